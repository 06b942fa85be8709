/-
The methods of a flow: add, Gone, Ask, Tick, Flying, Asked.
-/
import Derived.Test.YtgblihndkhiddaaOr
import Derived.Test.YtgblihndkhiddaaFf
import Derived.IntWalk
import Derived.Deep.QuietTactic
import Derived.BigQuiet
import Derived.StillTailTactics
namespace Go.Proofs.Ytgblihndkhiddaa.Ou
set_option linter.unusedVariables false
set_option linter.unusedSimpArgs false
open Go.RowKit Go.Proofs.YtgblihndkhiddaaW.PrintWords Go.Proofs.YtgblihndkhiddaaW.PrintLast Go.Proofs.YtgblihndkhiddaaW.PrintMore Go.Proofs.Ytgblihndkhiddaa.POutboxRuns

theorem R_C {α : Type} {d : Kd α} {e : Nat} {W : World} {base : Nat} {ok : Nat → Prop} {A : Option Addr} {n c : Nat} {xs : List α} (h : d.R e W base ok (.slice A n c) xs) : d.C W A n xs := by
  obtain ⟨A', c', hv, hl, hC⟩ := Kd.R_reads h
  injection hv with h1 h2 h3
  rw [h1, h2]
  exact hC

set_option maxHeartbeats 400000 in
theorem add_yes {g o : Nat} {n most x : Int} (w : World) (hn : w.cell? ⟨g, o, none⟩ = some (.int .i64 n)) (hm : w.cell? ⟨g, o + 1, none⟩ = some (.int .i64 most)) (hf : w.frozen? ⟨g, o, none⟩ = false)
    (h0 : 0 ≤ n) (h1 : n ≤ most) (h2 : most ≤ 9223372036854775807) (hx0 : 0 ≤ x) (hx : x ≤ most - n) :
    Calls Try.prog 38 #[.pointer (some ⟨g, o, none⟩), .int .i64 x] w fun e w' => e = .returned (.bool true) ∧ ∃ m, (w.drewN m).setCell ⟨g, o, none⟩ (.int .i64 (n + x)) = w' := by
  have hd : decide (most - n < x) = false := by simp; omega
  have e1 : IntKind.i64.wrap (most - n) = most - n := IntWalk.i64_in _ (by omega)
  go_enter Try.func38, Try.ntmps38
  go_wp2_with fail
  go_quiet (fail)
  clear e1
  go_wp2_with fail
  go_ret
  exact ⟨rfl, _, rfl⟩
set_option maxHeartbeats 400000 in
theorem add_no {g o : Nat} {n most x : Int} (w : World) (hn : w.cell? ⟨g, o, none⟩ = some (.int .i64 n)) (hm : w.cell? ⟨g, o + 1, none⟩ = some (.int .i64 most)) (hf : w.frozen? ⟨g, o, none⟩ = false)
    (h0 : 0 ≤ n) (h1 : n ≤ most) (h2 : most ≤ 9223372036854775807) (hx : most - n < x) :
    Calls Try.prog 38 #[.pointer (some ⟨g, o, none⟩), .int .i64 x] w fun e w' => e = .returned (.bool false) ∧ ∃ m, w.drewN m = w' := by
  have hd : decide (most - n < x) = true := by simp; omega
  have e1 : IntKind.i64.wrap (most - n) = most - n := IntWalk.i64_in _ (by omega)
  go_enter Try.func38, Try.ntmps38
  go_wp2_with fail
  go_quiet (fail)
  clear e1
  go_wp2_with fail
  go_ret
  exact ⟨rfl, _, rfl⟩
theorem flying_any {g : Nat} {f0 f1 f2 f3 : Int} (w : World) (h : w.cell? ⟨g, 0, none⟩ = some (.int .i64 f0)) :
    Calls Try.prog 23 #[.pointer (some ⟨g, 0, none⟩)] w fun e w' => e = .returned (.int .i64 f0) ∧ w = w' := by
  go_enter Try.func23, Try.ntmps23
  go_wp2_with fail
  go_ret
  exact ⟨rfl, rfl⟩
theorem asked_any {g : Nat} {f0 f1 f2 f3 : Int} (w : World) (h : w.cell? ⟨g, 2, none⟩ = some (.int .i64 f2)) :
    Calls Try.prog 24 #[.pointer (some ⟨g, 2, none⟩)] w fun e w' => e = .returned (.int .i64 f2) ∧ w = w' := by
  go_enter Try.func24, Try.ntmps24
  go_wp2_with fail
  go_ret
  exact ⟨rfl, rfl⟩
theorem tick_any {g : Nat} {x : Value} (w : World) (h : w.cell? ⟨g, 2, none⟩ = some x) (hf : w.frozen? ⟨g, 2, none⟩ = false) :
    Calls Try.prog 21 #[.pointer (some ⟨g, 2, none⟩)] w fun e w' => e = .returned (.tuple #[]) ∧ w.setCell ⟨g, 2, none⟩ (.int .i64 0) = w' := by
  go_enter Try.func21, Try.ntmps21
  go_wp2_with fail
  go_end0
  exact ⟨rfl, rfl⟩

attribute [local go_sem] max2_int min2_int
set_option maxHeartbeats 1000000 in
theorem gone_any {g : Nat} {n x z : Int} (w : World) (hn : w.cell? ⟨g, 0, none⟩ = some (.int .i64 n)) (hf : w.frozen? ⟨g, 0, none⟩ = false)
    (h0 : 0 ≤ n) (h1 : n ≤ 9223372036854775807) (hx : z = (if x ≤ 0 then n else if x ≤ n then n - x else 0)) :
    Calls Try.prog 17 #[.pointer (some ⟨g, 0, none⟩), .int .i64 x] w fun e w' => e = .returned (.int .i64 z) ∧ ∃ m, (w.drewN m).setCell ⟨g, 0, none⟩ (.int .i64 z) = w' := by
  obtain ⟨y, hy⟩ : ∃ y, (if x < 0 then 0 else x) = y := ⟨_, rfl⟩
  obtain ⟨q, hq⟩ : ∃ q, (if n < y then n else y) = q := ⟨_, rfl⟩
  have hqz : n - q = z := by
    subst hx
    subst hq
    subst hy
    (repeat' split) <;> omega
  have hqr : 0 ≤ n - q ∧ n - q ≤ 9223372036854775807 := by
    rw [hqz, hx]
    (repeat' split) <;> omega
  have e1 : IntKind.i64.wrap (n - q) = z := by rw [← hqz]; exact IntWalk.i64_in _ (by omega)
  clear hqz hqr hx h0 h1
  go_enter Try.func17, Try.ntmps17
  go_wp2_with fail
  go_region
  all_goals go_wp2_with fail
  all_goals go_ret
  all_goals exact ⟨rfl, _, rfl⟩

theorem ask_yes {g : Nat} {n most : Int} (w : World) (hn : w.cell? ⟨g, 2, none⟩ = some (.int .i64 n)) (hm : w.cell? ⟨g, 3, none⟩ = some (.int .i64 most)) (hf : w.frozen? ⟨g, 2, none⟩ = false)
    (h0 : 0 ≤ n) (h1 : n < most) (h2 : most ≤ 9223372036854775807) :
    Calls Try.prog 19 #[.pointer (some ⟨g, 2, none⟩)] w fun e w' => e = .returned (.bool true) ∧ ∃ m, (w.drewN m).setCell ⟨g, 2, none⟩ (.int .i64 (n + 1)) = w' := by
  go_enter Try.func19, Try.ntmps19
  go_wp2_with fail
  refine (add_yes (x := 1) _ hn hm hf h0 (by omega) h2 (by omega) (by omega)).mono ?_
  rintro e w' ⟨rfl, m, rfl⟩
  go_wp2_with fail
  go_ret
  exact ⟨rfl, m, rfl⟩
theorem ask_no {g : Nat} {n most : Int} (w : World) (hn : w.cell? ⟨g, 2, none⟩ = some (.int .i64 n)) (hm : w.cell? ⟨g, 3, none⟩ = some (.int .i64 most)) (hf : w.frozen? ⟨g, 2, none⟩ = false)
    (h0 : 0 ≤ n) (h1 : n ≤ most) (h2 : most ≤ 9223372036854775807) (h3 : most ≤ n) :
    Calls Try.prog 19 #[.pointer (some ⟨g, 2, none⟩)] w fun e w' => e = .returned (.bool false) ∧ ∃ m, w.drewN m = w' := by
  go_enter Try.func19, Try.ntmps19
  go_wp2_with fail
  refine (add_no (x := 1) _ hn hm hf h0 h1 h2 (by omega)).mono ?_
  rintro e w' ⟨rfl, m, rfl⟩
  go_wp2_with fail
  go_ret
  exact ⟨rfl, m, rfl⟩

/-- A flow's block. -/
def Fl (W : World) (g : Nat) (f0 f1 f2 f3 : Int) : Prop := W.heap[g]? = some (.cells #[.int .i64 f0, .int .i64 f1, .int .i64 f2, .int .i64 f3] 45 (0, 0))
theorem Fl.below {W W' : World} {g : Nat} {f0 f1 f2 f3 : Int} (h : Fl W g f0 f1 f2 f3) (hb : Below W.heap.size W W') : Fl W' g f0 f1 f2 f3 := (hb.block g (blk_lt h)).trans h
theorem Fl.drewN {W : World} {g : Nat} {f0 f1 f2 f3 : Int} (h : Fl W g f0 f1 f2 f3) (m : Nat) : Fl (W.drewN m) g f0 f1 f2 f3 := h
theorem Fl.set0 {W : World} {g : Nat} {f0 f1 f2 f3 : Int} (h : Fl W g f0 f1 f2 f3) (x : Int) : Fl (W.setCell ⟨g, 0, none⟩ (.int .i64 x)) g x f1 f2 f3 := (blk_set h 0 _).trans rfl
theorem Fl.set2 {W : World} {g : Nat} {f0 f1 f2 f3 : Int} (h : Fl W g f0 f1 f2 f3) (x : Int) : Fl (W.setCell ⟨g, 2, none⟩ (.int .i64 x)) g f0 f1 x f3 := (blk_set h 2 _).trans rfl
theorem Fl.c0 {W : World} {g : Nat} {f0 f1 f2 f3 : Int} (h : Fl W g f0 f1 f2 f3) : W.cell? ⟨g, 0, none⟩ = some (.int .i64 f0) := (blk_cell h 0).trans rfl
theorem Fl.c1 {W : World} {g : Nat} {f0 f1 f2 f3 : Int} (h : Fl W g f0 f1 f2 f3) : W.cell? ⟨g, 1, none⟩ = some (.int .i64 f1) := (blk_cell h 1).trans rfl
theorem Fl.c2 {W : World} {g : Nat} {f0 f1 f2 f3 : Int} (h : Fl W g f0 f1 f2 f3) : W.cell? ⟨g, 2, none⟩ = some (.int .i64 f2) := (blk_cell h 2).trans rfl
theorem Fl.c3 {W : World} {g : Nat} {f0 f1 f2 f3 : Int} (h : Fl W g f0 f1 f2 f3) : W.cell? ⟨g, 3, none⟩ = some (.int .i64 f3) := (blk_cell h 3).trans rfl
theorem Fl.fz {W : World} {g : Nat} {f0 f1 f2 f3 : Int} (h : Fl W g f0 f1 f2 f3) (i : Nat) : W.frozen? ⟨g, i, none⟩ = false := blk_frozen h i

/-- What Send comes to: the bytes, the error's number, what is in flight then. -/
def sendP (most n : Int) (ls : List (List Int)) : List Int × Int × Int :=
  if Fr.wrapOk ls = true then if ((Fr.wrapL ls).length : Int) ≤ most - n then (Fr.wrapL ls, 0, n + ((Fr.wrapL ls).length : Int)) else ([], 10, n) else ([], 6, n)

set_option maxHeartbeats 1000000 in
theorem send_any {g n c : Nat} {w0 : World} {A : Option Addr} {ls : List (List Int)} {f0 f1 f2 f3 : Int} {out : List Int} {er f' : Int} (w : World) (h : Fl w g f0 f1 f2 f3) (hg : w0.heap.size ≤ g) (hB : Below w0.heap.size w0 w) (HR : (Kd.slice 5 (Kd.int .u8)).C w A n ls) (hc : n ≤ c) (hm : ls.length ≤ 1000000)
    (h0 : 0 ≤ f0) (h1 : f0 ≤ f1) (h2 : f1 ≤ 9223372036854775807) (hP : sendP f1 f0 ls = (out, er, f')) :
    Calls Try.prog 15 #[.pointer (some ⟨g, 0, none⟩), .slice A n c] w fun e w' => ∃ A' c', e = .returned (.tuple #[.slice A' out.length c', .int .i64 er]) ∧ (Kd.int .u8).R 5 w' w.heap.size (fun k => k ≠ g) (.slice A' out.length c') out ∧ Fl w' g f' f1 f2 f3 ∧ Below w0.heap.size w0 w' ∧ Kept w w' (fun k => k = g) := by
  have H := Aside0.mk h
  have HB := Aside0.mk hB
  have hlt := blk_lt h
  have Hlt := Aside0.mk hlt
  have HR' := Aside0.mk HR
  have HP := Aside0.mk hP
  clear h hB HR hP hlt
  go_enter Try.func15, Try.ntmps15
  go_wp2_with fail
  refine (Fr.wrap_any _ HR'.out hc hm).mono ?_
  rintro e w1 ⟨v, rfl, hv, hb⟩
  have hP := HP.out
  unfold sendP at hP
  by_cases hok : Fr.wrapOk ls = true
  · rw [if_pos hok] at hv hP
    rw [if_pos hok]
    obtain ⟨L, hL⟩ : ∃ L, L = Fr.wrapL ls := ⟨_, rfl⟩
    rw [← hL] at hv hP
    obtain ⟨A1, c1, rfl⟩ := Kd.R_slice hv
    obtain ⟨m1, hm1⟩ : ∃ m1, m1 = L.length := ⟨_, rfl⟩
    have HV := Aside0.mk hv
    have HB1 := Aside0.mk hb
    have H1 := Aside0.mk (H.out.below hb)
    have Hm1 := Aside0.mk hm1
    have hml : m1 ≤ 9223372036854775807 := by
      have := (R_C hv).2.1
      omega
    rw [← hm1] at hP ⊢
    by_cases hr : (m1 : Int) ≤ f1 - f0
    · rw [if_pos hr] at hP
      injection hP with e1 hP
      injection hP with e2 e3
      subst e1 e2 e3
      clear hok hL hv hb hm1
      go_wp2_with fail
      refine (add_yes (o := 0) _ H1.out.c0 H1.out.c1 (H1.out.fz 0) h0 h1 h2 (by omega) hr).mono ?_
      rintro e w' ⟨rfl, m, rfl⟩
      go_wp2_with fail
      go_ret2
      have hne : ∀ k, (True ∧ w.heap.size ≤ k ∧ k < (w1.drewN m).heap.size ∧ ∃ q, q ∈ 5 :: (Kd.int .u8).E ∧ ∃ cells, (w1.drewN m).heap[k]? = some (.cells cells q (0, 0))) → k ≠ g := fun k hk => by
        have := hk.2.1
        have := Hlt.out
        omega
      refine ⟨A1, c1, by rw [Hm1.out]; rfl, ?_, (H1.out.drewN m).set0 _, ?_, Kept.setCell (S := fun k => k = g) (p := ⟨g, 0, none⟩) (Kept.of_below (pw_below_drewN HB1.out m) _) (.inl rfl) _⟩
      · exact Kd.R_mono (Kd.R_far (p := ⟨g, 0, none⟩) (Kd.R_bound (Kd.R_drewN HV.out m)) hne (.int .i64 (f0 + m1))) hne
      · exact (pw_below_drewN (HB.out.trans (HB1.out.mono HB.out.size)) m).setCell hg _
    · rw [if_neg hr] at hP
      injection hP with e1 hP
      injection hP with e2 e3
      subst e1 e2 e3
      clear hok hL hv hb hm1
      go_wp2_with fail
      refine (add_no (o := 0) _ H1.out.c0 H1.out.c1 (H1.out.fz 0) h0 h1 h2 (by omega)).mono ?_
      rintro e w' ⟨rfl, m, rfl⟩
      go_wp2_with fail
      go_ret2
      exact ⟨none, 0, rfl, Kd.R_nil _ _ _ _ _, H1.out.drewN m, pw_below_drewN (HB.out.trans (HB1.out.mono HB.out.size)) m, Kept.of_below (pw_below_drewN HB1.out m) _⟩
  · rw [if_neg hok] at hv hP
    rw [if_neg hok]
    injection hP with e1 hP
    injection hP with e2 e3
    subst e1 e2 e3
    have HB1 := Aside0.mk hb
    clear hok hv hb
    go_wp2_with fail
    go_ret2
    exact ⟨none, 0, rfl, Kd.R_nil _ _ _ _ _, H.out.below HB1.out, HB.out.trans (HB1.out.mono HB.out.size), Kept.of_below HB1.out _⟩
/-- Ask, of a flow's block. -/
theorem ask_fl {g : Nat} {w0 : World} {f0 f1 f2 f3 : Int} (w : World) (h : Fl w g f0 f1 f2 f3) (hg : w0.heap.size ≤ g) (hB : Below w0.heap.size w0 w) (h0 : 0 ≤ f2) (h1 : f2 ≤ f3) (h2 : f3 ≤ 9223372036854775807) :
    Calls Try.prog 19 #[.pointer (some ⟨g, 2, none⟩)] w fun e w' => e = .returned (.bool (decide (f2 < f3))) ∧ Fl w' g f0 f1 (if f2 < f3 then f2 + 1 else f2) f3 ∧ Below w0.heap.size w0 w' ∧ Kept w w' (fun k => k = g) := by
  by_cases hlt : f2 < f3
  · rw [if_pos hlt, decide_eq_true hlt]
    refine (ask_yes w h.c2 h.c3 (h.fz 2) h0 hlt h2).mono ?_
    rintro e w' ⟨rfl, m, rfl⟩
    exact ⟨rfl, (h.drewN m).set2 _, (pw_below_drewN hB m).setCell hg _, Kept.setCell (S := fun k => k = g) (p := ⟨g, 2, none⟩) (Kept.of_below (pw_below_drewN (Below.refl _ _) m) _) (.inl rfl) _⟩
  · rw [if_neg hlt, decide_eq_false hlt]
    refine (ask_no w h.c2 h.c3 (h.fz 2) h0 h1 h2 (by omega)).mono ?_
    rintro e w' ⟨rfl, m, rfl⟩
    exact ⟨rfl, h.drewN m, pw_below_drewN hB m, Kept.of_below (pw_below_drewN (Below.refl _ _) m) _⟩
/-- Gone, of a flow's block. -/
theorem gone_fl {g : Nat} {w0 : World} {f0 f1 f2 f3 x z : Int} (w : World) (h : Fl w g f0 f1 f2 f3) (hg : w0.heap.size ≤ g) (hB : Below w0.heap.size w0 w) (h0 : 0 ≤ f0) (h1 : f0 ≤ 9223372036854775807) (hx : z = (if x ≤ 0 then f0 else if x ≤ f0 then f0 - x else 0)) :
    Calls Try.prog 17 #[.pointer (some ⟨g, 0, none⟩), .int .i64 x] w fun e w' => e = .returned (.int .i64 z) ∧ Fl w' g z f1 f2 f3 ∧ Below w0.heap.size w0 w' ∧ Kept w w' (fun k => k = g) := by
  refine (gone_any w h.c0 (h.fz 0) h0 h1 hx).mono ?_
  rintro e w' ⟨rfl, m, rfl⟩
  exact ⟨rfl, (h.drewN m).set0 _, (pw_below_drewN hB m).setCell hg _, Kept.setCell (S := fun k => k = g) (p := ⟨g, 0, none⟩) (Kept.of_below (pw_below_drewN (Below.refl _ _) m) _) (.inl rfl) _⟩
/-- Tick, of a flow's block. -/
theorem tick_fl {g : Nat} {w0 : World} {f0 f1 f2 f3 : Int} (w : World) (h : Fl w g f0 f1 f2 f3) (hg : w0.heap.size ≤ g) (hB : Below w0.heap.size w0 w) :
    Calls Try.prog 21 #[.pointer (some ⟨g, 2, none⟩)] w fun e w' => e = .returned (.tuple #[]) ∧ Fl w' g f0 f1 0 f3 ∧ Below w0.heap.size w0 w' ∧ Kept w w' (fun k => k = g) := by
  refine (tick_any w h.c2 (h.fz 2)).mono ?_
  rintro e w' ⟨rfl, rfl⟩
  exact ⟨rfl, h.set2 _, hB.setCell hg _, Kept.setCell (S := fun k => k = g) (p := ⟨g, 2, none⟩) (Kept.refl _ _) (.inl rfl) _⟩
end Go.Proofs.Ytgblihndkhiddaa.Ou
