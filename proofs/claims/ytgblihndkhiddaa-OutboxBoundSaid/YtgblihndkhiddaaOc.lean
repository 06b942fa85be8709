/-
What the chapter's example says of a flow: awake answers true.
-/
import Derived.Test.YtgblihndkhiddaaOb
import Derived.Deep.RegionWith
import Derived.Deep.RegionHeld3
namespace Go.Proofs.Ytgblihndkhiddaa.Ou
set_option linter.unusedVariables false
set_option linter.unusedSimpArgs false
open Go.RowKit Go.Proofs.YtgblihndkhiddaaW.PrintWords Go.Proofs.YtgblihndkhiddaaW.PrintLast Go.Proofs.YtgblihndkhiddaaW.PrintMore Go.Proofs.Ytgblihndkhiddaa.POutboxRuns

/-- One frame, written out. -/
theorem one_row (w : World) (cs : Array Value) (xs : List Int) (n : Nat) (hn : n = xs.length) (hl : n ≤ 1000) (h : cs.toList = xs.map (Value.int .u8)) :
    (Kd.slice 5 (Kd.int .u8)).C ((w.alloc (.cells cs 5)).alloc (.cells #[.slice (some ⟨w.heap.size, 0, none⟩) n n] 32)) (some ⟨w.heap.size + 1, 0, none⟩) 1 [xs] := by
  subst hn
  have h1 : ((w.alloc (.cells cs 5)).alloc (.cells #[.slice (some ⟨w.heap.size, 0, none⟩) xs.length xs.length] 32)).heap[w.heap.size]? = some (.cells cs 5 (0, 0)) := blk_alloc (heap_alloc_new w _) _
  have h2 : ((w.alloc (.cells cs 5)).alloc (.cells #[.slice (some ⟨w.heap.size, 0, none⟩) xs.length xs.length] 32)).heap[w.heap.size + 1]? = some (.cells #[.slice (some ⟨w.heap.size, 0, none⟩) xs.length xs.length] 32 (0, 0)) := by
    simpa using heap_alloc_new (w.alloc (.cells cs 5)) (.cells #[.slice (some ⟨w.heap.size, 0, none⟩) xs.length xs.length] 32)
  refine Fr.C_of_block rfl h2 [xs] (by simp) fun j p hj => ?_
  match j, hj with
  | 0, hj =>
    simp only [List.getElem?_cons_zero, Option.some.injEq] at hj
    subst hj
    exact ⟨_, rfl, _, _, rfl, Nat.le_refl _, Fr.C_of_bytes h1 xs (by omega) h⟩

set_option maxHeartbeats 1000000 in
theorem awake_any (w : World) : Calls Try.prog 25 #[] w fun e w' => e = .returned (.bool true) ∧ Below w.heap.size w w' := by
  go_enter Try.func25, Try.ntmps25
  go_wp2_with fail
  refine (new_any 10 1 _).mono ?_
  rintro e w1 ⟨g, rfl, hF, hg, hb⟩
  have HF : Aside0 (Fl w1 g 0 10 0 1) := ⟨hF⟩
  have HB := Aside0.mk hb
  clear hF hb
  go_wp2_with fail
  have HC2 := Aside0.mk (one_row w1 #[.int .u8 1, .int .u8 2, .int .u8 3] [1, 2, 3] 3 rfl (by omega) rfl)
  have HB12 : Aside0 (Below w1.heap.size w1 ((w1.alloc (.cells #[.int .u8 1, .int .u8 2, .int .u8 3] 5)).alloc (.cells #[.slice (some ⟨w1.heap.size, 0, none⟩) 3 3] 32))) := ⟨below_alloc (below_alloc (Below.refl _ _) _) _⟩
  refine (send_any (w0 := w) (out := [0, 3, 1, 2, 3]) (er := 0) (f' := 5) _ (HF.out.below HB12.out) hg (HB.out.trans (HB12.out.mono HB.out.size)) HC2.out (Nat.le_refl _) (by simp) (by omega) (by omega) (by omega) (by decide)).mono ?_
  rintro e w3 ⟨A3, c3, rfl, hC3, hF3, hB3, _⟩
  have HC3 := Aside0.mk hC3
  have HF3 := Aside0.mk hF3
  have HB3 := Aside0.mk hB3
  clear hC3 hF3 hB3 HC2 HB12 HF HB
  go_wp2_with fail
  have HC4 := Aside0.mk (one_row w3 #[.int .u8 4, .int .u8 5, .int .u8 6, .int .u8 7] [4, 5, 6, 7] 4 rfl (by omega) rfl)
  have HB34 : Aside0 (Below w3.heap.size w3 ((w3.alloc (.cells #[.int .u8 4, .int .u8 5, .int .u8 6, .int .u8 7] 5)).alloc (.cells #[.slice (some ⟨w3.heap.size, 0, none⟩) 4 4] 32))) := ⟨below_alloc (below_alloc (Below.refl _ _) _) _⟩
  have HK5 := Aside0.mk (Kd.R_below HC3.out HB34.out)
  refine (send_any (w0 := w) (out := []) (er := 10) (f' := 5) _ (HF3.out.below HB34.out) hg (HB3.out.trans (HB34.out.mono HB3.out.size)) HC4.out (Nat.le_refl _) (by simp) (by omega) (by omega) (by omega) (by decide)).mono ?_
  rintro e w5 ⟨A5, c5, rfl, _, hF5, hB5, hk5⟩
  have HC5 := Aside0.mk (Kd.R_kept HK5.out hk5 (fun k hk => hk))
  have HF5 := Aside0.mk hF5
  have HB5 := Aside0.mk hB5
  clear hk5 hF5 hB5 HC4 HB34 HF3 HB3 HC3 HK5
  go_wp2_with fail
  refine (gone_fl (x := 2) (z := 3) _ HF5.out hg HB5.out (by omega) (by omega) (by decide)).mono ?_
  rintro e w6 ⟨rfl, hF6, hB6, hk6⟩
  have HF6 := Aside0.mk hF6
  have HC6 := Aside0.mk (Kd.R_kept HC5.out hk6 (fun k hk => hk))
  have HB6 := Aside0.mk hB6
  clear hF6 hB6 hk6 HF5 HC5 HB5
  go_wp2_with fail
  go_region_with ((first | (go_at_call 19; refine (ask_fl (w0 := w) (f2 := 1) (f3 := 1) _ HF7.out hg HB7.out (by omega) (by omega) (by omega)).mono ?_; rintro e w8 ⟨rfl, hF8, hB8, hk8⟩; have HF8 := Aside0.mk hF8; have HB8 := Aside0.mk hB8; have HC8 := Aside0.mk (Kd.R_kept HC7.out hk8 (fun k hk => hk)); clear hF8 hB8 hk8 HF7 HB7 HC7) | (go_at_call 19; refine (ask_fl (w0 := w) (f2 := 0) (f3 := 1) _ (HF6.out.drewN 1) hg (below_drew HB6.out) (by omega) (by omega) (by omega)).mono ?_; rintro e w7 ⟨rfl, hF7, hB7, hk7⟩; have HF7 := Aside0.mk hF7; have HB7 := Aside0.mk hB7; have HC7 := Aside0.mk (Kd.R_kept (Kd.R_drew HC6.out) hk7 (fun k hk => hk)); clear hF7 hB7 hk7 HF6 HB6 HC6)))
  go_wp2_with fail
  refine (tick_fl (w0 := w) _ HF8.out hg HB8.out).mono ?_
  rintro e w9 ⟨rfl, hF9, hB9, hk9⟩
  have HF9 := Aside0.mk hF9
  have HC9 := Aside0.mk (Kd.R_kept HC8.out hk9 (fun k hk => hk))
  have HB9 := Aside0.mk hB9
  clear hF9 hB9 hk9 HF8 HC8 HB8
  obtain ⟨o7, ho7⟩ : ∃ o7, o7 = Obj.cells #[.int .u8 0, .int .u8 3, .int .u8 1, .int .u8 2, .int .u8 3] 5 (0, 0) := ⟨_, rfl⟩
  have hC8 : (Kd.int .u8).C (w9.alloc o7) (some ⟨w9.heap.size, 0, none⟩) 5 [0, 3, 1, 2, 3] := by
    rw [ho7]
    exact Fr.C_of_bytes (heap_alloc_new w9 _) [0, 3, 1, 2, 3] (by simp) rfl
  have hv1 : (convert 32 9 (.slice A3 5 c3)).run Try.prog w9 = .ok (.string ⟨#[0, 3, 1, 2, 3]⟩) w9 := Kd.C_string Try.underlying32 Try.underlying5 Try.underlying9 (R_C HC9.out)
  have hv2 : (convert 32 9 (.slice (some ⟨w9.heap.size, 0, none⟩) 5 5)).run Try.prog (w9.alloc o7) = .ok (.string ⟨#[0, 3, 1, 2, 3]⟩) (w9.alloc o7) := Kd.C_string Try.underlying32 Try.underlying5 Try.underlying9 hC8
  rw [ho7] at hv2
  have HF10 : Aside0 (Fl (w9.alloc (.cells #[.int .u8 0, .int .u8 3, .int .u8 1, .int .u8 2, .int .u8 3] 5)) g 3 10 0 1) := ⟨HF9.out.below (below_alloc (Below.refl _ _) _)⟩
  have HB10 : Aside0 (Below w.heap.size w (w9.alloc (.cells #[.int .u8 0, .int .u8 3, .int .u8 1, .int .u8 2, .int .u8 3] 5))) := ⟨below_alloc HB9.out _⟩
  clear ho7 hC8 HF9 HB9
  go_wp2_with fail
  refine (ask_fl (w0 := w) (f2 := 0) (f3 := 1) _ HF10.out hg HB10.out (by omega) (by omega) (by omega)).mono ?_
  rintro e w11 ⟨rfl, hF11, hB11, hk11⟩
  have HB11 := Aside0.mk hB11
  clear hF11 hB11 hk11
  go_wp2_with fail
  go_ret
  exact ⟨rfl, HB11.out⟩
end Go.Proofs.Ytgblihndkhiddaa.Ou
