/-
What the chapter's examples say: awake answers true.
-/
import Derived.Test.YtgblihndkhiddaaFd
namespace Go.Proofs.Ytgblihndkhiddaa.Fr
set_option linter.unusedVariables false
set_option linter.unusedSimpArgs false
open Go.RowKit Go.Proofs.YtgblihndkhiddaaW.PrintWords Go.Proofs.YtgblihndkhiddaaW.PrintLast Go.Proofs.YtgblihndkhiddaaW.PrintMore Go.Proofs.Ytgblihndkhiddaa.PFrameFeeds

/-- A block's cells, read as a row. -/
theorem C_of_block {α : Type} {d : Kd α} (hd : d.sz = 1) {W : World} {g : Nat} {cs : Array Value} {t : TypeId} {fr : Nat × Nat} (hb : W.heap[g]? = some (.cells cs t fr)) (xs : List α) (hl : xs.length ≤ 9223372036854775807)
    (h : ∀ (j : Nat) p, xs[j]? = some p → ∃ u, cs[j]? = some u ∧ d.K W p [u]) : d.C W (some ⟨g, 0, none⟩) xs.length xs := by
  refine ⟨rfl, hl, fun _ => ⟨_, rfl, fun j p hj => ?_⟩⟩
  obtain ⟨u, hu, hK⟩ := h j p hj
  refine ⟨[u], by rw [hd]; rfl, hK, fun i u' hu' => ?_⟩
  match i, hu' with
  | 0, hu' =>
    simp only [List.getElem?_cons_zero, Option.some.injEq] at hu'
    subst hu'
    rw [hd, Nat.mul_one, Nat.add_zero, add_plain]
    simp [World.cell?, hb, hu]
theorem C_of_bytes {W : World} {g : Nat} {cs : Array Value} {t : TypeId} {fr : Nat × Nat} (hb : W.heap[g]? = some (.cells cs t fr)) (xs : List Int) (hl : xs.length ≤ 9223372036854775807)
    (h : cs.toList = xs.map (Value.int .u8)) : (Kd.int .u8).C W (some ⟨g, 0, none⟩) xs.length xs := by
  refine C_of_block rfl hb xs hl fun j p hj => ⟨.int .u8 p, ?_, rfl⟩
  rw [← Array.getElem?_toList, h, List.getElem?_map, hj]
  rfl
theorem feed_any {base g n c : Nat} {v : Value} {bs ys : List Int} {A : Option Addr} (w : World) (h : Rd w base g v bs false) (HR : (Kd.int .u8).C w A n ys) (hby : Byt (bs ++ ys)) (hl : bs.length + ys.length ≤ 1000000000) :
    Calls Try.prog 32 #[.pointer (some ⟨g, 0, none⟩), .slice A n c] w fun e w' => ∃ vo v', e = .returned (.tuple #[vo, .int .i64 (if (frames (bs ++ ys)).2.2 = true then 6 else 0)]) ∧
      Rd w' base g v' (frames (bs ++ ys)).2.1 (frames (bs ++ ys)).2.2 ∧
      (Kd.slice 5 (Kd.int .u8)).R 32 w' w.heap.size (fun k => ¬ Fv g v' k) vo (frames (bs ++ ys)).1 ∧ Mv w v v' ∧ Below base w w' ∧ Kept w w' (Fv g v) := by
  have := feed_live (c := c) w h HR hby hl
  rw [← List.length_append] at this
  exact this

set_option maxHeartbeats 1000000 in
theorem awake_any (w : World) : Calls Try.prog 29 #[] w fun e w' => e = .returned (.bool true) ∧ Below w.heap.size w w' := by
  go_enter Try.func29, Try.ntmps29
  go_wp2_with fail
  obtain ⟨W3, hW3⟩ : ∃ W3, W3 = ((w.alloc (.cells #[.int .u8 7, .int .u8 8] 5)).alloc (.cells #[.int .u8 9] 5)).alloc (.cells #[.slice (some ⟨w.heap.size, 0, none⟩) 2 2, .slice (some ⟨w.heap.size + 1, 0, none⟩) 1 1] 32) := ⟨_, rfl⟩
  have HC3 : Aside0 ((Kd.slice 5 (Kd.int .u8)).C W3 (some ⟨w.heap.size + 1 + 1, 0, none⟩) 2 [[7, 8], [9]]) := by
    constructor
    have h1 : W3.heap[w.heap.size]? = some (.cells #[.int .u8 7, .int .u8 8] 5 (0, 0)) := by
      rw [hW3]
      exact blk_alloc (blk_alloc (heap_alloc_new w _) _) _
    have h2 : W3.heap[w.heap.size + 1]? = some (.cells #[.int .u8 9] 5 (0, 0)) := by
      rw [hW3]
      refine blk_alloc ?_ _
      simpa using heap_alloc_new (w.alloc (.cells #[.int .u8 7, .int .u8 8] 5)) (.cells #[.int .u8 9] 5)
    have h3 : W3.heap[w.heap.size + 1 + 1]? = some (.cells #[.slice (some ⟨w.heap.size, 0, none⟩) 2 2, .slice (some ⟨w.heap.size + 1, 0, none⟩) 1 1] 32 (0, 0)) := by
      rw [hW3]
      simpa using heap_alloc_new ((w.alloc (.cells #[.int .u8 7, .int .u8 8] 5)).alloc (.cells #[.int .u8 9] 5)) (.cells #[.slice (some ⟨w.heap.size, 0, none⟩) 2 2, .slice (some ⟨w.heap.size + 1, 0, none⟩) 1 1] 32)
    refine C_of_block rfl h3 [[7, 8], [9]] (by simp) fun j p hj => ?_
    match j, hj with
    | 0, hj =>
      simp only [List.getElem?_cons_zero, Option.some.injEq] at hj
      subst hj
      exact ⟨_, rfl, _, _, rfl, by simp, C_of_bytes h1 [7, 8] (by simp) rfl⟩
    | 1, hj =>
      simp only [List.getElem?_cons_succ, List.getElem?_cons_zero, Option.some.injEq] at hj
      subst hj
      exact ⟨_, rfl, _, _, rfl, by simp, C_of_bytes h2 [9] (by simp) rfl⟩
  have HB3 : Aside0 (Below w.heap.size w W3) := ⟨by rw [hW3]; exact below_alloc (below_alloc (below_alloc (Below.refl _ _) _) _) _⟩
  rw [← hW3]
  clear hW3
  refine (wrap_any _ HC3.out (by omega) (by simp)).mono ?_
  rintro e w4 ⟨v, rfl, hv, hb⟩
  have hok : wrapOk [[7, 8], [9]] = true := by decide
  have hL : wrapL [[7, 8], [9]] = [0, 2, 7, 8, 0, 1, 9] := by decide
  rw [if_pos hok, hL] at hv
  rw [if_pos hok]
  have HB4 := Aside0.mk (below_step HB3.out hb)
  obtain ⟨Av, cv, rfl, hlv, hCv⟩ := Kd.R_reads hv
  have HV := Aside0.mk hCv
  clear hok hL hv hb hlv hCv HC3 HB3
  go_wp2_with fail
  refine (new_any _).mono ?_
  rintro e w5 ⟨rfl, rfl⟩
  go_wp2_with fail
  obtain ⟨W6, hW6⟩ : ∃ W6, W6 = (w4.alloc (.cells #[.slice none 0 0, .bool false] 77)).alloc (.cells #[.int .u8 0, .int .u8 1, .int .u8 5, .int .u8 0, .int .u8 0] 5) := ⟨_, rfl⟩
  have hle := HB4.out.size
  have HR6 : Aside0 (Rd W6 w4.heap.size w4.heap.size (.slice none 0 0) [] false) := ⟨by rw [hW6]; exact (Rd.new w4 _ (Nat.le_refl _)).below (below_alloc (Below.refl _ _) _)⟩
  have HC6 : Aside0 ((Kd.int .u8).C W6 (some ⟨w4.heap.size + 1, 0, none⟩) 5 [0, 1, 5, 0, 0]) := by
    constructor
    have h1 : W6.heap[w4.heap.size + 1]? = some (.cells #[.int .u8 0, .int .u8 1, .int .u8 5, .int .u8 0, .int .u8 0] 5 (0, 0)) := by
      rw [hW6]
      simpa using heap_alloc_new (w4.alloc (.cells #[.slice none 0 0, .bool false] 77)) (.cells #[.int .u8 0, .int .u8 1, .int .u8 5, .int .u8 0, .int .u8 0] 5)
    exact C_of_bytes h1 [0, 1, 5, 0, 0] (by simp) rfl
  have HB46 : Aside0 (Below w4.heap.size w4 W6) := ⟨by rw [hW6]; exact below_alloc (below_alloc (Below.refl _ _) _) _⟩
  rw [← hW6]
  clear hW6
  refine (feed_any _ HR6.out HC6.out (by intro x hx; simp at hx; omega) (by simp)).mono ?_
  rintro e w7 ⟨vo, v', rfl, hr, ho, hm, hb, hk⟩
  have hfr : frames ([] ++ [0, 1, 5, 0, 0]) = ([[5]], [], true) := by decide
  rw [hfr] at ho
  rw [hfr, if_pos rfl]
  obtain ⟨Ao, co, rfl, hlo, hCo⟩ := Kd.R_reads ho
  have HB7 := Aside0.mk (below_step HB4.out (HB46.out.trans hb))
  have hC7 : (Kd.int .u8).C w7 Av 7 [0, 2, 7, 8, 0, 1, 9] := Kd.C_below HV.out (HB46.out.trans hb)
  obtain ⟨o7, ho7⟩ : ∃ o7, o7 = Obj.cells #[.int .u8 0, .int .u8 2, .int .u8 7, .int .u8 8, .int .u8 0, .int .u8 1, .int .u8 9] 5 (0, 0) := ⟨_, rfl⟩
  have hC8 : (Kd.int .u8).C (w7.alloc o7) (some ⟨w7.heap.size, 0, none⟩) 7 [0, 2, 7, 8, 0, 1, 9] := by
    rw [ho7]
    exact C_of_bytes (heap_alloc_new w7 _) [0, 2, 7, 8, 0, 1, 9] (by simp) rfl
  obtain ⟨ad, A5, c5, rfl, hx5, hl5, hC5⟩ := at_L1 (Kd.C_alloc hCo o7) 0 (by omega) (by simp)
  replace hx5 : (w7.alloc o7).cell? ad = some (.slice A5 1 c5) := hx5
  have hv1 : (convert 32 9 (.slice Av 7 cv)).run Try.prog w7 = .ok (.string ⟨#[0, 2, 7, 8, 0, 1, 9]⟩) w7 := Kd.C_string Try.underlying32 Try.underlying5 Try.underlying9 hC7
  have hv2 : (convert 32 9 (.slice (some ⟨w7.heap.size, 0, none⟩) 7 7)).run Try.prog (w7.alloc o7) = .ok (.string ⟨#[0, 2, 7, 8, 0, 1, 9]⟩) (w7.alloc o7) := Kd.C_string Try.underlying32 Try.underlying5 Try.underlying9 hC8
  have hv3 : (convert 32 9 (.slice A5 1 c5)).run Try.prog (w7.alloc o7) = .ok (.string ⟨#[5]⟩) (w7.alloc o7) := Kd.C_string Try.underlying32 Try.underlying5 Try.underlying9 (xs := [5]) hC5
  rw [ho7] at hx5 hv2 hv3
  clear ho7 hC7 hC8 hC5 hl5
  clear hfr hr ho hm hb hk hlo hCo HR6 HC6 HB46 HV
  go_wp2_with fail
  go_ret
  exact ⟨rfl, below_alloc HB7.out _⟩
end Go.Proofs.Ytgblihndkhiddaa.Fr
