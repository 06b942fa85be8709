/-
Contracts of Wrap, Frames, short, Same (of rows that are alike) and New, in the plain functions' words.
-/
import Derived.Test.YtgblihndkhiddaaFc
namespace Go.Proofs.Ytgblihndkhiddaa.Fr
set_option linter.unusedVariables false
set_option linter.unusedSimpArgs false
open Go.RowKit Go.Proofs.YtgblihndkhiddaaW.PrintWords Go.Proofs.YtgblihndkhiddaaW.PrintLast Go.Proofs.YtgblihndkhiddaaW.PrintMore Go.Proofs.Ytgblihndkhiddaa.PFrameFeeds

theorem wrap_any {n c : Nat} {A : Option Addr} {ls : List (List Int)} (w : World) (HR : (Kd.slice 5 (Kd.int .u8)).C w A n ls) (hc : n ≤ c) (hm : ls.length ≤ 1000000) :
    Calls Try.prog 27 #[.slice A n c] w fun e w' => ∃ v, e = .returned (.tuple #[v, .int .i64 (if wrapOk ls = true then 0 else 6)]) ∧ (Kd.int .u8).R 5 w' w.heap.size (fun _ => True) v (if wrapOk ls = true then wrapL ls else []) ∧ Below w.heap.size w w' := by
  obtain rfl := HR.1
  have hf := wrap_f ls hm
  by_cases h : wrapOk ls = true
  · rw [if_pos h] at hf
    rw [if_pos h, if_pos h]
    exact frame_Wrap.calls _ A c ls _ _ w HR hc hf
  · rw [if_neg h] at hf
    rw [if_neg h, if_neg h]
    exact frame_Wrap.calls _ A c ls _ _ w HR hc hf
theorem frames_any {n c : Nat} {A : Option Addr} {b : List Int} (w : World) (HR : (Kd.int .u8).C w A n b) (hc : n ≤ c) (hby : Byt b) (hm : b.length ≤ 1000000000) :
    Calls Try.prog 34 #[.slice A n c] w fun e w' => ∃ A' c', e = .returned (.tuple #[.slice A' (frames b).1.length c', .int .i64 ((frames b).2.1.length : Int), .bool (frames b).2.2]) ∧ (Kd.slice 5 (Kd.int .u8)).C w' A' (frames b).1.length (frames b).1 ∧ (frames b).1.length ≤ c' ∧ Below w.heap.size w w' := by
  obtain rfl := HR.1
  refine (tiltyardref05_Frames.calls _ A c b _ _ _ w HR hc (ref_frames_f b hby hm)).mono ?_
  rintro e w' ⟨v, rfl, hs, hb⟩
  obtain ⟨A', c', rfl, hl, hC⟩ := Kd.S_reads hs
  exact ⟨A', c', rfl, hC, hl, hb⟩
theorem short_any {n c : Nat} {A : Option Addr} {ls : List (List Int)} (w : World) (HR : (Kd.slice 5 (Kd.int .u8)).C w A n ls) (hc : n ≤ c) :
    Calls Try.prog 26 #[.slice A n c] w fun e w' => e = .returned (.bool (shortL ls)) ∧ ∃ m, w' = w.drewN m := by
  obtain rfl := HR.1
  refine (tiltyardlaw05_short.calls _ A c ls _ w HR hc (short_f ls HR.2.1)).mono ?_
  rintro e w' ⟨rfl, hd⟩
  exact ⟨rfl, hd.out⟩

set_option maxHeartbeats 400000 in
theorem same_true {n n' c c' : Nat} {A A' : Option Addr} {ls : List (List Int)} (w : World) (HR : (Kd.slice 5 (Kd.int .u8)).C w A n ls) (HR' : (Kd.slice 5 (Kd.int .u8)).C w A' n' ls) (hm : ls.length ≤ 1000000000000) :
    Calls Try.prog 35 #[.slice A n c, .slice A' n' c'] w fun e w' => e = .returned (.bool true) ∧ ∃ m, w' = w.drewN m := by
  obtain rfl := HR.1
  obtain rfl := HR'.1
  have H1 := Aside0.mk HR
  have H2 := Aside0.mk HR'
  clear HR HR'
  go_enter Try.func35, Try.ntmps35
  go_wp2
  go_loopg [5] ls.length (fun gk i wr => ∃ k : Nat, k + gk = ls.length ∧ i = .int .i64 k ∧ Aside0 (∃ m, wr = w.drewN m))
  case atStart => exact ⟨0, by omega, rfl, ⟨0, rfl⟩⟩
  case round =>
    obtain ⟨k, hk, rfl, HD⟩ := hrel
    obtain ⟨m, hm⟩ := HD.out
    subst hm
    clear HD
    by_cases hlt : k < ls.length
    · obtain ⟨ad1, A1, c1, rfl, hx1, hl1, hC1⟩ := at_L1 H1.out (k : Int) (by omega) (by omega)
      obtain ⟨ad2, A2, c2, rfl, hx2, hl2, hC2⟩ := at_L1 H2.out (k : Int) (by omega) (by omega)
      rw [Int.toNat_natCast] at hx1 hx2
      obtain ⟨l, hl⟩ : ∃ l, l = rd_L1 ls (k : Int) := ⟨_, rfl⟩
      rw [← hl] at hx1 hx2 hC1 hC2
      clear hl hl1 hl2
      have hv1 : ∀ nq, (convert 32 9 (.slice A1 l.length c1)).run Try.prog (w.drewN nq) = .ok (.string (strOfNums l)) (w.drewN nq) := fun nq => Kd.C_string Try.underlying32 Try.underlying5 Try.underlying9 (Kd.C_drewN hC1 nq)
      have hv2 : ∀ nq, (convert 32 9 (.slice A2 l.length c2)).run Try.prog (w.drewN nq) = .ok (.string (strOfNums l)) (w.drewN nq) := fun nq => Kd.C_string Try.underlying32 Try.underlying5 Try.underlying9 (Kd.C_drewN hC2 nq)
      clear hC1 hC2
      obtain ⟨g1, rfl⟩ : ∃ g1, gk = g1 + 1 := ⟨gk - 1, by omega⟩
      have p1 : 0 ≤ (k : Int) := by omega
      have p2 : (k : Int) < ls.length := by omega
      go_wp2
      go_quiet (fail)
      go_wp2
      go_roundg g1
      case measure => omega
      case rel => exact ⟨k + 1, by omega, by go_num, ⟨_, rfl⟩⟩
    · go_wp2
      go_ret
      exact ⟨rfl, _, rfl⟩

theorem new_any (w : World) : Calls Try.prog 30 #[] w fun e w' => e = .returned (.pointer (some ⟨w.heap.size, 0, none⟩)) ∧ w.alloc (.cells #[.slice none 0 0, .bool false] 77) = w' := by
  go_enter Try.func30, Try.ntmps30
  go_wp2
  go_ret
  exact ⟨rfl, rfl⟩
theorem Rd.new (w : World) (base : Nat) (hb : base ≤ w.heap.size) : Rd (w.alloc (.cells #[.slice none 0 0, .bool false] 77)) base w.heap.size (.slice none 0 0) [] false :=
  ⟨by simpa using heap_alloc_new w _, Kd.R_nil _ _ _ _ _, hb⟩
theorem Fv_nil {g k : Nat} (h : Fv g (.slice none 0 0) k) : k = g := by
  rcases h with h | h
  · exact h
  · simp [Value.ownBlock] at h
end Go.Proofs.Ytgblihndkhiddaa.Fr
