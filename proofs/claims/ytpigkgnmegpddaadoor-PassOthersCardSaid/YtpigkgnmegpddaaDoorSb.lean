/-
The words' small functions: RotateLeft32, turned, right, words.
-/
import Derived.Test.YtpigkgnmegpddaaDoorSa
import Derived.Test.YtpigkgnmegpddaaDoorProg
import Derived.Test.YtpigkgnmegpddaaDoorWWords
import Derived.Test.YtpigkgnmegpddaaDoorWLast
import Derived.Test.YtpigkgnmegpddaaDoorWKept
import Derived.Test.YtpigkgnmegpddaaDoorWMore
import Derived.IntWalk
import Derived.Deep.QuietTactic
import Derived.BigQuiet
import Derived.Deep.RegionHeld3
import Derived.Deep.RegionWith
namespace Go.Proofs.YtpigkgnmegpddaaDoor.Sh
set_option linter.unusedVariables false
set_option linter.unusedSimpArgs false
open Go.RowKit Go.Proofs.YtpigkgnmegpddaaDoorW.PrintWords Go.Proofs.YtpigkgnmegpddaaDoorW.PrintLast Go.Proofs.YtpigkgnmegpddaaDoorW.PrintMore

section
variable {P : Program} {ops : Array Oper} {rest : List Oper} {o : Oper} {a : Act} {Q : Exit → Act → World → Prop} {W : World}
theorem setRow_kept {g : Nat} (W : World) (cs : Array Value) : Kept W (W.setRow g cs) (fun k => k = g) ∧ Below g W (W.setRow g cs) := by
  have h1 : ∀ k, k ≠ g → (W.setRow g cs).heap[k]? = W.heap[k]? := fun k hk => by
    simp [World.setRow, Array.getElem?_modify, Ne.symm hk]
  have h2 : W.heap.size ≤ (W.setRow g cs).heap.size := by simp [World.setRow]
  exact ⟨⟨h2, fun k _ hn => h1 k hn⟩, ⟨rfl, rfl, rfl, h2, fun k hk => h1 k (Nat.ne_of_lt hk)⟩⟩
/-- A whole array, or struct, stored into its block. -/
theorem store_row (hgd : o.guard = none) {ty : TypeId} {p : Tmp} {v : Operand} (ho : o.op = .store ty (.tmp p) v) (hN : o.dst = none) {g : Nat} {t : TypeId} {old cells : Array Value}
    (hx : a.eval (.tmp p) = .pointer (some ⟨g, 0, none⟩)) (hy : a.eval v = .agg cells) (hg : W.heap[g]? = some (.cells old t (0, 0))) (hi : (P.info? ty).map (·.size) = some cells.size) (hold : old.size = cells.size) (h1 : cells.all (·.oneCell') = true)
    (h : ∀ w', w'.heap[g]? = some (.cells cells t (0, 0)) → Kept W w' (fun k => k = g) → Below g W w' → wpList P ops Q rest a w') : wpList P ops Q (o :: rest) a W := by
  refine wpList_plain hgd fun K hK => ?_
  refine wp_store_row ty (.tmp p) v ho g cells hx hy t old hg hi hold h1 ?_
  rw [hN]
  exact hK _ _ (h _ (setRow_heap W g old cells t (0, 0) hg) (setRow_kept W cells).1 (setRow_kept W cells).2)
end
theorem shl_mod (x : Wd) (k : Nat) : num x * 2 ^ k % 4294967296 = num (x <<< k) := by
  rw [← shl_num]
  have h : ∀ n : Nat, ((n : Int) : Int) % 4294967296 = IntKind.u32.wrap (n : Int) := fun n => by rw [wrap_nat]; omega
  have h2 : num x * 2 ^ k = ((x.toNat * 2 ^ k : Nat) : Int) := by unfold num; simp
  have h3 : num x * ((2 ^ k : Nat) : Int) = ((x.toNat * 2 ^ k : Nat) : Int) := by unfold num; simp
  rw [h2, h3, h]
theorem shr_div (x : Wd) (k : Nat) : num x / 2 ^ k = num (x >>> k) := by
  rw [← shr_num]
  simp
theorem rot_amount : ∀ r : Fin 32, 1 ≤ r.1 → Go.bits .and .u64 (IntKind.u64.wrap (-(r.1 : Int))) 31 = ((32 - r.1 : Nat) : Int) := by decide +kernel
theorem rotate_any (x : Wd) (r : Nat) (h1 : 1 ≤ r) (h2 : r ≤ 31) (w : World) :
    Calls Tryd.prog 61 #[.int .u32 (num x), .int .i64 (-(r : Int))] w fun e w' => e = .returned (.int .u32 (num (rotr x r))) ∧ w = w' := by
  have hr := rot_amount ⟨r, by omega⟩ h1
  simp only at hr
  go_enter Tryd.func61, Tryd.ntmps61
  go_wp2_with fail
  go_ret
  refine ⟨?_, rfl⟩
  show Ending.returned (.int .u32 (Go.bits .or .u32 (num x * 2 ^ (32 - r) % 4294967296) (num x / 2 ^ (32 - (32 - r))))) = _
  rw [shl_mod, shr_div, bits_or, show 32 - (32 - r) = r from by omega, or_comm']
  rfl
theorem right_any (x : Wd) (r : Nat) (h1 : 1 ≤ r) (h2 : r ≤ 31) (w : World) :
    Calls Tryd.prog 52 #[.int .u32 (num x), .int .u64 r] w fun e w' => e = .returned (.int .u32 (num (rotr x r))) ∧ w = w' := by
  go_enter Tryd.func52, Tryd.ntmps52
  go_wp2_with fail
  go_ret
  refine ⟨?_, rfl⟩
  show Ending.returned (.int .u32 (Go.bits .or .u32 (num x / 2 ^ r) (num x * 2 ^ (32 - r) % 4294967296))) = _
  rw [shl_mod, shr_div, bits_or]
  rfl
def xors (x : Wd) (ks : List Nat) : Wd := ks.foldl (fun o k => o ^^^ rotr x k) 0
theorem C_cell {k : IntKind} {w : World} {A : Option Addr} {n : Nat} {xs : List Int} (h : (Kd.int k).C w A n xs) {ad : Addr} (hA : A = some ad) (j : Nat) (hj : j < n) : w.cell? (ad.add j) = some (.int k (xs.getD j 0)) := by
  obtain ⟨ad', c, he, hcl, hk, hc⟩ := Kd.C_get h 0 (j : Int) (by omega) (by omega)
  rw [hA] at he
  injection he with he
  subst he
  have hk' : c = [.int k (xs.getD j 0)] := by simpa [Kd.int, Kd.scalar] using hk
  subst hk'
  have := hc 0 _ rfl
  simpa [Kd.int, Kd.scalar] using this
theorem C_some {α : Type} {d : Kd α} {w : World} {A : Option Addr} {n : Nat} {xs : List α} (h : d.C w A n xs) (hn : 0 < n) : ∃ ad, A = some ad := by
  obtain ⟨ad, he, _⟩ := h.2.2 hn
  exact ⟨ad, he⟩
set_option maxHeartbeats 1000000 in
theorem turned_any (x : Wd) (ks : List Nat) (hks : ∀ k ∈ ks, 1 ≤ k ∧ k ≤ 31) {A : Option Addr} {n c : Nat} (w : World) (HR : (Kd.int .i64).C w A n (ks.map (fun k : Nat => (k : Int)))) :
    Calls Tryd.prog 51 #[.int .u32 (num x), .slice A n c] w fun e w' => e = .returned (.int .u32 (num (xors x ks))) ∧ w = w' := by
  have hn : ks.length = n := by have := HR.1; simpa using this
  have hnm := HR.2.1
  have H := Aside0.mk HR
  have Hn := Aside0.mk hn
  clear HR hn
  go_enter Tryd.func51, Tryd.ntmps51
  go_wp2_with fail
  go_loopg [5, 10] n (fun gk ov iv wr => ∃ k : Nat, k + gk = n ∧ iv = .int .i64 k ∧ ov = .int .u32 (num (xors x (ks.take k))) ∧ w = wr)
  case atStart => exact ⟨0, by omega, rfl, rfl, rfl⟩
  case round =>
    obtain ⟨k, hk, rfl, rfl, rfl⟩ := hrel
    by_cases hlt : k < n
    · obtain ⟨g1, rfl⟩ : ∃ g1, gk = g1 + 1 := ⟨gk - 1, by omega⟩
      have p1 : 0 ≤ (k : Int) := by omega
      have p2 : (k : Int) < n := by omega
      have hlt2 : k < ks.length := by rw [Hn.out]; exact hlt
      obtain ⟨ad, rfl⟩ := C_some H.out (by omega)
      have hx := C_cell H.out rfl k hlt
      have hg : (ks.map (fun k : Nat => (k : Int))).getD k 0 = (ks[k] : Int) := by
        rw [List.getD_eq_getElem?_getD, List.getElem?_map, List.getElem?_eq_getElem hlt2]
        rfl
      rw [hg] at hx
      have hr := hks ks[k] (List.getElem_mem _)
      have Hx : Aside0 (num (xors x (ks.take (k + 1))) = num (xors x (ks.take k) ^^^ rotr x ks[k])) := ⟨by
        rw [List.take_succ_eq_append_getElem hlt2]
        unfold xors
        rw [List.foldl_append]
        rfl⟩
      obtain ⟨r, hr'⟩ : ∃ r, r = ks[k] := ⟨_, rfl⟩
      rw [← hr'] at hx hr Hx
      obtain ⟨o, ho⟩ : ∃ o, o = xors x (ks.take k) := ⟨_, rfl⟩
      rw [← ho] at Hx ⊢
      clear hg hr' ho
      go_wp2_with fail
      refine (rotate_any x r hr.1 hr.2 _).mono ?_
      rintro e w' ⟨rfl, rfl⟩
      go_wp2_with fail
      rw [bits_xor]
      go_roundg g1
      case measure => omega
      case rel => exact ⟨k + 1, by omega, by go_num, by rw [Hx.out], rfl⟩
    · have hkn : k = n := by omega
      subst hkn
      have Hx : Aside0 (ks.take k = ks) := ⟨List.take_of_length_le (by rw [Hn.out]; exact Nat.le_refl _)⟩
      rw [Hx.out]
      go_wp2_with fail
      go_ret
      exact ⟨rfl, rfl⟩
end Go.Proofs.YtpigkgnmegpddaaDoor.Sh
