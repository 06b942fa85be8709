/-
Plain laws of sums: bytes put behind part by part come to what they come to at once.
-/
import Derived.Test.YtpigkgnmegpddaaDoorSa
namespace Go.Proofs.YtpigkgnmegpddaaDoor.Sh
set_option linter.unusedVariables false
set_option linter.unusedSimpArgs false

def Byt (l : List Int) : Prop := ∀ x ∈ l, 0 ≤ x ∧ x ≤ 255
theorem Byt.append {a b : List Int} (h : Byt a) (k : Byt b) : Byt (a ++ b) := fun x hx => (List.mem_append.1 hx).elim (h x) (k x)
theorem Byt.left {a b : List Int} (h : Byt (a ++ b)) : Byt a := fun x hx => h x (List.mem_append_left _ hx)
theorem Byt.right {a b : List Int} (h : Byt (a ++ b)) : Byt b := fun x hx => h x (List.mem_append_right _ hx)
theorem Byt.take {l : List Int} (h : Byt l) (k : Nat) : Byt (l.take k) := fun x hx => h x (List.mem_of_mem_take hx)
theorem Byt.drop {l : List Int} (h : Byt l) (k : Nat) : Byt (l.drop k) := fun x hx => h x (List.mem_of_mem_drop hx)
theorem Byt.nil : Byt [] := fun x hx => by cases hx
theorem Byt.cons {x : Int} {l : List Int} (h0 : 0 ≤ x) (h1 : x ≤ 255) (h : Byt l) : Byt (x :: l) := fun y hy => by
  rcases List.mem_cons.1 hy with rfl | hy
  · exact ⟨h0, h1⟩
  · exact h y hy
theorem Byt.replicate (n : Nat) : Byt (List.replicate n 0) := fun x hx => by
  have := List.eq_of_mem_replicate hx
  omega
theorem Byt.getD {l : List Int} (h : Byt l) (i : Nat) : 0 ≤ l.getD i 0 ∧ l.getD i 0 ≤ 255 := by
  rw [List.getD_eq_getElem?_getD]
  rcases Nat.lt_or_ge i l.length with hi | hi
  · rw [List.getElem?_eq_getElem hi]
    exact h _ (List.getElem_mem _)
  · rw [List.getElem?_eq_none hi]
    simp
theorem Byt.set {l : List Int} (h : Byt l) (i : Nat) {x : Int} (h0 : 0 ≤ x) (h1 : x ≤ 255) : Byt (l.set i x) := fun y hy => by
  rcases List.mem_or_eq_of_mem_set hy with hy | rfl
  · exact h y hy
  · exact ⟨h0, h1⟩

theorem chain_zero (s : S8) (l : List Int) : chain 0 s l = s := rfl
theorem chain_add (n m : Nat) (s : S8) (l : List Int) : chain (n + m) s l = chain m (chain n s l) (l.drop (64 * n)) := by
  induction n generalizing s l with
  | zero => rw [Nat.zero_add, Nat.mul_zero, List.drop_zero, chain_zero]
  | succ n ih =>
    rw [show n + 1 + m = (n + m) + 1 from by omega]
    show chain (n + m) (step s (l.take 64)) (l.drop 64) = _
    rw [ih, List.drop_drop]
    show _ = chain m (chain n (step s (l.take 64)) (l.drop 64)) (l.drop (64 * (n + 1)))
    rw [show 64 + 64 * n = 64 * (n + 1) from by omega]
theorem chain_succ (n : Nat) (s : S8) (l : List Int) : chain (n + 1) s l = step (chain n s l) ((l.drop (64 * n)).take 64) := by
  rw [chain_add]
  rfl
theorem chain_left (n : Nat) (s : S8) (l r : List Int) (h : 64 * n ≤ l.length) : chain n s (l ++ r) = chain n s l := by
  induction n generalizing s l with
  | zero => rfl
  | succ n ih =>
    show chain n (step s ((l ++ r).take 64)) ((l ++ r).drop 64) = chain n (step s (l.take 64)) (l.drop 64)
    rw [List.take_append_of_le_length (by omega), List.drop_append_of_le_length (by omega)]
    exact ih _ _ (by rw [List.length_drop]; omega)

/-- A hash: its words, the bytes that wait, how many came. -/
structure Hv where
  s : S8
  r : List Int
  m : Nat
def Hv.new : Hv := ⟨first, [], 0⟩
def Hv.put (h : Hv) (p : List Int) : Hv := ⟨chain ((h.r ++ p).length / 64) h.s (h.r ++ p), (h.r ++ p).drop (64 * ((h.r ++ p).length / 64)), h.m + p.length⟩
/-- What is put behind to end. -/
def Hv.tail (h : Hv) : List Int := 128 :: (List.replicate (noughts h.r.length) 0 ++ len8 (8 * h.m))
def Hv.sum (h : Hv) : List Int := (h.put h.tail).s.bytes
theorem Hv.put_rest (h : Hv) (p : List Int) : (h.put p).r.length < 64 := by
  show ((h.r ++ p).drop (64 * ((h.r ++ p).length / 64))).length < 64
  rw [List.length_drop]
  omega
theorem Hv.put_put (h : Hv) (p q : List Int) : (h.put p).put q = h.put (p ++ q) := by
  obtain ⟨s, r, m⟩ := h
  obtain ⟨t, ht⟩ : ∃ t, t = r ++ p := ⟨_, rfl⟩
  obtain ⟨n, hn⟩ : ∃ n, n = t.length / 64 := ⟨_, rfl⟩
  have h1 : Hv.put ⟨s, r, m⟩ p = ⟨chain n s t, t.drop (64 * n), m + p.length⟩ := by rw [hn, ht]; rfl
  have h2 : Hv.put ⟨s, r, m⟩ (p ++ q) = ⟨chain ((t ++ q).length / 64) s (t ++ q), (t ++ q).drop (64 * ((t ++ q).length / 64)), m + (p.length + q.length)⟩ := by
    rw [ht, List.append_assoc, ← List.length_append]; rfl
  have hle : 64 * n ≤ t.length := by omega
  have h3 : (t ++ q).length / 64 = n + (t.drop (64 * n) ++ q).length / 64 := by
    rw [List.length_append, List.length_append, List.length_drop]
    omega
  rw [h1, h2, h3, chain_add, chain_left n s t q hle, Nat.mul_add, ← List.drop_drop, List.drop_append_of_le_length hle, ← Nat.add_assoc]
  rfl
theorem Hv.put_nil (h : Hv) (hr : h.r.length < 64) : h.put [] = h := by
  obtain ⟨s, r, m⟩ := h
  show Hv.mk _ _ _ = _
  simp only at hr
  rw [List.append_nil, Nat.div_eq_of_lt hr]
  rfl
/-- The hash of bytes. -/
def Hv.of (b : List Int) : Hv := Hv.new.put b
theorem Hv.new_eq : Hv.new = Hv.of [] := (Hv.put_nil _ (by decide)).symm
theorem Hv.of_put (b p : List Int) : (Hv.of b).put p = Hv.of (b ++ p) := Hv.put_put _ _ _
theorem Hv.of_rest (b : List Int) : (Hv.of b).r.length < 64 := Hv.put_rest _ _
theorem Hv.of_r (b : List Int) : (Hv.of b).r = b.drop (64 * (b.length / 64)) := rfl
theorem Hv.of_m (b : List Int) : (Hv.of b).m = b.length := Nat.zero_add _
theorem Hv.puts (b : List Int) (ps : List (List Int)) : ps.foldl Hv.put (Hv.of b) = Hv.of (b ++ ps.flatten) := by
  induction ps generalizing b with
  | nil => simp
  | cons p ps ih =>
    rw [List.foldl_cons, Hv.of_put, ih, List.flatten_cons, List.append_assoc]
theorem noughts_mod (n : Nat) : noughts (n % 64) = noughts n := by simp only [noughts, Nat.mod_mod]
theorem Hv.of_tail (b : List Int) : (Hv.of b).tail = pad b.length := by
  unfold Hv.tail pad
  rw [Hv.of_m, Hv.of_r, List.length_drop, show b.length - 64 * (b.length / 64) = b.length % 64 from by omega, noughts_mod]
theorem Hv.of_sum (b : List Int) : (Hv.of b).sum = Go.Proofs.YtpigkgnmegpddaaDoor.Sh.sum b := by
  have h1 : ∀ c : List Int, (Hv.of c).s = chain (c.length / 64) first c := fun c => rfl
  unfold Hv.sum
  rw [Hv.of_tail, Hv.of_put, h1, List.length_append]
  unfold Go.Proofs.YtpigkgnmegpddaaDoor.Sh.sum
  rfl
theorem be_byt (x : Wd) : Byt (be x) := by
  intro y hy
  have := x.isLt
  simp only [be, List.mem_cons, List.not_mem_nil, or_false] at hy
  rcases hy with rfl | rfl | rfl | rfl <;> omega
theorem bytes_byt (s : S8) : Byt s.bytes := by
  unfold S8.bytes
  exact (((((((be_byt _).append (be_byt _)).append (be_byt _)).append (be_byt _)).append (be_byt _)).append (be_byt _)).append (be_byt _)).append (be_byt _)
theorem sum_byt (b : List Int) : Byt (sum b) := bytes_byt _
theorem len8_byt (n : Nat) : Byt (len8 n) := by
  intro y hy
  simp only [len8, List.mem_cons, List.not_mem_nil, or_false] at hy
  rcases hy with rfl | rfl | rfl | rfl | rfl | rfl | rfl | rfl <;> omega
theorem pad_byt (n : Nat) : Byt (pad n) := Byt.cons (by omega) (by omega) ((Byt.replicate _).append (len8_byt _))
/-- A word's byte, as Go takes it. -/
theorem byte_at (s : S8) (i : Nat) (h : i < 32) : s.bytes.getD i 0 = (((s.list.getD (i / 4) 0).toNat / 2 ^ (24 - 8 * (i % 4)) % 256 : Nat) : Int) := by
  have hx : ∀ x : Wd, x.toNat / 2 ^ 24 % 256 = x.toNat / 2 ^ 24 := fun x => by have := x.isLt; omega
  obtain ⟨a, b, c, d, e, f, g, k⟩ := s
  have : ∀ n : Nat, n < 32 → n = 0 ∨ n = 1 ∨ n = 2 ∨ n = 3 ∨ n = 4 ∨ n = 5 ∨ n = 6 ∨ n = 7 ∨ n = 8 ∨ n = 9 ∨ n = 10 ∨ n = 11 ∨ n = 12 ∨ n = 13 ∨ n = 14 ∨ n = 15 ∨ n = 16 ∨ n = 17 ∨ n = 18 ∨ n = 19 ∨ n = 20 ∨ n = 21 ∨ n = 22 ∨ n = 23 ∨ n = 24 ∨ n = 25 ∨ n = 26 ∨ n = 27 ∨ n = 28 ∨ n = 29 ∨ n = 30 ∨ n = 31 := by omega
  rcases this i h with rfl | rfl | rfl | rfl | rfl | rfl | rfl | rfl | rfl | rfl | rfl | rfl | rfl | rfl | rfl | rfl | rfl | rfl | rfl | rfl | rfl | rfl | rfl | rfl | rfl | rfl | rfl | rfl | rfl | rfl | rfl | rfl <;>
    first | rfl | (simp only [S8.bytes, S8.list, be]; exact congrArg Int.ofNat (hx _).symm) | (simp [S8.bytes, S8.list, be]; done)
/-- The abc of the chapter's example. -/
theorem sum_abc : (sum [97, 98, 99]).take 4 = [186, 120, 22, 191] := by decide +kernel
end Go.Proofs.YtpigkgnmegpddaaDoor.Sh
