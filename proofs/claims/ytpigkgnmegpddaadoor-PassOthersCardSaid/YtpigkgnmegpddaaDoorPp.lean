/-
Plain laws of tickets and tokens.
-/
import Derived.Test.YtpigkgnmegpddaaDoorMp
namespace Go.Proofs.YtpigkgnmegpddaaDoor.Sh
set_option linter.unusedVariables false
set_option linter.unusedSimpArgs false

/-- A number's bytes, the highest first. -/
def bex (n : Nat) : Nat → List Int
  | 0 => []
  | k + 1 => ((n / 256 ^ k % 256 : Nat) : Int) :: bex n k
theorem bex_length (n k : Nat) : (bex n k).length = k := by
  induction k with
  | zero => rfl
  | succ k ih => rw [bex, List.length_cons, ih]
theorem bex_byt (n k : Nat) : Byt (bex n k) := by
  induction k with
  | zero => exact Byt.nil
  | succ k ih => exact Byt.cons (by omega) (by omega) ih
theorem bex_getD (n k i : Nat) (h : i < k) : (bex n k).getD i 0 = ((n / 256 ^ (k - 1 - i) % 256 : Nat) : Int) := by
  induction k generalizing i with
  | zero => omega
  | succ k ih =>
    rw [bex]
    match i with
    | 0 => rfl
    | i + 1 =>
      rw [List.getD_cons_succ, ih i (by omega), show k + 1 - 1 - (i + 1) = k - 1 - i from by omega]
theorem bex_mod (n k : Nat) : bex (n % 256 ^ k) k = bex n k := by
  have h : ∀ j, j ≤ k → bex (n % 256 ^ k) j = bex n j := by
    intro j
    induction j with
    | zero => intro _; rfl
    | succ j ih =>
      intro hj
      rw [bex, bex, ih (by omega)]
      congr 2
      obtain ⟨d, rfl⟩ : ∃ d, k = j + (d + 1) := ⟨k - j - 1, by omega⟩
      rw [Nat.pow_add, Nat.mod_mul_right_div_self, Nat.pow_succ, Nat.mul_comm (256 ^ d), Nat.mod_mul_right_mod]
  exact h k (Nat.le_refl _)
/-- What bytes come to. -/
def numb (l : List Int) : Nat := l.foldl (fun n c => n * 256 + c.toNat) 0
theorem numb_from (l : List Int) (n : Nat) : l.foldl (fun n c => n * 256 + c.toNat) n = n * 256 ^ l.length + numb l := by
  induction l generalizing n with
  | nil => simp [numb]
  | cons x l ih =>
    unfold numb
    rw [List.foldl_cons, List.foldl_cons, ih, ih (0 * 256 + x.toNat), List.length_cons, Nat.pow_succ, Nat.zero_mul, Nat.zero_add, Nat.add_mul, Nat.mul_assoc, Nat.mul_comm 256, Nat.add_assoc]
theorem numb_snoc (l : List Int) (x : Int) : numb (l ++ [x]) = numb l * 256 + x.toNat := by
  unfold numb
  rw [List.foldl_append]
  rfl
theorem numb_cons (x : Int) (l : List Int) : numb (x :: l) = x.toNat * 256 ^ l.length + numb l := by
  show l.foldl _ (0 * 256 + x.toNat) = _
  rw [numb_from, Nat.zero_mul, Nat.zero_add]
theorem numb_lt {l : List Int} (h : Byt l) : numb l < 256 ^ l.length := by
  induction l with
  | nil => simp [numb]
  | cons x l ih =>
    have h1 := ih fun y hy => h y (List.mem_cons_of_mem _ hy)
    have h2 := h x (List.mem_cons_self ..)
    rw [numb_cons, List.length_cons, Nat.pow_succ]
    have h3 : x.toNat ≤ 255 := by omega
    have h4 : x.toNat * 256 ^ l.length ≤ 255 * 256 ^ l.length := Nat.mul_le_mul_right _ h3
    omega
theorem numb_bex (n k : Nat) : numb (bex n k) = n % 256 ^ k := by
  induction k with
  | zero => simp [bex, numb, Nat.mod_one]
  | succ k ih =>
    rw [bex, numb_cons, bex_length, ih, Int.toNat_natCast, Nat.pow_succ, Nat.mod_mul, Nat.mul_comm (256 ^ k), Nat.add_comm]
theorem bex_numb {l : List Int} (h : Byt l) : bex (numb l) l.length = l := by
  induction l with
  | nil => rfl
  | cons x l ih =>
    have hl : Byt l := fun y hy => h y (List.mem_cons_of_mem _ hy)
    have h2 := h x (List.mem_cons_self ..)
    have h3 := numb_lt hl
    have hp : 0 < 256 ^ l.length := Nat.pow_pos (by omega)
    rw [List.length_cons, bex, numb_cons]
    congr 1
    · rw [Nat.mul_comm, Nat.mul_add_div hp, Nat.div_eq_of_lt h3]
      omega
    · have h4 : bex (x.toNat * 256 ^ l.length + numb l) l.length = bex (numb l) l.length := by
        rw [← bex_mod, Nat.mul_comm, Nat.mul_add_mod, Nat.mod_eq_of_lt h3]
      rw [h4, ih hl]
theorem bex_inj {n m k : Nat} (hn : n < 256 ^ k) (hm : m < 256 ^ k) (h : bex n k = bex m k) : n = m := by
  have h1 := congrArg numb h
  rwa [numb_bex, numb_bex, Nat.mod_eq_of_lt hn, Nat.mod_eq_of_lt hm] at h1
theorem append_inj4 {a b c d : List Int} (h : a ++ b = c ++ d) (hl : a.length = c.length) : a = c ∧ b = d := List.append_inj h hl

/-- A whole number of 64 bits with a sign, as one without. -/
def un (e : Int) : Nat := (e % 18446744073709551616).toNat
/-- And back. -/
def sg (n : Nat) : Int := if n < 9223372036854775808 then n else (n : Int) - 18446744073709551616
theorem un_lt (e : Int) : un e < 256 ^ 8 := by
  unfold un
  omega
theorem sg_un {e : Int} (h : -9223372036854775808 ≤ e ∧ e ≤ 9223372036854775807) : sg (un e) = e := by
  unfold sg un
  split <;> omega
theorem un_sg {n : Nat} (h : n < 256 ^ 8) : un (sg n) = n := by
  unfold sg un
  split <;> omega
theorem sg_range {n : Nat} (h : n < 256 ^ 8) : -9223372036854775808 ≤ sg n ∧ sg n ≤ 9223372036854775807 := by
  unfold sg
  split <;> omega
structure Tk where
  p : Nat
  e : Int
  n : Nat
  deriving DecidableEq
structure Tn where
  p : Nat
  m : Nat
  i : Nat
  s : Nat
  e : Int
  n : Nat
  deriving DecidableEq
def Tk.ok (t : Tk) : Prop := t.p < 4294967296 ∧ (-9223372036854775808 ≤ t.e ∧ t.e ≤ 9223372036854775807) ∧ t.n < 18446744073709551616
def Tn.ok (t : Tn) : Prop := t.p < 4294967296 ∧ t.m < 4294967296 ∧ t.i < 65536 ∧ t.s < 256 ∧ (-9223372036854775808 ≤ t.e ∧ t.e ≤ 9223372036854775807) ∧ t.n < 18446744073709551616
/-- What is signed. -/
def Tk.front (t : Tk) : List Int := [116] ++ bex t.p 4 ++ bex (un t.e) 8 ++ bex t.n 8
def Tn.front (t : Tn) : List Int := [106] ++ bex t.p 4 ++ bex t.m 4 ++ bex t.i 2 ++ bex t.s 1 ++ bex (un t.e) 8 ++ bex t.n 8
theorem Tk.front_length (t : Tk) : t.front.length = 21 := by simp [Tk.front, bex_length]
theorem Tn.front_length (t : Tn) : t.front.length = 28 := by simp [Tn.front, bex_length]
theorem Tk.front_byt (t : Tk) : Byt t.front := (((Byt.cons (by omega) (by omega) Byt.nil).append (bex_byt _ _)).append (bex_byt _ _)).append (bex_byt _ _)
theorem Tn.front_byt (t : Tn) : Byt t.front := ((((((Byt.cons (by omega) (by omega) Byt.nil).append (bex_byt _ _)).append (bex_byt _ _)).append (bex_byt _ _)).append (bex_byt _ _)).append (bex_byt _ _)).append (bex_byt _ _)
/-- A ticket's numbers, out of what is signed. -/
def Tk.of (b : List Int) : Tk := ⟨numb ((b.drop 1).take 4), sg (numb ((b.drop 5).take 8)), numb ((b.drop 13).take 8)⟩
def Tn.of (b : List Int) : Tn := ⟨numb ((b.drop 1).take 4), numb ((b.drop 5).take 4), numb ((b.drop 9).take 2), numb ((b.drop 11).take 1), sg (numb ((b.drop 12).take 8)), numb ((b.drop 20).take 8)⟩
def Tk.zero : Tk := ⟨0, 0, 0⟩
def Tn.zero : Tn := ⟨0, 0, 0, 0, 0, 0⟩
theorem cut_at (l : List Int) (a : Nat) (k : Nat) (h : a + k ≤ l.length) : ((l.drop a).take k).length = k := by
  rw [List.length_take, List.length_drop]
  omega
theorem Tk.of_ok {b : List Int} (hb : Byt b) (hl : 21 ≤ b.length) : (Tk.of b).ok := by
  have h1 := numb_lt ((hb.drop 1).take 4)
  have h2 := numb_lt ((hb.drop 5).take 8)
  have h3 := numb_lt ((hb.drop 13).take 8)
  rw [cut_at _ _ _ (by omega)] at h1 h2 h3
  exact ⟨h1, sg_range h2, h3⟩
theorem Tn.of_ok {b : List Int} (hb : Byt b) (hl : 28 ≤ b.length) : (Tn.of b).ok := by
  have h1 := numb_lt ((hb.drop 1).take 4)
  have h2 := numb_lt ((hb.drop 5).take 4)
  have h3 := numb_lt ((hb.drop 9).take 2)
  have h4 := numb_lt ((hb.drop 11).take 1)
  have h5 := numb_lt ((hb.drop 12).take 8)
  have h6 := numb_lt ((hb.drop 20).take 8)
  rw [cut_at _ _ _ (by omega)] at h1 h2 h3 h4 h5 h6
  exact ⟨h1, h2, h3, h4, sg_range h5, h6⟩
theorem cut_step (l : List Int) (a k : Nat) : (l.drop a) = (l.drop a).take k ++ l.drop (a + k) := by
  rw [← List.drop_drop, List.take_append_drop]
theorem Tk.front_of {b : List Int} (hb : Byt b) (hl : b.length = 21) (h0 : b.getD 0 0 = 116) : (Tk.of b).front = b := by
  have h2 := numb_lt ((hb.drop 5).take 8)
  have g1 := bex_numb ((hb.drop 1).take 4)
  have g2 := bex_numb ((hb.drop 5).take 8)
  have g3 := bex_numb ((hb.drop 13).take 8)
  rw [cut_at _ _ _ (by omega)] at h2 g1 g2 g3
  unfold Tk.front Tk.of
  simp only
  rw [un_sg h2, g1, g2, g3]
  have e0 : b = [116] ++ b.drop 1 := by
    match b, hl, h0 with
    | x :: r, _, h0 =>
      have : x = 116 := h0
      rw [this]; rfl
  have e1 := cut_step b 1 4
  have e2 := cut_step b 5 8
  have e3 : b.drop 13 = (b.drop 13).take 8 := (List.take_of_length_le (by rw [List.length_drop]; omega)).symm
  rw [List.append_assoc, List.append_assoc, ← e3, show (13 : Nat) = 5 + 8 from rfl, ← e2, show (5 : Nat) = 1 + 4 from rfl, ← e1, ← e0]
theorem Tn.front_of {b : List Int} (hb : Byt b) (hl : b.length = 28) (h0 : b.getD 0 0 = 106) : (Tn.of b).front = b := by
  have h2 := numb_lt ((hb.drop 12).take 8)
  have g1 := bex_numb ((hb.drop 1).take 4)
  have g2 := bex_numb ((hb.drop 5).take 4)
  have g3 := bex_numb ((hb.drop 9).take 2)
  have g4 := bex_numb ((hb.drop 11).take 1)
  have g5 := bex_numb ((hb.drop 12).take 8)
  have g6 := bex_numb ((hb.drop 20).take 8)
  rw [cut_at _ _ _ (by omega)] at h2 g1 g2 g3 g4 g5 g6
  unfold Tn.front Tn.of
  simp only
  rw [un_sg h2, g1, g2, g3, g4, g5, g6]
  have e0 : b = [106] ++ b.drop 1 := by
    match b, hl, h0 with
    | x :: r, _, h0 =>
      have : x = 106 := h0
      rw [this]; rfl
  have e1 := cut_step b 1 4
  have e2 := cut_step b 5 4
  have e3 := cut_step b 9 2
  have e4 := cut_step b 11 1
  have e5 := cut_step b 12 8
  have e6 : b.drop 20 = (b.drop 20).take 8 := (List.take_of_length_le (by rw [List.length_drop]; omega)).symm
  rw [List.append_assoc, List.append_assoc, List.append_assoc, List.append_assoc, List.append_assoc, ← e6, show (20 : Nat) = 12 + 8 from rfl, ← e5, show (12 : Nat) = 11 + 1 from rfl, ← e4, show (11 : Nat) = 9 + 2 from rfl, ← e3, show (9 : Nat) = 5 + 4 from rfl, ← e2, show (5 : Nat) = 1 + 4 from rfl, ← e1, ← e0]
theorem bex4 {n : Nat} (h : n < 4294967296) : numb (bex n 4) = n := by rw [numb_bex]; exact Nat.mod_eq_of_lt h
theorem bex2 {n : Nat} (h : n < 65536) : numb (bex n 2) = n := by rw [numb_bex]; exact Nat.mod_eq_of_lt h
theorem bex1 {n : Nat} (h : n < 256) : numb (bex n 1) = n := by rw [numb_bex]; exact Nat.mod_eq_of_lt h
theorem bex8 {n : Nat} (h : n < 18446744073709551616) : numb (bex n 8) = n := by rw [numb_bex]; exact Nat.mod_eq_of_lt h
theorem cut_first (a b : List Int) (k : Nat) (h : a.length = k) : (a ++ b).take k = a ∧ (a ++ b).drop k = b := by
  subst h
  exact ⟨List.take_left' rfl, List.drop_left' rfl⟩
theorem Tk.of_front {t : Tk} (h : t.ok) (r : List Int) : Tk.of (t.front ++ r) = t := by
  obtain ⟨p, e, n⟩ := t
  obtain ⟨h1, h2, h3⟩ := h
  simp only at h1 h2 h3
  have e1 : (Tk.front ⟨p, e, n⟩ ++ r).drop 1 = bex p 4 ++ (bex (un e) 8 ++ (bex n 8 ++ r)) := by simp [Tk.front, List.append_assoc]
  have e2 : (Tk.front ⟨p, e, n⟩ ++ r).drop 5 = bex (un e) 8 ++ (bex n 8 ++ r) := by
    rw [show (5 : Nat) = 1 + 4 from rfl, ← List.drop_drop, e1, (cut_first _ _ 4 (bex_length _ _)).2]
  have e3 : (Tk.front ⟨p, e, n⟩ ++ r).drop 13 = bex n 8 ++ r := by
    rw [show (13 : Nat) = 5 + 8 from rfl, ← List.drop_drop, e2, (cut_first _ _ 8 (bex_length _ _)).2]
  unfold Tk.of
  rw [e1, e2, e3, (cut_first _ _ 4 (bex_length _ _)).1, (cut_first _ _ 8 (bex_length _ _)).1, (cut_first _ _ 8 (bex_length _ _)).1, bex4 h1, bex8 (un_lt e), bex8 h3, sg_un h2]
theorem Tn.of_front {t : Tn} (h : t.ok) (r : List Int) : Tn.of (t.front ++ r) = t := by
  obtain ⟨p, m, i, s, e, n⟩ := t
  obtain ⟨h1, h2, h3, h4, h5, h6⟩ := h
  simp only at h1 h2 h3 h4 h5 h6
  obtain ⟨x, hx⟩ : ∃ x, x = Tn.front ⟨p, m, i, s, e, n⟩ ++ r := ⟨_, rfl⟩
  have e1 : x.drop 1 = bex p 4 ++ (bex m 4 ++ (bex i 2 ++ (bex s 1 ++ (bex (un e) 8 ++ (bex n 8 ++ r))))) := by rw [hx]; simp [Tn.front, List.append_assoc]
  have e2 : x.drop 5 = bex m 4 ++ (bex i 2 ++ (bex s 1 ++ (bex (un e) 8 ++ (bex n 8 ++ r)))) := by
    rw [show (5 : Nat) = 1 + 4 from rfl, ← List.drop_drop, e1, (cut_first _ _ 4 (bex_length _ _)).2]
  have e3 : x.drop 9 = bex i 2 ++ (bex s 1 ++ (bex (un e) 8 ++ (bex n 8 ++ r))) := by
    rw [show (9 : Nat) = 5 + 4 from rfl, ← List.drop_drop, e2, (cut_first _ _ 4 (bex_length _ _)).2]
  have e4 : x.drop 11 = bex s 1 ++ (bex (un e) 8 ++ (bex n 8 ++ r)) := by
    rw [show (11 : Nat) = 9 + 2 from rfl, ← List.drop_drop, e3, (cut_first _ _ 2 (bex_length _ _)).2]
  have e5 : x.drop 12 = bex (un e) 8 ++ (bex n 8 ++ r) := by
    rw [show (12 : Nat) = 11 + 1 from rfl, ← List.drop_drop, e4, (cut_first _ _ 1 (bex_length _ _)).2]
  have e6 : x.drop 20 = bex n 8 ++ r := by
    rw [show (20 : Nat) = 12 + 8 from rfl, ← List.drop_drop, e5, (cut_first _ _ 8 (bex_length _ _)).2]
  unfold Tn.of
  rw [← hx, e1, e2, e3, e4, e5, e6, (cut_first _ _ 4 (bex_length _ _)).1, (cut_first _ _ 4 (bex_length _ _)).1, (cut_first _ _ 2 (bex_length _ _)).1, (cut_first _ _ 1 (bex_length _ _)).1, (cut_first _ _ 8 (bex_length _ _)).1, (cut_first _ _ 8 (bex_length _ _)).1, bex4 h1, bex4 h2, bex2 h3, bex1 h4, bex8 (un_lt e), bex8 h6, sg_un h5]
end Go.Proofs.YtpigkgnmegpddaaDoor.Sh
