/-
Plain laws of tags.
-/
import Derived.Test.YtpigkgnmegpddaaDoorSp
namespace Go.Proofs.YtpigkgnmegpddaaDoor.Sh
set_option linter.unusedVariables false
set_option linter.unusedSimpArgs false

/-- Two bytes, by exclusive or, as Go has it. -/
def xo (x y : Int) : Int := Go.bits .xor .u8 x y
theorem xo_nat (x y : Nat) (hx : x ≤ 255) (hy : y ≤ 255) : xo (x : Int) (y : Int) = ((x ^^^ y : Nat) : Int) := by
  unfold xo Go.bits
  have h8 : x ^^^ y < 2 ^ 8 := Nat.xor_lt_two_pow (by omega) (by omega)
  have h1 : (BitVec.ofInt 8 (x : Int) ^^^ BitVec.ofInt 8 (y : Int)).toNat = x ^^^ y := by
    rw [BitVec.toNat_xor, BitVec.ofInt_natCast, BitVec.ofInt_natCast, BitVec.toNat_ofNat, BitVec.toNat_ofNat, Nat.mod_eq_of_lt (by omega), Nat.mod_eq_of_lt (by omega)]
  show IntKind.u8.wrap (((BitVec.ofInt 8 (x : Int) ^^^ BitVec.ofInt 8 (y : Int)).toNat : Nat) : Int) = _
  rw [h1]
  simp only [IntKind.wrap, IntKind.signed, IntKind.bits, Bool.false_and, Bool.false_eq_true, if_false]
  omega
theorem xo_byt {x y : Int} (hx : 0 ≤ x ∧ x ≤ 255) (hy : 0 ≤ y ∧ y ≤ 255) : 0 ≤ xo x y ∧ xo x y ≤ 255 := by
  obtain ⟨a, rfl⟩ := Int.eq_ofNat_of_zero_le hx.1
  obtain ⟨b, rfl⟩ := Int.eq_ofNat_of_zero_le hy.1
  rw [xo_nat a b (by omega) (by omega)]
  have := Nat.xor_lt_two_pow (x := a) (y := b) (n := 8) (by omega) (by omega)
  omega
theorem xo_zero {x y : Int} (hx : 0 ≤ x ∧ x ≤ 255) (hy : 0 ≤ y ∧ y ≤ 255) : xo x y = 0 ↔ x = y := by
  obtain ⟨a, rfl⟩ := Int.eq_ofNat_of_zero_le hx.1
  obtain ⟨b, rfl⟩ := Int.eq_ofNat_of_zero_le hy.1
  rw [xo_nat a b (by omega) (by omega)]
  constructor
  · intro h
    have h1 : a ^^^ b = 0 := by omega
    have : a = b := by
      have h2 := congrArg (· ^^^ b) h1
      simpa [Nat.xor_assoc] using h2
    omega
  · intro h
    have : a = b := by omega
    subst this
    simp
theorem xo_ne {x y : Int} (hx : 0 ≤ x ∧ x ≤ 255) (hy : 0 ≤ y ∧ y ≤ 255) (h : y ≠ 0) : xo x y ≠ x := by
  obtain ⟨a, rfl⟩ := Int.eq_ofNat_of_zero_le hx.1
  obtain ⟨b, rfl⟩ := Int.eq_ofNat_of_zero_le hy.1
  rw [xo_nat a b (by omega) (by omega)]
  intro h1
  have h2 : a ^^^ b = a := by omega
  have h3 := congrArg (a ^^^ ·) h2
  simp only [← Nat.xor_assoc, Nat.xor_self, Nat.zero_xor] at h3
  omega
theorem xo_id {x : Int} (hx : 0 ≤ x ∧ x ≤ 255) : xo x 0 = x := by
  obtain ⟨a, rfl⟩ := Int.eq_ofNat_of_zero_le hx.1
  have := xo_nat a 0 (by omega) (by omega)
  simpa using this
/-- Two bytes, by or. -/
def oro (x y : Int) : Int := Go.bits .or .u8 x y
theorem oro_nat (x y : Nat) (hx : x ≤ 255) (hy : y ≤ 255) : oro (x : Int) (y : Int) = ((x ||| y : Nat) : Int) := by
  unfold oro Go.bits
  have h8 : x ||| y < 2 ^ 8 := Nat.or_lt_two_pow (by omega) (by omega)
  have h1 : (BitVec.ofInt 8 (x : Int) ||| BitVec.ofInt 8 (y : Int)).toNat = x ||| y := by
    rw [BitVec.toNat_or, BitVec.ofInt_natCast, BitVec.ofInt_natCast, BitVec.toNat_ofNat, BitVec.toNat_ofNat, Nat.mod_eq_of_lt (by omega), Nat.mod_eq_of_lt (by omega)]
  show IntKind.u8.wrap (((BitVec.ofInt 8 (x : Int) ||| BitVec.ofInt 8 (y : Int)).toNat : Nat) : Int) = _
  rw [h1]
  simp only [IntKind.wrap, IntKind.signed, IntKind.bits, Bool.false_and, Bool.false_eq_true, if_false]
  omega
theorem oro_byt {x y : Int} (hx : 0 ≤ x ∧ x ≤ 255) (hy : 0 ≤ y ∧ y ≤ 255) : 0 ≤ oro x y ∧ oro x y ≤ 255 := by
  obtain ⟨a, rfl⟩ := Int.eq_ofNat_of_zero_le hx.1
  obtain ⟨b, rfl⟩ := Int.eq_ofNat_of_zero_le hy.1
  rw [oro_nat a b (by omega) (by omega)]
  have := Nat.or_lt_two_pow (x := a) (y := b) (n := 8) (by omega) (by omega)
  omega
theorem oro_zero {x y : Int} (hx : 0 ≤ x ∧ x ≤ 255) (hy : 0 ≤ y ∧ y ≤ 255) : oro x y = 0 ↔ x = 0 ∧ y = 0 := by
  obtain ⟨a, rfl⟩ := Int.eq_ofNat_of_zero_le hx.1
  obtain ⟨b, rfl⟩ := Int.eq_ofNat_of_zero_le hy.1
  rw [oro_nat a b (by omega) (by omega)]
  have : a ||| b = 0 ↔ a = 0 ∧ b = 0 := Nat.or_eq_zero_iff
  omega
/-- What two lists differ by, of so many bytes. -/
def diff (a b : List Int) : Nat → Int
  | 0 => 0
  | n + 1 => oro (diff a b n) (xo (a.getD n 0) (b.getD n 0))
theorem diff_byt {a b : List Int} (ha : Byt a) (hb : Byt b) (n : Nat) : 0 ≤ diff a b n ∧ diff a b n ≤ 255 := by
  induction n with
  | zero => simp [diff]
  | succ n ih => exact oro_byt ih (xo_byt (ha.getD n) (hb.getD n))
theorem diff_zero {a b : List Int} (ha : Byt a) (hb : Byt b) (n : Nat) : diff a b n = 0 ↔ ∀ i, i < n → a.getD i 0 = b.getD i 0 := by
  induction n with
  | zero => simp [diff]
  | succ n ih =>
    rw [diff, oro_zero (diff_byt ha hb n) (xo_byt (ha.getD n) (hb.getD n)), ih, xo_zero (ha.getD n) (hb.getD n)]
    constructor
    · rintro ⟨h1, h2⟩ i hi
      rcases Nat.lt_or_ge i n with h | h
      · exact h1 i h
      · rw [show i = n from by omega]
        exact h2
    · intro h
      exact ⟨fun i hi => h i (by omega), h n (by omega)⟩
theorem diff_same {a b : List Int} (ha : Byt a) (hb : Byt b) (n : Nat) (h1 : a.length = n) (h2 : b.length = n) : diff a b n = 0 ↔ a = b := by
  rw [diff_zero ha hb]
  constructor
  · intro h
    apply List.ext_getElem (by omega)
    intro i k1 k2
    have := h i (by omega)
    rw [List.getD_eq_getElem?_getD, List.getD_eq_getElem?_getD, List.getElem?_eq_getElem k1, List.getElem?_eq_getElem k2] at this
    exact this
  · rintro rfl i hi
    rfl
/-- A key's block. -/
def kcut (key : List Int) : List Int := if 64 < key.length then sum key else key
def kbl (key : List Int) : List Int := kcut key ++ List.replicate (64 - (kcut key).length) 0
theorem kcut_le (key : List Int) : (kcut key).length ≤ 64 := by
  unfold kcut
  split
  · rw [sum_length]; omega
  · omega
theorem kbl_length (key : List Int) : (kbl key).length = 64 := by
  have := kcut_le key
  unfold kbl
  rw [List.length_append, List.length_replicate]
  omega
theorem kcut_byt {key : List Int} (h : Byt key) : Byt (kcut key) := by
  unfold kcut
  split
  · exact sum_byt _
  · exact h
theorem kbl_byt {key : List Int} (h : Byt key) : Byt (kbl key) := (kcut_byt h).append (Byt.replicate _)
def xr (k : Int) (l : List Int) : List Int := l.map fun x => xo x k
theorem xr_length (k : Int) (l : List Int) : (xr k l).length = l.length := by simp [xr]
theorem xr_byt {k : Int} {l : List Int} (hk : 0 ≤ k ∧ k ≤ 255) (h : Byt l) : Byt (xr k l) := fun y hy => by
  simp only [xr, List.mem_map] at hy
  obtain ⟨x, hx, rfl⟩ := hy
  exact xo_byt (h x hx) hk
theorem xr_getD (k : Int) (l : List Int) (i : Nat) (h : i < l.length) : (xr k l).getD i 0 = xo (l.getD i 0) k := by
  simp [xr, List.getD_eq_getElem?_getD, h]
/-- The tag by a key's block. -/
def tagk (kb msg : List Int) : List Int := sum (xr 92 kb ++ sum (xr 54 kb ++ msg))
def tag (key msg : List Int) : List Int := tagk (kbl key) msg
theorem tagk_length (kb msg : List Int) : (tagk kb msg).length = 32 := rfl
theorem tagk_byt (kb msg : List Int) : Byt (tagk kb msg) := sum_byt _
theorem tag_length (key msg : List Int) : (tag key msg).length = 32 := rfl
theorem tag_byt (key msg : List Int) : Byt (tag key msg) := sum_byt _
theorem kbl_kbl (key : List Int) : kbl (kbl key) = kbl key := by
  have h : kcut (kbl key) = kbl key := by
    unfold kcut
    rw [if_neg (by rw [kbl_length]; omega)]
  show kcut (kbl key) ++ _ = _
  rw [h, kbl_length, Nat.sub_self, List.replicate_zero, List.append_nil]
theorem tag_kbl (key msg : List Int) : tag (kbl key) msg = tag key msg := by
  unfold tag
  rw [kbl_kbl]
/-- The chapter's example. -/
theorem tag_jefe : (tag [74, 101, 102, 101] [119, 104, 97, 116, 32, 100, 111, 32, 121, 97, 32, 119, 97, 110, 116, 32, 102, 111, 114, 32, 110, 111, 116, 104, 105, 110, 103, 63]).take 4 = [91, 220, 193, 70] := by decide +kernel
end Go.Proofs.YtpigkgnmegpddaaDoor.Sh
