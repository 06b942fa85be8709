/-
Words of 32 bits: what the model's numbers do is what bit vectors do; SHA-256 in plain words.
-/
import Derived.WalkKit
namespace Go.Proofs.YtpigkgnmegpddaaDoor.Sh
set_option linter.unusedVariables false
set_option linter.unusedSimpArgs false

abbrev Wd := BitVec 32
/-- A word as a number of the model. -/
def num (x : Wd) : Int := (x.toNat : Int)
theorem num_range (x : Wd) : 0 ≤ num x ∧ num x ≤ 4294967295 := by
  have := x.isLt
  unfold num
  omega
theorem num_inj {x y : Wd} (h : num x = num y) : x = y := by
  unfold num at h
  exact BitVec.eq_of_toNat_eq (by omega)
theorem ofInt_num (x : Wd) : BitVec.ofInt 32 (num x) = x := by
  unfold num
  apply BitVec.eq_of_toNat_eq
  have := x.isLt
  simp
theorem wrap_nat (n : Nat) : IntKind.u32.wrap (n : Int) = ((n % 4294967296 : Nat) : Int) := by
  simp only [IntKind.wrap, IntKind.signed, IntKind.bits, Bool.false_and, Bool.false_eq_true, if_false]
  omega
theorem wrap_num (x : Wd) : IntKind.u32.wrap (num x) = num x := by
  have := x.isLt
  unfold num
  rw [wrap_nat, Nat.mod_eq_of_lt (by omega)]
theorem bits_xor (x y : Wd) : Go.bits .xor .u32 (num x) (num y) = num (x ^^^ y) := by
  unfold Go.bits
  simp only [IntKind.bits, ofInt_num]
  exact wrap_num _
theorem bits_and (x y : Wd) : Go.bits .and .u32 (num x) (num y) = num (x &&& y) := by
  unfold Go.bits
  simp only [IntKind.bits, ofInt_num]
  exact wrap_num _
theorem bits_or (x y : Wd) : Go.bits .or .u32 (num x) (num y) = num (x ||| y) := by
  unfold Go.bits
  simp only [IntKind.bits, ofInt_num]
  exact wrap_num _
theorem add_num (x y : Wd) : IntKind.u32.wrap (num x + num y) = num (x + y) := by
  unfold num
  rw [BitVec.toNat_add, ← Int.natCast_add, wrap_nat]
theorem shl_num (x : Wd) (k : Nat) : IntKind.u32.wrap (num x * ((2 ^ k : Nat) : Int)) = num (x <<< k) := by
  unfold num
  rw [BitVec.toNat_shiftLeft, Nat.shiftLeft_eq, ← Int.natCast_mul, wrap_nat]
theorem shr_num (x : Wd) (k : Nat) : num x / ((2 ^ k : Nat) : Int) = num (x >>> k) := by
  unfold num
  rw [BitVec.toNat_ushiftRight, Nat.shiftRight_eq_div_pow, Int.natCast_ediv]

/-- Turned to the right. -/
def rotr (x : Wd) (k : Nat) : Wd := x >>> k ||| x <<< (32 - k)
def sig0 (x : Wd) : Wd := rotr x 2 ^^^ rotr x 13 ^^^ rotr x 22
def sig1 (x : Wd) : Wd := rotr x 6 ^^^ rotr x 11 ^^^ rotr x 25
def gam0 (x : Wd) : Wd := rotr x 7 ^^^ rotr x 18 ^^^ x >>> 3
def gam1 (x : Wd) : Wd := rotr x 17 ^^^ rotr x 19 ^^^ x >>> 10
def ch (e f g : Wd) : Wd := e &&& f ^^^ ~~~e &&& g
def maj (a b c : Wd) : Wd := a &&& b ^^^ a &&& c ^^^ b &&& c
theorem ch_or (e f g : Wd) : e &&& f ||| (e ^^^ 4294967295#32) &&& g = ch e f g := by
  unfold ch
  ext i hi
  simp only [BitVec.getElem_or, BitVec.getElem_and, BitVec.getElem_xor, BitVec.getElem_not]
  have h1 : (4294967295#32)[i] = true := by
    have : (4294967295#32 : BitVec 32) = BitVec.allOnes 32 := rfl
    rw [this]
    exact BitVec.getElem_allOnes i hi
  rw [h1]
  cases e[i] <;> cases f[i] <;> cases g[i] <;> rfl
theorem maj_or (a b c : Wd) : a &&& b ||| a &&& c ||| b &&& c = maj a b c := by
  unfold maj
  ext i hi
  simp only [BitVec.getElem_or, BitVec.getElem_and, BitVec.getElem_xor]
  cases a[i] <;> cases b[i] <;> cases c[i] <;> rfl
theorem or_comm' (a b : Wd) : a ||| b = b ||| a := BitVec.or_comm a b

/-- Eight words. -/
structure S8 where
  a : Wd
  b : Wd
  c : Wd
  d : Wd
  e : Wd
  f : Wd
  g : Wd
  h : Wd
  deriving DecidableEq
def S8.add (s t : S8) : S8 := ⟨s.a + t.a, s.b + t.b, s.c + t.c, s.d + t.d, s.e + t.e, s.f + t.f, s.g + t.g, s.h + t.h⟩
def S8.list (s : S8) : List Wd := [s.a, s.b, s.c, s.d, s.e, s.f, s.g, s.h]
def S8.vals (s : S8) : Array Value := #[.int .u32 (num s.a), .int .u32 (num s.b), .int .u32 (num s.c), .int .u32 (num s.d), .int .u32 (num s.e), .int .u32 (num s.f), .int .u32 (num s.g), .int .u32 (num s.h)]
/-- One round. -/
def tx (s : S8) (k w : Wd) : Wd := s.h + sig1 s.e + ch s.e s.f s.g + k + w
def ty (s : S8) : Wd := sig0 s.a + maj s.a s.b s.c
def rnd (s : S8) (k w : Wd) : S8 := ⟨tx s k w + ty s, s.a, s.b, s.c, s.d + tx s k w, s.e, s.f, s.g⟩
def K : List Nat := [
  0x428a2f98, 0x71374491, 0xb5c0fbcf, 0xe9b5dba5, 0x3956c25b, 0x59f111f1, 0x923f82a4, 0xab1c5ed5,
  0xd807aa98, 0x12835b01, 0x243185be, 0x550c7dc3, 0x72be5d74, 0x80deb1fe, 0x9bdc06a7, 0xc19bf174,
  0xe49b69c1, 0xefbe4786, 0x0fc19dc6, 0x240ca1cc, 0x2de92c6f, 0x4a7484aa, 0x5cb0a9dc, 0x76f988da,
  0x983e5152, 0xa831c66d, 0xb00327c8, 0xbf597fc7, 0xc6e00bf3, 0xd5a79147, 0x06ca6351, 0x14292967,
  0x27b70a85, 0x2e1b2138, 0x4d2c6dfc, 0x53380d13, 0x650a7354, 0x766a0abb, 0x81c2c92e, 0x92722c85,
  0xa2bfe8a1, 0xa81a664b, 0xc24b8b70, 0xc76c51a3, 0xd192e819, 0xd6990624, 0xf40e3585, 0x106aa070,
  0x19a4c116, 0x1e376c08, 0x2748774c, 0x34b0bcb5, 0x391c0cb3, 0x4ed8aa4a, 0x5b9cca4f, 0x682e6ff3,
  0x748f82ee, 0x78a5636f, 0x84c87814, 0x8cc70208, 0x90befffa, 0xa4506ceb, 0xbef9a3f7, 0xc67178f2]
theorem K_length : K.length = 64 := rfl
theorem K_small : ∀ k ∈ K, k < 4294967296 := by decide
def Kw (i : Nat) : Wd := BitVec.ofNat 32 (K.getD i 0)
theorem num_Kw (i : Nat) : num (Kw i) = ((K.getD i 0 : Nat) : Int) := by
  have h : K.getD i 0 < 4294967296 := by
    rw [List.getD_eq_getElem?_getD]
    rcases Nat.lt_or_ge i K.length with h | h
    · rw [List.getElem?_eq_getElem h]
      exact K_small _ (List.getElem_mem _)
    · rw [List.getElem?_eq_none h]
      simp
  unfold num Kw
  rw [BitVec.toNat_ofNat, Nat.mod_eq_of_lt h]
/-- A byte of a list of the model's numbers. -/
def byt (l : List Int) (i : Nat) : Wd := BitVec.ofNat 32 (l.getD i 0).toNat
/-- A block's word. -/
def word (l : List Int) (i : Nat) : Wd := byt l (4 * i) <<< 24 ||| byt l (4 * i + 1) <<< 16 ||| byt l (4 * i + 2) <<< 8 ||| byt l (4 * i + 3)
/-- The words of all rounds, so many behind the first 16. -/
def sched (l : List Int) : Nat → List Wd
  | 0 => (List.range 16).map (word l)
  | k + 1 => sched l k ++ [(sched l k).getD k 0 + gam0 ((sched l k).getD (k + 1) 0) + (sched l k).getD (k + 9) 0 + gam1 ((sched l k).getD (k + 14) 0)]
theorem sched_length (l : List Int) (k : Nat) : (sched l k).length = 16 + k := by
  induction k with
  | zero => rfl
  | succ k ih => simp only [sched, List.length_append, ih, List.length_cons, List.length_nil]; omega
def rounds (s : S8) (ws : List Wd) : Nat → S8
  | 0 => s
  | i + 1 => rnd (rounds s ws i) (Kw i) (ws.getD i 0)
def step (s : S8) (l : List Int) : S8 := s.add (rounds s (sched l 48) 64)
def first : S8 := ⟨0x6a09e667#32, 0xbb67ae85#32, 0x3c6ef372#32, 0xa54ff53a#32, 0x510e527f#32, 0x9b05688c#32, 0x1f83d9ab#32, 0x5be0cd19#32⟩
/-- Blocks, one after the other. -/
def chain : Nat → S8 → List Int → S8
  | 0, s, _ => s
  | n + 1, s, l => chain n (step s (l.take 64)) (l.drop 64)
/-- A length's eight bytes (of up to 2^64). -/
def len8 (n : Nat) : List Int := [((n / 2 ^ 56 % 256 : Nat) : Int), ((n / 2 ^ 48 % 256 : Nat) : Int), ((n / 2 ^ 40 % 256 : Nat) : Int), ((n / 2 ^ 32 % 256 : Nat) : Int), ((n / 2 ^ 24 % 256 : Nat) : Int), ((n / 2 ^ 16 % 256 : Nat) : Int), ((n / 2 ^ 8 % 256 : Nat) : Int), ((n % 256 : Nat) : Int)]
/-- How many noughts there are behind the mark. -/
def noughts (n : Nat) : Nat := (119 - n % 64) % 64
def pad (n : Nat) : List Int := 128 :: (List.replicate (noughts n) 0 ++ len8 (8 * n))
theorem pad_mod (n : Nat) : (n + (pad n).length) % 64 = 0 := by
  simp only [pad, noughts, List.length_cons, List.length_append, List.length_replicate, len8, List.length_nil]
  omega
/-- A word's four bytes. -/
def be (x : Wd) : List Int := [((x.toNat / 2 ^ 24 : Nat) : Int), ((x.toNat / 2 ^ 16 % 256 : Nat) : Int), ((x.toNat / 2 ^ 8 % 256 : Nat) : Int), ((x.toNat % 256 : Nat) : Int)]
def S8.bytes (s : S8) : List Int := be s.a ++ be s.b ++ be s.c ++ be s.d ++ be s.e ++ be s.f ++ be s.g ++ be s.h
/-- The sum of bytes. -/
def sum (b : List Int) : List Int := (chain ((b.length + (pad b.length).length) / 64) first (b ++ pad b.length)).bytes
theorem sum_length (b : List Int) : (sum b).length = 32 := rfl
end Go.Proofs.YtpigkgnmegpddaaDoor.Sh
