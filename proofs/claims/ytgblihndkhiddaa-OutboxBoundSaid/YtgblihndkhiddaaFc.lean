/-
What the printed functions short, Put, Wrap and Frames (the document's) come to, as plain functions of lists.
-/
import Derived.Test.YtgblihndkhiddaaFb
namespace Go.Proofs.Ytgblihndkhiddaa.Fr
set_option linter.unusedVariables false
set_option linter.unusedSimpArgs false
open Go.RowKit Go.Proofs.YtgblihndkhiddaaW.PrintWords Go.Proofs.YtgblihndkhiddaaW.PrintLast Go.Proofs.YtgblihndkhiddaaW.PrintMore Go.Proofs.Ytgblihndkhiddaa.PFrameFeeds

theorem w64 {i : Int} (h0 : -9223372036854775808 ≤ i) (h1 : i ≤ 9223372036854775807) : wrap64 i = i := by unfold wrap64; omega

/-- Are pieces few, and all of them short? -/
def shortL (ls : List (List Int)) : Bool := ls.all (fun l => decide (l.length ≤ 1200)) && decide (ls.length ≤ 20)
theorem rd_L1_nat (xs : List (List Int)) (i : Nat) (h : i < xs.length) : rd_L1 xs (i : Int) = xs[i] := by
  simp [rd_L1, List.getD_eq_getElem?_getD, h]
theorem short_at (ls : List (List Int)) (hm : ls.length ≤ 9223372036854775807) (d : Nat) : ∀ (k i : Nat), i + d = ls.length → d < k →
    tiltyardlaw05_short.l0 k ls (i : Int) = some ((ls.drop i).all (fun l => decide (l.length ≤ 1200)) && decide (ls.length ≤ 20)) := by
  induction d with
  | zero =>
    intro k i hi hk
    obtain ⟨k, rfl⟩ : ∃ m, k = m + 1 := ⟨k - 1, by omega⟩
    simp only [tiltyardlaw05_short.l0]
    rw [if_neg (by omega), List.drop_of_length_le (by omega)]
    simp
    omega
  | succ d ih =>
    intro k i hi hk
    obtain ⟨k, rfl⟩ : ∃ m, k = m + 1 := ⟨k - 1, by omega⟩
    simp only [tiltyardlaw05_short.l0]
    have hlt : i < ls.length := by omega
    rw [if_pos (by omega), if_pos (by omega), rd_L1_nat ls i hlt, List.drop_eq_getElem_cons hlt, List.all_cons]
    by_cases hb : ((ls[i].length : Int) > 1200)
    · rw [if_pos hb]
      have : decide (ls[i].length ≤ 1200) = false := by simp; omega
      rw [this]
      simp
    · rw [if_neg hb]
      have : decide (ls[i].length ≤ 1200) = true := by simp; omega
      rw [this, w64 (by omega) (by omega)]
      have := ih k (i + 1) (by omega) (by omega)
      push_cast at this
      rw [this]
      simp
theorem short_f (ls : List (List Int)) (hm : ls.length ≤ 9223372036854775807) : tiltyardlaw05_short.f (ls.length + 1) ls = some (shortL ls) := by
  have := short_at ls hm ls.length (ls.length + 1) 0 (by omega) (by omega)
  simpa [tiltyardlaw05_short.f, shortL] using this

/-- Two bytes of a number, behind bytes. -/
theorem put2 (k : Nat) (b : List Int) (n : Int) (h0 : 0 ≤ n) (h1 : n ≤ 65535) (hl : b.length ≤ 140737488355320) :
    field_Put.f (k + 3) b n 2 = some (b ++ [n / 256 % 256, n % 256]) := by
  have e1 : mx 0 (mn 2 8) - 1 = 1 := by decide
  have e8 : wrap64 (8 * 1) = 8 := w64 (by omega) (by omega)
  have e0 : wrap64 (8 * 0) = 0 := w64 (by omega) (by omega)
  have s8 : shr .u64 n 8 = n / 256 := by
    unfold shr
    have : (2 : Int) ^ min (8 : Int).toNat IntKind.u64.bits = 256 := by decide
    rw [this]
  have s0 : shr .u64 n 0 = n := by
    unfold shr
    have : (2 : Int) ^ min (0 : Int).toNat IntKind.u64.bits = 1 := by decide
    rw [this, Int.ediv_one]
  have m1 : wrap64 (1 - 1) = 0 := w64 (by omega) (by omega)
  have m0 : wrap64 (0 - 1) = -1 := w64 (by omega) (by omega)
  simp only [field_Put.f, Option.bind_some, List.nil_append, List.length_nil]
  rw [if_pos (by omega), e1]
  simp only [field_Put.l0]
  rw [if_pos (by omega), e8, if_pos (by omega), if_pos (by omega), s8, m1, if_pos (by omega), e0, if_pos (by omega), if_pos (by rw [List.length_append]; simp; omega), s0, m0, if_neg (by omega), List.append_assoc]
  rfl

/-- Can frames be wrapped? -/
def wrapOk (ls : List (List Int)) : Bool := ls.all (fun l => decide (1 ≤ l.length ∧ l.length ≤ 1024))
/-- A frame behind its length. -/
def wrap1 (l : List Int) : List Int := (l.length : Int) / 256 :: (l.length : Int) % 256 :: l
def wrapL (ls : List (List Int)) : List Int := (ls.map wrap1).flatten
theorem wrapL_cons (l : List Int) (ls : List (List Int)) : wrapL (l :: ls) = wrap1 l ++ wrapL ls := rfl
theorem wrapL_nil : wrapL [] = [] := rfl
theorem wrap1_length (l : List Int) : (wrap1 l).length = l.length + 2 := rfl
theorem u64_small {n : Int} (h0 : 0 ≤ n) (h1 : n ≤ 65535) : IntKind.u64.wrap n = n := by
  simp only [IntKind.wrap, IntKind.signed, IntKind.bits, Bool.false_and, Bool.false_eq_true, if_false]
  omega
theorem fits_f (n : Nat) : frame_fits.f (n : Int) = some (decide (1 ≤ n ∧ n ≤ 1024)) := by
  unfold frame_fits.f
  by_cases h : 1 ≤ n
  · rw [if_pos (by omega)]
    congr 1
    simp only [decide_eq_decide]
    omega
  · rw [if_neg (by omega)]
    congr 1
    symm
    simp
    omega
theorem wrap_at (ls : List (List Int)) (hm : ls.length ≤ 1000000) (d : Nat) : ∀ (k i : Nat) (acc : List Int), i + d = ls.length → d + 3 < k → acc.length ≤ i * 1026 →
    frame_Wrap.l0 k acc ls (ls.length : Int) (i : Int) = some (if wrapOk (ls.drop i) = true then (acc ++ wrapL (ls.drop i), 0) else ([], 6)) := by
  induction d with
  | zero =>
    intro k i acc hi hk ha
    obtain ⟨k, rfl⟩ : ∃ m, k = m + 1 := ⟨k - 1, by omega⟩
    simp only [frame_Wrap.l0]
    rw [if_neg (by omega), List.drop_of_length_le (by omega)]
    simp [wrapOk, wrapL]
  | succ d ih =>
    intro k i acc hi hk ha
    obtain ⟨k, rfl⟩ : ∃ m, k = m + 1 := ⟨k - 1, by omega⟩
    simp only [frame_Wrap.l0]
    have hlt : i < ls.length := by omega
    rw [if_pos (by omega), if_pos (by omega), if_pos (by omega), rd_L1_nat ls i hlt, List.drop_eq_getElem_cons hlt, fits_f, Option.bind_some]
    by_cases hb : 1 ≤ ls[i].length ∧ ls[i].length ≤ 1024
    · rw [decide_eq_true hb, if_pos rfl, u64_small (by omega) (by omega)]
      obtain ⟨k3, rfl⟩ : ∃ m, k = m + 3 := ⟨k - 3, by omega⟩
      rw [put2 k3 acc _ (by omega) (by omega) (by omega), Option.bind_some, if_pos (by rw [List.length_append]; simp; omega), w64 (by omega) (by omega)]
      have := ih (k3 + 3) (i + 1) (acc ++ [(ls[i].length : Int) / 256 % 256, (ls[i].length : Int) % 256] ++ ls[i]) (by omega) (by omega) (by simp only [List.length_append, List.length_cons, List.length_nil]; omega)
      push_cast at this
      rw [this]
      have hw : wrapOk (ls[i] :: ls.drop (i + 1)) = wrapOk (ls.drop (i + 1)) := by
        simp only [wrapOk, List.all_cons]
        rw [decide_eq_true hb, Bool.true_and]
      rw [hw, wrapL_cons]
      have h256 : (ls[i].length : Int) / 256 % 256 = (ls[i].length : Int) / 256 := by omega
      rw [h256]
      simp only [wrap1, List.append_assoc, List.cons_append, List.nil_append]
    · rw [decide_eq_false hb, if_neg (by simp)]
      have hw : wrapOk (ls[i] :: ls.drop (i + 1)) = false := by
        simp only [wrapOk, List.all_cons]
        rw [decide_eq_false hb, Bool.false_and]
      rw [hw]
      simp
theorem wrap_f (ls : List (List Int)) (hm : ls.length ≤ 1000000) : frame_Wrap.f (ls.length + 4) ls = some (if wrapOk ls = true then (wrapL ls, 0) else ([], 6)) := by
  have := wrap_at ls hm ls.length (ls.length + 4) 0 [] (by omega) (by omega) (by simp)
  simpa [frame_Wrap.f] using this

/-- More rounds than bytes make no difference. -/
theorem parse_more (k : Nat) : ∀ (j : Nat) (b : List Int), b.length < k → b.length < j → parse k b = parse j b := by
  induction k with
  | zero => intro j b h; omega
  | succ k ih =>
    intro j b h hj
    obtain ⟨j, rfl⟩ : ∃ m, j = m + 1 := ⟨j - 1, by omega⟩
    obtain ⟨⟨m, q⟩, hs⟩ : ∃ p, sz b = p := ⟨_, rfl⟩
    cases q with
    | false => rw [parse_short hs, parse_short hs]
    | true =>
      by_cases hm : 1 ≤ m ∧ m ≤ 1024
      · by_cases hw : (b.length : Int) < 2 + m
        · rw [parse_wait hs hm hw, parse_wait hs hm hw]
        · have h2 := sz_long hs
          rw [parse_one hs hm hw, parse_one hs hm hw, ih j _ (by rw [List.length_drop, List.length_drop]; omega) (by rw [List.length_drop, List.length_drop]; omega)]
      · rw [parse_wrong hs hm, parse_wrong hs hm]
/-- What any bytes come to. -/
def frames (b : List Int) : List (List Int) × List Int × Bool := parse (b.length + 1) b
theorem frames_short {b : List Int} {m : Int} (h : sz b = (m, false)) : frames b = ([], b, false) := parse_short h
theorem frames_wrong {b : List Int} {m : Int} (h : sz b = (m, true)) (hm : ¬ (1 ≤ m ∧ m ≤ 1024)) : frames b = ([], [], true) := parse_wrong h hm
theorem frames_wait {b : List Int} {m : Int} (h : sz b = (m, true)) (hm : 1 ≤ m ∧ m ≤ 1024) (hl : (b.length : Int) < 2 + m) : frames b = ([], b, false) := parse_wait h hm hl
theorem frames_one {b : List Int} {m : Int} (h : sz b = (m, true)) (hm : 1 ≤ m ∧ m ≤ 1024) (hl : ¬ (b.length : Int) < 2 + m) :
    frames b = (((b.drop 2).take m.toNat) :: (frames ((b.drop 2).drop m.toNat)).1, (frames ((b.drop 2).drop m.toNat)).2) := by
  have h2 := sz_long h
  unfold frames
  rw [parse_one h hm hl, parse_more b.length (((b.drop 2).drop m.toNat).length + 1) _ (by rw [List.length_drop, List.length_drop]; omega) (by omega)]

theorem sz_at {b : List Int} {i : Nat} (h : i + 1 < b.length) : sz (b.drop i) = (256 * b[i] + b[i + 1], true) := by
  rw [List.drop_eq_getElem_cons (show i < b.length by omega), List.drop_eq_getElem_cons h]
  rfl
theorem sz_end {b : List Int} {i : Nat} (h : ¬ i + 1 < b.length) : sz (b.drop i) = (0, false) := by
  have hl : (b.drop i).length < 2 := by rw [List.length_drop]; omega
  match hd : b.drop i, hl with
  | [], _ => rfl
  | [x], _ => rfl
theorem rd_nat (xs : List Int) (i : Nat) (h : i < xs.length) : rd xs (i : Int) = xs[i] := by
  simp [rd, List.getD_eq_getElem?_getD, h]
theorem ref_m (b : List Int) (hby : Byt b) {i : Nat} (h2 : i + 1 < b.length) : 0 ≤ 256 * b[i] + b[i + 1] ∧ 256 * b[i] + b[i + 1] ≤ 65535 := by
  have hx := hby b[i] (List.getElem_mem _)
  have hy := hby b[i + 1] (List.getElem_mem _)
  omega
theorem num_w {x y : Int} (hx : 0 ≤ x ∧ x ≤ 255) (hy : 0 ≤ y ∧ y ≤ 255) : wrap64 (wrap64 (256 * wrap64 x) + wrap64 y) = 256 * x + y := by
  rw [w64 (i := x) (by omega) (by omega), w64 (i := y) (by omega) (by omega), w64 (i := 256 * x) (by omega) (by omega), w64 (by omega) (by omega)]
theorem ref_step0 (b : List Int) (hm : b.length ≤ 1000000000) {k i : Nat} {out : List (List Int)} (h2 : ¬ i + 1 < b.length) (hi : i ≤ b.length) :
    tiltyardref05_Frames.l0 (k + 1) b out (i : Int) = some (out, (b.length : Int) - i, false) := by
  have c : ¬ (b.length : Int) - i ≥ 2 := by omega
  have e1 : wrap64 ((b.length : Int) - i) = (b.length : Int) - i := w64 (by omega) (by omega)
  rw [tiltyardref05_Frames.l0, e1, if_neg c]
theorem ref_step1 (b : List Int) (hby : Byt b) (hm : b.length ≤ 1000000000) {k i : Nat} {out : List (List Int)} (h2 : i + 1 < b.length) :
    tiltyardref05_Frames.l0 (k + 1) b out (i : Int) = tiltyardref05_Frames.j1 k b out (i : Int) (256 * b[i] + b[i + 1]) (decide (¬ (1 ≤ 256 * b[i] + b[i + 1] ∧ 256 * b[i] + b[i + 1] ≤ 1024))) := by
  have hx := hby b[i] (List.getElem_mem _)
  have hy := hby b[i + 1] (List.getElem_mem _)
  have c1 : (b.length : Int) - i ≥ 2 := by omega
  have c2 : 0 ≤ (i : Int) := by omega
  have c3 : (i : Int) < b.length := by omega
  have c4 : 0 ≤ (i : Int) + 1 := by omega
  have c5 : (i : Int) + 1 < b.length := by omega
  have r0 : rd b (i : Int) = b[i] := rd_nat b i (by omega)
  have r1 : rd b ((i : Int) + 1) = b[i + 1] := rd_nat b (i + 1) h2
  have hn := num_w hx hy
  have e1 : wrap64 ((b.length : Int) - i) = (b.length : Int) - i := w64 (by omega) (by omega)
  have e2 : wrap64 ((i : Int) + 1) = (i : Int) + 1 := w64 (by clear hn e1; omega) (by clear hn e1; omega)
  rw [tiltyardref05_Frames.l0, e1, if_pos c1, if_pos c2, if_pos c3, e2, if_pos c4, if_pos c5, r0, r1, hn]
  clear e1 e2 hn r0 r1
  obtain ⟨m, em⟩ : ∃ m, m = 256 * b[i] + b[i + 1] := ⟨_, rfl⟩
  rw [← em]
  by_cases h1 : m < 1
  · rw [if_pos h1, decide_eq_true (show ¬ (1 ≤ m ∧ m ≤ 1024) by omega)]
  · rw [if_neg h1]
    have : decide (m > 1024) = decide (¬ (1 ≤ m ∧ m ≤ 1024)) := by
      simp only [decide_eq_decide]
      omega
    rw [this]
theorem ref_step2 (b : List Int) {k i : Nat} {m : Int} {out : List (List Int)} (hmm : ¬ (1 ≤ m ∧ m ≤ 1024)) :
    tiltyardref05_Frames.j1 (k + 1) b out (i : Int) m (decide (¬ (1 ≤ m ∧ m ≤ 1024))) = some (out, 0, true) := by
  rw [tiltyardref05_Frames.j1, if_pos (decide_eq_true hmm)]
theorem ref_step3 (b : List Int) (hm : b.length ≤ 1000000000) {k i : Nat} {m : Int} {out : List (List Int)} (h2 : i + 1 < b.length) (hmm : 1 ≤ m ∧ m ≤ 1024) (hw : (b.length : Int) - i - 2 < m) :
    tiltyardref05_Frames.j1 (k + 1) b out (i : Int) m (decide (¬ (1 ≤ m ∧ m ≤ 1024))) = some (out, (b.length : Int) - i, false) := by
  have e1 : wrap64 ((b.length : Int) - i) = (b.length : Int) - i := w64 (by omega) (by omega)
  have e4 : wrap64 ((b.length : Int) - i - 2) = (b.length : Int) - i - 2 := w64 (by clear e1; omega) (by clear e1; omega)
  rw [tiltyardref05_Frames.j1, if_neg (by simpa using hmm), e1, e4, if_pos hw]
theorem ref_step4 (b : List Int) (hm : b.length ≤ 1000000000) {k i mn : Nat} {out : List (List Int)} (hmm : 1 ≤ (mn : Int) ∧ (mn : Int) ≤ 1024) (hw : ¬ (b.length : Int) - i - 2 < mn) (ho : out.length ≤ 1000000000) :
    tiltyardref05_Frames.j1 (k + 1) b out (i : Int) mn (decide (¬ (1 ≤ (mn : Int) ∧ (mn : Int) ≤ 1024))) = tiltyardref05_Frames.l0 k b (out ++ [((b.drop i).drop 2).take mn]) ((i : Int) + 2 + mn) := by
  have c1 : 0 ≤ (i : Int) + 2 := by omega
  have c2 : (i : Int) + 2 ≤ (i : Int) + 2 + mn := by omega
  have c3 : (i : Int) + 2 + mn ≤ b.length := by omega
  have c4 : ([] : List Int).length + (((b.drop i).drop 2).take mn).length < 140737488355328 := by rw [List.length_take, List.length_nil]; omega
  have c5 : out.length < 5864062014805 := by omega
  have t1 : ((i : Int) + 2 + (mn : Int)).toNat = i + 2 + mn := by omega
  have t2 : ((i : Int) + 2).toNat = i + 2 := by omega
  have hfr : (b.take (i + 2 + mn)).drop (i + 2) = ((b.drop i).drop 2).take mn := by
    rw [List.drop_drop, List.drop_take]
    congr 1
    omega
  have e1 : wrap64 ((b.length : Int) - i) = (b.length : Int) - i := w64 (by omega) (by omega)
  have e4 : wrap64 ((b.length : Int) - i - 2) = (b.length : Int) - i - 2 := w64 (by clear e1; omega) (by clear e1; omega)
  have e5 : wrap64 ((i : Int) + 2) = (i : Int) + 2 := w64 (by clear e1 e4; omega) (by clear e1 e4; omega)
  have e6 : wrap64 ((i : Int) + 2 + mn) = (i : Int) + 2 + mn := w64 (by clear e1 e4 e5; omega) (by clear e1 e4 e5; omega)
  rw [tiltyardref05_Frames.j1, if_neg (by simpa using hmm), e1, e4, if_neg hw, Option.bind_some, e5, e6, if_pos c1, if_pos c2, if_pos c3, t1, t2, hfr, if_pos c4, if_pos c5, List.nil_append]
theorem ref_frames_at (b : List Int) (hby : Byt b) (hm : b.length ≤ 1000000000) (d : Nat) : ∀ (k i : Nat) (out : List (List Int)), i ≤ b.length → b.length - i ≤ d → 2 * d + 2 < k → out.length ≤ i →
    tiltyardref05_Frames.l0 k b out (i : Int) = some (out ++ (frames (b.drop i)).1, ((frames (b.drop i)).2.1.length : Int), (frames (b.drop i)).2.2) := by
  induction d with
  | zero =>
    intro k i out hi hd hk ho
    obtain ⟨k, rfl⟩ : ∃ m, k = m + 1 := ⟨k - 1, by omega⟩
    rw [ref_step0 b hm (by omega) hi, frames_short (sz_end (by omega))]
    simp
    omega
  | succ d ih =>
    intro k i out hi hd hk ho
    obtain ⟨k, rfl⟩ : ∃ m, k = m + 2 := ⟨k - 2, by omega⟩
    have hld : (b.drop i).length = b.length - i := List.length_drop
    by_cases h2 : i + 1 < b.length
    · have hs := sz_at h2
      rw [ref_step1 b hby hm h2]
      have hr := (ref_m b hby h2)
      obtain ⟨m, em⟩ : ∃ m, m = 256 * b[i] + b[i + 1] := ⟨_, rfl⟩
      rw [← em] at hs hr ⊢
      clear em
      by_cases hmm : 1 ≤ m ∧ m ≤ 1024
      · by_cases hw : (b.length : Int) - i - 2 < m
        · rw [ref_step3 b hm h2 hmm hw, frames_wait hs hmm (by rw [hld]; omega)]
          simp
          omega
        · obtain ⟨mn, hmn⟩ := Int.eq_ofNat_of_zero_le (show 0 ≤ m by omega)
          subst hmn
          rw [ref_step4 b hm hmm hw (by omega), frames_one hs hmm (by rw [hld]; omega), Int.toNat_natCast]
          have := ih k (i + 2 + mn) (out ++ [((b.drop i).drop 2).take mn]) (by omega) (by omega) (by omega) (by rw [List.length_append]; simp; omega)
          rw [show (i : Int) + 2 + (mn : Int) = ((i + 2 + mn : Nat) : Int) from by omega, this]
          have hdr : ((b.drop i).drop 2).drop mn = b.drop (i + 2 + mn) := by
            rw [List.drop_drop, List.drop_drop]
            congr 1
            omega
          rw [hdr, List.append_assoc]
          rfl
      · rw [ref_step2 b hmm, frames_wrong hs hmm]
        simp
    · rw [ref_step0 b hm h2 hi, frames_short (sz_end h2)]
      simp
      omega
theorem ref_frames_f (b : List Int) (hby : Byt b) (hm : b.length ≤ 1000000000) : tiltyardref05_Frames.f (2 * b.length + 3) b = some ((frames b).1, ((frames b).2.1.length : Int), (frames b).2.2) := by
  have := ref_frames_at b hby hm b.length (2 * b.length + 3) 0 [] (by omega) (by omega) (by omega) (by simp)
  simpa [tiltyardref05_Frames.f] using this
end Go.Proofs.Ytgblihndkhiddaa.Fr
