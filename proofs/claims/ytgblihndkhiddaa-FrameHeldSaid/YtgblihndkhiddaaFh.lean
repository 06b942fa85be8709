/-
Plain laws of frames: bytes that come behind bytes; what is wrapped; that frames, wrapped, are the bytes.
-/
import Derived.Test.YtgblihndkhiddaaFc
namespace Go.Proofs.Ytgblihndkhiddaa.Fr
set_option linter.unusedVariables false
set_option linter.unusedSimpArgs false

theorem sz_append {b : List Int} {m : Int} (h : sz b = (m, true)) (y : List Int) : sz (b ++ y) = (m, true) := by
  match b, h with
  | [], h => simp [sz] at h
  | [x], h => simp [sz] at h
  | x :: z :: t, h => exact h
/-- What comes behind: the frames go on from what waits. -/
theorem frames_append (n : Nat) : ∀ (b y : List Int), b.length ≤ n →
    ((frames b).2.2 = false → frames (b ++ y) = ((frames b).1 ++ (frames ((frames b).2.1 ++ y)).1, (frames ((frames b).2.1 ++ y)).2)) ∧
    ((frames b).2.2 = true → frames (b ++ y) = frames b) := by
  induction n with
  | zero =>
    intro b y hb
    obtain rfl : b = [] := List.eq_nil_of_length_eq_zero (by omega)
    have : frames [] = ([], [], false) := frames_short (m := 0) rfl
    rw [this]
    exact ⟨fun _ => rfl, fun h => by cases h⟩
  | succ n ih =>
    intro b y hb
    obtain ⟨⟨m, q⟩, hs⟩ : ∃ p, sz b = p := ⟨_, rfl⟩
    cases q with
    | false =>
      rw [frames_short hs]
      exact ⟨fun _ => rfl, fun h => by cases h⟩
    | true =>
      have hs2 := sz_append hs y
      by_cases hm : 1 ≤ m ∧ m ≤ 1024
      · by_cases hw : (b.length : Int) < 2 + m
        · rw [frames_wait hs hm hw]
          exact ⟨fun _ => rfl, fun h => by cases h⟩
        · have h2 := sz_long hs
          have hw2 : ¬ ((b ++ y).length : Int) < 2 + m := by rw [List.length_append]; omega
          rw [frames_one hs hm hw, frames_one hs2 hm hw2]
          have e1 : (b ++ y).drop 2 = b.drop 2 ++ y := List.drop_append_of_le_length h2
          have hl2 : m.toNat ≤ (b.drop 2).length := by rw [List.length_drop]; omega
          rw [e1, List.take_append_of_le_length hl2, List.drop_append_of_le_length hl2]
          obtain ⟨i1, i2⟩ := ih ((b.drop 2).drop m.toNat) y (by rw [List.length_drop, List.length_drop]; omega)
          constructor
          · intro h
            rw [i1 h]
            rfl
          · intro h
            rw [i2 h]
      · rw [frames_wrong hs hm, frames_wrong hs2 hm]
        exact ⟨(fun h => by cases h), fun _ => rfl⟩
theorem frames_nil : frames [] = ([], [], false) := frames_short (m := 0) rfl
/-- Behind a wrong length nothing waits. -/
theorem frames_dead (n : Nat) : ∀ b : List Int, b.length ≤ n → (frames b).2.2 = true → (frames b).2.1 = [] := by
  induction n with
  | zero =>
    intro b hb h
    obtain rfl : b = [] := List.eq_nil_of_length_eq_zero (by omega)
    rw [frames_nil]
  | succ n ih =>
    intro b hb h
    obtain ⟨⟨m, q⟩, hs⟩ : ∃ p, sz b = p := ⟨_, rfl⟩
    cases q with
    | false => rw [frames_short hs] at h; cases h
    | true =>
      by_cases hm : 1 ≤ m ∧ m ≤ 1024
      · by_cases hw : (b.length : Int) < 2 + m
        · rw [frames_wait hs hm hw] at h; cases h
        · have h2 := sz_long hs
          rw [frames_one hs hm hw] at h ⊢
          exact ih _ (by rw [List.length_drop, List.length_drop]; omega) h
      · rw [frames_wrong hs hm]

/-- A reader's state behind a piece, and its frames: bytes that wait, and whether it is dead. -/
def feed1 (st : List Int × Bool) (y : List Int) : List (List Int) × List Int × Bool := if st.2 = true then ([], [], true) else frames (st.1 ++ y)
def feedsP (st : List Int × Bool) : List (List Int) → List (List Int) × List Int × Bool
  | [] => ([], st)
  | y :: l => ((feed1 st y).1 ++ (feedsP (feed1 st y).2 l).1, (feedsP (feed1 st y).2 l).2)
theorem feedsP_dead (ls : List (List Int)) : feedsP ([], true) ls = ([], [], true) := by
  induction ls with
  | nil => rfl
  | cons y l ih =>
    have : feed1 ([], true) y = ([], [], true) := rfl
    simp only [feedsP, this, ih, List.append_nil]
theorem feedsP_live (ls : List (List Int)) : ∀ all : List Int, (frames all).2.2 = false →
    frames (all ++ ls.flatten) = ((frames all).1 ++ (feedsP (frames all).2 ls).1, (feedsP (frames all).2 ls).2) := by
  induction ls with
  | nil =>
    intro all h
    simp [feedsP]
  | cons y l ih =>
    intro all h
    have ha := (frames_append all.length all y (Nat.le_refl _)).1 h
    have hf : feed1 (frames all).2 y = frames ((frames all).2.1 ++ y) := by
      unfold feed1
      rw [h, if_neg (by simp)]
    rw [List.flatten_cons, ← List.append_assoc]
    simp only [feedsP, hf]
    obtain ⟨⟨f1, r1, d1⟩, hp⟩ : ∃ p, frames ((frames all).2.1 ++ y) = p := ⟨_, rfl⟩
    rw [hp] at ha ⊢
    cases d1 with
    | false =>
      have := ih (all ++ y) (by rw [ha])
      rw [this, ha]
      simp only [List.append_assoc]
    | true =>
      have h2 := (frames_append (all ++ y).length (all ++ y) l.flatten (Nat.le_refl _)).2 (by rw [ha])
      have hr : r1 = [] := by
        have := frames_dead _ ((frames all).2.1 ++ y) (Nat.le_refl _) (by rw [hp])
        rw [hp] at this
        exact this
      subst hr
      rw [h2, ha, feedsP_dead]
      simp
/-- However bytes are cut, the frames are the same. -/
theorem feedsP_flatten (ls : List (List Int)) : feedsP ([], false) ls = frames ls.flatten := by
  have := feedsP_live ls [] (by rw [frames_nil])
  rw [frames_nil] at this
  simpa using this.symm

/-- What is wrapped comes as it was. -/
theorem frames_wrapL (ls : List (List Int)) (h : wrapOk ls = true) : frames (wrapL ls) = (ls, [], false) := by
  induction ls with
  | nil => exact frames_nil
  | cons l ls ih =>
    have hw : wrapOk (l :: ls) = (decide (1 ≤ l.length ∧ l.length ≤ 1024) && wrapOk ls) := by simp only [wrapOk, List.all_cons]
    rw [hw, Bool.and_eq_true, decide_eq_true_eq] at h
    obtain ⟨⟨h1, h2⟩, h3⟩ := h
    have hs : sz (wrapL (l :: ls)) = ((l.length : Int), true) := by
      have : (256 * ((l.length : Int) / 256) + (l.length : Int) % 256) = l.length := by omega
      rw [wrapL_cons]
      simp only [wrap1, List.cons_append, sz, this]
    have hl : (wrapL (l :: ls)).length = l.length + 2 + (wrapL ls).length := by rw [wrapL_cons, List.length_append, wrap1_length]
    have hd : (wrapL (l :: ls)).drop 2 = l ++ wrapL ls := rfl
    rw [frames_one hs ⟨by omega, by omega⟩ (by rw [hl]; omega), hd, Int.toNat_natCast, List.take_left, List.drop_left, ih h3]
/-- Frames, wrapped, and what waits, are the bytes. -/
theorem wrapL_frames (n : Nat) : ∀ b : List Int, b.length ≤ n → (∀ x ∈ b, 0 ≤ x ∧ x ≤ 255) → wrapOk (frames b).1 = true ∧
    ((frames b).2.2 = false → wrapL (frames b).1 ++ (frames b).2.1 = b) ∧ ∃ t, wrapL (frames b).1 ++ t = b := by
  induction n with
  | zero =>
    intro b hb hy
    obtain rfl : b = [] := List.eq_nil_of_length_eq_zero (by omega)
    rw [frames_nil]
    exact ⟨rfl, fun _ => rfl, [], rfl⟩
  | succ n ih =>
    intro b hb hy
    obtain ⟨⟨m, q⟩, hs⟩ : ∃ p, sz b = p := ⟨_, rfl⟩
    cases q with
    | false =>
      rw [frames_short hs]
      exact ⟨rfl, fun _ => rfl, b, rfl⟩
    | true =>
      by_cases hm : 1 ≤ m ∧ m ≤ 1024
      · by_cases hw : (b.length : Int) < 2 + m
        · rw [frames_wait hs hm hw]
          exact ⟨rfl, fun _ => rfl, b, rfl⟩
        · have h2 := sz_long hs
          rw [frames_one hs hm hw]
          obtain ⟨i1, i2, t, i3⟩ := ih ((b.drop 2).drop m.toNat) (by rw [List.length_drop, List.length_drop]; omega) (fun x hx => hy x (List.mem_of_mem_drop (List.mem_of_mem_drop hx)))
          have hlen : ((b.drop 2).take m.toNat).length = m.toNat := by rw [List.length_take, List.length_drop]; omega
          match b, hs, hy, hlen, h2 with
          | x :: z :: tl, hs, hy, hlen, _ =>
            have hx := hy x (by simp)
            have hz := hy z (by simp)
            simp only [sz, Prod.mk.injEq] at hs
            have hw1 : wrap1 (((x :: z :: tl).drop 2).take m.toNat) = x :: z :: (tl.take m.toNat) := by
              simp only [wrap1, hlen]
              have e1 : ((m.toNat : Nat) : Int) / 256 = x := by omega
              have e2 : ((m.toNat : Nat) : Int) % 256 = z := by omega
              rw [e1, e2]
              rfl
            refine ⟨?_, fun h => ?_, t, ?_⟩
            · have : ∀ l ls, wrapOk (l :: ls) = (decide (1 ≤ l.length ∧ l.length ≤ 1024) && wrapOk ls) := fun l ls => by simp only [wrapOk, List.all_cons]
              rw [this, hlen, i1, decide_eq_true (by omega)]
              rfl
            · rw [wrapL_cons, hw1, List.append_assoc, i2 h]
              simp
            · rw [wrapL_cons, hw1, List.append_assoc, i3]
              simp
      · rw [frames_wrong hs hm]
        exact ⟨rfl, (fun h => by cases h), b, rfl⟩
/-- What waits is short. -/
theorem frames_rest (n : Nat) : ∀ b : List Int, b.length ≤ n → (frames b).2.1.length ≤ 1025 := by
  induction n with
  | zero =>
    intro b hb
    obtain rfl : b = [] := List.eq_nil_of_length_eq_zero (by omega)
    rw [frames_nil]
    simp
  | succ n ih =>
    intro b hb
    obtain ⟨⟨m, q⟩, hs⟩ : ∃ p, sz b = p := ⟨_, rfl⟩
    cases q with
    | false =>
      rw [frames_short hs]
      match b, hs with
      | [], _ => simp
      | [x], _ => simp
      | x :: y :: t, hs => simp [sz] at hs
    | true =>
      by_cases hm : 1 ≤ m ∧ m ≤ 1024
      · by_cases hw : (b.length : Int) < 2 + m
        · rw [frames_wait hs hm hw]
          simp only
          omega
        · have h2 := sz_long hs
          rw [frames_one hs hm hw]
          exact ih _ (by rw [List.length_drop, List.length_drop]; omega)
      · rw [frames_wrong hs hm]
        simp
end Go.Proofs.Ytgblihndkhiddaa.Fr
