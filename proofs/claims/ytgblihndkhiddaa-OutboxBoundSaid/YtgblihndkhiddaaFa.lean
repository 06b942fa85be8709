/-
What the small functions of frame, field and slices do to memory: contracts of Dead, Held, more, Clone, Take (of two bytes), size, first.
-/
import Derived.Test.YtgblihndkhiddaaPFrameFeedsx1
import Derived.WalkSpells
import Derived.WalkLawsBesides
namespace Go.Proofs.Ytgblihndkhiddaa.Fr
open Go.RowKit Go.Proofs.YtgblihndkhiddaaW.PrintWords Go.Proofs.YtgblihndkhiddaaW.PrintLast Go.Proofs.YtgblihndkhiddaaW.PrintMore Go.Proofs.Ytgblihndkhiddaa.PFrameFeeds

/-- `Dead` of a reader that is there. -/
theorem dead_some (g : Nat) (d : Bool) (w : World) (hc : w.cell? ⟨g, 1, none⟩ = some (.bool d)) :
    Calls Try.prog 31 #[.pointer (some ⟨g, 0, none⟩)] w fun e w' => e = .returned (.bool d) ∧ w = w' := by
  go_enter Try.func31, Try.ntmps31
  go_wp2
  go_ret
  exact ⟨rfl, rfl⟩
theorem dead_nil (w : World) :
    Calls Try.prog 31 #[.pointer none] w fun e w' => e = .returned (.bool true) ∧ w = w' := by
  go_enter Try.func31, Try.ntmps31
  go_wp2
  go_ret
  exact ⟨rfl, rfl⟩
theorem held_some (g : Nat) (A : Option Addr) (n c : Nat) (w : World) (hc : w.cell? ⟨g, 0, none⟩ = some (.slice A n c)) :
    Calls Try.prog 33 #[.pointer (some ⟨g, 0, none⟩)] w fun e w' => e = .returned (.int .i64 n) ∧ w = w' := by
  go_enter Try.func33, Try.ntmps33
  go_wp2
  go_ret
  exact ⟨rfl, rfl⟩
theorem held_nil (w : World) :
    Calls Try.prog 33 #[.pointer none] w fun e w' => e = .returned (.int .i64 0) ∧ w = w' := by
  go_enter Try.func33, Try.ntmps33
  go_wp2
  go_ret
  exact ⟨rfl, rfl⟩

/-- A reader at block g: the value of its bytes' slice is v, they are bs. -/
def Rd (w : World) (base g : Nat) (v : Value) (bs : List Int) (d : Bool) : Prop :=
  w.heap[g]? = some (.cells #[v, .bool d] 77 (0, 0)) ∧ (Kd.int .u8).R 5 w base (fun k => k ≠ g) v bs ∧ base ≤ g
/-- A reader's blocks. -/
def Fv (g : Nat) (v : Value) : Nat → Prop := fun k => k = g ∨ v.ownBlock = some k
/-- A row that lies where the other one lay, or in what was made since. -/
def Mv (w : World) (v v' : Value) : Prop := ∀ k, v'.ownBlock = some k → v.ownBlock = some k ∨ w.heap.size ≤ k

theorem Rd.lt {w : World} {base g : Nat} {v : Value} {bs : List Int} {d : Bool} (h : Rd w base g v bs d) : g < w.heap.size := blk_lt h.1
theorem Rd.base_le {w : World} {base g : Nat} {v : Value} {bs : List Int} {d : Bool} (h : Rd w base g v bs d) (k : Nat) (hk : Fv g v k) : base ≤ k := by
  rcases hk with rfl | hk
  · exact h.2.2
  · obtain ⟨inner, ho⟩ := Kd.R_own h.2.1
    exact own_base ho k hk
theorem Rd.lt_all {w : World} {base g : Nat} {v : Value} {bs : List Int} {d : Bool} (h : Rd w base g v bs d) (k : Nat) (hk : Fv g v k) : k < w.heap.size := by
  rcases hk with rfl | hk
  · exact h.lt
  · obtain ⟨inner, ho⟩ := Kd.R_own h.2.1
    exact own_lt ho k hk
theorem Rd.move {w w' : World} {base g : Nat} {v : Value} {bs : List Int} {d : Bool} (h : Rd w base g v bs d) (hm : ∀ k, Fv g v k → w'.heap[k]? = w.heap[k]?) : Rd w' base g v bs d := by
  obtain ⟨hb, hR, hg⟩ := h
  have h2 : (Kd.int .u8).R 5 w base (fun k => k ≠ g ∧ v.ownBlock = some k) v bs := ⟨fun k hk => ⟨hR.1 k hk, hk⟩, by
    obtain ⟨inner, ho, hr⟩ := hR.2
    exact ⟨inner, ho, hr⟩⟩
  exact ⟨(hm g (.inl rfl)).trans hb, Kd.R_mono (Kd.R_move h2 (fun k hk => hm k (.inr hk.2))) (fun k hk => hk.1), hg⟩
theorem Rd.kept {w w' : World} {base g : Nat} {v : Value} {bs : List Int} {d : Bool} {S : Nat → Prop} (h : Rd w base g v bs d) (hk : Kept w w' S) (hS : ∀ k, Fv g v k → ¬ S k) : Rd w' base g v bs d :=
  h.move fun k hf => hk.2 k (h.lt_all k hf) (hS k hf)
theorem Rd.below {w w' : World} {base g : Nat} {v : Value} {bs : List Int} {d : Bool} (h : Rd w base g v bs d) (hb : Below w.heap.size w w') : Rd w' base g v bs d :=
  h.move fun k hf => hb.block k (h.lt_all k hf)
theorem Rd.slice {w : World} {base g : Nat} {v : Value} {bs : List Int} {d : Bool} (h : Rd w base g v bs d) : ∃ A c, v = .slice A bs.length c := Kd.R_slice h.2.1

set_option maxHeartbeats 400000 in
theorem more_any {base g n c : Nat} {v : Value} {bs ys : List Int} {d : Bool} {A : Option Addr} (w : World) (h : Rd w base g v bs d)
    (HR : (Kd.int .u8).C w A n ys) (hl : bs.length + ys.length ≤ 140737488355328) :
    Calls Try.prog 41 #[.pointer (some ⟨g, 0, none⟩), .slice A n c] w fun e w' => ∃ v', e = .returned (.tuple #[]) ∧ Rd w' base g v' (bs ++ ys) d ∧ Mv w v v' ∧ Below base w w' ∧ Kept w w' (Fv g v) := by
  obtain rfl := HR.1
  have H := Aside0.mk h
  obtain ⟨hb, hR, hg⟩ := h
  obtain ⟨A0, c0, rfl⟩ := Kd.R_slice hR
  have hlt := blk_lt hb
  have hc : w.cell? ⟨g, 0, none⟩ = some (.slice A0 bs.length c0) := (blk_cell hb 0).trans rfl
  have Hb := Aside0.mk hb
  have HR2 := Aside0.mk hR
  have Hfr : Aside0 (∀ k, w.heap.size ≤ k → k ≠ g) := Aside0.mk fun k hk => by omega
  have HRy := Aside0.mk HR
  clear HR hR hb
  go_enter Try.func41, Try.ntmps41
  go_wp2_with (first | ((with_reducible refine gate_builtin (b := .append) (xs := #[.tmp 8, .tmp 9]) rfl ?_); at_builtin; refine Kd.R_append_row (Value.int .u8) (0 : Int) (w0 := w) base rfl (.tmp 8) (.tmp 9) 32 5 (.int .u8 0) 1 rfl Try.underlying32 info5 rfl (by decide) (.slice A0 bs.length c0) bs ys A ys.length c (fun k => k ≠ g) rfl rfl Hfr.out HR2.out HRy.out (Below.refl _ _) (by omega) (by omega) ?_; intro v1 w1 ho hbl hgr hat; obtain ⟨A1, c1, rfl⟩ := Kd.R_slice ho; rw [List.length_append] at ho hat ⊢; have HO := Aside0.mk ho; have HB := Aside0.mk hbl; have HG := Aside0.mk hgr; have HA := Aside0.mk hat; clear ho hbl hgr hat; have HB1 := Aside0.mk (blk_grown Hb.out HG.out (Kd.R_ne HR2.out Hb.out (by decide))); have hc1 : w1.cell? ⟨g, 0, none⟩ = some (.slice A0 bs.length c0) := (blk_cell HB1.out 0).trans rfl; have hf1 := blk_frozen HB1.out 0))
  go_end0
  refine ⟨_, rfl, ⟨blk_set HB1.out 0 _, ?_, hg⟩, ?_, ?_, ?_⟩
  · exact Kd.R_far (p := ⟨g, 0, none⟩) HO.out (fun k hk => hk) _
  · intro k hk
    rcases HA.out with ha | ⟨b, ha, hle⟩
    · exact .inl (ha ▸ hk)
    · rw [ha] at hk
      injection hk with hk
      exact .inr (by omega)
  · exact HB.out.setCell hg _
  · exact Kept.setCell (Kept.of_grown HG.out (Kept.refl _ _) (fun k hk => .inl (.inr hk))) (.inl (.inl rfl)) _

theorem C_nil_len {α : Type} {d : Kd α} {w : World} {n : Nat} {xs : List α} (h : d.C w none n xs) : n = 0 ∧ xs = [] := by
  have h1 := h.1
  rcases Nat.eq_zero_or_pos n with h0 | h0
  · exact ⟨h0, List.eq_nil_of_length_eq_zero (by omega)⟩
  · obtain ⟨ad, he, _⟩ := h.2.2 h0
    cases he

set_option maxHeartbeats 400000 in
theorem clone_any {n c : Nat} {ys : List Int} {A : Option Addr} (w : World) (HR : (Kd.int .u8).C w A n ys) (hl : ys.length ≤ 140737488355328) :
    Calls Try.prog 45 #[.slice A n c] w fun e w' => ∃ v, e = .returned v ∧ (Kd.int .u8).R 5 w' w.heap.size (fun _ => True) v ys ∧ Below w.heap.size w w' := by
  obtain rfl := HR.1
  have hq := fun (w : World) (a : Option Addr) (n c : Nat) => Lib.run_eql_slice_nil (P := Try.prog) w 32 5 a n c 0 0 Try.underlying32
  cases A with
  | none =>
    obtain ⟨_, rfl⟩ := C_nil_len HR
    clear HR
    go_enter Try.func45, Try.ntmps45
    go_wp2
    go_ret
    exact ⟨_, rfl, Kd.R_nil _ _ _ _ _, Below.refl _ _⟩
  | some ad =>
    have HRy := Aside0.mk HR
    clear HR
    go_enter Try.func45, Try.ntmps45
    go_wp2_with (first | ((with_reducible refine gate_dst (N := 5) rfl ?_); refine Kd.R_lit (Kd.int .u8) w.heap.size 5 ?hg (N := 5) ?hd (xs := ([] : List Int)) (inner := []) (ok := fun _ => True) (okp := fun _ => True) ?hr ?hp (fun _ hk => hk) trivial (Below.refl _ _) (Nat.le_refl _) (by simp) ?_; (case hd => rfl); (case hg => rfl); (case hr => first | (go_simp; done) | (go_simp; rfl)); (case hp => exact (Reps.none _ _)); intro v1 w1 ho hb hg_ hnew_; clear hg_ hnew_; have HO := Aside0.mk ho; have HB := Aside0.mk hb; clear ho hb) | ((with_reducible refine gate_builtin (b := .append) (xs := #[.tmp 5, .tmp 6]) rfl ?_); at_builtin; refine Kd.R_append_row (Value.int .u8) (0 : Int) (w0 := w) w.heap.size rfl (.tmp 5) (.tmp 6) 32 5 (.int .u8 0) 1 rfl Try.underlying32 info5 rfl (by decide) v1 [] ys (some ad) ys.length c (fun _ => True) rfl rfl (fun _ _ => trivial) HO.out (Kd.C_below HRy.out HB.out) HB.out HB.out.size (by simp; omega) ?_; intro v2 w2 ho2 hb2 hg2 hat2; clear hg2 hat2; have HO2 := Aside0.mk ho2; have HB2 := Aside0.mk hb2; clear ho2 hb2))
    go_ret
    exact ⟨_, rfl, HO2.out, HB2.out⟩
set_option maxHeartbeats 400000 in
theorem take2_short {n c : Nat} {A : Option Addr} (w : World) (h2 : n < 2) :
    Calls Try.prog 44 #[.slice A n c, .int .i64 2] w fun e w' => e = .returned (.tuple #[.int .u64 0, .slice none 0 0, .bool false]) ∧ w = w' := by
  have hd : decide ((n : Int) < 2) = true := by simp; omega
  go_enter Try.func44, Try.ntmps44
  go_wp2
  go_ret3
  exact ⟨rfl, rfl⟩

theorem C_cell {k : IntKind} {w : World} {A : Option Addr} {n : Nat} {xs : List Int} (h : (Kd.int k).C w A n xs) {ad : Addr} (hA : A = some ad) (j : Nat) (hj : j < n) : w.cell? (ad.add j) = some (.int k (xs.getD j 0)) := by
  obtain ⟨ad', c, he, hcl, hk, hc⟩ := Kd.C_get h 0 (j : Int) (by omega) (by omega)
  rw [hA] at he
  injection he with he
  subst he
  have hk' : c = [.int k (xs.getD j 0)] := by simpa [Kd.int, Kd.scalar] using hk
  subst hk'
  have := hc 0 _ rfl
  simpa [Kd.int, Kd.scalar] using this
theorem C_some {α : Type} {d : Kd α} {w : World} {A : Option Addr} {n : Nat} {xs : List α} (h : d.C w A n xs) (hn : 0 < n) : ∃ ad, A = some ad := by
  obtain ⟨ad, he, _⟩ := h.2.2 hn
  exact ⟨ad, he⟩

theorem ofInt_cast (n : Nat) : (BitVec.ofInt 64 (n : Int)).toNat = n % 2 ^ 64 := by
  simp
theorem or_byte (x y : Int) (hx : 0 ≤ x ∧ x ≤ 255) (hy : 0 ≤ y ∧ y ≤ 255) : Go.bits .or .u64 (x * 256) y = 256 * x + y := by
  obtain ⟨a, rfl⟩ := Int.eq_ofNat_of_zero_le hx.1
  obtain ⟨b, rfl⟩ := Int.eq_ofNat_of_zero_le hy.1
  have ha : a ≤ 255 := by omega
  have hb : b ≤ 255 := by omega
  have h1 : (BitVec.ofInt IntKind.u64.bits ((a : Int) * 256)).toNat = a * 256 := by
    have h := ofInt_cast (a * 256)
    rw [Nat.mod_eq_of_lt (by omega), Int.natCast_mul] at h
    exact h
  have h2 : (BitVec.ofInt IntKind.u64.bits (b : Int)).toNat = b := by
    have := ofInt_cast b
    rw [Nat.mod_eq_of_lt (by omega)] at this
    exact this
  have h3 : a * 256 ||| b = 256 * a + b := by
    have := Nat.two_pow_add_eq_or_of_lt (show b < 2 ^ 8 by omega) a
    rw [Nat.mul_comm a 256]
    simpa using this.symm
  unfold Go.bits
  simp only [BitVec.toNat_or, h1, h2, h3]
  show IntKind.u64.wrap ((256 * a + b : Nat) : Int) = _
  simp only [IntKind.wrap, IntKind.signed, IntKind.bits, Bool.false_and, Bool.false_eq_true, if_false]
  omega

theorem info5_some : ∃ i, Try.prog.info? 5 = some i ∧ i.size = 1 := by
  obtain ⟨i5, hi5, hz5⟩ := Option.map_eq_some_iff.1 info5
  simp only [Prod.mk.injEq] at hz5
  exact ⟨i5, hi5, hz5.2.1⟩
/-- A cut from j on, of bytes that are read. -/
theorem cut_bytes_from {w : World} {A : Option Addr} {xs : List Int} {c : Nat} (h : (Kd.int .u8).C w A xs.length xs) (hc : xs.length ≤ c) (j : Nat) (hj : j ≤ xs.length) :
    ∃ A', (∀ W : World, (Instr.slice 32 (.slice A xs.length c) (some (.int .i64 j)) none none).run Try.prog W = .ok (.slice A' (xs.drop j).length (c - j)) W) ∧ (Kd.int .u8).C w A' (xs.drop j).length (xs.drop j) := by
  obtain ⟨i5, hi5, hz5⟩ := info5_some
  refine ⟨_, fun W => ?_, Kd.C_drop h hj hc⟩
  have := cut_from 32 5 .i64 Try.underlying32 hi5 1 hz5 A xs.length c (j : Int) (by omega) (by omega) W
  rw [Int.toNat_natCast] at this
  rw [List.length_drop]
  exact this
theorem cut_bytes_to {w : World} {A : Option Addr} {xs : List Int} {c : Nat} (h : (Kd.int .u8).C w A xs.length xs) (hc : xs.length ≤ c) (j : Nat) (hj : j ≤ xs.length) :
    (∀ W : World, (Instr.slice 32 (.slice A xs.length c) none (some (.int .i64 j)) none).run Try.prog W = .ok (.slice A (xs.take j).length c) W) ∧ (Kd.int .u8).C w A (xs.take j).length (xs.take j) := by
  obtain ⟨i5, hi5, hz5⟩ := info5_some
  refine ⟨fun W => ?_, Kd.C_take h hj⟩
  have := cut_to 32 5 .i64 Try.underlying32 hi5 A xs.length c (j : Int) (by omega) (by omega) hc W
  rw [Int.toNat_natCast] at this
  rw [List.length_take, Nat.min_eq_left hj]
  exact this

set_option maxHeartbeats 400000 in
theorem take2_long {n c : Nat} {x y : Int} {ys : List Int} {A : Option Addr} (w : World) (HR : (Kd.int .u8).C w A n (x :: y :: ys)) (hl : ys.length ≤ 140737488355320) (hc : n ≤ c) (hx : 0 ≤ x ∧ x ≤ 255) (hy : 0 ≤ y ∧ y ≤ 255) :
    Calls Try.prog 44 #[.slice A n c, .int .i64 2] w fun e w' => ∃ v, e = .returned (.tuple #[.int .u64 (256 * x + y), v, .bool true]) ∧ (Kd.int .u8).R 5 w' w.heap.size (fun _ => True) v ys ∧ Below w.heap.size w w' := by
  obtain rfl := HR.1
  obtain ⟨ad, rfl⟩ := C_some HR (by simp)
  have c0 : w.cell? ad = some (.int .u8 x) := C_cell HR rfl 0 (by simp)
  have c1 : w.cell? ⟨ad.block, ad.off + 1, none⟩ = some (.int .u8 y) := C_cell HR rfl 1 (by simp)
  obtain ⟨A', hcut, hC⟩ := cut_bytes_from HR hc 2 (by simp)
  have HC := Aside0.mk (show (Kd.int .u8).C w A' ys.length ys from hC)
  replace hcut : ∀ W : World, (Instr.slice 32 (.slice (some ad) (x :: y :: ys).length c) (some (.int .i64 2)) none none).run Try.prog W = .ok (.slice A' ys.length (c - 2)) W := hcut
  have hl0 : (x :: y :: ys).length = ys.length + 2 := rfl
  clear HR hC
  obtain ⟨n, hn⟩ : ∃ n, n = (x :: y :: ys).length := ⟨_, rfl⟩
  rw [← hn] at hc hcut ⊢
  have hn2 : 2 ≤ n := by omega
  have hnc : n ≤ 140737488355328 := by omega
  have hd : decide ((n : Int) < 2) = false := by simp; omega
  have hor : Go.bits .or .u64 (x * 256) y = 256 * x + y := or_byte x y hx hy
  have hor0 : Go.bits .or .u64 0 x = x := by have := or_byte 0 x (by omega) hx; simpa using this
  clear hn hl0
  go_enter Try.func44, Try.ntmps44
  go_wp2_with fail
  refine wp_loop_rounds 3 ?_
  rw [rounds_succ]
  go_wp2_with fail
  rw [rounds_succ]
  go_wp2_with fail
  rw [rounds_succ]
  go_wp2_with (first | ((with_reducible refine gate_dst (N := 37) rfl ?_); refine Kd.R_lit (Kd.int .u8) (w.heap.size) 5 ?hg (N := 37) ?hd (xs := ([] : List (Int))) (inner := []) (ok := fun _ => True) (okp := fun _ => False) ?hr ?hp (fun _ hk => hk.elim) (trivial) (Below.refl _ _) (Nat.le_refl _) (by simp) ?_; (case hd => rfl); (case hg => rfl); (case hr => first | (go_simp; done) | (go_simp; rfl)); (case hp => exact (Reps.none _ _)); intro v1 w1 ho_ hb_ hg_ hnew_; clear hg_ hnew_; have HO := Aside0.mk ho_; have HB := Aside0.mk hb_; clear ho_ hb_) | ((with_reducible refine gate_builtin (b := .append) (xs := #[.tmp 37, .tmp 40]) rfl ?_); at_builtin; refine Kd.R_append_row (Value.int .u8) (0 : Int) (w0 := w) (w.heap.size) rfl (.tmp 37) (.tmp 40) 32 5 (.int .u8 0) 1 rfl Try.underlying32 info5 rfl (by decide) (v1) (([] : List Int)) (ys) (A') (ys.length) (c - 2) (fun _ => True) rfl rfl (fun _ _ => trivial) (HO.out) (Kd.C_below HC.out HB.out) (HB.out) (HB.out.size) (by simp; omega) ?_; intro v2 w2 ho_ hb_ hg_ hat_; clear hg_ hat_; have HO2 := Aside0.mk ho_; have HB2 := Aside0.mk hb_; clear ho_ hb_))
  go_ret3
  exact ⟨_, rfl, HO2.out, HB2.out⟩

/-- All of them bytes. -/
def Byt (l : List Int) : Prop := ∀ x ∈ l, 0 ≤ x ∧ x ≤ 255
/-- The length that stands at the beginning. -/
def sz : List Int → Int × Bool
  | x :: y :: _ => (256 * x + y, true)
  | _ => (0, false)

set_option maxHeartbeats 400000 in
theorem size_any {base g : Nat} {v : Value} {bs : List Int} {d : Bool} (w : World) (h : Rd w base g v bs d) (hby : Byt bs) (hl : bs.length ≤ 140737488355320) :
    Calls Try.prog 42 #[.pointer (some ⟨g, 0, none⟩)] w fun e w' => e = .returned (.tuple #[.int .i64 (sz bs).1, .bool (sz bs).2]) ∧ Below w.heap.size w w' := by
  obtain ⟨hb, hR, hg⟩ := h
  obtain ⟨A0, c0, rfl, hlc, hC⟩ := Kd.R_reads hR
  have hc : w.cell? ⟨g, 0, none⟩ = some (.slice A0 bs.length c0) := (blk_cell hb 0).trans rfl
  clear hb hR
  obtain ⟨n, hn⟩ : ∃ n, n = bs.length := ⟨_, rfl⟩
  rw [← hn] at hc hC hlc
  have Hn := Aside0.mk hn
  clear hn
  by_cases h2 : n < 2
  · have hs : sz bs = (0, false) := by
      have hn := Hn.out
      match bs, hn with
      | [], _ => rfl
      | [x], _ => rfl
      | x :: y :: ys, hn => simp at hn; omega
    clear hC
    rw [hs]
    clear hs
    go_enter Try.func42, Try.ntmps42
    go_wp2_with fail
    refine (take2_short _ h2).mono ?_
    rintro e w' ⟨rfl, rfl⟩
    go_wp2_with fail
    go_ret2
    exact ⟨rfl, Below.refl _ _⟩
  · obtain ⟨x, y, ys, hbs⟩ : ∃ x y ys, bs = x :: y :: ys := by
      have hn := Hn.out
      match bs, hn with
      | [], hn => simp at hn; omega
      | [x], hn => simp at hn; omega
      | x :: y :: ys, _ => exact ⟨x, y, ys, rfl⟩
    subst hbs
    have hx := hby x (by simp)
    have hy := hby y (by simp)
    have Hl := Aside0.mk hl
    have Hc := Aside0.mk hC
    have Hlc := Aside0.mk hlc
    clear hby hl hlc hC
    have hs : sz (x :: y :: ys) = (256 * x + y, true) := rfl
    rw [hs]
    clear hs
    obtain ⟨m, hm⟩ : ∃ m, m = 256 * x + y := ⟨_, rfl⟩
    rw [← hm]
    have hm0 : 0 ≤ m := by omega
    have hm1 : m ≤ 65535 := by omega
    have Hm := Aside0.mk hm
    clear hm
    go_enter Try.func42, Try.ntmps42
    go_wp2_with fail
    refine (take2_long _ Hc.out (by have := Hl.out; simp at this; omega) Hlc.out hx hy).mono ?_
    rintro e w' ⟨v, rfl, hv, hb⟩
    rw [← Hm.out]
    have HB := Aside0.mk hb
    clear hv hb
    go_wp2_with fail
    go_ret2
    exact ⟨rfl, HB.out⟩

set_option maxHeartbeats 400000 in
theorem first_any {base g : Nat} {v : Value} {bs : List Int} {d : Bool} (w : World) (h : Rd w base g v bs d) (m : Nat) (hm : m ≤ bs.length) (hl : bs.length ≤ 140737488355320) :
    Calls Try.prog 43 #[.pointer (some ⟨g, 0, none⟩), .int .i64 m] w fun e w' => ∃ u v', e = .returned u ∧ Rd w' base g v' (bs.drop m) d ∧ (Kd.int .u8).R 5 w' w.heap.size (fun k => ¬ Fv g v' k) u (bs.take m) ∧ (∀ k, v'.ownBlock = some k → w.heap.size ≤ k) ∧ Below base w w' ∧ Kept w w' (fun k => k = g) := by
  have H := Aside0.mk h
  obtain ⟨hb, hR, hg⟩ := h
  obtain ⟨A0, c0, rfl, hlc, hC⟩ := Kd.R_reads hR
  have hlt := blk_lt hb
  obtain ⟨hto, hCt⟩ := cut_bytes_to hC hlc m hm
  obtain ⟨A', hfrom, hCf⟩ := cut_bytes_from hC hlc m hm
  have Hb := Aside0.mk hb
  have Ht := Aside0.mk hCt
  have Hf := Aside0.mk hCf
  clear hb hR hC hCt hCf
  obtain ⟨n, hn⟩ : ∃ n, n = bs.length := ⟨_, rfl⟩
  have hlt1 : (bs.take m).length = m := by rw [List.length_take]; omega
  have hlt2 : (bs.drop m).length = n - m := by rw [List.length_drop]; omega
  rw [hlt1] at hto Ht
  rw [hlt2] at hfrom Hf
  rw [← hn] at Hb hto hfrom H
  have hc : w.cell? ⟨g, 0, none⟩ = some (.slice A0 n c0) := (blk_cell Hb.out 0).trans rfl
  have hmn : m ≤ n := by omega
  have hnc : n ≤ c0 := by omega
  have hl2 : n ≤ 140737488355320 := by omega
  have Hn := Aside0.mk hn
  clear hn hm hlc hl
  have Hl1 := Aside0.mk hlt1
  have Hl2 := Aside0.mk hlt2
  clear hlt1 hlt2
  go_enter Try.func43, Try.ntmps43
  go_wp2_with fail
  refine (clone_any _ Ht.out (by rw [Hl1.out]; omega)).mono ?_
  rintro e w1 ⟨u, rfl, hu, hb1⟩
  obtain ⟨Au, cu, rfl⟩ := Kd.R_slice hu
  rw [Hl1.out] at hu ⊢
  have HU := Aside0.mk hu
  have HB1 := Aside0.mk hb1
  clear hu hb1
  have Hb2 := Aside0.mk ((HB1.out.block g hlt).trans Hb.out)
  have hc1 : w1.cell? ⟨g, 0, none⟩ = some (.slice A0 n c0) := (blk_cell Hb2.out 0).trans rfl
  go_wp2_with fail
  refine (clone_any _ (Kd.C_below Hf.out HB1.out) (by rw [Hl2.out]; omega)).mono ?_
  rintro e w2 ⟨v2, rfl, hv, hb2⟩
  obtain ⟨Av, cv, rfl⟩ := Kd.R_slice hv
  rw [Hl2.out] at hv ⊢
  have HV := Aside0.mk hv
  have HB2 := Aside0.mk hb2
  clear hv hb2
  have Hb3 := Aside0.mk ((HB2.out.block g (by have := HB1.out.size; omega)).trans Hb2.out)
  have hc2 : w2.cell? ⟨g, 0, none⟩ = some (.slice A0 n c0) := (blk_cell Hb3.out 0).trans rfl
  have hf2 := blk_frozen Hb3.out 0
  go_wp2_with fail
  go_ret
  have hs1 := HB1.out.size
  have hnew : ∀ k, (Value.slice Av (n - m) cv).ownBlock = some k → w1.heap.size ≤ k := fun k hk => by
    obtain ⟨inner, ho⟩ := Kd.R_own HV.out
    exact own_base ho k hk
  refine ⟨_, .slice Av (n - m) cv, rfl, ⟨blk_set Hb3.out 0 _, ?_, hg⟩, ?_, ?_, ?_, ?_⟩
  · have := Kd.R_mono (Kd.R_bound HV.out) (ok' := fun k => k ≠ g) (fun k hk => by have := hk.2.1; omega)
    exact Kd.R_lower (Kd.R_far (p := ⟨g, 0, none⟩) this (fun k hk => hk) _) (by omega)
  · have h3 : (Kd.int .u8).R 5 w2 w.heap.size (fun k => ¬ Fv g (.slice Av (n - m) cv) k) (.slice Au m cu) (bs.take m) := by
      have h4 := Kd.R_bound HU.out
      refine Kd.R_mono (Kd.R_below h4 HB2.out) fun k hk => ?_
      rintro (rfl | hk2)
      · have := hk.2.1; omega
      · have := hnew k hk2
        have := hk.2.2.1
        omega
    exact Kd.R_far (p := ⟨g, 0, none⟩) h3 (fun k hk => fun e => hk (.inl e)) _
  · intro k hk
    have := hnew k hk
    omega
  · exact (below_then (HB1.out.mono (by omega)) (by omega) HB2.out).setCell hg _
  · exact Kept.setCell (S := fun k => k = g) (p := ⟨g, 0, none⟩) ((Kept.of_below HB1.out _).below HB2.out) (.inl rfl) _
end Go.Proofs.Ytgblihndkhiddaa.Fr
