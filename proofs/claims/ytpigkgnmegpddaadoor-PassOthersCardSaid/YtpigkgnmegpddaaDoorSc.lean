/-
The words of all rounds: row.
-/
import Derived.Test.YtpigkgnmegpddaaDoorSb
import Derived.BigRegion
namespace Go.Proofs.YtpigkgnmegpddaaDoor.Sh
set_option linter.unusedVariables false
set_option linter.unusedSimpArgs false
open Go.RowKit Go.Proofs.YtpigkgnmegpddaaDoorW.PrintWords Go.Proofs.YtpigkgnmegpddaaDoorW.PrintLast Go.Proofs.YtpigkgnmegpddaaDoorW.PrintMore

def v32 (ws : List Wd) : Array Value := (ws.map (fun x => Value.int .u32 (num x))).toArray
def v8 (l : List Int) : Array Value := (l.map (Value.int .u8)).toArray
theorem v32_get {ws : List Wd} {i : Nat} (h : i < ws.length) : (v32 ws)[i]? = some (.int .u32 (num (ws.getD i 0))) := by
  simp [v32, List.getD_eq_getElem?_getD, List.getElem?_eq_getElem h, h]
theorem v8_get {l : List Int} {i : Nat} (h : i < l.length) : (v8 l)[i]? = some (.int .u8 (l.getD i 0)) := by
  simp [v8, List.getD_eq_getElem?_getD, List.getElem?_eq_getElem h, h]
theorem v32_set (ws : List Wd) (i : Nat) (x : Wd) : (v32 ws).setIfInBounds i (.int .u32 (num x)) = v32 (ws.set i x) := by
  apply Array.toList_inj.1
  simp [v32, List.map_set]
/-- A block of words. -/
def B32 (W : World) (g : Nat) (t : TypeId) (ws : List Wd) : Prop := W.heap[g]? = some (.cells (v32 ws) t (0, 0))
def B8 (W : World) (g : Nat) (t : TypeId) (l : List Int) : Prop := W.heap[g]? = some (.cells (v8 l) t (0, 0))
theorem B32.get {W : World} {g : Nat} {t : TypeId} {ws : List Wd} (h : B32 W g t ws) (i : Nat) (hi : i < ws.length) : W.cell? ⟨g, i, none⟩ = some (.int .u32 (num (ws.getD i 0))) := (blk_cell h i).trans (v32_get hi)
theorem B32.fz {W : World} {g : Nat} {t : TypeId} {ws : List Wd} (h : B32 W g t ws) (i : Nat) : W.frozen? ⟨g, i, none⟩ = false := blk_frozen h i
theorem B32.set {W : World} {g : Nat} {t : TypeId} {ws : List Wd} (h : B32 W g t ws) (i : Nat) (x : Wd) : B32 (W.setCell ⟨g, i, none⟩ (.int .u32 (num x))) g t (ws.set i x) := by
  unfold B32
  rw [blk_set h i _, v32_set]
theorem B8.get {W : World} {g : Nat} {t : TypeId} {l : List Int} (h : B8 W g t l) (i : Nat) (hi : i < l.length) : W.cell? ⟨g, i, none⟩ = some (.int .u8 (l.getD i 0)) := (blk_cell h i).trans (v8_get hi)

/-- The memory while row works. -/
structure Rw (w wr : World) (l : List Int) (g1 g2 g3 : Nat) (ws : List Wd) : Prop where
  b1 : B8 wr g1 24 l
  b2 : B32 wr g2 85 (List.replicate 64 0)
  b3 : B32 wr g3 85 ws
  h2 : w.heap.size ≤ g2
  h3 : w.heap.size ≤ g3
  n1 : g1 ≠ g3
  n2 : g2 ≠ g3
  len : ws.length = 64
  bel : Below w.heap.size w wr
theorem Rw.set {w wr : World} {l : List Int} {g1 g2 g3 : Nat} {ws : List Wd} (h : Rw w wr l g1 g2 g3 ws) (i : Nat) (x : Wd) : Rw w (wr.setCell ⟨g3, i, none⟩ (.int .u32 (num x))) l g1 g2 g3 (ws.set i x) :=
  ⟨blk_far (p := ⟨g3, i, none⟩) h.b1 h.n1 _, blk_far (p := ⟨g3, i, none⟩) h.b2 h.n2 _, h.b3.set i x, h.h2, h.h3, h.n1, h.n2, by rw [List.length_set, h.len], h.bel.setCell (p := ⟨g3, i, none⟩) h.h3 _⟩
theorem Rw.drew {w wr : World} {l : List Int} {g1 g2 g3 : Nat} {ws : List Wd} (h : Rw w wr l g1 g2 g3 ws) : Rw w wr.drew l g1 g2 g3 ws :=
  ⟨h.b1, h.b2, h.b3, h.h2, h.h3, h.n1, h.n2, h.len, below_drew h.bel⟩
theorem Rw.below {w wr w' : World} {l : List Int} {g1 g2 g3 : Nat} {ws : List Wd} (h : Rw w wr l g1 g2 g3 ws) (hb : Below wr.heap.size wr w') : Rw w w' l g1 g2 g3 ws :=
  ⟨(hb.block g1 (blk_lt h.b1)).trans h.b1, (hb.block g2 (blk_lt h.b2)).trans h.b2, (hb.block g3 (blk_lt h.b3)).trans h.b3, h.h2, h.h3, h.n1, h.n2, h.len, h.bel.trans (hb.mono h.bel.size)⟩
/-- A word of which k bytes are read. -/
def part (l : List Int) (i : Nat) : Nat → Wd
  | 0 => 0
  | k + 1 => part l i k <<< 8 ||| byt l (4 * i + k)
theorem part_word (l : List Int) (i : Nat) : part l i 4 = word l i := by
  simp only [part, word, Nat.add_zero, BitVec.shiftLeft_or_distrib, ← BitVec.shiftLeft_add, Nat.reduceAdd]
  have h0 : ∀ k : Nat, (0 : Wd) <<< k = 0 := fun k => by
    apply BitVec.eq_of_toNat_eq
    simp
  have h1 : ∀ x : Wd, 0 ||| x = x := fun x => BitVec.zero_or
  rw [h0, h1]
theorem shl8 (x : Wd) : (num x : Int) * (256 : Int) % (4294967296 : Int) = num (x <<< 8) := shl_mod x 8
/-- The j-th word of all rounds. -/
def S (l : List Int) (j : Nat) : Wd := (sched l 48).getD j 0
theorem sched_keep (l : List Int) (k m : Nat) (j : Nat) (h : j < 16 + k) : (sched l (k + m)).getD j 0 = (sched l k).getD j 0 := by
  induction m with
  | zero => rfl
  | succ m ih =>
    rw [← ih, ← Nat.add_assoc]
    simp only [sched, List.getD_eq_getElem?_getD]
    rw [List.getElem?_append_left (by rw [sched_length]; omega)]
theorem S_of (l : List Int) (k j : Nat) (hk : k ≤ 48) (h : j < 16 + k) : (sched l k).getD j 0 = S l j := by
  unfold S
  rw [show 48 = k + (48 - k) from by omega]
  exact (sched_keep l k (48 - k) j h).symm
theorem S_word (l : List Int) (j : Nat) (h : j < 16) : S l j = word l j := by
  rw [← S_of l 0 j (by omega) (by omega)]
  simp [sched, List.getD_eq_getElem?_getD, h]
theorem S_rec (l : List Int) (i : Nat) (h : 16 ≤ i) (h2 : i < 64) : S l i = S l (i - 16) + gam0 (S l (i - 15)) + S l (i - 7) + gam1 (S l (i - 2)) := by
  obtain ⟨k, rfl⟩ : ∃ k, i = 16 + k := ⟨i - 16, by omega⟩
  rw [← S_of l (k + 1) (16 + k) (by omega) (by omega)]
  rw [← S_of l k (16 + k - 16) (by omega) (by omega), ← S_of l k (16 + k - 15) (by omega) (by omega), ← S_of l k (16 + k - 7) (by omega) (by omega), ← S_of l k (16 + k - 2) (by omega) (by omega)]
  rw [show 16 + k - 16 = k from by omega, show 16 + k - 15 = k + 1 from by omega, show 16 + k - 7 = k + 9 from by omega, show 16 + k - 2 = k + 14 from by omega]
  rw [sched, List.getD_eq_getElem?_getD (i := 16 + k), List.getElem?_append_right (by rw [sched_length]; exact Nat.le_refl _), sched_length, Nat.sub_self]
  rfl
theorem num_byt (l : List Int) (j : Nat) (h : ∀ x ∈ l, 0 ≤ x ∧ x ≤ 255) : num (byt l j) = l.getD j 0 := by
  have hj : 0 ≤ l.getD j 0 ∧ l.getD j 0 ≤ 255 := by
    rw [List.getD_eq_getElem?_getD]
    rcases Nat.lt_or_ge j l.length with hj | hj
    · rw [List.getElem?_eq_getElem hj]
      exact h _ (List.getElem_mem _)
    · rw [List.getElem?_eq_none hj]
      simp
  unfold num byt
  rw [BitVec.toNat_ofNat, Nat.mod_eq_of_lt (by omega)]
  omega

/-- A block's cells, read as a row of numbers. -/
theorem C_of_ints {k : IntKind} {W : World} {g : Nat} {cs : Array Value} {t : TypeId} {fr : Nat × Nat} (hb : W.heap[g]? = some (.cells cs t fr)) (xs : List Int) (hl : xs.length ≤ 9223372036854775807)
    (h : cs.toList = xs.map (Value.int k)) : (Kd.int k).C W (some ⟨g, 0, none⟩) xs.length xs := by
  refine ⟨rfl, hl, fun _ => ⟨_, rfl, fun j p hj => ⟨[.int k p], rfl, rfl, fun i u hu => ?_⟩⟩⟩
  match i, hu with
  | 0, hu =>
    simp only [List.getElem?_cons_zero, Option.some.injEq] at hu
    subst hu
    have hc : cs[j]? = some (.int k p) := by
      rw [← Array.getElem?_toList, h, List.getElem?_map, hj]
      rfl
    rw [show (Kd.int k).sz = 1 from rfl, Nat.mul_one, Nat.add_zero, add_plain]
    simp [World.cell?, hb, hc]
theorem turned_two (x : Wd) (a b : Nat) (ha : 1 ≤ a ∧ a ≤ 31) (hb : 1 ≤ b ∧ b ≤ 31) {g : Nat} {t : TypeId} {fr : Nat × Nat} (W : World) (h : W.heap[g]? = some (.cells #[.int .i64 a, .int .i64 b] t fr)) :
    Calls Tryd.prog 51 #[.int .u32 (num x), .slice (some ⟨g, 0, none⟩) 2 2] W fun e w' => e = .returned (.int .u32 (num (rotr x a ^^^ rotr x b))) ∧ W = w' := by
  have h0 : xors x [a, b] = rotr x a ^^^ rotr x b := by
    show 0 ^^^ rotr x a ^^^ rotr x b = _
    rw [show (0 : Wd) ^^^ rotr x a = rotr x a from BitVec.zero_xor]
  rw [← h0]
  exact turned_any x [a, b] (by intro k hk; simp at hk; omega) W (C_of_ints h [(a : Int), (b : Int)] (by simp) rfl)
theorem turned_three (x : Wd) (a b c : Nat) (ha : 1 ≤ a ∧ a ≤ 31) (hb : 1 ≤ b ∧ b ≤ 31) (hc : 1 ≤ c ∧ c ≤ 31) {g : Nat} {t : TypeId} {fr : Nat × Nat} (W : World) (h : W.heap[g]? = some (.cells #[.int .i64 a, .int .i64 b, .int .i64 c] t fr)) :
    Calls Tryd.prog 51 #[.int .u32 (num x), .slice (some ⟨g, 0, none⟩) 3 3] W fun e w' => e = .returned (.int .u32 (num (rotr x a ^^^ rotr x b ^^^ rotr x c))) ∧ W = w' := by
  have h0 : xors x [a, b, c] = rotr x a ^^^ rotr x b ^^^ rotr x c := by
    show 0 ^^^ rotr x a ^^^ rotr x b ^^^ rotr x c = _
    rw [show (0 : Wd) ^^^ rotr x a = rotr x a from BitVec.zero_xor]
  rw [← h0]
  exact turned_any x [a, b, c] (by intro k hk; simp at hk; omega) W (C_of_ints h [(a : Int), (b : Int), (c : Int)] (by simp) rfl)

theorem shr8 (x : Wd) : (num x : Int) / (8 : Int) = num (x >>> 3) := shr_div x 3
theorem shr1024 (x : Wd) : (num x : Int) / (1024 : Int) = num (x >>> 10) := shr_div x 10
theorem gam0_num (x : Wd) : Go.bits .xor .u32 (num (rotr x 7 ^^^ rotr x 18)) (num x / (8 : Int)) = num (gam0 x) := by rw [shr8, bits_xor]; rfl
theorem gam1_num (x : Wd) : Go.bits .xor .u32 (num (rotr x 17 ^^^ rotr x 19)) (num x / (1024 : Int)) = num (gam1 x) := by rw [shr1024, bits_xor]; rfl

@[irreducible] def rows (l : List Int) : List Wd := sched l 48
theorem rows_length (l : List Int) : (rows l).length = 64 := by
  unfold rows
  rw [sched_length]
theorem rows_get (l : List Int) (j : Nat) : (rows l).getD j 0 = S l j := by
  unfold rows S
  rfl
theorem rows_ext {l : List Int} {ws : List Wd} (hl : ws.length = 64) (h : ∀ j, j < 64 → ws.getD j 0 = S l j) : ws = rows l := by
  apply List.ext_getElem
  · rw [hl, rows_length]
  · intro j h1 h2
    have h3 := h j (by omega)
    rw [← rows_get, List.getD_eq_getElem?_getD, List.getD_eq_getElem?_getD, List.getElem?_eq_getElem h1, List.getElem?_eq_getElem h2] at h3
    exact h3
theorem add2 (a b : Wd) : ((num a + num b : Int)) % (4294967296 : Int) = num (a + b) := by
  unfold num
  rw [BitVec.toNat_add]
  omega
theorem add4 (a b c d : Wd) : (num a + num b + num c + num d : Int) % (4294967296 : Int) = num (a + b + c + d) := by
  unfold num
  simp only [BitVec.toNat_add]
  omega
theorem v32_size (ws : List Wd) : (v32 ws).size = ws.length := by simp [v32]
theorem v8_size (l : List Int) : (v8 l).size = l.length := by simp [v8]
theorem v32_one (ws : List Wd) : (v32 ws).all (·.oneCell') = true := by
  rw [Array.all_eq_true_iff_forall_mem]
  intro x hx
  simp [v32] at hx
  obtain ⟨y, _, rfl⟩ := hx
  rfl
theorem v8_one (l : List Int) : (v8 l).all (·.oneCell') = true := by
  rw [Array.all_eq_true_iff_forall_mem]
  intro x hx
  simp [v8] at hx
  obtain ⟨y, _, rfl⟩ := hx
  rfl
theorem info85 : (Tryd.prog.info? 85).map (·.size) = some 64 := by kernel_rfl
theorem size85 {ws : List Wd} (h : ws.length = 64) : (Tryd.prog.info? 85).map (·.size) = some (v32 ws).size := by rw [v32_size, h]; exact info85

set_option maxRecDepth 100000 in
set_option maxHeartbeats 1000000 in
theorem row_any (l : List Int) (hl : l.length = 64) (hby : ∀ x ∈ l, 0 ≤ x ∧ x ≤ 255) (w : World) :
    Calls Tryd.prog 50 #[.agg (v8 l)] w fun e w' => e = .returned (.agg (v32 (rows l))) ∧ Below w.heap.size w w' := by
  have hu24 := Tryd.underlying24
  have hu85 := Tryd.underlying85
  go_enter Tryd.func50, Tryd.ntmps50
  go_wp2_with (first | ((with_reducible refine gate_dst (N := 1) rfl ?_); refine box_event ?hg (N := 1) ?hd (cs := v8 l) (t := 24) ?hr ?_; (case hd => rfl); (case hg => rfl); (case hr => first | (go_simp; done) | (go_simp; rfl)); intro g1 hg_ w1 hbox_ hb_; have HL1 := Aside0.mk hbox_; have HB1 := Aside0.mk hb_;clear hg_ hbox_ hb_) | ((with_reducible refine gate_dst (N := 2) rfl ?_); refine box_event ?hg (N := 2) ?hd (cs := v32 (List.replicate 64 0)) (t := 85) ?hr ?_; (case hd => rfl); (case hg => rfl); (case hr => first | (go_simp; done) | (go_simp; rfl)); intro g2 hg_ w2 hbox_ hb_; have HR2 := Aside0.mk hbox_; have HL2 := Aside0.mk (blk_below HL1.out hb_); have HB2 := Aside0.mk (below_step HB1.out hb_); have hg2 := Aside0.mk (show w.heap.size ≤ g2 from by rw [hg_]; exact HB1.out.size);clear hg_ hbox_ hb_) | ((with_reducible refine gate_dst (N := 3) rfl ?_); refine box_event ?hg (N := 3) ?hd (cs := v32 (List.replicate 64 0)) (t := 85) ?hr ?_; (case hd => rfl); (case hg => rfl); (case hr => first | (go_simp; done) | (go_simp; rfl)); intro g3 hg_ w3 hbox_ hb_; have HW3 := Aside0.mk hbox_; have HL3 := Aside0.mk (blk_below HL2.out hb_); have HR3 := Aside0.mk (blk_below HR2.out hb_); have HB3 := Aside0.mk (below_step HB2.out hb_); have hg3 := Aside0.mk (show w.heap.size ≤ g3 from by rw [hg_]; exact HB2.out.size); have hn13 := Aside0.mk (show g1 ≠ g3 from by rw [hg_]; exact Nat.ne_of_lt (blk_lt HL2.out)); have hn23 := Aside0.mk (show g2 ≠ g3 from by rw [hg_]; exact Nat.ne_of_lt (blk_lt HR2.out));clear hg_ hbox_ hb_))
  have HS : Aside0 (Rw w w3 l g1 g2 g3 (List.replicate 64 0)) := ⟨HL3.out, HR3.out, HW3.out, hg2.out, hg3.out, hn13.out, hn23.out, by simp, HB3.out⟩
  clear HL1 HL2 HL3 HR2 HR3 HW3 HB1 HB2 HB3 hg2 hg3 hn13 hn23
  go_loopg [9] 16 (fun gk iv wr => ∃ (i : Nat) (ws : List Wd), i + gk = 16 ∧ iv = .int .i64 i ∧ Aside0 (Rw w wr l g1 g2 g3 ws) ∧ Aside0 ((∀ j, j < i → ws.getD j 0 = word l j) ∧ ∀ j, i ≤ j → ws.getD j 0 = 0))
  case atStart => exact ⟨0, _, by omega, rfl, HS, ⟨fun j h => by omega, fun j _ => by
    rw [List.getD_eq_getElem?_getD, List.getElem?_replicate]
    split <;> rfl⟩⟩
  case round =>
    clear HS
    obtain ⟨i, ws, hi, rfl, HS, HV⟩ := hrel
    by_cases hlt : i < 16
    · obtain ⟨gq, rfl⟩ : ∃ gq, gk = gq + 1 := ⟨gk - 1, by omega⟩
      obtain ⟨wo, hwo⟩ : ∃ wo, wo = wr := ⟨_, rfl⟩
      subst hwo
      go_wp2_with fail
      go_loopg [12] 4 (fun gk iv wr => ∃ (k : Nat) (ws : List Wd), k + gk = 4 ∧ iv = .int .i64 k ∧ Aside0 (Rw w wr l g1 g2 g3 ws) ∧ Aside0 ((∀ j, j < i → ws.getD j 0 = word l j) ∧ (∀ j, i + 1 ≤ j → ws.getD j 0 = 0) ∧ ws.getD i 0 = part l i k))
      case atStart => exact ⟨0, ws, by omega, rfl, HS, ⟨HV.out.1, fun j hj => HV.out.2 j (by omega), HV.out.2 i (Nat.le_refl _)⟩⟩
      case round =>
        clear HS HV
        obtain ⟨k, ws, hk, rfl, HS, HV⟩ := hrel
        by_cases hlt2 : k < 4
        · obtain ⟨gp, rfl⟩ : ∃ gp, gk = gp + 1 := ⟨gk - 1, by omega⟩
          have hx1 := HS.out.b3.get i (by rw [HS.out.len]; omega)
          have hfz := HS.out.b3.fz i
          have hx2 := HS.out.b1.get (4 * i + k) (by rw [hl]; omega)
          rw [← num_byt l _ hby] at hx2
          rw [HV.out.2.2] at hx1
          have q1 : (0 : Int) ≤ (i : Int) := by omega
          have q2 : (i : Int) < 64 := by omega
          have q3 : (0 : Int) ≤ ((4 * i + k : Nat) : Int) := by omega
          have q4 : ((4 * i + k : Nat) : Int) < 64 := by omega
          have e1 : IntKind.i64.wrap (4 * (i : Int)) = 4 * (i : Int) := IntWalk.i64_in _ (by omega)
          have e2 : IntKind.i64.wrap (4 * (i : Int) + (k : Int)) = ((4 * i + k : Nat) : Int) := by rw [IntWalk.i64_in _ (by omega)]; omega
          have e3 : IntKind.u32.wrap (num (byt l (4 * i + k))) = num (byt l (4 * i + k)) := wrap_num _
          go_wp2_with fail
          go_region
          have E : Go.bits .or .u32 (num (part l i k) * 256 % 4294967296) (num (byt l (4 * i + k))) = num (part l i k <<< 8 ||| byt l (4 * i + k)) := by rw [shl8, bits_or]
          rw [E]
          clear E
          have HS2 := Aside0.mk ((HS.out.set i (part l i k <<< 8 ||| byt l (4 * i + k))).drew)
          have HV2 : Aside0 ((∀ j, j < i → (ws.set i (part l i k <<< 8 ||| byt l (4 * i + k))).getD j 0 = word l j) ∧ (∀ j, i + 1 ≤ j → (ws.set i (part l i k <<< 8 ||| byt l (4 * i + k))).getD j 0 = 0) ∧ (ws.set i (part l i k <<< 8 ||| byt l (4 * i + k))).getD i 0 = part l i (k + 1)) := ⟨by
            have hlen := HS.out.len
            refine ⟨fun j hj => ?_, fun j hj => ?_, ?_⟩
            · rw [List.getD_eq_getElem?_getD, List.getElem?_set_ne (by omega), ← List.getD_eq_getElem?_getD]
              exact HV.out.1 j hj
            · rw [List.getD_eq_getElem?_getD, List.getElem?_set_ne (by omega), ← List.getD_eq_getElem?_getD]
              exact HV.out.2.1 j hj
            · rw [List.getD_eq_getElem?_getD, List.getElem?_set_self (by omega)]
              rfl⟩
          clear HS HV e1 e2 e3 hx1 hx2 hfz q3 q4
          go_wp2_with fail
          go_roundg gp
          case measure => omega
          case rel => exact ⟨k + 1, _, by omega, by go_num, HS2, HV2⟩
        · have hk4 : k = 4 := by omega
          subst hk4
          go_wp2_with fail
          go_roundg gq
          case measure => omega
          case rel =>
            refine ⟨i + 1, ws, by omega, by go_num, HS, ⟨fun j hj => ?_, fun j hj => HV.out.2.1 j hj⟩⟩
            rcases Nat.lt_or_ge j i with h | h
            · exact HV.out.1 j h
            · obtain rfl : j = i := by omega
              rw [HV.out.2.2, part_word]
    · have hi16 : i = 16 := by omega
      subst hi16
      go_wp2_with fail
      go_loopg [6] 48 (fun gk iv wr => ∃ (i : Nat) (ws : List Wd), i + gk = 64 ∧ 16 ≤ i ∧ iv = .int .i64 i ∧ Aside0 (Rw w wr l g1 g2 g3 ws) ∧ Aside0 (∀ j, j < i → ws.getD j 0 = S l j))
      case atStart => exact ⟨16, ws, by omega, by omega, rfl, HS, ⟨fun j hj => by rw [S_word l j (by omega)]; exact HV.out.1 j (by omega)⟩⟩
      case round =>
        clear HS HV
        obtain ⟨i, ws, hi, hi16, rfl, HS, HV⟩ := hrel
        by_cases hlt2 : i < 64
        · obtain ⟨gp, rfl⟩ : ∃ gp, gk = gp + 1 := ⟨gk - 1, by omega⟩
          obtain ⟨wo, hwo⟩ : ∃ wo, wo = wr := ⟨_, rfl⟩
          subst hwo
          have hx : ∀ j, j < i → wo.cell? ⟨g3, j, none⟩ = some (.int .u32 (num (S l j))) := fun j hj => by
            rw [← HV.out j hj]
            exact HS.out.b3.get j (by rw [HS.out.len]; omega)
          have Hx := Aside0.mk hx
          have Hrec := Aside0.mk (S_rec l i hi16 hlt2)
          obtain ⟨j15, hj15⟩ : ∃ j, j = i - 15 := ⟨_, rfl⟩
          obtain ⟨j2, hj2⟩ : ∃ j, j = i - 2 := ⟨_, rfl⟩
          obtain ⟨j16, hj16⟩ : ∃ j, j = i - 16 := ⟨_, rfl⟩
          obtain ⟨j7, hj7⟩ : ∃ j, j = i - 7 := ⟨_, rfl⟩
          rw [← hj15, ← hj2, ← hj16, ← hj7] at Hrec
          have hx15 := hx j15 (by omega)
          have hx2 := hx j2 (by omega)
          have hx16 := hx j16 (by omega)
          have hx7 := hx j7 (by omega)
          clear hx
          have hlc := World.block_lt_of_cell? _ _ hx15
          have p15 : (0 : Int) ≤ (j15 : Int) ∧ (j15 : Int) < 64 := by omega
          have p2 : (0 : Int) ≤ (j2 : Int) ∧ (j2 : Int) < 64 := by omega
          have p16 : (0 : Int) ≤ (j16 : Int) ∧ (j16 : Int) < 64 := by omega
          have p7 : (0 : Int) ≤ (j7 : Int) ∧ (j7 : Int) < 64 := by omega
          obtain ⟨p15a, p15b⟩ := p15
          obtain ⟨p2a, p2b⟩ := p2
          obtain ⟨p16a, p16b⟩ := p16
          obtain ⟨p7a, p7b⟩ := p7
          have e15 : IntKind.i64.wrap ((i : Int) - 15) = (j15 : Int) := by rw [IntWalk.i64_in _ (by omega)]; omega
          have e2 : IntKind.i64.wrap ((i : Int) - 2) = (j2 : Int) := by rw [IntWalk.i64_in _ (by omega)]; omega
          have e16 : IntKind.i64.wrap ((i : Int) - 16) = (j16 : Int) := by rw [IntWalk.i64_in _ (by omega)]; omega
          have e7 : IntKind.i64.wrap ((i : Int) - 7) = (j7 : Int) := by rw [IntWalk.i64_in _ (by omega)]; omega
          have h2i : j2 < i := by omega
          have h16i : j16 < i := by omega
          have h7i : j7 < i := by omega
          clear hj15 hj2 hj16 hj7
          obtain ⟨s15, hs15⟩ : ∃ s, s = S l j15 := ⟨_, rfl⟩
          obtain ⟨s2, hs2⟩ : ∃ s, s = S l j2 := ⟨_, rfl⟩
          obtain ⟨s16, hs16⟩ : ∃ s, s = S l j16 := ⟨_, rfl⟩
          obtain ⟨s7, hs7⟩ : ∃ s, s = S l j7 := ⟨_, rfl⟩
          rw [← hs15] at hx15 Hrec
          rw [← hs2] at hx2 Hrec
          rw [← hs16] at hx16 Hrec
          rw [← hs7] at hx7 Hrec
          clear hs15 hs2 hs16 hs7
          go_wp2_with fail
          go_region_held3 (fun w' => w'.cell? ⟨g3, j15, none⟩ = some (.int .u32 (num s15))) (first | go_keep) ((first | (go_at_call 51; refine (turned_two s15 7 18 (by decide) (by decide) _ (by exact heap_alloc_new wo _)).mono ?_; rintro e w' ⟨rfl, rfl⟩)))
          rw [gam0_num]
          have HS4 := Aside0.mk ((HS.out.below (below_alloc (Below.refl _ _) (.cells #[.int .i64 7, .int .i64 18] 3))).drew)
          obtain ⟨w4, hw4⟩ : ∃ w4, w4 = (wo.alloc (.cells #[.int .i64 7, .int .i64 18] 3)).drew := ⟨_, rfl⟩
          rw [← hw4] at HS4 ⊢
          clear hw4
          have hx' : ∀ j, j < i → w4.cell? ⟨g3, j, none⟩ = some (.int .u32 (num (S l j))) := fun j hj => by
            rw [← HV.out j hj]
            exact HS4.out.b3.get j (by rw [HS4.out.len]; omega)
          replace hx2 : w4.cell? ⟨g3, j2, none⟩ = some (.int .u32 (num s2)) := (hx' j2 h2i).trans ((Hx.out j2 h2i).symm.trans hx2)
          replace hx16 : w4.cell? ⟨g3, j16, none⟩ = some (.int .u32 (num s16)) := (hx' j16 h16i).trans ((Hx.out j16 h16i).symm.trans hx16)
          replace hx7 : w4.cell? ⟨g3, j7, none⟩ = some (.int .u32 (num s7)) := (hx' j7 h7i).trans ((Hx.out j7 h7i).symm.trans hx7)
          have Hx4 := Aside0.mk hx'
          clear hx' hx15 HS Hx hlc
          have hlc := World.block_lt_of_cell? _ _ hx2
          go_wp2_with fail
          go_region_held3 (fun w' => w'.cell? ⟨g3, j2, none⟩ = some (.int .u32 (num s2))) (first | go_keep) ((first | (go_at_call 51; refine (turned_two s2 17 19 (by decide) (by decide) _ (by exact heap_alloc_new w4 _)).mono ?_; rintro e w' ⟨rfl, rfl⟩)))
          rw [gam1_num]
          have HS5 := Aside0.mk ((HS4.out.below (below_alloc (Below.refl _ _) (.cells #[.int .i64 17, .int .i64 19] 3))).drew)
          obtain ⟨w5, hw5⟩ : ∃ w5, w5 = (w4.alloc (.cells #[.int .i64 17, .int .i64 19] 3)).drew := ⟨_, rfl⟩
          rw [← hw5] at HS5 ⊢
          clear hw5
          have hx' : ∀ j, j < i → w5.cell? ⟨g3, j, none⟩ = some (.int .u32 (num (S l j))) := fun j hj => by
            rw [← HV.out j hj]
            exact HS5.out.b3.get j (by rw [HS5.out.len]; omega)
          replace hx16 : w5.cell? ⟨g3, j16, none⟩ = some (.int .u32 (num s16)) := (hx' j16 h16i).trans ((Hx4.out j16 h16i).symm.trans hx16)
          replace hx7 : w5.cell? ⟨g3, j7, none⟩ = some (.int .u32 (num s7)) := (hx' j7 h7i).trans ((Hx4.out j7 h7i).symm.trans hx7)
          have hxi := HS5.out.b3.get i (by rw [HS5.out.len]; omega)
          have hfz := HS5.out.b3.fz i
          clear hx' hx2 HS4 Hx4 hlc
          have r1 : (0 : Int) ≤ (i : Int) := by omega
          have r2 : (i : Int) < 64 := by omega
          go_wp2_with fail
          go_region
          rw [add4, ← Hrec.out]
          have HS6 := Aside0.mk ((HS5.out.set i (S l i)).drew)
          have HV6 : Aside0 (∀ j, j < i + 1 → (ws.set i (S l i)).getD j 0 = S l j) := ⟨fun j hj => by
            have hlen := HS5.out.len
            rcases Nat.lt_or_ge j i with h | h
            · rw [List.getD_eq_getElem?_getD, List.getElem?_set_ne (by omega), ← List.getD_eq_getElem?_getD]
              exact HV.out j h
            · obtain rfl : j = i := by omega
              rw [List.getD_eq_getElem?_getD, List.getElem?_set_self (by omega), Option.getD_some]⟩
          clear HS5 HV hxi hfz hx16 hx7 e15 e2 e16 e7 p15a p15b p2a p2b p16a p16b p7a p7b Hrec
          go_wp2_with fail
          go_roundg gp
          case measure => omega
          case rel => exact ⟨i + 1, _, by omega, by omega, by go_num, HS6, HV6⟩
        · have hi64 : i = 64 := by omega
          subst hi64
          have hws : ws = rows l := rows_ext HS.out.len HV.out
          subst hws
          go_wp2_with (first | ((with_reducible refine gate_dst (N := 74) rfl ?_); refine wpList_load_row rfl 85 (.tmp 3) rfl g3 rfl 85 (v32 (rows l)) (0, 0) _ HS.out.b3 hu85 rfl (size85 (by rw [rows_length])) ?_) | ((with_reducible refine gate_store (t := 85) (p := 2) rfl ?_); refine store_row ?hg (ty := 85) (p := 2) (v := ?vr_1) ?ho ?hd (g := g2) (t := 85) (old := v32 (List.replicate 64 0)) (cells := v32 (rows l)) ?hx ?hy HS.out.b2 (size85 (by rw [rows_length])) (by rw [v32_size, v32_size, rows_length, List.length_replicate]) (v32_one _) ?_; (case hd => rfl); (case hg => rfl); (case ho => rfl); (case hx => rfl); (case hy => rfl); intro w9 hbox_ hk_ hb_; have HR9 := Aside0.mk hbox_; have HB9 := Aside0.mk (HS.out.bel.trans (hb_.mono HS.out.h2));clear hbox_ hk_ hb_))
          refine bodyPost_ret (results_cell_row rfl _ _ g2 85 (v32 (rows l)) (0, 0) _ rfl HR9.out Tryd.underlying85 rfl (size85 (by rw [rows_length]))) rfl ?_
          exact ⟨rfl, HB9.out⟩
end Go.Proofs.YtpigkgnmegpddaaDoor.Sh
