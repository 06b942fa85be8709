/-
Numbers taken, what is opened, and the plain laws of it.
-/
import Derived.Test.YtpigkgnmegpddaaDoorPq
namespace Go.Proofs.YtpigkgnmegpddaaDoor.Sh
set_option linter.unusedVariables false
set_option linter.unusedSimpArgs false
open Go.Proofs.YtpigkgnmegpddaaDoor.PPassTickets Go.RowKit Go.Proofs.YtpigkgnmegpddaaDoorW.PrintWords Go.Proofs.YtpigkgnmegpddaaDoorW.PrintLast Go.Proofs.YtpigkgnmegpddaaDoorW.PrintMore

theorem num_l0 (b : List Int) (hb : Byt b) (h8 : b.length ≤ 8) : ∀ (j k m : Nat), k + j = b.length → m < 256 ^ k → tiltyardref01_Number.l0 (j + 1) b m k = some ((m * 256 ^ j + numb (b.drop k) : Nat) : Int) := by
  intro j
  induction j with
  | zero =>
    intro k m hk hm
    rw [tiltyardref01_Number.l0, if_neg (by omega), List.drop_eq_nil_of_le (by omega)]
    simp [numb]
  | succ j ih =>
    intro k m hk hm
    have hkl : k < b.length := by omega
    obtain ⟨x, hx⟩ : ∃ x, x = rd b (k : Int) := ⟨_, rfl⟩
    have hxb : 0 ≤ x ∧ x ≤ 255 := by rw [hx, rd, Int.toNat_natCast]; exact hb.getD k
    have hpow : 256 ^ (k + 1) ≤ 256 ^ 8 := Nat.pow_le_pow_right (by decide) (by omega)
    have hm2 : m * 256 + x.toNat < 256 ^ (k + 1) := by rw [Nat.pow_succ]; omega
    have hlim : m * 256 + x.toNat < 18446744073709551616 := Nat.lt_of_lt_of_le hm2 hpow
    have h1 : IntKind.u64.wrap ((IntKind.u64.wrap ((m : Int) * 256)) + (IntKind.u64.wrap (rd b (k : Int)))) = ((m * 256 + x.toNat : Nat) : Int) := by
      rw [← hx]
      simp only [IntKind.wrap, IntKind.signed, IntKind.bits, Bool.false_and, Bool.false_eq_true, if_false]
      omega
    have h2 : b.drop k = x :: b.drop (k + 1) := by
      rw [List.drop_eq_getElem_cons hkl, hx, rd, Int.toNat_natCast, List.getD_eq_getElem?_getD, List.getElem?_eq_getElem hkl]
      rfl
    rw [tiltyardref01_Number.l0, if_pos (by omega), if_pos (by omega), h1, wrap64_small (by omega), show ((k : Int) + 1) = ((k + 1 : Nat) : Int) from by omega, ih (k + 1) _ (by omega) hm2, h2, numb_cons, List.length_drop, show b.length - (k + 1) = j from by omega, Nat.pow_succ, Nat.add_mul, Nat.mul_assoc, Nat.mul_comm 256, Nat.add_assoc]
theorem num_f (b : List Int) (hb : Byt b) (h8 : b.length ≤ 8) : tiltyardref01_Number.f (b.length + 1) b = some ((numb b : Nat) : Int) := by
  unfold tiltyardref01_Number.f
  have h := num_l0 b hb h8 b.length 0 0 (by omega) (by decide)
  rw [Nat.zero_mul, Nat.zero_add, List.drop_zero] at h
  exact h
/-- ref01.Number. -/
theorem number_any {A : Option Addr} {n c : Nat} {b : List Int} (w : World) (hC : (Kd.int .u8).C w A n b) (hc : n ≤ c) (hby : Byt b) (h8 : n ≤ 8) :
    Calls Tryd.prog 60 #[.slice A n c] w fun e w' => e = .returned (.int .u64 (numb b : Nat)) ∧ Drawn0 w w' := by
  obtain rfl := hC.1
  exact tiltyardref01_Number.calls _ A c b _ w hC hc (num_f b hby h8)
end Go.Proofs.YtpigkgnmegpddaaDoor.Sh
namespace Go.Proofs.YtpigkgnmegpddaaDoor.Sh
set_option linter.unusedVariables false
set_option linter.unusedSimpArgs false
open Go.RowKit Go.Proofs.YtpigkgnmegpddaaDoorW.PrintWords Go.Proofs.YtpigkgnmegpddaaDoorW.PrintLast Go.Proofs.YtpigkgnmegpddaaDoorW.PrintMore

theorem or_byte {a y : Nat} (ha : a < 72057594037927936) (hy : y < 256) : Go.bits .or .u64 ((a * 256 : Nat) : Int) (y : Int) = ((a * 256 + y : Nat) : Int) := by
  unfold Go.bits
  have h1 : (BitVec.ofInt 64 ((a * 256 : Nat) : Int) ||| BitVec.ofInt 64 (y : Int)).toNat = a * 256 + y := by
    rw [BitVec.toNat_or, BitVec.ofInt_natCast, BitVec.ofInt_natCast, BitVec.toNat_ofNat, BitVec.toNat_ofNat, Nat.mod_eq_of_lt (by omega), Nat.mod_eq_of_lt (by omega), show a * 256 = a <<< 8 from by rw [Nat.shiftLeft_eq], ← Nat.shiftLeft_add_eq_or_of_lt (by omega)]
  show IntKind.u64.wrap (((BitVec.ofInt 64 ((a * 256 : Nat) : Int) ||| BitVec.ofInt 64 (y : Int)).toNat : Nat) : Int) = _
  rw [h1]
  simp only [IntKind.wrap, IntKind.signed, IntKind.bits, Bool.false_and, Bool.false_eq_true, if_false]
  omega
theorem numb_take (b : List Int) (i : Nat) (hi : i < b.length) : numb (b.take (i + 1)) = numb (b.take i) * 256 + (b.getD i 0).toNat := by
  rw [List.take_succ_eq_append_getElem hi, numb_snoc, List.getD_eq_getElem?_getD, List.getElem?_eq_getElem hi]
  rfl
set_option maxRecDepth 100000 in
set_option maxHeartbeats 4000000 in
theorem take_any {A : Option Addr} {n c m : Nat} {b : List Int} (w : World) (hC : (Kd.int .u8).C w A n b) (hc : n ≤ c) (hby : Byt b) (h1 : 1 ≤ m) (h8 : m ≤ 8) (hmn : m ≤ n) (hn : n ≤ 1000) :
    Calls Tryd.prog 63 #[.slice A n c, .int .i64 m] w fun e w' => ∃ v, e = .returned (.tuple #[.int .u64 (numb (b.take m) : Nat), v, .bool true]) ∧ Own w' w.heap.size v (b.drop m) ∧ Below w.heap.size w w' := by
  obtain ⟨i5, hi5, hz5⟩ := info5
  have HC := Aside0.mk hC
  have Hby := Aside0.mk hby
  have Hn := Aside0.mk hC.1
  clear hC hby
  obtain ⟨ad, rfl⟩ := C_some HC.out (by omega)
  have hcut1 : ∀ W : World, (Instr.slice 27 (.slice (some ad) n c) none (some (.int .i64 (m : Int))) none).run Tryd.prog W = .ok (.slice (some ad) m c) W := fun W => by
    have := cut_to 27 5 .i64 Tryd.underlying27 hi5 (some ad) n c (m : Int) (by omega) (by omega) hc W
    rwa [Int.toNat_natCast] at this
  obtain ⟨A2, hcut2, HC2⟩ : ∃ A2, (∀ W : World, (Instr.slice 27 (.slice (some ad) n c) (some (.int .i64 (m : Int))) none none).run Tryd.prog W = .ok (.slice A2 (n - m) (c - m)) W) ∧ Aside0 ((Kd.int .u8).C w A2 (n - m) (b.drop m)) := by
    refine ⟨_, fun W => by
      have := cut_from 27 5 .i64 Tryd.underlying27 hi5 1 hz5 (some ad) n c (m : Int) (by omega) (by omega) W
      rwa [Int.toNat_natCast] at this, ⟨?_⟩⟩
    have h2 := Kd.C_drop (c := c) (m := m) (show (Kd.int .u8).C w (some ad) b.length b from by rw [Hn.out]; exact HC.out) (by rw [Hn.out]; exact hmn) (by rw [Hn.out]; exact hc)
    rw [List.length_drop, Hn.out] at h2
    exact h2
  have q1 : (1 : Int) ≤ (m : Int) := by omega
  have q8 : (m : Int) ≤ 8 := by omega
  have qn : (m : Int) ≤ (n : Int) := by omega
  go_enter Tryd.func63, Tryd.ntmps63
  go_wp2_with fail
  go_loopg [7, 26] m (fun gk xv iv wr => ∃ i : Nat, i + gk = m ∧ iv = .int .i64 i ∧ xv = .int .u64 (numb (b.take i) : Nat) ∧ w = wr)
  case atStart => exact ⟨0, by omega, rfl, rfl, rfl⟩
  case round =>
    obtain ⟨i, hi, rfl, rfl, rfl⟩ := hrel
    by_cases hlt : i < m
    · obtain ⟨gq, rfl⟩ : ∃ gq, gk = gq + 1 := ⟨gk - 1, by omega⟩
      have hx := C_cell HC.out rfl i (by omega)
      obtain ⟨x, hxe⟩ : ∃ x : Nat, b.getD i 0 = (x : Int) := ⟨(b.getD i 0).toNat, by have := (Hby.out.getD i).1; omega⟩
      have hx2 : x < 256 := by have := (Hby.out.getD i).2; omega
      rw [hxe] at hx
      obtain ⟨a, ha⟩ : ∃ a, a = numb (b.take i) := ⟨_, rfl⟩
      have hab : a < 72057594037927936 := by
        rw [ha]
        refine Nat.lt_of_lt_of_le (numb_lt (Hby.out.take i)) ?_
        rw [List.length_take, Hn.out, Nat.min_eq_left (by omega)]
        exact Nat.pow_le_pow_right (n := 256) (by decide) (show i ≤ 7 by omega)
      have Hnx : Aside0 (numb (b.take (i + 1)) = a * 256 + x) := ⟨by rw [numb_take b i (by rw [Hn.out]; omega), hxe, ha]; rfl⟩
      have hor : Go.bits .or .u64 ((a : Int) * 256) (x : Int) = ((a * 256 + x : Nat) : Int) := by have := or_byte hab hx2; rwa [Int.natCast_mul] at this
      rw [← ha]
      clear ha hxe
      have p1 : (0 : Int) ≤ (i : Int) := by omega
      have p2 : (0 : Int) ≤ (a : Int) * 256 := by omega
      have p3 : (a : Int) * 256 ≤ 18446744073709551615 := by omega
      go_wp2_with fail
      go_roundg gq
      case measure => omega
      case rel => exact ⟨i + 1, by omega, by go_num, by rw [Hnx.out]; first | rfl | (congr 1), rfl⟩
    · have him : i = m := by omega
      subst him
      go_wp2_with (first | ((with_reducible refine gate_dst (N := 37) rfl ?_); refine lit_none (w0 := w) (w.heap.size) ?hg (N := 37) ?hd ?hr (Below.refl _ _) (Nat.le_refl _) ?_; (case hd => rfl); (case hg => rfl); (case hr => first | (go_simp; done) | (go_simp; rfl)); intro v3 w3 ho_ hb_; have HO3 := Aside0.mk ho_; have HB3 := Aside0.mk hb_; clear ho_ hb_; ) | ((with_reducible refine gate_builtin (b := .append) (xs := #[.tmp 37, .tmp 40]) rfl ?_); at_builtin; refine append_row (w0 := w) rfl (.tmp 37) (.tmp 40) rfl (w.heap.size) (v3) ([]) (b.drop i) (A2) ((n - i)) ((c - i)) rfl rfl (HO3.out) ((Kd.C_below HC2.out HB3.out)) (HB3.out) (HB3.out.size) (by simp; omega) ?_; intro v4 w4 ho_ hb_; have HO4 := Aside0.mk ho_; have HB4 := Aside0.mk hb_; clear ho_ hb_; rw [List.nil_append] at HO4))
      go_ret3
      exact ⟨_, rfl, HO4.out, HB4.out⟩
end Go.Proofs.YtpigkgnmegpddaaDoor.Sh
namespace Go.Proofs.YtpigkgnmegpddaaDoor.Sh
set_option linter.unusedVariables false
set_option linter.unusedSimpArgs false
open Go.RowKit Go.Proofs.YtpigkgnmegpddaaDoorW.PrintWords Go.Proofs.YtpigkgnmegpddaaDoorW.PrintLast Go.Proofs.YtpigkgnmegpddaaDoorW.PrintMore

/-- Whether bytes are the tag by a key. -/
structure KeyFits (w : World) (K : Value) (ff : List Int → List Int → Bool) : Prop where
  fits : ∀ (W : World) (A A2 : Option Addr) (n c n2 c2 : Nat) (tg : List Int) (ps : List (List Int)), Below w.heap.size w W → Tab W → (Kd.int .u8).C W A n tg → n ≤ c → Byt tg → Rp (fun _ => False) W A2 n2 ps → (∀ p ∈ ps, Byt p) → (ps.map List.length).sum ≤ 1000000 →
    Calls Tryd.prog 37 #[K, .slice A n c, .slice A2 n2 c2] W fun e w' => e = .returned (.bool (ff tg ps.flatten)) ∧ Below W.heap.size W w'
theorem KeyFits.of {w : World} {g : Nat} {kb : List Int} (hk : Kk w g kb) (hl : kb.length = 64) (hb : Byt kb) : KeyFits w (.pointer (some ⟨g, 0, none⟩)) (fun tg x => decide (tg = tagk kb x)) :=
  ⟨fun W A A2 n c n2 c2 tg ps hbel hT hC hc hbt hR hby hm => fits_any W hT (hk.below hbel hk.lt) hl hb hC hc hbt hR hby hm⟩
theorem KeyFits.none (w : World) : KeyFits w (.pointer none) (fun _ _ => false) := ⟨fun W A A2 n c n2 c2 tg ps _ _ _ _ _ _ _ _ => fits_nil W⟩
theorem KeyFits.below {w w1 : World} {K : Value} {ff : List Int → List Int → Bool} (h : KeyFits w K ff) (hb : Below w.heap.size w w1) : KeyFits w1 K ff :=
  ⟨fun W A A2 n c n2 c2 tg ps hbel => h.fits W A A2 n c n2 c2 tg ps (below_step hb hbel)⟩
theorem conv_bytes {ops : Array Oper} {rest : List Oper} {o : Oper} {a : Act} {Q : Exit → Act → World → Prop} {W : World} (hgd : o.guard = none) {N : Tmp} (hd : o.dst = some N) (x : Operand) (ho : o.op = .convert 9 27 x) (s : ByteArray) (hx : a.eval x = .string s) (hs : s.size ≤ 9223372036854775807)
    (h : ∀ A c w1, s.size ≤ c → (Kd.int .u8).C w1 A s.size (bytesOf s) → Below W.heap.size W w1 → wpList Tryd.prog ops Q rest (a.put o.dst (.slice A s.size c)) w1) : wpList Tryd.prog ops Q (o :: rest) a W := by
  refine Kd.event_run hgd (v := .slice (some ⟨W.heap.size, 0, none⟩) s.size (grownCap W s.size 0 5)) (w1 := Lib.bytesWorld W 5 s) ?_ ?_
  · unfold execOp
    simp only [ho, hx, Sem.run_bind, print_bytes (P := Tryd.prog) 9 27 5 Tryd.underlying9 Tryd.underlying27 Tryd.underlying5 s W, Sem.run_pure, Result.andThen_ok]
  · exact h _ _ _ (grownCap_ge W s.size 0 5) (Kd.C_of_reads (bytes_reads W 5 s hs)) (bytes_below (Below.refl _ _) (Nat.le_refl _) 5 s)
set_option maxRecDepth 100000 in
theorem opened_form {K : Value} {s : ByteArray} {sign : Int} {size : Nat} {M : Option Addr} {m c : Nat} (w : World) (hsz : s.size ≤ 1000) (hz : size ≤ 100) (hsg : 0 ≤ sign ∧ sign ≤ 255) (hf : s.size ≠ size + 32 ∨ bt s 0 ≠ sign) :
    Calls Tryd.prog 59 #[K, .string s, .int .u8 sign, .int .i64 size, .slice M m c] w fun e w' => e = .returned (.tuple #[.slice none 0 0, .int .i64 7]) ∧ Below w.heap.size w w' := by
  by_cases hl : s.size = size + 32
  · have hne : bt s 0 ≠ sign := hf.resolve_left (fun h => h hl)
    have h0 : ((s[0]'(by omega)).toNat : Int) = bt s 0 := bt_at s 0 (by show (0 : Int).toNat < s.size; simp; omega)
    go_enter Tryd.func59, Tryd.ntmps59
    go_wp2_with fail
    go_ret2
    exact ⟨rfl, Below.refl _ _⟩
  · have hl2 : ((s.size : Int) != (size : Int) + 32) = true := by simp; omega
    go_enter Tryd.func59, Tryd.ntmps59
    go_wp2_with fail
    go_ret2
    exact ⟨rfl, Below.refl _ _⟩
theorem bytesOf_byt (s : ByteArray) : Byt (bytesOf s) := fun x hx => by
  simp only [bytesOf, List.mem_map] at hx
  obtain ⟨b, _, rfl⟩ := hx
  have := b.toNat_lt
  omega
theorem bytesOf_cut (s : ByteArray) (i j : Nat) (h : j ≤ s.size) : bytesOf (s.extract i j) = ((bytesOf s).take j).drop i := by
  unfold bytesOf
  rw [ByteArray.data_extract, Array.toList_extract, ← List.map_take, ← List.map_drop]
  simp [List.extract_eq_take_drop, List.drop_take]
set_option maxRecDepth 100000 in
set_option maxHeartbeats 4000000 in
theorem opened_tag {K : Value} {ff : List Int → List Int → Bool} {s : ByteArray} {sign : Int} {size : Nat} {M : Option Addr} {m c : Nat} (w : World) (hT : Tab w) (hK : KeyFits w K ff) (hz : size ≤ 100) (h1 : s.size = size + 32) (h0 : bt s 0 = sign) (hff : ff ((bytesOf s).drop size) ((bytesOf s).take size) = false) :
    Calls Tryd.prog 59 #[K, .string s, .int .u8 sign, .int .i64 size, .slice M m c] w fun e w' => e = .returned (.tuple #[.slice none 0 0, .int .i64 8]) ∧ Below w.heap.size w w' := by
  have HT := Aside0.mk hT
  have HK := Aside0.mk hK
  have Hff := Aside0.mk hff
  clear hT hK hff
  have h00 : ((s[0]'(by omega)).toNat : Int) = bt s 0 := bt_at s 0 (by show (0 : Int).toNat < s.size; simp; omega)
  have hne : (bt s 0 != sign) = false := by rw [h0]; simp
  obtain ⟨s1, hs1⟩ : ∃ s1, s1 = s.extract 0 size := ⟨_, rfl⟩
  obtain ⟨s2, hs2⟩ : ∃ s2, s2 = s.extract size s.size := ⟨_, rfl⟩
  have hcut1 : ∀ W : World, (Instr.slice 9 (.string s) none (some (.int .i64 (size : Int))) none).run Tryd.prog W = .ok (.string s1) W := fun W => by
    rw [run_slice_string_h W 9 s Tryd.underlying9 .i64 (size : Int) (by omega) (by omega), Int.toNat_natCast, hs1]
  have hcut2 : ∀ W : World, (Instr.slice 9 (.string s) (some (.int .i64 (size : Int))) none none).run Tryd.prog W = .ok (.string s2) W := fun W => by
    rw [run_slice_string_l W 9 s Tryd.underlying9 .i64 (size : Int) (by omega) (by omega), Int.toNat_natCast, hs2]
  have Hb1 : Aside0 (bytesOf s1 = (bytesOf s).take size ∧ s1.size = size ∧ bytesOf s2 = (bytesOf s).drop size ∧ s2.size = 32) := ⟨by
    have e1 : bytesOf s1 = (bytesOf s).take size := by rw [hs1, bytesOf_cut s 0 size (by omega), List.drop_zero]
    have e2 : bytesOf s2 = (bytesOf s).drop size := by rw [hs2, bytesOf_cut s size s.size (Nat.le_refl _), List.take_of_length_le (by rw [bytesOf_length]; exact Nat.le_refl _)]
    refine ⟨e1, ?_, e2, ?_⟩
    · rw [← bytesOf_length, e1, List.length_take, bytesOf_length]; omega
    · rw [← bytesOf_length, e2, List.length_drop, bytesOf_length]; omega⟩
  clear hs1 hs2
  go_enter Tryd.func59, Tryd.ntmps59
  go_wp2_with (first | ((with_reducible refine gate_dst (N := 33) rfl ?_); refine conv_bytes ?hg (N := 33) ?hd (.tmp 32) ?ho s1 ?hx (by rw [Hb1.out.2.1]; omega) ?_; (case hg => rfl); (case hd => rfl); (case ho => rfl); (case hx => rfl); intro A1 c1 w1 hc_ hC_ hb_; have HC1 := Aside0.mk hC_; have hc1 := hc_; have HB1 := Aside0.mk hb_; clear hc_ hC_ hb_) | ((with_reducible refine gate_dst (N := 38) rfl ?_); refine conv_bytes ?hg (N := 38) ?hd (.tmp 37) ?ho s2 ?hx (by rw [Hb1.out.2.2.2]; decide) ?_; (case hg => rfl); (case hd => rfl); (case ho => rfl); (case hx => rfl); intro A2 c2 w2 hc_ hC_ hb_; have HC2 := Aside0.mk hC_; have hc2 := hc_; have HC12 := Aside0.mk (Kd.C_below HC1.out hb_); have HB2 := Aside0.mk (below_step HB1.out hb_); clear hc_ hC_ hb_))
  have hba := below_alloc (Below.refl w2.heap.size w2) (.cells #[.slice A1 s1.size c1] 27)
  refine (HK.out.fits _ A2 (some ⟨w2.heap.size, 0, none⟩) s2.size c2 1 1 (bytesOf s2) [bytesOf s1] (below_step HB2.out hba) (HT.out.below (below_step HB2.out hba)) (Kd.C_below HC2.out hba) hc2 (bytesOf_byt _) (parts_one (heap_alloc_new _ _) (fun h => h) (Rd.came HC12.out hba (fun _ hk => hk.elim)) hc1) (fun p hp => by rw [List.mem_singleton.1 hp]; exact bytesOf_byt _) (by have := Hb1.out.2.1; simp [bytesOf_length]; omega)).mono ?_
  rintro e w3 ⟨rfl, hb3⟩
  rw [show ff (bytesOf s2) [bytesOf s1].flatten = false from by rw [show [bytesOf s1].flatten = bytesOf s1 from by simp, Hb1.out.1, Hb1.out.2.2.1]; exact Hff.out]
  have HB3 := Aside0.mk (below_step (below_step HB2.out hba) hb3)
  clear hb3 hba
  go_wp2_with fail
  go_ret2
  exact ⟨rfl, HB3.out⟩
end Go.Proofs.YtpigkgnmegpddaaDoor.Sh
namespace Go.Proofs.YtpigkgnmegpddaaDoor.Sh
set_option linter.unusedVariables false
set_option linter.unusedSimpArgs false
open Go.RowKit Go.Proofs.YtpigkgnmegpddaaDoorW.PrintWords Go.Proofs.YtpigkgnmegpddaaDoorW.PrintLast Go.Proofs.YtpigkgnmegpddaaDoorW.PrintMore

/-- A row of numbers of the call's own. -/
abbrev Own64 (W : World) (base : Nat) (v : Value) (xs : List Int) : Prop := (Kd.int .u64).R 40 W base (fun _ => True) v xs
theorem info40z : (Tryd.prog.info? 40).map (fun i => (i.zero, i.size, i.bytes)) = some (some (.int .u64 0), 1, 8) := by kernel_rfl
theorem append_64 {ops : Array Oper} {rest : List Oper} {o : Oper} {a : Act} {Q : Exit → Act → World → Prop} {w0 W : World} (hgd : o.guard = none) (s x : Operand) (ho : o.op = .call { callee := .builtin .append, args := #[s, x], argTypes := #[103, 103] })
    (base : Nat) (v : Value) (xs : List Int) (y : Int) (hs : a.eval s = v) (hx : a.eval x = .slice (some ⟨W.heap.size, 0, none⟩) 1 1) (HO : Own64 W base v xs) (HB : Below base w0 W) (hbase : base ≤ W.heap.size) (hl : xs.length ≤ 1000)
    (h : ∀ v1 w1, Own64 w1 base v1 (xs ++ [y]) → Below base w0 w1 → W.grownBy w1 v.ownBlock → wpList Tryd.prog ops Q rest (a.put o.dst v1) w1) :
    wpList Tryd.prog ops Q (o :: rest) a (W.alloc (.cells #[.int .u64 y] 40)) :=
  Kd.R_append (Kd.int .u64) (w0 := w0) base hgd s x 103 40 (.int .u64 0) 8 ho Tryd.underlying103 info40z rfl (by decide) (by decide) v xs y [.int .u64 y] (fun _ => True) (fun _ => False) hs hx rfl (fun _ hk => hk.elim) (fun _ _ => trivial) HO HB hbase (by omega)
    (fun v1 w1 h1 h2 h3 _ => h v1 w1 h1 h2 h3)
/-- How many bytes the first widths take. -/
def offs (ms : Nat → Nat) : Nat → Nat
  | 0 => 0
  | k + 1 => offs ms k + ms k
/-- The numbers of bytes, by their widths. -/
def nums (ms : Nat → Nat) (T : List Int) : Nat → List Int
  | 0 => []
  | k + 1 => nums ms T k ++ [((numb ((T.drop (offs ms k)).take (ms k)) : Nat) : Int)]
theorem nums_length (ms : Nat → Nat) (T : List Int) (k : Nat) : (nums ms T k).length = k := by
  induction k with
  | zero => rfl
  | succ k ih => rw [nums, List.length_append, ih]; rfl
set_option maxRecDepth 100000 in
set_option maxHeartbeats 4000000 in
theorem opened_ok {K : Value} {ff : List Int → List Int → Bool} {s : ByteArray} {sign : Int} {size : Nat} {g m c : Nat} {ms : Nat → Nat} (w : World) (hT : Tab w) (hK : KeyFits w K ff) (hz : size ≤ 100) (h1 : s.size = size + 32) (h0 : bt s 0 = sign) (hff : ff ((bytesOf s).drop size) ((bytesOf s).take size) = true) (hM : ∀ k, k < m → w.cell? ⟨g, k, none⟩ = some (.int .i64 (ms k : Nat))) (hg : g < w.heap.size) (hfit : ∀ k, k < m → 1 ≤ ms k ∧ ms k ≤ 8 ∧ 1 + offs ms (k + 1) ≤ size) (hz1 : 1 ≤ size) (hm8 : m ≤ 8) :
    Calls Tryd.prog 59 #[K, .string s, .int .u8 sign, .int .i64 size, (.slice (some ⟨g, 0, none⟩) m c)] w fun e w' => (∃ v, e = .returned (.tuple #[v, .int .i64 0]) ∧ Own64 w' w.heap.size v (nums ms (((bytesOf s).take size).drop 1) m)) ∧ Below w.heap.size w w' := by
  have HT := Aside0.mk hT
  have HK := Aside0.mk hK
  have Hff := Aside0.mk hff
  have HM := Aside0.mk (And.intro hM (And.intro hg hfit))
  clear hT hK hff hM hg hfit
  have h00 : ((s[0]'(by omega)).toNat : Int) = bt s 0 := bt_at s 0 (by show (0 : Int).toNat < s.size; simp; omega)
  have hne : (bt s 0 != sign) = false := by rw [h0]; simp
  obtain ⟨s1, hs1⟩ : ∃ s1, s1 = s.extract 0 size := ⟨_, rfl⟩
  obtain ⟨s2, hs2⟩ : ∃ s2, s2 = s.extract size s.size := ⟨_, rfl⟩
  have hcut1 : ∀ W : World, (Instr.slice 9 (.string s) none (some (.int .i64 (size : Int))) none).run Tryd.prog W = .ok (.string s1) W := fun W => by
    rw [run_slice_string_h W 9 s Tryd.underlying9 .i64 (size : Int) (by omega) (by omega), Int.toNat_natCast, hs1]
  have hcut2 : ∀ W : World, (Instr.slice 9 (.string s) (some (.int .i64 (size : Int))) none none).run Tryd.prog W = .ok (.string s2) W := fun W => by
    rw [run_slice_string_l W 9 s Tryd.underlying9 .i64 (size : Int) (by omega) (by omega), Int.toNat_natCast, hs2]
  have Hb1 : Aside0 (bytesOf s1 = (bytesOf s).take size ∧ s1.size = size ∧ bytesOf s2 = (bytesOf s).drop size ∧ s2.size = 32) := ⟨by
    have e1 : bytesOf s1 = (bytesOf s).take size := by rw [hs1, bytesOf_cut s 0 size (by omega), List.drop_zero]
    have e2 : bytesOf s2 = (bytesOf s).drop size := by rw [hs2, bytesOf_cut s size s.size (Nat.le_refl _), List.take_of_length_le (by rw [bytesOf_length]; exact Nat.le_refl _)]
    refine ⟨e1, ?_, e2, ?_⟩
    · rw [← bytesOf_length, e1, List.length_take, bytesOf_length]; omega
    · rw [← bytesOf_length, e2, List.length_drop, bytesOf_length]; omega⟩
  clear hs1 hs2
  go_enter Tryd.func59, Tryd.ntmps59
  go_wp2_with (first | ((with_reducible refine gate_dst (N := 33) rfl ?_); refine conv_bytes ?hg (N := 33) ?hd (.tmp 32) ?ho s1 ?hx (by rw [Hb1.out.2.1]; omega) ?_; (case hg => rfl); (case hd => rfl); (case ho => rfl); (case hx => rfl); intro A1 c1 w1 hc_ hC_ hb_; have HC1 := Aside0.mk hC_; have hc1 := hc_; have HB1 := Aside0.mk hb_; clear hc_ hC_ hb_) | ((with_reducible refine gate_dst (N := 38) rfl ?_); refine conv_bytes ?hg (N := 38) ?hd (.tmp 37) ?ho s2 ?hx (by rw [Hb1.out.2.2.2]; decide) ?_; (case hg => rfl); (case hd => rfl); (case ho => rfl); (case hx => rfl); intro A2 c2 w2 hc_ hC_ hb_; have HC2 := Aside0.mk hC_; have hc2 := hc_; have HC12 := Aside0.mk (Kd.C_below HC1.out hb_); have HB2 := Aside0.mk (below_step HB1.out hb_); clear hc_ hC_ hb_))
  have hba := below_alloc (Below.refl w2.heap.size w2) (.cells #[.slice A1 s1.size c1] 27)
  refine (HK.out.fits _ A2 (some ⟨w2.heap.size, 0, none⟩) s2.size c2 1 1 (bytesOf s2) [bytesOf s1] (below_step HB2.out hba) (HT.out.below (below_step HB2.out hba)) (Kd.C_below HC2.out hba) hc2 (bytesOf_byt _) (parts_one (heap_alloc_new _ _) (fun h => h) (Rd.came HC12.out hba (fun _ hk => hk.elim)) hc1) (fun p hp => by rw [List.mem_singleton.1 hp]; exact bytesOf_byt _) (by have := Hb1.out.2.1; simp [bytesOf_length]; omega)).mono ?_
  rintro e w3 ⟨rfl, hb3⟩
  rw [show ff (bytesOf s2) [bytesOf s1].flatten = true from by rw [show [bytesOf s1].flatten = bytesOf s1 from by simp, Hb1.out.1, Hb1.out.2.2.1]; exact Hff.out]
  have HB3 := Aside0.mk (below_step (below_step HB2.out hba) hb3)
  obtain ⟨R, hR⟩ : ∃ R, R = bytesOf s1 := ⟨_, rfl⟩
  have HRe : Aside0 (R = (bytesOf s).take size) := ⟨by rw [hR, Hb1.out.1]⟩
  have HCR : Aside0 ((Kd.int .u8).C w3 A1 size R) := ⟨by
    have h := Kd.C_below HC12.out (below_step hba hb3)
    rw [← hR, Hb1.out.2.1] at h
    exact h⟩
  have HRb : Aside0 (Byt R) := ⟨by rw [hR]; exact bytesOf_byt _⟩
  obtain ⟨i5, hi5, hz5⟩ := info5
  have hc1s : size ≤ c1 := by rw [← Hb1.out.2.1]; exact hc1
  have hs1z : s1.size = size := Hb1.out.2.1
  rw [hs1z]
  obtain ⟨A3, hcut3, HC3⟩ : ∃ A3, (∀ W : World, (Instr.slice 27 (.slice A1 size c1) (some (.int .i64 1)) none none).run Tryd.prog W = .ok (.slice A3 (size - 1) (c1 - 1)) W) ∧ Aside0 ((Kd.int .u8).C w3 A3 (size - 1) (R.drop 1)) := by
    refine ⟨_, fun W => cut_from 27 5 .i64 Tryd.underlying27 hi5 1 hz5 A1 size c1 1 (by omega) (by omega) W, ⟨?_⟩⟩
    have hRl := HCR.out.1
    have h2 := Kd.C_drop (c := c1) (m := 1) (show (Kd.int .u8).C w3 A1 R.length R from by rw [hRl]; exact HCR.out) (by rw [hRl]; exact hz1) (by rw [hRl]; exact hc1s)
    rw [List.length_drop, hRl] at h2
    exact h2
  obtain ⟨T, hT⟩ : ∃ T, T = R.drop 1 := ⟨_, rfl⟩
  have HT3 : Aside0 ((Kd.int .u8).C w3 A3 (size - 1) T ∧ Byt T) := ⟨by rw [hT]; exact ⟨HC3.out, HRb.out.drop 1⟩⟩
  have HTe : Aside0 (T = ((bytesOf s).take size).drop 1) := ⟨by rw [hT, HRe.out]⟩
  clear hT hR hb3 hba hs1z HC12 HC1 HC2 HB1 HB2 HC3 HCR
  go_wp2_with fail
  go_loopg [12, 13, 47] m (fun gk bv nv iv wr => ∃ (k : Nat) (A : Option Addr) (n cb : Nat), k + gk = m ∧ iv = .int .i64 k ∧ bv = .slice A n cb ∧ Aside0 (n ≤ cb ∧ n = size - 1 - offs ms k ∧ (Kd.int .u8).C wr A n (T.drop (offs ms k)) ∧ Own64 wr w.heap.size nv (nums ms T k)) ∧ Aside0 (Below w.heap.size w wr))
  case atStart => exact ⟨0, _, _, _, by omega, rfl, rfl, ⟨by omega, by show _ = _ - 0; omega, by show (Kd.int .u8).C w3 A3 _ (T.drop 0); rw [List.drop_zero]; exact HT3.out.1, Kd.R_nil _ _ _ _ _⟩, HB3⟩
  case round =>
    clear HB3
    obtain ⟨k, A, n, cb, hk, rfl, rfl, HR, HB⟩ := hrel
    by_cases hlt : k < m
    · obtain ⟨gq, rfl⟩ : ∃ gq, gk = gq + 1 := ⟨gk - 1, by omega⟩
      have p1 : (0 : Int) ≤ (k : Int) := by omega
      obtain ⟨x, hx⟩ : ∃ x, x = ms k := ⟨_, rfl⟩
      have hfk := HM.out.2.2 k hlt
      have Hof : Aside0 (offs ms (k + 1) = offs ms k + x) := ⟨by rw [hx]; rfl⟩
      have Hnum : Aside0 (nums ms T (k + 1) = nums ms T k ++ [((numb ((T.drop (offs ms k)).take x) : Nat) : Int)]) := ⟨by rw [hx]; rfl⟩
      have hx1 : 1 ≤ x := by rw [hx]; exact hfk.1
      have hx8 : x ≤ 8 := by rw [hx]; exact hfk.2.1
      have hxn : x ≤ n := by have := hfk.2.2; have := Hof.out; have := HR.out.2.1; omega
      have hn1 : n ≤ 1000 := by have := HR.out.2.1; omega
      have hc := (World.cell?_of_block (HB.out.block g HM.out.2.1)).trans (HM.out.1 k hlt)
      rw [← hx] at hc
      obtain ⟨Tk', hTk⟩ : ∃ z, z = T.drop (offs ms k) := ⟨_, rfl⟩
      have HTk : Aside0 ((Kd.int .u8).C wr A n Tk' ∧ Byt Tk' ∧ T.drop (offs ms (k + 1)) = Tk'.drop x) := ⟨by rw [hTk]; exact ⟨HR.out.2.2.1, HT3.out.2.drop _, by rw [Hof.out, List.drop_drop]⟩⟩
      rw [← hTk] at Hnum
      clear hx hfk hTk
      go_wp2_with fail
      refine (take_any (b := Tk') wr HTk.out.1 HR.out.1 HTk.out.2.1 hx1 hx8 hxn hn1).mono ?_
      rintro e w6 ⟨v, rfl, ho, hb6⟩
      obtain ⟨y, hy⟩ : ∃ y : Int, y = ((numb (Tk'.take x) : Nat) : Int) := ⟨_, rfl⟩
      rw [← hy] at Hnum ⊢
      have HN6 := Aside0.mk (Kd.R_below HR.out.2.2.2 hb6)
      have HB6 := Aside0.mk (below_step HB.out hb6)
      have HV6 := Aside0.mk ho
      have Hlo := Aside0.mk (fun k hk => Kd.R_lt HR.out.2.2.2 k hk)
      have Hsz := Aside0.mk (show (Tk'.drop x).length = n - x from by rw [List.length_drop, HTk.out.1.1])
      clear hy hb6 ho
      go_wp2_with (first | ((with_reducible refine gate_builtin (b := .append) (xs := #[.tmp 58, .tmp 60]) rfl ?_); at_builtin; refine append_64 (w0 := w) rfl (.tmp 58) (.tmp 60) rfl (w.heap.size) (u13) (nums ms T k) (y) rfl rfl (HN6.out) (HB6.out) (HB6.out.size) (by rw [nums_length]; omega) ?_; intro v7 w7 ho_ hb_ hg_; have HN7 := Aside0.mk ho_; have HB7 := Aside0.mk hb_; have HG7 := Aside0.mk hg_; clear ho_ hb_ hg_))
      obtain ⟨A8, c8, rfl⟩ := Kd.R_slice HV6.out
      have HV7 : Aside0 ((Tk'.drop x).length ≤ c8 ∧ (Kd.int .u8).C w7 A8 (Tk'.drop x).length (Tk'.drop x)) := ⟨by
        have h := Kd.R_grown (Kd.R_tight rfl HV6.out) HG7.out (fun k hk he => by
          have h1 := Kd.R_base HV6.out k hk.symm
          have h2 := Hlo.out k he.symm
          omega)
        exact ⟨(Kd.R_reads' h).2.1, (Kd.R_reads' h).2.2⟩⟩
      rw [Hsz.out] at HV7 ⊢
      go_roundg gq
      case measure => omega
      case rel => exact ⟨k + 1, _, _, _, by omega, by go_num, rfl, ⟨HV7.out.1, by rw [Hof.out, HR.out.2.1]; omega, by rw [HTk.out.2.2]; exact HV7.out.2, by rw [Hnum.out]; exact HN7.out⟩, HB7⟩
    · have hkm : k = m := by omega
      subst hkm
      go_wp2_with fail
      go_ret2
      exact ⟨⟨_, rfl, by rw [← HTe.out]; exact HR.out.2.2.2⟩, HB.out⟩
end Go.Proofs.YtpigkgnmegpddaaDoor.Sh
namespace Go.Proofs.YtpigkgnmegpddaaDoor.Sh
set_option linter.unusedVariables false
set_option linter.unusedSimpArgs false
open Go.RowKit Go.Proofs.YtpigkgnmegpddaaDoorW.PrintWords Go.Proofs.YtpigkgnmegpddaaDoorW.PrintLast Go.Proofs.YtpigkgnmegpddaaDoorW.PrintMore

/-- The ticket of bytes, or why it is none. -/
def openT (ff : List Int → List Int → Bool) (s : ByteArray) : Tk × Int :=
  if s.size = 53 ∧ bt s 0 = 116 then (if ff ((bytesOf s).drop 21) ((bytesOf s).take 21) = true then (Tk.of (bytesOf s), 0) else (Tk.zero, 8)) else (Tk.zero, 7)
theorem row_set {w : World} {g t : Nat} {cs ds : Array Value} (h : w.heap[g]? = some (.cells cs t (0, 0))) (hl : ds.size = cs.size) : (w.setCells g 0 ds.toList).heap[g]? = some (.cells ds t (0, 0)) := by
  obtain ⟨cur, h1, h2, h3⟩ := setCells_row ds.toList 0 w _ h (by rw [Array.length_toList]; omega)
  have : cur = ds := Array.toList_inj.1 (by rw [h3, List.take_zero, List.nil_append, List.drop_eq_nil_of_le (by rw [Array.length_toList, Array.length_toList]; omega), List.append_nil])
  rw [h1, this]
theorem setCells_below {b g : Nat} {w0 w : World} (vs : List Value) (hb : Below b w0 w) (hg : b ≤ g) : Below b w0 (w.setCells g 0 vs) := by
  obtain ⟨t1, t2, t3, t4⟩ := setCells_same g vs 0 w
  exact hb.trans ⟨t1, t2, t3, by rw [t4]; exact Nat.le_refl _, fun k hk => setCells_far _ _ k (by omega)⟩
theorem tk_nums (b : List Int) : nums (fun k => [4, 8, 8].getD k 0) ((b.take 21).drop 1) 3 = [((Tk.of b).p : Int), ((numb ((b.drop 5).take 8) : Nat) : Int), ((Tk.of b).n : Int)] := by
  have h : ∀ i j, 1 + i + j ≤ 21 → ((((b.take 21).drop 1).drop i).take j) = (b.drop (1 + i)).take j := fun i j hij => by
    rw [List.drop_drop, List.drop_take, List.take_take, Nat.min_eq_left (by omega)]
  have e : nums (fun k => [4, 8, 8].getD k 0) ((b.take 21).drop 1) 3 = [((numb ((((b.take 21).drop 1).drop 0).take 4) : Nat) : Int), ((numb ((((b.take 21).drop 1).drop 4).take 8) : Nat) : Int), ((numb ((((b.take 21).drop 1).drop 12).take 8) : Nat) : Int)] := rfl
  rw [e, h 0 4 (by omega), h 4 8 (by omega), h 12 8 (by omega)]
  rfl
theorem own64_cells {W : World} {base : Nat} {v : Value} {x y z : Int} (h : Own64 W base v [x, y, z]) : ∃ g c, v = .slice (some ⟨g, 0, none⟩) 3 c ∧ W.cell? ⟨g, 0, none⟩ = some (.int .u64 x) ∧ W.cell? ⟨g, 1, none⟩ = some (.int .u64 y) ∧ W.cell? ⟨g, 2, none⟩ = some (.int .u64 z) ∧ base ≤ g ∧ g < W.heap.size := by
  obtain ⟨A, c, rfl⟩ := Kd.R_slice h
  obtain ⟨g, cap, he, _⟩ := Kd.R_form h (by show (0 : Nat) < 3; decide)
  injection he with he
  subst he
  have h0 := Kd.R_cell (0 : Int) h 0 (by omega) (by show (0 : Int) < ((3 : Nat) : Int); omega)
  have h1 := Kd.R_cell (0 : Int) h 1 (by omega) (by show (1 : Int) < ((3 : Nat) : Int); omega)
  have h2 := Kd.R_cell (0 : Int) h 2 (by omega) (by show (2 : Int) < ((3 : Nat) : Int); omega)
  exact ⟨g, c, rfl, h0.1, h1.1, h2.1, Kd.R_base h g rfl, Kd.R_lt h g rfl⟩
theorem wrap_sg {n : Nat} (h : n < 18446744073709551616) : IntKind.i64.wrap (n : Int) = sg n := by
  unfold sg
  rw [IntKind.wrap_i64]
  split <;> omega
set_option maxRecDepth 100000 in
set_option maxHeartbeats 4000000 in
theorem open46_form {K : Value} {ff : List Int → List Int → Bool} {s : ByteArray} (w : World) (hT : Tab w) (hK : KeyFits w K ff) (hsz : s.size ≤ 1000) (hf : s.size ≠ 21 + 32 ∨ bt s 0 ≠ 116) :
    Calls Tryd.prog 46 #[K, .string s] w fun e w' => e = .returned (.tuple #[.agg #[.int .u32 0, .int .i64 0, .int .u64 0], .int .i64 7]) ∧ Below w.heap.size w w' := by
  have hu60 := Tryd.underlying60
  have HT := Aside0.mk hT
  have HK := Aside0.mk hK
  clear hT hK
  go_enter Tryd.func46, Tryd.ntmps46
  go_wp2_with (first | ((with_reducible refine gate_dst (N := 4) rfl ?_); refine box_event ?hg (N := 4) ?hd (cs := #[.int .u32 0, .int .i64 0, .int .u64 0]) (t := 60) ?hr ?_; (case hd => rfl); (case hg => rfl); (case hr => first | (go_simp; done) | (go_simp; rfl)); intro g4 hg_ w1 hbox_ hb_; have H1 := Aside0.mk hbox_; have HB1 := Aside0.mk hb_; have Hg4 := Aside0.mk (show w.heap.size ≤ g4 from Nat.le_of_eq hg_.symm);clear hg_ hbox_ hb_))
  have hba := below_alloc (Below.refl w1.heap.size w1) (.cells #[.int .i64 4, .int .i64 8, .int .i64 8] 3)
  refine (opened_form (size := 21) _ hsz (by decide) (by decide) hf).mono ?_
  rintro e w2 ⟨rfl, hb2⟩
  have H2 := Aside0.mk (blk_below H1.out (below_step hba hb2))
  have HB2 := Aside0.mk (below_step (below_step HB1.out hba) hb2)
  clear hb2 hba H1 HB1
  go_wp2_with (first | ((with_reducible refine gate_store (t := 60) (p := 4) rfl ?_); refine store_row ?hg (ty := 60) (p := 4) (v := ?vr_1) ?ho ?hd (g := g4) (t := 60) (old := #[.int .u32 0, .int .i64 0, .int .u64 0]) (cells := #[.int .u32 0, .int .i64 0, .int .u64 0]) ?hx ?hy H2.out size60 rfl (by simp [Value.oneCell']) ?_; (case hd => rfl); (case hg => rfl); (case ho => rfl); (case hx => rfl); (case hy => rfl); intro w3 hbox_ hk_ hb_; have H3 := Aside0.mk hbox_; have HB3 := Aside0.mk (HB2.out.trans (hb_.mono Hg4.out));clear hbox_ hk_ hb_))
  refine bodyPost_ret (results_ct rfl _ _ g4 60 #[.int .u32 0, .int .i64 0, .int .u64 0] (0, 0) _ rfl H3.out hu60 rfl size60) rfl ?_
  exact ⟨rfl, HB3.out⟩
set_option maxRecDepth 100000 in
set_option maxHeartbeats 4000000 in
theorem open46_tag {K : Value} {ff : List Int → List Int → Bool} {s : ByteArray} (w : World) (hT : Tab w) (hK : KeyFits w K ff) (h1 : s.size = 21 + 32) (h0 : bt s 0 = 116) (hff : ff ((bytesOf s).drop 21) ((bytesOf s).take 21) = false) :
    Calls Tryd.prog 46 #[K, .string s] w fun e w' => e = .returned (.tuple #[.agg #[.int .u32 0, .int .i64 0, .int .u64 0], .int .i64 8]) ∧ Below w.heap.size w w' := by
  have hu60 := Tryd.underlying60
  have HT := Aside0.mk hT
  have HK := Aside0.mk hK
  clear hT hK
  go_enter Tryd.func46, Tryd.ntmps46
  go_wp2_with (first | ((with_reducible refine gate_dst (N := 4) rfl ?_); refine box_event ?hg (N := 4) ?hd (cs := #[.int .u32 0, .int .i64 0, .int .u64 0]) (t := 60) ?hr ?_; (case hd => rfl); (case hg => rfl); (case hr => first | (go_simp; done) | (go_simp; rfl)); intro g4 hg_ w1 hbox_ hb_; have H1 := Aside0.mk hbox_; have HB1 := Aside0.mk hb_; have Hg4 := Aside0.mk (show w.heap.size ≤ g4 from Nat.le_of_eq hg_.symm);clear hg_ hbox_ hb_))
  have hba := below_alloc (Below.refl w1.heap.size w1) (.cells #[.int .i64 4, .int .i64 8, .int .i64 8] 3)
  refine (opened_tag (size := 21) _ (HT.out.below (below_step HB1.out hba)) (HK.out.below (below_step HB1.out hba)) (by decide) h1 h0 hff).mono ?_
  rintro e w2 ⟨rfl, hb2⟩
  have H2 := Aside0.mk (blk_below H1.out (below_step hba hb2))
  have HB2 := Aside0.mk (below_step (below_step HB1.out hba) hb2)
  clear hb2 hba H1 HB1
  go_wp2_with (first | ((with_reducible refine gate_store (t := 60) (p := 4) rfl ?_); refine store_row ?hg (ty := 60) (p := 4) (v := ?vr_2) ?ho ?hd (g := g4) (t := 60) (old := #[.int .u32 0, .int .i64 0, .int .u64 0]) (cells := #[.int .u32 0, .int .i64 0, .int .u64 0]) ?hx ?hy H2.out size60 rfl (by simp [Value.oneCell']) ?_; (case hd => rfl); (case hg => rfl); (case ho => rfl); (case hx => rfl); (case hy => rfl); intro w3 hbox_ hk_ hb_; have H3 := Aside0.mk hbox_; have HB3 := Aside0.mk (HB2.out.trans (hb_.mono Hg4.out));clear hbox_ hk_ hb_))
  refine bodyPost_ret (results_ct rfl _ _ g4 60 #[.int .u32 0, .int .i64 0, .int .u64 0] (0, 0) _ rfl H3.out hu60 rfl size60) rfl ?_
  exact ⟨rfl, HB3.out⟩
set_option maxRecDepth 100000 in
set_option maxHeartbeats 4000000 in
theorem open46_ok {K : Value} {ff : List Int → List Int → Bool} {s : ByteArray} (w : World) (hT : Tab w) (hK : KeyFits w K ff) (h1 : s.size = 21 + 32) (h0 : bt s 0 = 116) (hff : ff ((bytesOf s).drop 21) ((bytesOf s).take 21) = true) :
    Calls Tryd.prog 46 #[K, .string s] w fun e w' => e = .returned (.tuple #[.agg #[.int .u32 (Tk.of (bytesOf s)).p, .int .i64 (Tk.of (bytesOf s)).e, .int .u64 (Tk.of (bytesOf s)).n], .int .i64 0]) ∧ Below w.heap.size w w' := by
  have hu60 := Tryd.underlying60
  have HT := Aside0.mk hT
  have HK := Aside0.mk hK
  clear hT hK
  go_enter Tryd.func46, Tryd.ntmps46
  go_wp2_with (first | ((with_reducible refine gate_dst (N := 4) rfl ?_); refine box_event ?hg (N := 4) ?hd (cs := #[.int .u32 0, .int .i64 0, .int .u64 0]) (t := 60) ?hr ?_; (case hd => rfl); (case hg => rfl); (case hr => first | (go_simp; done) | (go_simp; rfl)); intro g4 hg_ w1 hbox_ hb_; have H1 := Aside0.mk hbox_; have HB1 := Aside0.mk hb_; have Hg4 := Aside0.mk (show w.heap.size ≤ g4 from Nat.le_of_eq hg_.symm);clear hg_ hbox_ hb_))
  have hba := below_alloc (Below.refl w1.heap.size w1) (.cells #[.int .i64 4, .int .i64 8, .int .i64 8] 3)
  refine (opened_ok (size := 21) (ms := fun k => [4, 8, 8].getD k 0) _ (HT.out.below (below_step HB1.out hba)) (HK.out.below (below_step HB1.out hba)) (by decide) h1 h0 hff (fun k hk => by
    have h := heap_alloc_new w1 (.cells #[.int .i64 4, .int .i64 8, .int .i64 8] 3)
    match k, hk with
    | 0, _ => exact (blk_cell h 0).trans rfl
    | 1, _ => exact (blk_cell h 1).trans rfl
    | 2, _ => exact (blk_cell h 2).trans rfl) (by simp) (fun k hk => by
    match k, hk with
    | 0, _ => exact ⟨by decide, by decide, by decide⟩
    | 1, _ => exact ⟨by decide, by decide, by decide⟩
    | 2, _ => exact ⟨by decide, by decide, by decide⟩) (by decide) (by decide)).mono ?_
  rintro e0 w2 ⟨⟨v, rfl, ho⟩, hb2⟩
  rw [tk_nums] at ho
  have H2 := Aside0.mk (blk_below H1.out (below_step hba hb2))
  have HB2 := Aside0.mk (below_step (below_step HB1.out hba) hb2)
  obtain ⟨gv, cv, rfl, d0, d1, d2, hbv, hlv⟩ := own64_cells ho
  have Hne := Aside0.mk (show gv ≠ g4 from by have h3 := blk_lt H1.out; have h4 := hba.size; omega)
  have hok := Tk.of_ok (bytesOf_byt s) (by rw [bytesOf_length]; omega)
  obtain ⟨p, hp⟩ : ∃ p : Int, p = ((Tk.of (bytesOf s)).p : Int) := ⟨_, rfl⟩
  obtain ⟨x1, hx1⟩ : ∃ x1, x1 = numb (((bytesOf s).drop 5).take 8) := ⟨_, rfl⟩
  obtain ⟨e, he⟩ : ∃ e, e = (Tk.of (bytesOf s)).e := ⟨_, rfl⟩
  obtain ⟨n, hn⟩ : ∃ n : Int, n = ((Tk.of (bytesOf s)).n : Int) := ⟨_, rfl⟩
  have hx1l : x1 < 18446744073709551616 := by
    rw [hx1]
    refine Nat.lt_of_lt_of_le (numb_lt (((bytesOf_byt s).drop 5).take 8)) ?_
    rw [List.length_take]
    exact Nat.le_trans (Nat.pow_le_pow_right (n := 256) (by decide) (Nat.min_le_left 8 _)) (by decide)
  have hes : e = sg x1 := by rw [he, hx1]; rfl
  have Hw : Aside0 (IntKind.u32.wrap p = p ∧ p % 4294967296 = p ∧ IntKind.i64.wrap (x1 : Int) = e ∧ wrap64 (x1 : Int) = e) := ⟨by
    have h3 := hok.1
    have h4 : 0 ≤ p ∧ p < 4294967296 := by rw [hp]; omega
    have h5 := wrap_sg hx1l
    refine ⟨by simp only [IntKind.wrap, IntKind.signed, IntKind.bits, Bool.false_and, Bool.false_eq_true, if_false]; omega, by omega, by rw [h5, hes], by rw [← i64_w, h5, hes]⟩⟩
  have Hfin : Aside0 ((Value.agg #[.int .u32 (Tk.of (bytesOf s)).p, .int .i64 (Tk.of (bytesOf s)).e, .int .u64 (Tk.of (bytesOf s)).n]) = .agg #[.int .u32 p, .int .i64 e, .int .u64 n]) := ⟨by rw [hp, he, hn]⟩
  rw [← hp] at d0
  rw [← hx1] at d1
  rw [← hn] at d2
  have HS := Aside0.mk (And.intro d0 (And.intro d1 d2))
  clear hp hx1 he hn hes hok hx1l d0 d1 d2 ho hb2 hba H1 HB1 hbv hlv
  go_wp2_with fail
  have hS : (fun W : World => Aside0 (W.cell? ⟨gv, 0, none⟩ = some (.int .u64 p) ∧ W.cell? ⟨gv, 1, none⟩ = some (.int .u64 (x1 : Nat)) ∧ W.cell? ⟨gv, 2, none⟩ = some (.int .u64 n))) w2.drew := ⟨HS.out⟩
  refine start_ (S := fun W : World => Aside0 (W.cell? ⟨gv, 0, none⟩ = some (.int .u64 p) ∧ W.cell? ⟨gv, 1, none⟩ = some (.int .u64 (x1 : Nat)) ∧ W.cell? ⟨gv, 2, none⟩ = some (.int .u64 n))) (ds := []) #[false, false, false, false, false, false, false, false, false, false, false, false, false, false, false] (by kernel_rfl) rfl rfl hS ?_
  intro hS_
  refine pure_ (i := 0) (a' := ?a1_1) (v := .slice (some ⟨gv, 0, none⟩) 3 cv) #[true, false, false, false, false, false, false, false, false, false, false, false, false, false, false] rfl rfl (by kernel_rfl) (fun _ _ _ h => h) (Or.inl ⟨rfl, ?hy1_1⟩) ?ha1_1 ?rest1_1
  case hy1_1 => intro w; first | (go_simp; done) | (go_simp; with_reducible rfl) | (go_simp; rfl)
  case ha1_1 => go_simp; rfl
  refine pure_ (i := 1) (a' := ?a1_2) (v := .pointer (some ⟨gv, 0, none⟩)) #[true, true, false, false, false, false, false, false, false, false, false, false, false, false, false] rfl rfl (by kernel_rfl) (fun _ _ _ h => h) (Or.inl ⟨rfl, ?hy1_2⟩) ?ha1_2 ?rest1_2
  case hy1_2 => intro w; first | (go_simp; done) | (go_simp; with_reducible rfl) | (go_simp; rfl)
  case ha1_2 => go_simp; rfl
  refine take_ (i := 2) (a' := ?a1_3) (v := .int .u64 p) #[true, true, true, false, false, false, false, false, false, false, false, false, false, false, false] rfl rfl (by kernel_rfl) (fun _ _ _ h => h) (yields_cell rfl (fun w h => by have h8 := h.out.1; (first | (go_simp; done) | (go_simp; with_reducible rfl) | (go_simp; rfl)))) hS_ ?ha1_3 ?rest1_3
  case ha1_3 => go_simp; rfl
  refine pure_ (i := 3) (a' := ?a1_4) (v := .int .u32 p) #[true, true, true, true, false, false, false, false, false, false, false, false, false, false, false] rfl rfl (by kernel_rfl) (fun _ _ _ h => h) (Or.inl ⟨rfl, ?hy1_4⟩) ?ha1_4 ?rest1_4
  case hy1_4 => intro w; (have h1 := Hw.out.1; have h2 := Hw.out.2.1; first | (go_simp; done) | (go_simp; rfl))
  case ha1_4 => go_simp; rfl
  refine pure_ (i := 4) (a' := ?a1_5) (v := .slice (some ⟨gv, 0, none⟩) 3 cv) #[true, true, true, true, true, false, false, false, false, false, false, false, false, false, false] rfl rfl (by kernel_rfl) (fun _ _ _ h => h) (Or.inl ⟨rfl, ?hy1_5⟩) ?ha1_5 ?rest1_5
  case hy1_5 => intro w; first | (go_simp; done) | (go_simp; with_reducible rfl) | (go_simp; rfl)
  case ha1_5 => go_simp; rfl
  refine pure_ (i := 5) (a' := ?a1_6) (v := .pointer (some ⟨gv, 1, none⟩)) #[true, true, true, true, true, true, false, false, false, false, false, false, false, false, false] rfl rfl (by kernel_rfl) (fun _ _ _ h => h) (Or.inl ⟨rfl, ?hy1_6⟩) ?ha1_6 ?rest1_6
  case hy1_6 => intro w; first | (go_simp; done) | (go_simp; with_reducible rfl) | (go_simp; rfl)
  case ha1_6 => go_simp; rfl
  refine take_ (i := 6) (a' := ?a1_7) (v := .int .u64 (x1 : Nat)) #[true, true, true, true, true, true, true, false, false, false, false, false, false, false, false] rfl rfl (by kernel_rfl) (fun _ _ _ h => h) (yields_cell rfl (fun w h => by have h8 := h.out.2.1; (first | (go_simp; done) | (go_simp; with_reducible rfl) | (go_simp; rfl)))) hS_ ?ha1_7 ?rest1_7
  case ha1_7 => go_simp; rfl
  refine pure_ (i := 7) (a' := ?a1_8) (v := .int .i64 e) #[true, true, true, true, true, true, true, true, false, false, false, false, false, false, false] rfl rfl (by kernel_rfl) (fun _ _ _ h => h) (Or.inl ⟨rfl, ?hy1_8⟩) ?ha1_8 ?rest1_8
  case hy1_8 => intro w; (have h1 := Hw.out.2.2.1; have h2 := Hw.out.2.2.2; first | (go_simp; done) | (go_simp; rfl))
  case ha1_8 => go_simp; rfl
  refine pure_ (i := 8) (a' := ?a1_9) (v := .slice (some ⟨gv, 0, none⟩) 3 cv) #[true, true, true, true, true, true, true, true, true, false, false, false, false, false, false] rfl rfl (by kernel_rfl) (fun _ _ _ h => h) (Or.inl ⟨rfl, ?hy1_9⟩) ?ha1_9 ?rest1_9
  case hy1_9 => intro w; first | (go_simp; done) | (go_simp; with_reducible rfl) | (go_simp; rfl)
  case ha1_9 => go_simp; rfl
  refine pure_ (i := 9) (a' := ?a1_10) (v := .pointer (some ⟨gv, 2, none⟩)) #[true, true, true, true, true, true, true, true, true, true, false, false, false, false, false] rfl rfl (by kernel_rfl) (fun _ _ _ h => h) (Or.inl ⟨rfl, ?hy1_10⟩) ?ha1_10 ?rest1_10
  case hy1_10 => intro w; first | (go_simp; done) | (go_simp; with_reducible rfl) | (go_simp; rfl)
  case ha1_10 => go_simp; rfl
  refine take_ (i := 10) (a' := ?a1_11) (v := .int .u64 n) #[true, true, true, true, true, true, true, true, true, true, true, false, false, false, false] rfl rfl (by kernel_rfl) (fun _ _ _ h => h) (yields_cell rfl (fun w h => by have h8 := h.out.2.2; (first | (go_simp; done) | (go_simp; with_reducible rfl) | (go_simp; rfl)))) hS_ ?ha1_11 ?rest1_11
  case ha1_11 => go_simp; rfl
  refine pure_ (i := 11) (a' := ?a1_12) (v := .agg #[.int .i64 e, .int .u64 n]) #[true, true, true, true, true, true, true, true, true, true, true, true, false, false, false] rfl rfl (by kernel_rfl) (fun _ _ _ h => h) (Or.inl ⟨rfl, ?hy1_12⟩) ?ha1_12 ?rest1_12
  case hy1_12 => intro w; first | (go_simp; done) | (go_simp; with_reducible rfl) | (go_simp; rfl)
  case ha1_12 => go_simp; rfl
  refine pure_ (i := 12) (a' := ?a1_13) (v := .agg #[.int .u32 p, .int .i64 e, .int .u64 n]) #[true, true, true, true, true, true, true, true, true, true, true, true, true, false, false] rfl rfl (by kernel_rfl) (fun _ _ _ h => h) (Or.inl ⟨rfl, ?hy1_13⟩) ?ha1_13 ?rest1_13
  case hy1_13 => intro w; first | (go_simp; done) | (go_simp; with_reducible rfl) | (go_simp; rfl)
  case ha1_13 => go_simp; rfl
  refine one_ (i := 13) #[true, true, true, true, true, true, true, true, true, true, true, true, true, true, false] rfl rfl (by kernel_rfl) (by decide) ?_
  intro K_ hK_
  unfold Shut at hK_
  refine skip_ rfl rfl (run_store_row 60 (.tmp 4) (.tmp 31) rfl g4 0 #[.int .u32 p, .int .i64 e, .int .u64 n] rfl rfl (there_block H2.out 0 _ (by show 0 + 3 ≤ 3; omega)) size60 (by simp [Value.oneCell'])) ?_; have hS2 : Aside0 ((w2.drew.setCells g4 0 (#[.int .u32 p, .int .i64 e, .int .u64 n] : Array Value).toList).cell? ⟨gv, 0, none⟩ = some (.int .u64 p) ∧ (w2.drew.setCells g4 0 (#[.int .u32 p, .int .i64 e, .int .u64 n] : Array Value).toList).cell? ⟨gv, 1, none⟩ = some (.int .u64 (x1 : Nat)) ∧ (w2.drew.setCells g4 0 (#[.int .u32 p, .int .i64 e, .int .u64 n] : Array Value).toList).cell? ⟨gv, 2, none⟩ = some (.int .u64 n)) := ⟨(World.cell?_of_block (setCells_far _ _ gv Hne.out)).trans hS_.out.1, (World.cell?_of_block (setCells_far _ _ gv Hne.out)).trans hS_.out.2.1, (World.cell?_of_block (setCells_far _ _ gv Hne.out)).trans hS_.out.2.2⟩; refine hK_ _ _ hS2 (fun hS_ => ?_); clear hK_ hS2
  refine norm_ (a' := ?a1_15n) ?ha1_15n ?rest1_15n
  case ha1_15n => go_simp; rfl
  refine pure_ (i := 14) (a' := ?a1_16) (v := .int .i64 0) #[true, true, true, true, true, true, true, true, true, true, true, true, true, true, true] rfl rfl (by kernel_rfl) (fun _ _ _ h => h) (Or.inl ⟨rfl, ?hy1_16⟩) ?ha1_16 ?rest1_16
  case hy1_16 => intro w; first | (go_simp; done) | (go_simp; with_reducible rfl) | (go_simp; rfl)
  case ha1_16 => go_simp; rfl
  refine done_ (by kernel_rfl) ?_
  have H3 : Aside0 ((w2.drew.setCells g4 0 (#[.int .u32 p, .int .i64 e, .int .u64 n] : Array Value).toList).heap[g4]? = some (.cells #[.int .u32 p, .int .i64 e, .int .u64 n] 60 (0, 0))) := ⟨row_set H2.out rfl⟩
  have HB3 := Aside0.mk (setCells_below (#[.int .u32 p, .int .i64 e, .int .u64 n] : Array Value).toList (below_drew HB2.out) Hg4.out)
  obtain ⟨w4, hw4⟩ : ∃ w4, w4 = w2.drew.setCells g4 0 (#[.int .u32 p, .int .i64 e, .int .u64 n] : Array Value).toList := ⟨_, rfl⟩
  rw [← hw4] at H3 HB3
  try rw [← hw4]
  clear hw4
  go_wp2_with fail
  refine bodyPost_ret (results_ct rfl _ _ g4 60 #[.int .u32 p, .int .i64 e, .int .u64 n] (0, 0) _ rfl H3.out hu60 rfl size60) rfl ?_
  exact ⟨by rw [Hfin.out]; rfl, HB3.out⟩
theorem open46_any {K : Value} {ff : List Int → List Int → Bool} {s : ByteArray} (w : World) (hT : Tab w) (hK : KeyFits w K ff) (hsz : s.size ≤ 1000) :
    Calls Tryd.prog 46 #[K, .string s] w fun e w' => e = .returned (.tuple #[.agg #[.int .u32 (openT ff s).1.p, .int .i64 (openT ff s).1.e, .int .u64 (openT ff s).1.n], .int .i64 (openT ff s).2]) ∧ Below w.heap.size w w' := by
  by_cases h : s.size = 53 ∧ bt s 0 = 116
  · by_cases hf : ff ((bytesOf s).drop 21) ((bytesOf s).take 21) = true
    · have e : openT ff s = (Tk.of (bytesOf s), 0) := by unfold openT; rw [if_pos h, if_pos hf]
      rw [e]
      exact open46_ok w hT hK h.1 h.2 hf
    · have e : openT ff s = (Tk.zero, 8) := by unfold openT; rw [if_pos h, if_neg hf]
      rw [e]
      exact open46_tag w hT hK h.1 h.2 (by simpa using hf)
  · have e : openT ff s = (Tk.zero, 7) := by unfold openT; rw [if_neg h]
    rw [e]
    exact open46_form w hT hK hsz (by
      by_cases h1 : s.size = 53
      · exact .inr fun h2 => h ⟨h1, h2⟩
      · exact .inl h1)
end Go.Proofs.YtpigkgnmegpddaaDoor.Sh
namespace Go.Proofs.YtpigkgnmegpddaaDoor.Sh
set_option linter.unusedVariables false
set_option linter.unusedSimpArgs false
open Go.RowKit Go.Proofs.YtpigkgnmegpddaaDoorW.PrintWords Go.Proofs.YtpigkgnmegpddaaDoorW.PrintLast Go.Proofs.YtpigkgnmegpddaaDoorW.PrintMore

/-- The token of bytes, or why it is none. -/
def openN (ff : List Int → List Int → Bool) (s : ByteArray) : Tn × Int :=
  if s.size = 60 ∧ bt s 0 = 106 then (if ff ((bytesOf s).drop 28) ((bytesOf s).take 28) = true then (Tn.of (bytesOf s), 0) else (Tn.zero, 8)) else (Tn.zero, 7)
theorem size65 : (Tryd.prog.info? 65).map (·.size) = some 6 := by kernel_rfl
theorem tn_nums (b : List Int) : nums (fun k => [4, 4, 2, 1, 8, 8].getD k 0) ((b.take 28).drop 1) 6 = [((Tn.of b).p : Int), ((Tn.of b).m : Int), ((Tn.of b).i : Int), ((Tn.of b).s : Int), ((numb ((b.drop 12).take 8) : Nat) : Int), ((Tn.of b).n : Int)] := by
  have h : ∀ i j, 1 + i + j ≤ 28 → ((((b.take 28).drop 1).drop i).take j) = (b.drop (1 + i)).take j := fun i j hij => by
    rw [List.drop_drop, List.drop_take, List.take_take, Nat.min_eq_left (by omega)]
  have e : nums (fun k => [4, 4, 2, 1, 8, 8].getD k 0) ((b.take 28).drop 1) 6 = [((numb ((((b.take 28).drop 1).drop 0).take 4) : Nat) : Int), ((numb ((((b.take 28).drop 1).drop 4).take 4) : Nat) : Int), ((numb ((((b.take 28).drop 1).drop 8).take 2) : Nat) : Int), ((numb ((((b.take 28).drop 1).drop 10).take 1) : Nat) : Int), ((numb ((((b.take 28).drop 1).drop 11).take 8) : Nat) : Int), ((numb ((((b.take 28).drop 1).drop 19).take 8) : Nat) : Int)] := rfl
  rw [e, h 0 4 (by omega), h 4 4 (by omega), h 8 2 (by omega), h 10 1 (by omega), h 11 8 (by omega), h 19 8 (by omega)]
  rfl
theorem own64_six {W : World} {base : Nat} {v : Value} {x0 x1 x2 x3 x4 x5 : Int} (h : Own64 W base v [x0, x1, x2, x3, x4, x5]) : ∃ g c, v = .slice (some ⟨g, 0, none⟩) 6 c ∧ W.cell? ⟨g, 0, none⟩ = some (.int .u64 x0) ∧ W.cell? ⟨g, 1, none⟩ = some (.int .u64 x1) ∧ W.cell? ⟨g, 2, none⟩ = some (.int .u64 x2) ∧ W.cell? ⟨g, 3, none⟩ = some (.int .u64 x3) ∧ W.cell? ⟨g, 4, none⟩ = some (.int .u64 x4) ∧ W.cell? ⟨g, 5, none⟩ = some (.int .u64 x5) ∧ base ≤ g ∧ g < W.heap.size := by
  obtain ⟨A, c, rfl⟩ := Kd.R_slice h
  obtain ⟨g, cap, he, _⟩ := Kd.R_form h (by show (0 : Nat) < 6; decide)
  injection he with he
  subst he
  have h0 := Kd.R_cell (0 : Int) h 0 (by omega) (by show (0 : Int) < ((6 : Nat) : Int); omega)
  have h1 := Kd.R_cell (0 : Int) h 1 (by omega) (by show (1 : Int) < ((6 : Nat) : Int); omega)
  have h2 := Kd.R_cell (0 : Int) h 2 (by omega) (by show (2 : Int) < ((6 : Nat) : Int); omega)
  have h3 := Kd.R_cell (0 : Int) h 3 (by omega) (by show (3 : Int) < ((6 : Nat) : Int); omega)
  have h4 := Kd.R_cell (0 : Int) h 4 (by omega) (by show (4 : Int) < ((6 : Nat) : Int); omega)
  have h5 := Kd.R_cell (0 : Int) h 5 (by omega) (by show (5 : Int) < ((6 : Nat) : Int); omega)
  exact ⟨g, c, rfl, h0.1, h1.1, h2.1, h3.1, h4.1, h5.1, Kd.R_base h g rfl, Kd.R_lt h g rfl⟩
set_option maxRecDepth 100000 in
set_option maxHeartbeats 4000000 in
theorem open48_form {K : Value} {ff : List Int → List Int → Bool} {s : ByteArray} (w : World) (hT : Tab w) (hK : KeyFits w K ff) (hsz : s.size ≤ 1000) (hf : s.size ≠ 28 + 32 ∨ bt s 0 ≠ 106) :
    Calls Tryd.prog 48 #[K, .string s] w fun e w' => e = .returned (.tuple #[.agg #[.int .u32 0, .int .u32 0, .int .u16 0, .int .u8 0, .int .i64 0, .int .u64 0], .int .i64 7]) ∧ Below w.heap.size w w' := by
  have hu65 := Tryd.underlying65
  have HT := Aside0.mk hT
  have HK := Aside0.mk hK
  clear hT hK
  go_enter Tryd.func48, Tryd.ntmps48
  go_wp2_with (first | ((with_reducible refine gate_dst (N := 4) rfl ?_); refine box_event ?hg (N := 4) ?hd (cs := #[.int .u32 0, .int .u32 0, .int .u16 0, .int .u8 0, .int .i64 0, .int .u64 0]) (t := 65) ?hr ?_; (case hd => rfl); (case hg => rfl); (case hr => first | (go_simp; done) | (go_simp; rfl)); intro g4 hg_ w1 hbox_ hb_; have H1 := Aside0.mk hbox_; have HB1 := Aside0.mk hb_; have Hg4 := Aside0.mk (show w.heap.size ≤ g4 from Nat.le_of_eq hg_.symm);clear hg_ hbox_ hb_))
  have hba := below_alloc (Below.refl w1.heap.size w1) (.cells #[.int .i64 4, .int .i64 4, .int .i64 2, .int .i64 1, .int .i64 8, .int .i64 8] 3)
  refine (opened_form (size := 28) _ hsz (by decide) (by decide) hf).mono ?_
  rintro e w2 ⟨rfl, hb2⟩
  have H2 := Aside0.mk (blk_below H1.out (below_step hba hb2))
  have HB2 := Aside0.mk (below_step (below_step HB1.out hba) hb2)
  clear hb2 hba H1 HB1
  go_wp2_with (first | ((with_reducible refine gate_store (t := 65) (p := 4) rfl ?_); refine store_row ?hg (ty := 65) (p := 4) (v := ?vr_1) ?ho ?hd (g := g4) (t := 65) (old := #[.int .u32 0, .int .u32 0, .int .u16 0, .int .u8 0, .int .i64 0, .int .u64 0]) (cells := #[.int .u32 0, .int .u32 0, .int .u16 0, .int .u8 0, .int .i64 0, .int .u64 0]) ?hx ?hy H2.out size65 rfl (by simp [Value.oneCell']) ?_; (case hd => rfl); (case hg => rfl); (case ho => rfl); (case hx => rfl); (case hy => rfl); intro w3 hbox_ hk_ hb_; have H3 := Aside0.mk hbox_; have HB3 := Aside0.mk (HB2.out.trans (hb_.mono Hg4.out));clear hbox_ hk_ hb_))
  refine bodyPost_ret (results_ct rfl _ _ g4 65 #[.int .u32 0, .int .u32 0, .int .u16 0, .int .u8 0, .int .i64 0, .int .u64 0] (0, 0) _ rfl H3.out hu65 rfl size65) rfl ?_
  exact ⟨rfl, HB3.out⟩
set_option maxRecDepth 100000 in
set_option maxHeartbeats 4000000 in
theorem open48_tag {K : Value} {ff : List Int → List Int → Bool} {s : ByteArray} (w : World) (hT : Tab w) (hK : KeyFits w K ff) (h1 : s.size = 28 + 32) (h0 : bt s 0 = 106) (hff : ff ((bytesOf s).drop 28) ((bytesOf s).take 28) = false) :
    Calls Tryd.prog 48 #[K, .string s] w fun e w' => e = .returned (.tuple #[.agg #[.int .u32 0, .int .u32 0, .int .u16 0, .int .u8 0, .int .i64 0, .int .u64 0], .int .i64 8]) ∧ Below w.heap.size w w' := by
  have hu65 := Tryd.underlying65
  have HT := Aside0.mk hT
  have HK := Aside0.mk hK
  clear hT hK
  go_enter Tryd.func48, Tryd.ntmps48
  go_wp2_with (first | ((with_reducible refine gate_dst (N := 4) rfl ?_); refine box_event ?hg (N := 4) ?hd (cs := #[.int .u32 0, .int .u32 0, .int .u16 0, .int .u8 0, .int .i64 0, .int .u64 0]) (t := 65) ?hr ?_; (case hd => rfl); (case hg => rfl); (case hr => first | (go_simp; done) | (go_simp; rfl)); intro g4 hg_ w1 hbox_ hb_; have H1 := Aside0.mk hbox_; have HB1 := Aside0.mk hb_; have Hg4 := Aside0.mk (show w.heap.size ≤ g4 from Nat.le_of_eq hg_.symm);clear hg_ hbox_ hb_))
  have hba := below_alloc (Below.refl w1.heap.size w1) (.cells #[.int .i64 4, .int .i64 4, .int .i64 2, .int .i64 1, .int .i64 8, .int .i64 8] 3)
  refine (opened_tag (size := 28) _ (HT.out.below (below_step HB1.out hba)) (HK.out.below (below_step HB1.out hba)) (by decide) h1 h0 hff).mono ?_
  rintro e w2 ⟨rfl, hb2⟩
  have H2 := Aside0.mk (blk_below H1.out (below_step hba hb2))
  have HB2 := Aside0.mk (below_step (below_step HB1.out hba) hb2)
  clear hb2 hba H1 HB1
  go_wp2_with (first | ((with_reducible refine gate_store (t := 65) (p := 4) rfl ?_); refine store_row ?hg (ty := 65) (p := 4) (v := ?vr_2) ?ho ?hd (g := g4) (t := 65) (old := #[.int .u32 0, .int .u32 0, .int .u16 0, .int .u8 0, .int .i64 0, .int .u64 0]) (cells := #[.int .u32 0, .int .u32 0, .int .u16 0, .int .u8 0, .int .i64 0, .int .u64 0]) ?hx ?hy H2.out size65 rfl (by simp [Value.oneCell']) ?_; (case hd => rfl); (case hg => rfl); (case ho => rfl); (case hx => rfl); (case hy => rfl); intro w3 hbox_ hk_ hb_; have H3 := Aside0.mk hbox_; have HB3 := Aside0.mk (HB2.out.trans (hb_.mono Hg4.out));clear hbox_ hk_ hb_))
  refine bodyPost_ret (results_ct rfl _ _ g4 65 #[.int .u32 0, .int .u32 0, .int .u16 0, .int .u8 0, .int .i64 0, .int .u64 0] (0, 0) _ rfl H3.out hu65 rfl size65) rfl ?_
  exact ⟨rfl, HB3.out⟩
set_option maxRecDepth 100000 in
set_option maxHeartbeats 4000000 in
theorem open48_ok {K : Value} {ff : List Int → List Int → Bool} {s : ByteArray} (w : World) (hT : Tab w) (hK : KeyFits w K ff) (h1 : s.size = 28 + 32) (h0 : bt s 0 = 106) (hff : ff ((bytesOf s).drop 28) ((bytesOf s).take 28) = true) :
    Calls Tryd.prog 48 #[K, .string s] w fun e w' => e = .returned (.tuple #[.agg #[.int .u32 (Tn.of (bytesOf s)).p, .int .u32 (Tn.of (bytesOf s)).m, .int .u16 (Tn.of (bytesOf s)).i, .int .u8 (Tn.of (bytesOf s)).s, .int .i64 (Tn.of (bytesOf s)).e, .int .u64 (Tn.of (bytesOf s)).n], .int .i64 0]) ∧ Below w.heap.size w w' := by
  have hu65 := Tryd.underlying65
  have HT := Aside0.mk hT
  have HK := Aside0.mk hK
  clear hT hK
  go_enter Tryd.func48, Tryd.ntmps48
  go_wp2_with (first | ((with_reducible refine gate_dst (N := 4) rfl ?_); refine box_event ?hg (N := 4) ?hd (cs := #[.int .u32 0, .int .u32 0, .int .u16 0, .int .u8 0, .int .i64 0, .int .u64 0]) (t := 65) ?hr ?_; (case hd => rfl); (case hg => rfl); (case hr => first | (go_simp; done) | (go_simp; rfl)); intro g4 hg_ w1 hbox_ hb_; have H1 := Aside0.mk hbox_; have HB1 := Aside0.mk hb_; have Hg4 := Aside0.mk (show w.heap.size ≤ g4 from Nat.le_of_eq hg_.symm);clear hg_ hbox_ hb_))
  have hba := below_alloc (Below.refl w1.heap.size w1) (.cells #[.int .i64 4, .int .i64 4, .int .i64 2, .int .i64 1, .int .i64 8, .int .i64 8] 3)
  refine (opened_ok (size := 28) (ms := fun k => [4, 4, 2, 1, 8, 8].getD k 0) _ (HT.out.below (below_step HB1.out hba)) (HK.out.below (below_step HB1.out hba)) (by decide) h1 h0 hff (fun k hk => by
    have h := heap_alloc_new w1 (.cells #[.int .i64 4, .int .i64 4, .int .i64 2, .int .i64 1, .int .i64 8, .int .i64 8] 3)
    match k, hk with
    | 0, _ => exact (blk_cell h 0).trans rfl
    | 1, _ => exact (blk_cell h 1).trans rfl
    | 2, _ => exact (blk_cell h 2).trans rfl
    | 3, _ => exact (blk_cell h 3).trans rfl
    | 4, _ => exact (blk_cell h 4).trans rfl
    | 5, _ => exact (blk_cell h 5).trans rfl) (by simp) (fun k hk => by
    match k, hk with
    | 0, _ => exact ⟨by decide, by decide, by decide⟩
    | 1, _ => exact ⟨by decide, by decide, by decide⟩
    | 2, _ => exact ⟨by decide, by decide, by decide⟩
    | 3, _ => exact ⟨by decide, by decide, by decide⟩
    | 4, _ => exact ⟨by decide, by decide, by decide⟩
    | 5, _ => exact ⟨by decide, by decide, by decide⟩) (by decide) (by decide)).mono ?_
  rintro e0 w2 ⟨⟨v, rfl, ho⟩, hb2⟩
  rw [tn_nums] at ho
  have H2 := Aside0.mk (blk_below H1.out (below_step hba hb2))
  have HB2 := Aside0.mk (below_step (below_step HB1.out hba) hb2)
  obtain ⟨gv, cv, rfl, d0, d1, d2, d3, d4, d5, hbv, hlv⟩ := own64_six ho
  have Hne := Aside0.mk (show gv ≠ g4 from by have h3 := blk_lt H1.out; have h4 := hba.size; omega)
  have hok := Tn.of_ok (bytesOf_byt s) (by rw [bytesOf_length]; omega)
  obtain ⟨p, hp⟩ : ∃ x : Int, x = ((Tn.of (bytesOf s)).p : Int) := ⟨_, rfl⟩
  obtain ⟨m, hm⟩ : ∃ x : Int, x = ((Tn.of (bytesOf s)).m : Int) := ⟨_, rfl⟩
  obtain ⟨i, hi⟩ : ∃ x : Int, x = ((Tn.of (bytesOf s)).i : Int) := ⟨_, rfl⟩
  obtain ⟨q, hq⟩ : ∃ x : Int, x = ((Tn.of (bytesOf s)).s : Int) := ⟨_, rfl⟩
  obtain ⟨n, hn⟩ : ∃ x : Int, x = ((Tn.of (bytesOf s)).n : Int) := ⟨_, rfl⟩
  obtain ⟨x1, hx1⟩ : ∃ x1, x1 = numb (((bytesOf s).drop 12).take 8) := ⟨_, rfl⟩
  obtain ⟨e, he⟩ : ∃ e, e = (Tn.of (bytesOf s)).e := ⟨_, rfl⟩
  have hx1l : x1 < 18446744073709551616 := by
    rw [hx1]
    refine Nat.lt_of_lt_of_le (numb_lt (((bytesOf_byt s).drop 12).take 8)) ?_
    rw [List.length_take]
    exact Nat.le_trans (Nat.pow_le_pow_right (n := 256) (by decide) (Nat.min_le_left 8 _)) (by decide)
  have hes : e = sg x1 := by rw [he, hx1]; rfl
  have Hw : Aside0 ((IntKind.u32.wrap p = p ∧ p % 4294967296 = p) ∧ (IntKind.u32.wrap m = m ∧ m % 4294967296 = m) ∧ (IntKind.u16.wrap i = i ∧ i % 65536 = i) ∧ (IntKind.u8.wrap q = q ∧ q % 256 = q) ∧ (IntKind.i64.wrap (x1 : Int) = e ∧ wrap64 (x1 : Int) = e)) := ⟨by
    have h5 := wrap_sg hx1l
    refine ⟨(by have h3 := hok.1; have h4 : 0 ≤ p ∧ p < 4294967296 := (by rw [hp]; omega); exact ⟨by simp only [IntKind.wrap, IntKind.signed, IntKind.bits, Bool.false_and, Bool.false_eq_true, if_false]; omega, by omega⟩), (by have h3 := hok.2.1; have h4 : 0 ≤ m ∧ m < 4294967296 := (by rw [hm]; omega); exact ⟨by simp only [IntKind.wrap, IntKind.signed, IntKind.bits, Bool.false_and, Bool.false_eq_true, if_false]; omega, by omega⟩), (by have h3 := hok.2.2.1; have h4 : 0 ≤ i ∧ i < 65536 := (by rw [hi]; omega); exact ⟨by simp only [IntKind.wrap, IntKind.signed, IntKind.bits, Bool.false_and, Bool.false_eq_true, if_false]; omega, by omega⟩), (by have h3 := hok.2.2.2.1; have h4 : 0 ≤ q ∧ q < 256 := (by rw [hq]; omega); exact ⟨by simp only [IntKind.wrap, IntKind.signed, IntKind.bits, Bool.false_and, Bool.false_eq_true, if_false]; omega, by omega⟩), by rw [h5, hes], by rw [← i64_w, h5, hes]⟩⟩
  have Hfin : Aside0 ((Value.agg #[.int .u32 (Tn.of (bytesOf s)).p, .int .u32 (Tn.of (bytesOf s)).m, .int .u16 (Tn.of (bytesOf s)).i, .int .u8 (Tn.of (bytesOf s)).s, .int .i64 (Tn.of (bytesOf s)).e, .int .u64 (Tn.of (bytesOf s)).n]) = .agg #[.int .u32 p, .int .u32 m, .int .u16 i, .int .u8 q, .int .i64 e, .int .u64 n]) := ⟨by rw [hp, hm, hi, hq, he, hn]⟩
  rw [← hp] at d0
  rw [← hm] at d1
  rw [← hi] at d2
  rw [← hq] at d3
  rw [← hx1] at d4
  rw [← hn] at d5
  have HS := Aside0.mk (And.intro d0 (And.intro d1 (And.intro d2 (And.intro d3 (And.intro d4 d5)))))
  clear hp hm hi hq hx1 he hn hes hok hx1l d0 d1 d2 d3 d4 d5 ho hb2 hba H1 HB1 hbv hlv
  go_wp2_with fail
  have hS : (fun W : World => Aside0 (W.cell? ⟨gv, 0, none⟩ = some (.int .u64 p) ∧ W.cell? ⟨gv, 1, none⟩ = some (.int .u64 m) ∧ W.cell? ⟨gv, 2, none⟩ = some (.int .u64 i) ∧ W.cell? ⟨gv, 3, none⟩ = some (.int .u64 q) ∧ W.cell? ⟨gv, 4, none⟩ = some (.int .u64 (x1 : Nat)) ∧ W.cell? ⟨gv, 5, none⟩ = some (.int .u64 n))) w2.drew := ⟨HS.out⟩
  refine start_ (S := fun W : World => Aside0 (W.cell? ⟨gv, 0, none⟩ = some (.int .u64 p) ∧ W.cell? ⟨gv, 1, none⟩ = some (.int .u64 m) ∧ W.cell? ⟨gv, 2, none⟩ = some (.int .u64 i) ∧ W.cell? ⟨gv, 3, none⟩ = some (.int .u64 q) ∧ W.cell? ⟨gv, 4, none⟩ = some (.int .u64 (x1 : Nat)) ∧ W.cell? ⟨gv, 5, none⟩ = some (.int .u64 n))) (ds := []) #[false, false, false, false, false, false, false, false, false, false, false, false, false, false, false, false, false, false, false, false, false, false, false, false, false, false, false] (by kernel_rfl) rfl rfl hS ?_
  intro hS_
  refine pure_ (i := 0) (a' := ?a1_1) (v := .slice (some ⟨gv, 0, none⟩) 6 cv) #[true, false, false, false, false, false, false, false, false, false, false, false, false, false, false, false, false, false, false, false, false, false, false, false, false, false, false] rfl rfl (by kernel_rfl) (fun _ _ _ h => h) (Or.inl ⟨rfl, ?hy1_1⟩) ?ha1_1 ?rest1_1
  case hy1_1 => intro w; first | (go_simp; done) | (go_simp; with_reducible rfl) | (go_simp; rfl)
  case ha1_1 => go_simp; rfl
  refine pure_ (i := 1) (a' := ?a1_2) (v := .pointer (some ⟨gv, 0, none⟩)) #[true, true, false, false, false, false, false, false, false, false, false, false, false, false, false, false, false, false, false, false, false, false, false, false, false, false, false] rfl rfl (by kernel_rfl) (fun _ _ _ h => h) (Or.inl ⟨rfl, ?hy1_2⟩) ?ha1_2 ?rest1_2
  case hy1_2 => intro w; first | (go_simp; done) | (go_simp; with_reducible rfl) | (go_simp; rfl)
  case ha1_2 => go_simp; rfl
  refine take_ (i := 2) (a' := ?a1_3) (v := .int .u64 p) #[true, true, true, false, false, false, false, false, false, false, false, false, false, false, false, false, false, false, false, false, false, false, false, false, false, false, false] rfl rfl (by kernel_rfl) (fun _ _ _ h => h) (yields_cell rfl (fun w h => by have h8 := h.out.1; (first | (go_simp; done) | (go_simp; with_reducible rfl) | (go_simp; rfl)))) hS_ ?ha1_3 ?rest1_3
  case ha1_3 => go_simp; rfl
  refine pure_ (i := 3) (a' := ?a1_4) (v := .int .u32 p) #[true, true, true, true, false, false, false, false, false, false, false, false, false, false, false, false, false, false, false, false, false, false, false, false, false, false, false] rfl rfl (by kernel_rfl) (fun _ _ _ h => h) (Or.inl ⟨rfl, ?hy1_4⟩) ?ha1_4 ?rest1_4
  case hy1_4 => intro w; (have h1 := Hw.out.1.1; have h2 := Hw.out.1.2; first | (go_simp; done) | (go_simp; rfl))
  case ha1_4 => go_simp; rfl
  refine pure_ (i := 4) (a' := ?a1_5) (v := .slice (some ⟨gv, 0, none⟩) 6 cv) #[true, true, true, true, true, false, false, false, false, false, false, false, false, false, false, false, false, false, false, false, false, false, false, false, false, false, false] rfl rfl (by kernel_rfl) (fun _ _ _ h => h) (Or.inl ⟨rfl, ?hy1_5⟩) ?ha1_5 ?rest1_5
  case hy1_5 => intro w; first | (go_simp; done) | (go_simp; with_reducible rfl) | (go_simp; rfl)
  case ha1_5 => go_simp; rfl
  refine pure_ (i := 5) (a' := ?a1_6) (v := .pointer (some ⟨gv, 1, none⟩)) #[true, true, true, true, true, true, false, false, false, false, false, false, false, false, false, false, false, false, false, false, false, false, false, false, false, false, false] rfl rfl (by kernel_rfl) (fun _ _ _ h => h) (Or.inl ⟨rfl, ?hy1_6⟩) ?ha1_6 ?rest1_6
  case hy1_6 => intro w; first | (go_simp; done) | (go_simp; with_reducible rfl) | (go_simp; rfl)
  case ha1_6 => go_simp; rfl
  refine take_ (i := 6) (a' := ?a1_7) (v := .int .u64 m) #[true, true, true, true, true, true, true, false, false, false, false, false, false, false, false, false, false, false, false, false, false, false, false, false, false, false, false] rfl rfl (by kernel_rfl) (fun _ _ _ h => h) (yields_cell rfl (fun w h => by have h8 := h.out.2.1; (first | (go_simp; done) | (go_simp; with_reducible rfl) | (go_simp; rfl)))) hS_ ?ha1_7 ?rest1_7
  case ha1_7 => go_simp; rfl
  refine pure_ (i := 7) (a' := ?a1_8) (v := .int .u32 m) #[true, true, true, true, true, true, true, true, false, false, false, false, false, false, false, false, false, false, false, false, false, false, false, false, false, false, false] rfl rfl (by kernel_rfl) (fun _ _ _ h => h) (Or.inl ⟨rfl, ?hy1_8⟩) ?ha1_8 ?rest1_8
  case hy1_8 => intro w; (have h1 := Hw.out.2.1.1; have h2 := Hw.out.2.1.2; first | (go_simp; done) | (go_simp; rfl))
  case ha1_8 => go_simp; rfl
  refine pure_ (i := 8) (a' := ?a1_9) (v := .slice (some ⟨gv, 0, none⟩) 6 cv) #[true, true, true, true, true, true, true, true, true, false, false, false, false, false, false, false, false, false, false, false, false, false, false, false, false, false, false] rfl rfl (by kernel_rfl) (fun _ _ _ h => h) (Or.inl ⟨rfl, ?hy1_9⟩) ?ha1_9 ?rest1_9
  case hy1_9 => intro w; first | (go_simp; done) | (go_simp; with_reducible rfl) | (go_simp; rfl)
  case ha1_9 => go_simp; rfl
  refine pure_ (i := 9) (a' := ?a1_10) (v := .pointer (some ⟨gv, 2, none⟩)) #[true, true, true, true, true, true, true, true, true, true, false, false, false, false, false, false, false, false, false, false, false, false, false, false, false, false, false] rfl rfl (by kernel_rfl) (fun _ _ _ h => h) (Or.inl ⟨rfl, ?hy1_10⟩) ?ha1_10 ?rest1_10
  case hy1_10 => intro w; first | (go_simp; done) | (go_simp; with_reducible rfl) | (go_simp; rfl)
  case ha1_10 => go_simp; rfl
  refine take_ (i := 10) (a' := ?a1_11) (v := .int .u64 i) #[true, true, true, true, true, true, true, true, true, true, true, false, false, false, false, false, false, false, false, false, false, false, false, false, false, false, false] rfl rfl (by kernel_rfl) (fun _ _ _ h => h) (yields_cell rfl (fun w h => by have h8 := h.out.2.2.1; (first | (go_simp; done) | (go_simp; with_reducible rfl) | (go_simp; rfl)))) hS_ ?ha1_11 ?rest1_11
  case ha1_11 => go_simp; rfl
  refine pure_ (i := 11) (a' := ?a1_12) (v := .int .u16 i) #[true, true, true, true, true, true, true, true, true, true, true, true, false, false, false, false, false, false, false, false, false, false, false, false, false, false, false] rfl rfl (by kernel_rfl) (fun _ _ _ h => h) (Or.inl ⟨rfl, ?hy1_12⟩) ?ha1_12 ?rest1_12
  case hy1_12 => intro w; (have h1 := Hw.out.2.2.1.1; have h2 := Hw.out.2.2.1.2; first | (go_simp; done) | (go_simp; rfl))
  case ha1_12 => go_simp; rfl
  refine pure_ (i := 12) (a' := ?a1_13) (v := .slice (some ⟨gv, 0, none⟩) 6 cv) #[true, true, true, true, true, true, true, true, true, true, true, true, true, false, false, false, false, false, false, false, false, false, false, false, false, false, false] rfl rfl (by kernel_rfl) (fun _ _ _ h => h) (Or.inl ⟨rfl, ?hy1_13⟩) ?ha1_13 ?rest1_13
  case hy1_13 => intro w; first | (go_simp; done) | (go_simp; with_reducible rfl) | (go_simp; rfl)
  case ha1_13 => go_simp; rfl
  refine pure_ (i := 13) (a' := ?a1_14) (v := .pointer (some ⟨gv, 3, none⟩)) #[true, true, true, true, true, true, true, true, true, true, true, true, true, true, false, false, false, false, false, false, false, false, false, false, false, false, false] rfl rfl (by kernel_rfl) (fun _ _ _ h => h) (Or.inl ⟨rfl, ?hy1_14⟩) ?ha1_14 ?rest1_14
  case hy1_14 => intro w; first | (go_simp; done) | (go_simp; with_reducible rfl) | (go_simp; rfl)
  case ha1_14 => go_simp; rfl
  refine take_ (i := 14) (a' := ?a1_15) (v := .int .u64 q) #[true, true, true, true, true, true, true, true, true, true, true, true, true, true, true, false, false, false, false, false, false, false, false, false, false, false, false] rfl rfl (by kernel_rfl) (fun _ _ _ h => h) (yields_cell rfl (fun w h => by have h8 := h.out.2.2.2.1; (first | (go_simp; done) | (go_simp; with_reducible rfl) | (go_simp; rfl)))) hS_ ?ha1_15 ?rest1_15
  case ha1_15 => go_simp; rfl
  refine pure_ (i := 15) (a' := ?a1_16) (v := .int .u8 q) #[true, true, true, true, true, true, true, true, true, true, true, true, true, true, true, true, false, false, false, false, false, false, false, false, false, false, false] rfl rfl (by kernel_rfl) (fun _ _ _ h => h) (Or.inl ⟨rfl, ?hy1_16⟩) ?ha1_16 ?rest1_16
  case hy1_16 => intro w; (have h1 := Hw.out.2.2.2.1.1; have h2 := Hw.out.2.2.2.1.2; first | (go_simp; done) | (go_simp; rfl))
  case ha1_16 => go_simp; rfl
  refine pure_ (i := 16) (a' := ?a1_17) (v := .slice (some ⟨gv, 0, none⟩) 6 cv) #[true, true, true, true, true, true, true, true, true, true, true, true, true, true, true, true, true, false, false, false, false, false, false, false, false, false, false] rfl rfl (by kernel_rfl) (fun _ _ _ h => h) (Or.inl ⟨rfl, ?hy1_17⟩) ?ha1_17 ?rest1_17
  case hy1_17 => intro w; first | (go_simp; done) | (go_simp; with_reducible rfl) | (go_simp; rfl)
  case ha1_17 => go_simp; rfl
  refine pure_ (i := 17) (a' := ?a1_18) (v := .pointer (some ⟨gv, 4, none⟩)) #[true, true, true, true, true, true, true, true, true, true, true, true, true, true, true, true, true, true, false, false, false, false, false, false, false, false, false] rfl rfl (by kernel_rfl) (fun _ _ _ h => h) (Or.inl ⟨rfl, ?hy1_18⟩) ?ha1_18 ?rest1_18
  case hy1_18 => intro w; first | (go_simp; done) | (go_simp; with_reducible rfl) | (go_simp; rfl)
  case ha1_18 => go_simp; rfl
  refine take_ (i := 18) (a' := ?a1_19) (v := .int .u64 (x1 : Nat)) #[true, true, true, true, true, true, true, true, true, true, true, true, true, true, true, true, true, true, true, false, false, false, false, false, false, false, false] rfl rfl (by kernel_rfl) (fun _ _ _ h => h) (yields_cell rfl (fun w h => by have h8 := h.out.2.2.2.2.1; (first | (go_simp; done) | (go_simp; with_reducible rfl) | (go_simp; rfl)))) hS_ ?ha1_19 ?rest1_19
  case ha1_19 => go_simp; rfl
  refine pure_ (i := 19) (a' := ?a1_20) (v := .int .i64 e) #[true, true, true, true, true, true, true, true, true, true, true, true, true, true, true, true, true, true, true, true, false, false, false, false, false, false, false] rfl rfl (by kernel_rfl) (fun _ _ _ h => h) (Or.inl ⟨rfl, ?hy1_20⟩) ?ha1_20 ?rest1_20
  case hy1_20 => intro w; (have h1 := Hw.out.2.2.2.2.1; have h2 := Hw.out.2.2.2.2.2; first | (go_simp; done) | (go_simp; rfl))
  case ha1_20 => go_simp; rfl
  refine pure_ (i := 20) (a' := ?a1_21) (v := .slice (some ⟨gv, 0, none⟩) 6 cv) #[true, true, true, true, true, true, true, true, true, true, true, true, true, true, true, true, true, true, true, true, true, false, false, false, false, false, false] rfl rfl (by kernel_rfl) (fun _ _ _ h => h) (Or.inl ⟨rfl, ?hy1_21⟩) ?ha1_21 ?rest1_21
  case hy1_21 => intro w; first | (go_simp; done) | (go_simp; with_reducible rfl) | (go_simp; rfl)
  case ha1_21 => go_simp; rfl
  refine pure_ (i := 21) (a' := ?a1_22) (v := .pointer (some ⟨gv, 5, none⟩)) #[true, true, true, true, true, true, true, true, true, true, true, true, true, true, true, true, true, true, true, true, true, true, false, false, false, false, false] rfl rfl (by kernel_rfl) (fun _ _ _ h => h) (Or.inl ⟨rfl, ?hy1_22⟩) ?ha1_22 ?rest1_22
  case hy1_22 => intro w; first | (go_simp; done) | (go_simp; with_reducible rfl) | (go_simp; rfl)
  case ha1_22 => go_simp; rfl
  refine take_ (i := 22) (a' := ?a1_23) (v := .int .u64 n) #[true, true, true, true, true, true, true, true, true, true, true, true, true, true, true, true, true, true, true, true, true, true, true, false, false, false, false] rfl rfl (by kernel_rfl) (fun _ _ _ h => h) (yields_cell rfl (fun w h => by have h8 := h.out.2.2.2.2.2; (first | (go_simp; done) | (go_simp; with_reducible rfl) | (go_simp; rfl)))) hS_ ?ha1_23 ?rest1_23
  case ha1_23 => go_simp; rfl
  refine pure_ (i := 23) (a' := ?a1_24) (v := .agg #[.int .i64 e, .int .u64 n]) #[true, true, true, true, true, true, true, true, true, true, true, true, true, true, true, true, true, true, true, true, true, true, true, true, false, false, false] rfl rfl (by kernel_rfl) (fun _ _ _ h => h) (Or.inl ⟨rfl, ?hy1_24⟩) ?ha1_24 ?rest1_24
  case hy1_24 => intro w; first | (go_simp; done) | (go_simp; with_reducible rfl) | (go_simp; rfl)
  case ha1_24 => go_simp; rfl
  refine pure_ (i := 24) (a' := ?a1_25) (v := .agg #[.int .u32 p, .int .u32 m, .int .u16 i, .int .u8 q, .int .i64 e, .int .u64 n]) #[true, true, true, true, true, true, true, true, true, true, true, true, true, true, true, true, true, true, true, true, true, true, true, true, true, false, false] rfl rfl (by kernel_rfl) (fun _ _ _ h => h) (Or.inl ⟨rfl, ?hy1_25⟩) ?ha1_25 ?rest1_25
  case hy1_25 => intro w; first | (go_simp; done) | (go_simp; with_reducible rfl) | (go_simp; rfl)
  case ha1_25 => go_simp; rfl
  refine one_ (i := 25) #[true, true, true, true, true, true, true, true, true, true, true, true, true, true, true, true, true, true, true, true, true, true, true, true, true, true, false] rfl rfl (by kernel_rfl) (by decide) ?_
  intro K_ hK_
  unfold Shut at hK_
  refine skip_ rfl rfl (run_store_row 65 (.tmp 4) (.tmp 43) rfl g4 0 #[.int .u32 p, .int .u32 m, .int .u16 i, .int .u8 q, .int .i64 e, .int .u64 n] rfl rfl (there_block H2.out 0 _ (by show 0 + 6 ≤ 6; omega)) size65 (by simp [Value.oneCell'])) ?_; have hS2 : Aside0 ((w2.drew.setCells g4 0 (#[.int .u32 p, .int .u32 m, .int .u16 i, .int .u8 q, .int .i64 e, .int .u64 n] : Array Value).toList).cell? ⟨gv, 0, none⟩ = some (.int .u64 p) ∧ (w2.drew.setCells g4 0 (#[.int .u32 p, .int .u32 m, .int .u16 i, .int .u8 q, .int .i64 e, .int .u64 n] : Array Value).toList).cell? ⟨gv, 1, none⟩ = some (.int .u64 m) ∧ (w2.drew.setCells g4 0 (#[.int .u32 p, .int .u32 m, .int .u16 i, .int .u8 q, .int .i64 e, .int .u64 n] : Array Value).toList).cell? ⟨gv, 2, none⟩ = some (.int .u64 i) ∧ (w2.drew.setCells g4 0 (#[.int .u32 p, .int .u32 m, .int .u16 i, .int .u8 q, .int .i64 e, .int .u64 n] : Array Value).toList).cell? ⟨gv, 3, none⟩ = some (.int .u64 q) ∧ (w2.drew.setCells g4 0 (#[.int .u32 p, .int .u32 m, .int .u16 i, .int .u8 q, .int .i64 e, .int .u64 n] : Array Value).toList).cell? ⟨gv, 4, none⟩ = some (.int .u64 (x1 : Nat)) ∧ (w2.drew.setCells g4 0 (#[.int .u32 p, .int .u32 m, .int .u16 i, .int .u8 q, .int .i64 e, .int .u64 n] : Array Value).toList).cell? ⟨gv, 5, none⟩ = some (.int .u64 n)) := ⟨(World.cell?_of_block (setCells_far _ _ gv Hne.out)).trans hS_.out.1, (World.cell?_of_block (setCells_far _ _ gv Hne.out)).trans hS_.out.2.1, (World.cell?_of_block (setCells_far _ _ gv Hne.out)).trans hS_.out.2.2.1, (World.cell?_of_block (setCells_far _ _ gv Hne.out)).trans hS_.out.2.2.2.1, (World.cell?_of_block (setCells_far _ _ gv Hne.out)).trans hS_.out.2.2.2.2.1, (World.cell?_of_block (setCells_far _ _ gv Hne.out)).trans hS_.out.2.2.2.2.2⟩; refine hK_ _ _ hS2 (fun hS_ => ?_); clear hK_ hS2
  refine norm_ (a' := ?a1_27n) ?ha1_27n ?rest1_27n
  case ha1_27n => go_simp; rfl
  refine pure_ (i := 26) (a' := ?a1_28) (v := .int .i64 0) #[true, true, true, true, true, true, true, true, true, true, true, true, true, true, true, true, true, true, true, true, true, true, true, true, true, true, true] rfl rfl (by kernel_rfl) (fun _ _ _ h => h) (Or.inl ⟨rfl, ?hy1_28⟩) ?ha1_28 ?rest1_28
  case hy1_28 => intro w; first | (go_simp; done) | (go_simp; with_reducible rfl) | (go_simp; rfl)
  case ha1_28 => go_simp; rfl
  refine done_ (by kernel_rfl) ?_
  have H3 : Aside0 ((w2.drew.setCells g4 0 (#[.int .u32 p, .int .u32 m, .int .u16 i, .int .u8 q, .int .i64 e, .int .u64 n] : Array Value).toList).heap[g4]? = some (.cells #[.int .u32 p, .int .u32 m, .int .u16 i, .int .u8 q, .int .i64 e, .int .u64 n] 65 (0, 0))) := ⟨row_set H2.out rfl⟩
  have HB3 := Aside0.mk (setCells_below (#[.int .u32 p, .int .u32 m, .int .u16 i, .int .u8 q, .int .i64 e, .int .u64 n] : Array Value).toList (below_drew HB2.out) Hg4.out)
  obtain ⟨w4, hw4⟩ : ∃ w4, w4 = w2.drew.setCells g4 0 (#[.int .u32 p, .int .u32 m, .int .u16 i, .int .u8 q, .int .i64 e, .int .u64 n] : Array Value).toList := ⟨_, rfl⟩
  rw [← hw4] at H3 HB3
  try rw [← hw4]
  clear hw4
  go_wp2_with fail
  refine bodyPost_ret (results_ct rfl _ _ g4 65 #[.int .u32 p, .int .u32 m, .int .u16 i, .int .u8 q, .int .i64 e, .int .u64 n] (0, 0) _ rfl H3.out hu65 rfl size65) rfl ?_
  exact ⟨by rw [Hfin.out]; rfl, HB3.out⟩
theorem open48_any {K : Value} {ff : List Int → List Int → Bool} {s : ByteArray} (w : World) (hT : Tab w) (hK : KeyFits w K ff) (hsz : s.size ≤ 1000) :
    Calls Tryd.prog 48 #[K, .string s] w fun e w' => e = .returned (.tuple #[.agg #[.int .u32 (openN ff s).1.p, .int .u32 (openN ff s).1.m, .int .u16 (openN ff s).1.i, .int .u8 (openN ff s).1.s, .int .i64 (openN ff s).1.e, .int .u64 (openN ff s).1.n], .int .i64 (openN ff s).2]) ∧ Below w.heap.size w w' := by
  by_cases h : s.size = 60 ∧ bt s 0 = 106
  · by_cases hf : ff ((bytesOf s).drop 28) ((bytesOf s).take 28) = true
    · have e : openN ff s = (Tn.of (bytesOf s), 0) := by unfold openN; rw [if_pos h, if_pos hf]
      rw [e]
      exact open48_ok w hT hK h.1 h.2 hf
    · have e : openN ff s = (Tn.zero, 8) := by unfold openN; rw [if_pos h, if_neg hf]
      rw [e]
      exact open48_tag w hT hK h.1 h.2 (by simpa using hf)
  · have e : openN ff s = (Tn.zero, 7) := by unfold openN; rw [if_neg h]
    rw [e]
    exact open48_form w hT hK hsz (by
      by_cases h1 : s.size = 60
      · exact .inr fun h2 => h ⟨h1, h2⟩
      · exact .inl h1)
end Go.Proofs.YtpigkgnmegpddaaDoor.Sh
namespace Go.Proofs.YtpigkgnmegpddaaDoor.Sh
set_option linter.unusedVariables false
set_option linter.unusedSimpArgs false
open Go.RowKit Go.Proofs.YtpigkgnmegpddaaDoorW.PrintWords Go.Proofs.YtpigkgnmegpddaaDoorW.PrintLast Go.Proofs.YtpigkgnmegpddaaDoorW.PrintMore

theorem sizeR53 : (Tryd.prog.info? 53).map (·.size) = some 3 := by kernel_rfl
set_option maxRecDepth 100000 in
set_option maxHeartbeats 4000000 in
theorem ref47_form {A : Option Addr} {n0 c0 : Nat} {s : ByteArray} (w : World) (hsz : s.size ≤ 1000) (hf : s.size ≠ 53 ∨ bt s 0 ≠ 116) :
    Calls Tryd.prog 47 #[.slice A n0 c0, .string s] w fun e w' => e = .returned (.tuple #[.agg #[.int .u32 0, .int .i64 0, .int .u64 0], .int .i64 7]) ∧ Below w.heap.size w w' := by
  have huT := Tryd.underlying53
  by_cases hl : s.size = 53
  · have hne : bt s 0 ≠ 116 := hf.resolve_left (fun h => h hl)
    have h00 : ((s[0]'(by omega)).toNat : Int) = bt s 0 := bt_at s 0 (by show (0 : Int).toNat < s.size; simp; omega)
    go_enter Tryd.func47, Tryd.ntmps47
    go_wp2_with (first | ((with_reducible refine gate_dst (N := 4) rfl ?_); refine box_event ?hg (N := 4) ?hd (cs := #[.int .u32 0, .int .i64 0, .int .u64 0]) (t := 53) ?hr ?_; (case hd => rfl); (case hg => rfl); (case hr => first | (go_simp; done) | (go_simp; rfl)); intro g4 hg_ w1 hbox_ hb_; have H1 := Aside0.mk hbox_; have HB1 := Aside0.mk hb_; have Hg4 := Aside0.mk (show w.heap.size ≤ g4 from Nat.le_of_eq hg_.symm);clear hg_ hbox_ hb_) | ((with_reducible refine gate_store (t := 53) (p := 4) rfl ?_); refine store_row ?hg (ty := 53) (p := 4) (v := ?vr_1) ?ho ?hd (g := g4) (t := 53) (old := #[.int .u32 0, .int .i64 0, .int .u64 0]) (cells := #[.int .u32 0, .int .i64 0, .int .u64 0]) ?hx ?hy H1.out sizeR53 rfl (by simp [Value.oneCell']) ?_; (case hd => rfl); (case hg => rfl); (case ho => rfl); (case hx => rfl); (case hy => rfl); intro w3 hbox_ hk_ hb_; have H3 := Aside0.mk hbox_; have HB3 := Aside0.mk (HB1.out.trans (hb_.mono Hg4.out));clear hbox_ hk_ hb_))
    refine bodyPost_ret (results_ct rfl _ _ g4 53 #[.int .u32 0, .int .i64 0, .int .u64 0] (0, 0) _ rfl H3.out huT rfl sizeR53) rfl ?_
    exact ⟨rfl, HB3.out⟩
  · have hl2 : ((s.size : Int) != 53) = true := by simp; omega
    go_enter Tryd.func47, Tryd.ntmps47
    go_wp2_with (first | ((with_reducible refine gate_dst (N := 4) rfl ?_); refine box_event ?hg (N := 4) ?hd (cs := #[.int .u32 0, .int .i64 0, .int .u64 0]) (t := 53) ?hr ?_; (case hd => rfl); (case hg => rfl); (case hr => first | (go_simp; done) | (go_simp; rfl)); intro g4 hg_ w1 hbox_ hb_; have H1 := Aside0.mk hbox_; have HB1 := Aside0.mk hb_; have Hg4 := Aside0.mk (show w.heap.size ≤ g4 from Nat.le_of_eq hg_.symm);clear hg_ hbox_ hb_) | ((with_reducible refine gate_store (t := 53) (p := 4) rfl ?_); refine store_row ?hg (ty := 53) (p := 4) (v := ?vr_2) ?ho ?hd (g := g4) (t := 53) (old := #[.int .u32 0, .int .i64 0, .int .u64 0]) (cells := #[.int .u32 0, .int .i64 0, .int .u64 0]) ?hx ?hy H1.out sizeR53 rfl (by simp [Value.oneCell']) ?_; (case hd => rfl); (case hg => rfl); (case ho => rfl); (case hx => rfl); (case hy => rfl); intro w3 hbox_ hk_ hb_; have H3 := Aside0.mk hbox_; have HB3 := Aside0.mk (HB1.out.trans (hb_.mono Hg4.out));clear hbox_ hk_ hb_))
    refine bodyPost_ret (results_ct rfl _ _ g4 53 #[.int .u32 0, .int .i64 0, .int .u64 0] (0, 0) _ rfl H3.out huT rfl sizeR53) rfl ?_
    exact ⟨rfl, HB3.out⟩
theorem sizeR56 : (Tryd.prog.info? 56).map (·.size) = some 6 := by kernel_rfl
set_option maxRecDepth 100000 in
set_option maxHeartbeats 4000000 in
theorem ref49_form {A : Option Addr} {n0 c0 : Nat} {s : ByteArray} (w : World) (hsz : s.size ≤ 1000) (hf : s.size ≠ 60 ∨ bt s 0 ≠ 106) :
    Calls Tryd.prog 49 #[.slice A n0 c0, .string s] w fun e w' => e = .returned (.tuple #[.agg #[.int .u32 0, .int .u32 0, .int .u16 0, .int .u8 0, .int .i64 0, .int .u64 0], .int .i64 7]) ∧ Below w.heap.size w w' := by
  have huT := Tryd.underlying56
  by_cases hl : s.size = 60
  · have hne : bt s 0 ≠ 106 := hf.resolve_left (fun h => h hl)
    have h00 : ((s[0]'(by omega)).toNat : Int) = bt s 0 := bt_at s 0 (by show (0 : Int).toNat < s.size; simp; omega)
    go_enter Tryd.func49, Tryd.ntmps49
    go_wp2_with (first | ((with_reducible refine gate_dst (N := 4) rfl ?_); refine box_event ?hg (N := 4) ?hd (cs := #[.int .u32 0, .int .u32 0, .int .u16 0, .int .u8 0, .int .i64 0, .int .u64 0]) (t := 56) ?hr ?_; (case hd => rfl); (case hg => rfl); (case hr => first | (go_simp; done) | (go_simp; rfl)); intro g4 hg_ w1 hbox_ hb_; have H1 := Aside0.mk hbox_; have HB1 := Aside0.mk hb_; have Hg4 := Aside0.mk (show w.heap.size ≤ g4 from Nat.le_of_eq hg_.symm);clear hg_ hbox_ hb_) | ((with_reducible refine gate_store (t := 56) (p := 4) rfl ?_); refine store_row ?hg (ty := 56) (p := 4) (v := ?vr_3) ?ho ?hd (g := g4) (t := 56) (old := #[.int .u32 0, .int .u32 0, .int .u16 0, .int .u8 0, .int .i64 0, .int .u64 0]) (cells := #[.int .u32 0, .int .u32 0, .int .u16 0, .int .u8 0, .int .i64 0, .int .u64 0]) ?hx ?hy H1.out sizeR56 rfl (by simp [Value.oneCell']) ?_; (case hd => rfl); (case hg => rfl); (case ho => rfl); (case hx => rfl); (case hy => rfl); intro w3 hbox_ hk_ hb_; have H3 := Aside0.mk hbox_; have HB3 := Aside0.mk (HB1.out.trans (hb_.mono Hg4.out));clear hbox_ hk_ hb_))
    refine bodyPost_ret (results_ct rfl _ _ g4 56 #[.int .u32 0, .int .u32 0, .int .u16 0, .int .u8 0, .int .i64 0, .int .u64 0] (0, 0) _ rfl H3.out huT rfl sizeR56) rfl ?_
    exact ⟨rfl, HB3.out⟩
  · have hl2 : ((s.size : Int) != 60) = true := by simp; omega
    go_enter Tryd.func49, Tryd.ntmps49
    go_wp2_with (first | ((with_reducible refine gate_dst (N := 4) rfl ?_); refine box_event ?hg (N := 4) ?hd (cs := #[.int .u32 0, .int .u32 0, .int .u16 0, .int .u8 0, .int .i64 0, .int .u64 0]) (t := 56) ?hr ?_; (case hd => rfl); (case hg => rfl); (case hr => first | (go_simp; done) | (go_simp; rfl)); intro g4 hg_ w1 hbox_ hb_; have H1 := Aside0.mk hbox_; have HB1 := Aside0.mk hb_; have Hg4 := Aside0.mk (show w.heap.size ≤ g4 from Nat.le_of_eq hg_.symm);clear hg_ hbox_ hb_) | ((with_reducible refine gate_store (t := 56) (p := 4) rfl ?_); refine store_row ?hg (ty := 56) (p := 4) (v := ?vr_4) ?ho ?hd (g := g4) (t := 56) (old := #[.int .u32 0, .int .u32 0, .int .u16 0, .int .u8 0, .int .i64 0, .int .u64 0]) (cells := #[.int .u32 0, .int .u32 0, .int .u16 0, .int .u8 0, .int .i64 0, .int .u64 0]) ?hx ?hy H1.out sizeR56 rfl (by simp [Value.oneCell']) ?_; (case hd => rfl); (case hg => rfl); (case ho => rfl); (case hx => rfl); (case hy => rfl); intro w3 hbox_ hk_ hb_; have H3 := Aside0.mk hbox_; have HB3 := Aside0.mk (HB1.out.trans (hb_.mono Hg4.out));clear hbox_ hk_ hb_))
    refine bodyPost_ret (results_ct rfl _ _ g4 56 #[.int .u32 0, .int .u32 0, .int .u16 0, .int .u8 0, .int .i64 0, .int .u64 0] (0, 0) _ rfl H3.out huT rfl sizeR56) rfl ?_
    exact ⟨rfl, HB3.out⟩
end Go.Proofs.YtpigkgnmegpddaaDoor.Sh
namespace Go.Proofs.YtpigkgnmegpddaaDoor.Sh
set_option linter.unusedVariables false
set_option linter.unusedSimpArgs false
open Go.RowKit Go.Proofs.YtpigkgnmegpddaaDoorW.PrintWords Go.Proofs.YtpigkgnmegpddaaDoorW.PrintLast Go.Proofs.YtpigkgnmegpddaaDoorW.PrintMore

theorem nums_back (s : ByteArray) : strOfNums (bytesOf s) = s := by
  obtain ⟨⟨l⟩⟩ := s
  unfold strOfNums bytesOf
  simp only [List.map_map]
  have : ∀ x ∈ l, ((fun n : Int => UInt8.ofNat n.toNat) ∘ fun b : UInt8 => (b.toNat : Int)) x = id x := fun x hx => by
    simp only [Function.comp, Int.toNat_natCast, UInt8.ofNat_toNat, id]
  rw [List.map_congr_left this, List.map_id]
theorem bytes_back {l : List Int} (h : Byt l) : bytesOf (strOfNums l) = l := by
  unfold strOfNums bytesOf
  simp only [List.map_map]
  have : ∀ x ∈ l, ((fun b : UInt8 => (b.toNat : Int)) ∘ fun n : Int => UInt8.ofNat n.toNat) x = id x := fun x hx => by
    have h1 := h x hx
    simp only [Function.comp, UInt8.toNat_ofNat', Nat.reducePow, id]
    rw [Nat.mod_eq_of_lt (by omega)]
    omega
  rw [List.map_congr_left this, List.map_id]
theorem str_nums {l : List Int} (h : Byt l) (s : ByteArray) : strOfNums l = s ↔ l = bytesOf s :=
  ⟨fun e => by rw [← e, bytes_back h], fun e => by rw [e, nums_back]⟩
theorem bytes_first (s : ByteArray) : (bytesOf s).getD 0 0 = bt s 0 := by
  unfold bytesOf bt
  by_cases h : 0 < s.size
  · rw [dif_pos (by simpa using h), List.getD_eq_getElem?_getD, List.getElem?_eq_getElem (by rw [List.length_map, data_length]; exact h)]
    simp
    rfl
  · rw [dif_neg (by simpa using h), List.getD_eq_getElem?_getD, List.getElem?_eq_none (by rw [List.length_map, data_length]; omega)]
    rfl
/-- The ticket of bytes by the reference, or why it is none. -/
def refT (key : List Int) (s : ByteArray) : Tk × Int :=
  if s.size = 53 ∧ bt s 0 = 116 then (if strOfNums ((Tk.of (bytesOf s)).front ++ tag key (Tk.of (bytesOf s)).front) = s then (Tk.of (bytesOf s), 0) else (Tk.zero, 8)) else (Tk.zero, 7)
def refN (key : List Int) (s : ByteArray) : Tn × Int :=
  if s.size = 60 ∧ bt s 0 = 106 then (if strOfNums ((Tn.of (bytesOf s)).front ++ tag key (Tn.of (bytesOf s)).front) = s then (Tn.of (bytesOf s), 0) else (Tn.zero, 8)) else (Tn.zero, 7)
theorem cut_in (b : List Int) (n i k : Nat) (h : i + k ≤ n) : ((b.take n).drop i).take k = (b.drop i).take k := by
  rw [List.drop_take, List.take_take, Nat.min_eq_left (by omega)]
theorem Tk.of_take (b : List Int) : Tk.of (b.take 21) = Tk.of b := by
  unfold Tk.of
  rw [cut_in _ _ _ _ (by omega), cut_in _ _ _ _ (by omega), cut_in _ _ _ _ (by omega)]
theorem Tn.of_take (b : List Int) : Tn.of (b.take 28) = Tn.of b := by
  unfold Tn.of
  rw [cut_in _ _ _ _ (by omega), cut_in _ _ _ _ (by omega), cut_in _ _ _ _ (by omega), cut_in _ _ _ _ (by omega), cut_in _ _ _ _ (by omega), cut_in _ _ _ _ (by omega)]
theorem first_take (b : List Int) (n : Nat) (h : 0 < n) : (b.take n).getD 0 0 = b.getD 0 0 := by
  match b, n, h with
  | [], _, _ => simp
  | x :: l, n + 1, _ => rfl
theorem front_cut {s : ByteArray} (h1 : s.size = 53) (h0 : bt s 0 = 116) : (Tk.of (bytesOf s)).front = (bytesOf s).take 21 := by
  rw [← Tk.of_take]
  exact Tk.front_of ((bytesOf_byt s).take 21) (by rw [List.length_take, bytesOf_length]; omega) (by rw [first_take _ _ (by decide), bytes_first, h0])
theorem front_cutn {s : ByteArray} (h1 : s.size = 60) (h0 : bt s 0 = 106) : (Tn.of (bytesOf s)).front = (bytesOf s).take 28 := by
  rw [← Tn.of_take]
  exact Tn.front_of ((bytesOf_byt s).take 28) (by rw [List.length_take, bytesOf_length]; omega) (by rw [first_take _ _ (by decide), bytes_first, h0])
theorem split_iff (b t : List Int) (n : Nat) : b.take n ++ t = b ↔ b.drop n = t := by
  constructor
  · intro h
    have h2 : b.take n ++ t = b.take n ++ b.drop n := by rw [h, List.take_append_drop]
    exact (List.append_cancel_left h2).symm
  · rintro rfl
    exact List.take_append_drop _ _
theorem openT_ref (key : List Int) (s : ByteArray) : openT (fun tg x => decide (tg = tagk (kbl key) x)) s = refT key s := by
  unfold openT refT
  by_cases h : s.size = 53 ∧ bt s 0 = 116
  · rw [if_pos h, if_pos h, front_cut h.1 h.2]
    have e : (strOfNums ((bytesOf s).take 21 ++ tag key ((bytesOf s).take 21)) = s) ↔ (decide ((bytesOf s).drop 21 = tagk (kbl key) ((bytesOf s).take 21)) = true) := by
      rw [str_nums (((bytesOf_byt s).take 21).append (tag_byt _ _)), split_iff, decide_eq_true_iff]
      exact Iff.rfl
    by_cases g : strOfNums ((bytesOf s).take 21 ++ tag key ((bytesOf s).take 21)) = s
    · rw [if_pos g, if_pos (e.1 g)]
    · rw [if_neg g, if_neg fun hg => g (e.2 hg)]
  · rw [if_neg h, if_neg h]
theorem openN_ref (key : List Int) (s : ByteArray) : openN (fun tg x => decide (tg = tagk (kbl key) x)) s = refN key s := by
  unfold openN refN
  by_cases h : s.size = 60 ∧ bt s 0 = 106
  · rw [if_pos h, if_pos h, front_cutn h.1 h.2]
    have e : (strOfNums ((bytesOf s).take 28 ++ tag key ((bytesOf s).take 28)) = s) ↔ (decide ((bytesOf s).drop 28 = tagk (kbl key) ((bytesOf s).take 28)) = true) := by
      rw [str_nums (((bytesOf_byt s).take 28).append (tag_byt _ _)), split_iff, decide_eq_true_iff]
      exact Iff.rfl
    by_cases g : strOfNums ((bytesOf s).take 28 ++ tag key ((bytesOf s).take 28)) = s
    · rw [if_pos g, if_pos (e.1 g)]
    · rw [if_neg g, if_neg fun hg => g (e.2 hg)]
  · rw [if_neg h, if_neg h]
/-- What is sealed, as bytes. -/
theorem seal_bytes (key : List Int) (t : Tk) : bytesOf (strOfNums (t.front ++ tag key t.front)) = t.front ++ tag key t.front := bytes_back (t.front_byt.append (tag_byt _ _))
theorem seal_bytesn (key : List Int) (t : Tn) : bytesOf (strOfNums (t.front ++ tag key t.front)) = t.front ++ tag key t.front := bytes_back (t.front_byt.append (tag_byt _ _))
theorem seal_size (key : List Int) (t : Tk) : (strOfNums (t.front ++ tag key t.front)).size = 53 := by
  rw [← bytesOf_length, seal_bytes, List.length_append, Tk.front_length, tag_length]
theorem seal_sizen (key : List Int) (t : Tn) : (strOfNums (t.front ++ tag key t.front)).size = 60 := by
  rw [← bytesOf_length, seal_bytesn, List.length_append, Tn.front_length, tag_length]
theorem seal_first (key : List Int) (t : Tk) : bt (strOfNums (t.front ++ tag key t.front)) 0 = 116 := by
  rw [← bytes_first, seal_bytes]
  rfl
theorem seal_firstn (key : List Int) (t : Tn) : bt (strOfNums (t.front ++ tag key t.front)) 0 = 106 := by
  rw [← bytes_first, seal_bytesn]
  rfl
/-- What is sealed is opened as it was, by whoever finds its tag right. -/
theorem openT_seal {ff : List Int → List Int → Bool} (key : List Int) {t : Tk} (ht : t.ok) : openT ff (strOfNums (t.front ++ tag key t.front)) = if ff (tag key t.front) t.front = true then (t, 0) else (Tk.zero, 8) := by
  unfold openT
  rw [if_pos ⟨seal_size key t, seal_first key t⟩, seal_bytes, (cut_first t.front (tag key t.front) 21 t.front_length).1, (cut_first t.front (tag key t.front) 21 t.front_length).2, Tk.of_front ht]
theorem openN_seal {ff : List Int → List Int → Bool} (key : List Int) {t : Tn} (ht : t.ok) : openN ff (strOfNums (t.front ++ tag key t.front)) = if ff (tag key t.front) t.front = true then (t, 0) else (Tn.zero, 8) := by
  unfold openN
  rw [if_pos ⟨seal_sizen key t, seal_firstn key t⟩, seal_bytesn, (cut_first t.front (tag key t.front) 28 t.front_length).1, (cut_first t.front (tag key t.front) 28 t.front_length).2, Tn.of_front ht]
theorem openT_token {ff : List Int → List Int → Bool} (key : List Int) (t : Tn) : openT ff (strOfNums (t.front ++ tag key t.front)) = (Tk.zero, 7) := by
  unfold openT
  rw [if_neg fun h => by rw [seal_sizen] at h; omega]
theorem openN_ticket {ff : List Int → List Int → Bool} (key : List Int) (t : Tk) : openN ff (strOfNums (t.front ++ tag key t.front)) = (Tn.zero, 7) := by
  unfold openN
  rw [if_neg fun h => by rw [seal_size] at h; omega]
end Go.Proofs.YtpigkgnmegpddaaDoor.Sh
