/-
Puts, parts, seals, signed bytes, and what the chapter's examples say.
-/
import Derived.Test.YtpigkgnmegpddaaDoorPz
import Derived.Test.YtpigkgnmegpddaaDoorPp
import Derived.Test.YtpigkgnmegpddaaDoorMd
import Derived.Lib.SlBytesConst
namespace Go.Proofs.YtpigkgnmegpddaaDoor.Sh
set_option linter.unusedVariables false
set_option linter.unusedSimpArgs false
open Go.Proofs.YtpigkgnmegpddaaDoor.PPassTickets Go.RowKit Go.Proofs.YtpigkgnmegpddaaDoorW.PrintWords Go.Proofs.YtpigkgnmegpddaaDoorW.PrintLast Go.Proofs.YtpigkgnmegpddaaDoorW.PrintMore

theorem wrap64_small {n : Int} (h : -9223372036854775808 ≤ n ∧ n ≤ 9223372036854775807) : wrap64 n = n := by
  unfold wrap64
  omega
theorem bex_snoc (n k : Nat) : bex n (k + 1) = bex (n / 256) k ++ [((n % 256 : Nat) : Int)] := by
  induction k with
  | zero => simp [bex]
  | succ k ih =>
    rw [bex, ih, bex, Nat.div_div_eq_div_mul, Nat.pow_succ', List.cons_append]
theorem put_l0 (n : Nat) : ∀ (k j : Nat) (l : List Int), k ≤ 8 → l.length + k < 140737488355328 → field_Put.l0 (k + 1 + j) n l ((k : Int) - 1) = some (l ++ bex n k) := by
  intro k
  induction k with
  | zero =>
    intro j l _ _
    rw [show 0 + 1 + j = j + 1 from by omega, field_Put.l0, if_neg (by omega), bex, List.append_nil]
  | succ k ih =>
    intro j l hk hl
    have hw : wrap64 (8 * ((k : Nat) : Int)) = 8 * (k : Int) := wrap64_small (by omega)
    have hs : shr .u64 (n : Int) (8 * (k : Int)) % 256 = ((n / 256 ^ k % 256 : Nat) : Int) := by
      unfold shr
      rw [Nat.min_eq_left (by show (8 * (k : Int)).toNat ≤ 64; omega), show (8 * (k : Int)).toNat = 8 * k from by omega, show ((2 : Int) ^ (8 * k)) = ((256 ^ k : Nat) : Int) from by rw [show (256 : Nat) ^ k = 2 ^ (8 * k) from by rw [Nat.pow_mul]]; simp]
      generalize 256 ^ k = c
      rfl
    rw [show k + 1 + 1 + j = (k + 1 + j) + 1 from by omega, field_Put.l0, show ((k + 1 : Nat) : Int) - 1 = (k : Int) from by omega, if_pos (by omega), hw, if_pos (by omega), if_pos (by omega), hs,
      wrap64_small (by omega), ih j _ (by omega) (by rw [List.length_append, List.length_singleton]; omega), List.append_assoc]
    rfl
theorem put_f (n k : Nat) (l : List Int) (hk : k ≤ 8) (hl : l.length ≤ 1000) : field_Put.f 10 l n k = some (l ++ bex n k) := by
  unfold field_Put.f
  have h1 : mx 0 (mn (k : Int) 8) = k := by
    unfold mx mn
    split <;> split <;> omega
  rw [Option.bind_some, List.length_nil, if_pos (by omega), List.nil_append, h1, show 10 = k + 1 + (9 - k) from by omega]
  exact put_l0 n k _ l hk (by omega)
theorem rput_l0 : ∀ (m n j : Nat) (r : List Int), m ≤ 8 → n < 18446744073709551616 → tiltyardref01_Put.l0 (m + 1 + j) n (List.replicate m 0 ++ r) ((m : Int) - 1) = some (bex n m ++ r) := by
  intro m
  induction m with
  | zero =>
    intro n j r _ _
    rw [show 0 + 1 + j = j + 1 from by omega, tiltyardref01_Put.l0, if_neg (by omega)]
    rfl
  | succ m ih =>
    intro n j r hm hn
    have h1 : IntKind.u64.wrap (Int.tdiv (n : Int) 256) = ((n / 256 : Nat) : Int) := by
      rw [Int.tdiv_eq_ediv_of_nonneg (by omega)]
      simp only [IntKind.wrap, IntKind.signed, IntKind.bits, Bool.false_and, Bool.false_eq_true, if_false]
      omega
    have h2 : Int.tmod (n : Int) 256 % 256 = ((n % 256 : Nat) : Int) := by
      rw [Int.tmod_eq_emod_of_nonneg (by omega)]
      omega
    have h3 : (List.replicate (m + 1) (0 : Int) ++ r).set m ((n % 256 : Nat) : Int) = List.replicate m 0 ++ (((n % 256 : Nat) : Int) :: r) := by
      rw [List.replicate_succ', List.append_assoc, List.set_append_right _ _ (by rw [List.length_replicate]; exact Nat.le_refl _), List.length_replicate, Nat.sub_self]
      rfl
    rw [show m + 1 + 1 + j = (m + 1 + j) + 1 from by omega, tiltyardref01_Put.l0, show ((m + 1 : Nat) : Int) - 1 = (m : Int) from by omega, if_pos (by omega), if_pos (by omega), if_pos (by rw [List.length_append, List.length_replicate]; omega),
      h1, h2, Int.toNat_natCast, h3, wrap64_small (by omega), ih (n / 256) j _ (by omega) (by omega), bex_snoc n m, List.append_assoc]
    rfl
theorem rput_f (n m : Nat) (hm : m ≤ 8) (hn : n < 18446744073709551616) : tiltyardref01_Put.f 10 n m = some (bex n m) := by
  unfold tiltyardref01_Put.f
  have h := rput_l0 m n (9 - m) [] hm hn
  rw [List.append_nil, List.append_nil, show m + 1 + (9 - m) = 10 from by omega] at h
  rw [if_pos (by omega), if_pos (by omega), Int.toNat_natCast, wrap64_small (by omega), h]
theorem put_any {A : Option Addr} {n c N m : Nat} {xs : List Int} (w : World) (hC : (Kd.int .u8).C w A n xs) (hc : n ≤ c) (hm : m ≤ 8) (hl : n ≤ 1000) :
    Calls Tryd.prog 62 #[.slice A n c, .int .u64 N, .int .i64 m] w fun e w' => ∃ v, e = .returned v ∧ Own w' w.heap.size v (xs ++ bex N m) ∧ Below w.heap.size w w' := by
  obtain rfl := hC.1
  exact field_Put.calls 10 A c xs N m _ w hC hc (put_f N m xs hm hl)
theorem rput_any {N m : Nat} (w : World) (hm : m ≤ 8) (hN : N < 18446744073709551616) :
    Calls Tryd.prog 57 #[.int .u64 N, .int .i64 m] w fun e w' => ∃ v, e = .returned v ∧ Own w' w.heap.size v (bex N m) ∧ Below w.heap.size w w' :=
  tiltyardref01_Put.calls 10 N m _ w (rput_f N m hm hN)
end Go.Proofs.YtpigkgnmegpddaaDoor.Sh
namespace Go.Proofs.YtpigkgnmegpddaaDoor.Sh
set_option linter.unusedVariables false
set_option linter.unusedSimpArgs false
open Go.RowKit Go.Proofs.YtpigkgnmegpddaaDoorW.PrintWords Go.Proofs.YtpigkgnmegpddaaDoorW.PrintLast Go.Proofs.YtpigkgnmegpddaaDoorW.PrintMore

theorem size97 : (Tryd.prog.info? 97).map (·.size) = some 2 := by kernel_rfl
theorem str_app (xs ys : List Int) : strOfNums xs ++ strOfNums ys = strOfNums (xs ++ ys) := by
  apply ByteArray.ext
  simp [strOfNums]
set_option maxRecDepth 100000 in
set_option maxHeartbeats 4000000 in
theorem parts_any {e : Int} {E n : Nat} (w : World) (hE : IntKind.u64.wrap e = E) :
    Calls Tryd.prog 55 #[.agg #[.int .i64 e, .int .u64 n]] w fun r w' => r = .returned (.tuple #[.agg #[.int .u64 E, .int .i64 8], .agg #[.int .u64 n, .int .i64 8]]) ∧ Below w.heap.size w w' := by
  have hu97 := Tryd.underlying97
  have hu58 := Tryd.underlying58
  have hE2 : e % 18446744073709551616 = E := by rw [← hE]; simp [IntKind.wrap, IntKind.signed, IntKind.bits]
  have HE2 := Aside0.mk (And.intro hE hE2)
  clear hE hE2
  go_enter Tryd.func55, Tryd.ntmps55
  go_wp2_with (first | ((with_reducible refine gate_dst (N := 1) rfl ?_); refine box_event ?hg (N := 1) ?hd (cs := #[.int .i64 e, .int .u64 n]) (t := 58) ?hr ?_; (case hd => rfl); (case hg => rfl); (case hr => first | (go_simp; done) | (go_simp; rfl)); intro g1 hg_ w1 hbox_ hb_; have H1 := Aside0.mk hbox_; have HB1 := Aside0.mk hb_;clear hg_ hbox_ hb_) | ((with_reducible refine gate_dst (N := 2) rfl ?_); refine box_event ?hg (N := 2) ?hd (cs := #[.int .u64 0, .int .i64 0]) (t := 97) ?hr ?_; (case hd => rfl); (case hg => rfl); (case hr => first | (go_simp; done) | (go_simp; rfl)); intro g2 hg_ w2 hbox_ hb_; have H2 := Aside0.mk hbox_; have H12 := Aside0.mk (blk_below H1.out hb_); have HB2 := Aside0.mk (below_step HB1.out hb_); have Hg2 := Aside0.mk (show w.heap.size ≤ g2 ∧ g1 < g2 from by rw [hg_]; exact ⟨HB1.out.size, blk_lt H1.out⟩);clear hg_ hbox_ hb_) | ((with_reducible refine gate_dst (N := 3) rfl ?_); refine box_event ?hg (N := 3) ?hd (cs := #[.int .u64 0, .int .i64 0]) (t := 97) ?hr ?_; (case hd => rfl); (case hg => rfl); (case hr => first | (go_simp; done) | (go_simp; rfl)); intro g3 hg_ w3 hbox_ hb_; have H3 := Aside0.mk hbox_; have H13 := Aside0.mk (blk_below H12.out hb_); have H23 := Aside0.mk (blk_below H2.out hb_); have HB3 := Aside0.mk (below_step HB2.out hb_); have Hg3 := Aside0.mk (show w.heap.size ≤ g3 ∧ g2 < g3 from by rw [hg_]; exact ⟨HB2.out.size, blk_lt H2.out⟩);clear hg_ hbox_ hb_))
  have hS : (fun W : World => Aside0 (W.cell? ⟨g1, 0, none⟩ = some (.int .i64 e) ∧ W.cell? ⟨g1, 1, none⟩ = some (.int .u64 n))) w3.drew := ⟨(blk_cell H13.out 0).trans rfl, (blk_cell H13.out 1).trans rfl⟩
  refine start_ (S := fun W : World => Aside0 (W.cell? ⟨g1, 0, none⟩ = some (.int .i64 e) ∧ W.cell? ⟨g1, 1, none⟩ = some (.int .u64 n))) (ds := []) #[false, false, false, false, false, false, false, false, false] (by kernel_rfl) rfl rfl hS ?_
  intro hS_
  refine pure_ (i := 0) (a' := ?a1_1) (v := .pointer (some ⟨g1, 0, none⟩)) #[true, false, false, false, false, false, false, false, false] rfl rfl (by kernel_rfl) (fun _ _ _ h => h) (Or.inl ⟨rfl, ?hy1_1⟩) ?ha1_1 ?rest1_1
  case hy1_1 => intro w; first | (go_simp; done) | (go_simp; with_reducible rfl) | (go_simp; rfl)
  case ha1_1 => go_simp; rfl
  refine take_ (i := 1) (a' := ?a1_2) (v := .int .i64 e) #[true, true, false, false, false, false, false, false, false] rfl rfl (by kernel_rfl) (fun _ _ _ h => h) (yields_cell rfl (fun w h => by have h8 := h.out.1; (first | (go_simp; done) | (go_simp; with_reducible rfl) | (go_simp; rfl)))) hS_ ?ha1_2 ?rest1_2
  case ha1_2 => go_simp; rfl
  refine pure_ (i := 2) (a' := ?a1_3) (v := .int .u64 E) #[true, true, true, false, false, false, false, false, false] rfl rfl (by kernel_rfl) (fun _ _ _ h => h) (Or.inl ⟨rfl, ?hy1_3⟩) ?ha1_3 ?rest1_3
  case hy1_3 => intro w; (have h1 := HE2.out.1; have h2 := HE2.out.2; first | (go_simp; done) | (go_simp; rfl))
  case ha1_3 => go_simp; rfl
  refine pure_ (i := 3) (a' := ?a1_4) (v := .agg #[.int .u64 E, .int .i64 8]) #[true, true, true, true, false, false, false, false, false] rfl rfl (by kernel_rfl) (fun _ _ _ h => h) (Or.inl ⟨rfl, ?hy1_4⟩) ?ha1_4 ?rest1_4
  case hy1_4 => intro w; first | (go_simp; done) | (go_simp; with_reducible rfl) | (go_simp; rfl)
  case ha1_4 => go_simp; rfl
  refine pure_ (i := 4) (a' := ?a1_5) (v := .pointer (some ⟨g1, 1, none⟩)) #[true, true, true, true, true, false, false, false, false] rfl rfl (by kernel_rfl) (fun _ _ _ h => h) (Or.inl ⟨rfl, ?hy1_5⟩) ?ha1_5 ?rest1_5
  case hy1_5 => intro w; first | (go_simp; done) | (go_simp; with_reducible rfl) | (go_simp; rfl)
  case ha1_5 => go_simp; rfl
  refine take_ (i := 5) (a' := ?a1_6) (v := .int .u64 n) #[true, true, true, true, true, true, false, false, false] rfl rfl (by kernel_rfl) (fun _ _ _ h => h) (yields_cell rfl (fun w h => by have h8 := h.out.2; (first | (go_simp; done) | (go_simp; with_reducible rfl) | (go_simp; rfl)))) hS_ ?ha1_6 ?rest1_6
  case ha1_6 => go_simp; rfl
  refine pure_ (i := 6) (a' := ?a1_7) (v := .agg #[.int .u64 n, .int .i64 8]) #[true, true, true, true, true, true, true, false, false] rfl rfl (by kernel_rfl) (fun _ _ _ h => h) (Or.inl ⟨rfl, ?hy1_7⟩) ?ha1_7 ?rest1_7
  case hy1_7 => intro w; first | (go_simp; done) | (go_simp; with_reducible rfl) | (go_simp; rfl)
  case ha1_7 => go_simp; rfl
  refine one_ (i := 7) #[true, true, true, true, true, true, true, true, false] rfl rfl (by kernel_rfl) (by decide) ?_
  intro K_ hK_
  unfold Shut at hK_
  refine skip_ rfl rfl (run_store_row 97 (.tmp 2) (.tmp 7) rfl g2 0 #[.int .u64 E, .int .i64 8] rfl rfl (there_block H23.out 0 _ (by show 0 + 2 ≤ 2; omega)) size97 (by simp [Value.oneCell'])) ?_; have hS2 : Aside0 ((w3.drew.setCells g2 0 [.int .u64 E, .int .i64 8]).cell? ⟨g1, 0, none⟩ = some (.int .i64 e) ∧ (w3.drew.setCells g2 0 [.int .u64 E, .int .i64 8]).cell? ⟨g1, 1, none⟩ = some (.int .u64 n)) := ⟨(World.cell?_of_block (setCells_far _ _ g1 (Nat.ne_of_lt Hg2.out.2))).trans hS_.out.1, (World.cell?_of_block (setCells_far _ _ g1 (Nat.ne_of_lt Hg2.out.2))).trans hS_.out.2⟩; refine hK_ _ _ hS2 (fun hS_ => ?_); clear hK_
  refine norm_ (a' := ?a1_9n) ?ha1_9n ?rest1_9n
  case ha1_9n => go_simp; rfl
  refine one_ (i := 8) #[true, true, true, true, true, true, true, true, true] rfl rfl (by kernel_rfl) (by decide) ?_
  intro K_ hK_
  unfold Shut at hK_
  refine skip_ rfl rfl (run_store_row 97 (.tmp 3) (.tmp 10) rfl g3 0 #[.int .u64 n, .int .i64 8] rfl rfl (there_block (show (w3.drew.setCells g2 0 [.int .u64 E, .int .i64 8]).heap[g3]? = _ from (setCells_far _ _ g3 (Nat.ne_of_gt Hg3.out.2)).trans H3.out) 0 _ (by show 0 + 2 ≤ 2; omega)) size97 (by simp [Value.oneCell'])) ?_; refine hK_ _ _ ⟨(World.cell?_of_block (setCells_far _ _ g1 (Nat.ne_of_lt (Nat.lt_trans Hg2.out.2 Hg3.out.2)))).trans hS_.out.1, (World.cell?_of_block (setCells_far _ _ g1 (Nat.ne_of_lt (Nat.lt_trans Hg2.out.2 Hg3.out.2)))).trans hS_.out.2⟩ (fun hS_ => ?_); clear hK_
  refine norm_ (a' := ?a1_11n) ?ha1_11n ?rest1_11n
  case ha1_11n => go_simp; rfl
  refine done_ (by kernel_rfl) ?_
  obtain ⟨wq, hwq⟩ : ∃ wq, wq = (w3.drew.setCells g2 0 [.int .u64 E, .int .i64 8]).setCells g3 0 [.int .u64 n, .int .i64 8] := ⟨_, rfl⟩
  have R2 : Aside0 (wq.heap[g2]? = some (.cells #[.int .u64 E, .int .i64 8] 97 (0, 0))) := ⟨by
    rw [hwq, setCells_far _ _ g2 (Nat.ne_of_lt Hg3.out.2)]
    exact blk_set (blk_set H23.out 0 _) 1 _⟩
  have R3 : Aside0 (wq.heap[g3]? = some (.cells #[.int .u64 n, .int .i64 8] 97 (0, 0))) := ⟨by
    rw [hwq]
    have h : (w3.drew.setCells g2 0 [.int .u64 E, .int .i64 8]).heap[g3]? = some (.cells #[.int .u64 0, .int .i64 0] 97 (0, 0)) := (setCells_far _ _ g3 (Nat.ne_of_gt Hg3.out.2)).trans H3.out
    exact blk_set (blk_set h 0 _) 1 _⟩
  have HBf : Aside0 (Below w.heap.size w wq) := ⟨by
    rw [hwq]
    obtain ⟨a1, a2, a3, a4⟩ := setCells_same g2 [.int .u64 E, .int .i64 8] 0 w3.drew
    obtain ⟨b1, b2, b3, b4⟩ := setCells_same g3 [.int .u64 n, .int .i64 8] 0 (w3.drew.setCells g2 0 [.int .u64 E, .int .i64 8])
    exact ((below_drew HB3.out).trans ⟨a1, a2, a3, by rw [a4]; exact Nat.le_refl _, fun k hk => setCells_far _ _ k (by have := Hg2.out.1; omega)⟩).trans ⟨b1, b2, b3, by rw [b4]; exact Nat.le_refl _, fun k hk => setCells_far _ _ k (by have := Hg3.out.1; omega)⟩⟩
  try rw [← hwq]
  go_wp2_with fail
  try rw [← hwq]
  refine bodyPost_ret (results_cc rfl _ _ g2 g3 97 97 #[.int .u64 E, .int .i64 8] #[.int .u64 n, .int .i64 8] (0, 0) (0, 0) _ _ rfl R2.out hu97 rfl size97 rfl R3.out hu97 rfl size97) rfl ?_
  exact ⟨rfl, HBf.out⟩
/-- Numbers put behind one another. -/
def pb (P : Nat → Nat × Nat) : Nat → List Int
  | 0 => []
  | k + 1 => pb P k ++ bex (P k).1 (P k).2
theorem pb_byt (P : Nat → Nat × Nat) (k : Nat) : Byt (pb P k) := by
  induction k with
  | zero => exact Byt.nil
  | succ k ih => exact ih.append (bex_byt _ _)
theorem pb_length {P : Nat → Nat × Nat} {m : Nat} (h : ∀ k, k < m → (P k).2 ≤ 8) : ∀ k, k ≤ m → (pb P k).length ≤ 8 * k := by
  intro k
  induction k with
  | zero => intro _; simp [pb]
  | succ k ih =>
    intro hk
    have := ih (by omega)
    have := h k (by omega)
    rw [pb, List.length_append, bex_length]
    omega
/-- What the tag by a key is. -/
structure KeyTag (w : World) (K : Value) (tf : List Int → List Int) : Prop where
  len : ∀ x, (tf x).length = 32
  byt : ∀ x, Byt (tf x)
  tag : ∀ (W : World) (A : Option Addr) (n c : Nat) (ps : List (List Int)), Below w.heap.size w W → Tab W → Rp (fun _ => False) W A n ps → (∀ p ∈ ps, Byt p) → (ps.map List.length).sum ≤ 1000000 →
    Calls Tryd.prog 35 #[K, .slice A n c] W fun e w' => e = .returned (.agg (v8 (tf ps.flatten))) ∧ Below W.heap.size W w'
theorem KeyTag.of {w : World} {g : Nat} {kb : List Int} (hk : Kk w g kb) (hl : kb.length = 64) (hb : Byt kb) : KeyTag w (.pointer (some ⟨g, 0, none⟩)) (tagk kb) :=
  ⟨fun _ => rfl, fun _ => tagk_byt _ _, fun W A n c ps hbel hT hR hby hm => ktag_any W hT (hk.below hbel hk.lt) hl hb hR hby hm⟩
theorem KeyTag.none (w : World) : KeyTag w (.pointer none) (fun _ => List.replicate 32 0) :=
  ⟨fun _ => rfl, fun _ => Byt.replicate _, fun W A n c ps _ _ _ _ _ => ktag_nil W⟩
theorem KeyTag.below {w w1 : World} {K : Value} {tf : List Int → List Int} (h : KeyTag w K tf) (hb : Below w.heap.size w w1) : KeyTag w1 K tf :=
  ⟨h.len, h.byt, fun W A n c ps hbel hT hR hby hm => h.tag W A n c ps (below_step hb hbel) hT hR hby hm⟩
/-- Parts that lie in a block. -/
def Pt (W : World) (g m : Nat) (P : Nat → Nat × Nat) : Prop := ∀ k, k < m → W.cell? ⟨g, k * 2, none⟩ = some (.int .u64 ((P k).1 : Nat)) ∧ W.cell? ⟨g, k * 2 + 1, none⟩ = some (.int .i64 ((P k).2 : Nat))
theorem Pt.below {W W1 : World} {b g m : Nat} {P : Nat → Nat × Nat} (h : Pt W g m P) (hb : Below b W W1) (hg : g < b) : Pt W1 g m P := fun k hk => by
  have h1 : ∀ o, W1.cell? ⟨g, o, none⟩ = W.cell? ⟨g, o, none⟩ := fun o => World.cell?_of_block (hb.block g hg)
  rw [h1, h1]
  exact h k hk
theorem Pt.range {W : World} {g m : Nat} {P : Nat → Nat × Nat} (h : Pt W g m P) {k : Nat} (hk : k < m) : W.rangeAt g (k * 2) (#[Value.int .u64 ((P k).1 : Nat), .int .i64 ((P k).2 : Nat)] : Array Value).toList := fun j v hv => by
  match j, hv with
  | 0, hv => exact (h k hk).1.trans hv
  | 1, hv => exact (h k hk).2.trans hv
set_option maxRecDepth 100000 in
set_option maxHeartbeats 4000000 in
theorem sealed_any {K : Value} {tf : List Int → List Int} {g m c : Nat} {sign : Int} {P : Nat → Nat × Nat} (w : World) (hT : Tab w) (hK : KeyTag w K tf) (hP : Pt w g m P) (hg : g < w.heap.size) (hm : m ≤ 6) (hs : 0 ≤ sign ∧ sign ≤ 255) (hP8 : ∀ k, k < m → (P k).2 ≤ 8) :
    Calls Tryd.prog 56 #[K, .int .u8 sign, .slice (some ⟨g, 0, none⟩) m c] w fun e w' => e = .returned (.string (strOfNums (([sign] ++ pb P m) ++ tf ([sign] ++ pb P m)))) ∧ Below w.heap.size w w' := by
  have hu30 := Tryd.underlying30
  have hu97 := Tryd.underlying97
  have HT := Aside0.mk hT
  have HK := Aside0.mk hK
  have HP := Aside0.mk (And.intro hP (And.intro hg (And.intro hs hP8)))
  clear hT hK hP hg hs hP8
  go_enter Tryd.func56, Tryd.ntmps56
  go_wp2_with fail
  go_loopg [7, 15] m (fun gk bv iv wr => ∃ (k : Nat) (A : Option Addr) (n c : Nat), k + gk = m ∧ iv = .int .i64 k ∧ bv = .slice A n c ∧ Aside0 (n ≤ c ∧ (Kd.int .u8).C wr A n ([sign] ++ pb P k)) ∧ Aside0 (Below w.heap.size w wr))
  case atStart => exact ⟨0, _, _, _, by omega, rfl, rfl, ⟨Nat.le_refl _, lit_C (l := [sign]) (fr := (0, 0)) (heap_alloc_new w _) (by simp)⟩, ⟨below_alloc (Below.refl _ _) _⟩⟩
  case round =>
    obtain ⟨k, A, n, cb, hk, rfl, rfl, HB, HW⟩ := hrel
    by_cases hlt : k < m
    · obtain ⟨gq, rfl⟩ : ∃ gq, gk = gq + 1 := ⟨gk - 1, by omega⟩
      have p1 : (0 : Int) ≤ (k : Int) := by omega
      obtain ⟨x, hx⟩ : ∃ x, x = (P k).1 := ⟨_, rfl⟩
      obtain ⟨y, hy⟩ : ∃ y, y = (P k).2 := ⟨_, rfl⟩
      have HR : Aside0 (wr.rangeAt g (k * 2) (#[Value.int .u64 (x : Nat), .int .i64 (y : Nat)] : Array Value).toList) := ⟨by rw [hx, hy]; exact (HP.out.1.below HW.out HP.out.2.1).range hlt⟩
      have Hxy : Aside0 (y ≤ 8 ∧ pb P (k + 1) = pb P k ++ bex x y) := ⟨by rw [hx, hy]; exact ⟨HP.out.2.2.2 k hlt, rfl⟩⟩
      clear hx hy
      have Hwb := Aside0.mk HW.out.size
      go_wp2_with (first | ((with_reducible refine gate_dst (N := 18) rfl ?_); refine load_mid ?hg (N := 18) ?hd 97 (.tmp 17) ?ho g (k * 2) ?hx (#[.int .u64 (x : Nat), .int .i64 (y : Nat)]) _ HR.out hu97 rfl size97 ?_; (case hg => rfl); (case hd => rfl); (case ho => rfl); (case hx => rfl)) | ((with_reducible refine gate_dst (N := 9) rfl ?_); refine box_event ?hg (N := 9) ?hd (cs := #[.int .u64 0, .int .i64 0]) (t := 97) ?hr ?_; (case hd => rfl); (case hg => rfl); (case hr => first | (go_simp; done) | (go_simp; rfl)); intro g9 hg_ w9 hbox_ hb_; have H9 := Aside0.mk hbox_; have HW9 := Aside0.mk (below_step HW.out hb_); have Hr9 := Aside0.mk hb_; have HB9 := Aside0.mk (show n ≤ cb ∧ (Kd.int .u8).C w9 A n ([sign] ++ pb P k) from ⟨HB.out.1, Kd.C_below HB.out.2 hb_⟩); have Hg9 := Aside0.mk (show w.heap.size ≤ g9 ∧ wr.heap.size ≤ g9 from by rw [hg_]; exact ⟨Hwb.out, Nat.le_refl _⟩);clear hg_ hbox_ hb_) | ((with_reducible refine gate_store (t := 97) (p := 9) rfl ?_); refine store_row ?hg (ty := 97) (p := 9) (v := ?vr_1) ?ho ?hd (g := g9) (t := 97) (old := #[.int .u64 0, .int .i64 0]) (cells := #[.int .u64 (x : Nat), .int .i64 (y : Nat)]) ?hx ?hy H9.out size97 rfl (by simp [Value.oneCell']) ?_; (case hd => rfl); (case hg => rfl); (case ho => rfl); (case hx => rfl); (case hy => rfl); intro w10 hbox_ hk_ hb_; have hx0 := (blk_cell hbox_ 0).trans rfl; have hx1 := (blk_cell hbox_ 1).trans rfl; have HW10 := Aside0.mk (HW9.out.trans (hb_.mono Hg9.out.1)); have HC10 := Aside0.mk (show (Kd.int .u8).C w10 A n ([sign] ++ pb P k) from Kd.C_below HB.out.2 (Hr9.out.trans (hb_.mono Hg9.out.2)));clear hbox_ hk_ hb_))
      have hn50 : n ≤ 1000 := by
        rw [← HB.out.2.1, List.length_append]
        have := pb_length HP.out.2.2.2 k (by omega)
        simp
        omega
      refine (put_any (N := x) w10 HC10.out HB.out.1 Hxy.out.1 hn50).mono ?_
      rintro e w11 ⟨v, rfl, ho, hb11⟩
      obtain ⟨B2, hB2⟩ : ∃ B2, B2 = ([sign] ++ pb P k) ++ bex x y := ⟨_, rfl⟩
      rw [← hB2] at ho
      obtain ⟨A2, c2, rfl⟩ := Kd.R_slice ho
      obtain ⟨L, hL⟩ : ∃ L, L = B2.length := ⟨_, rfl⟩
      have HN : Aside0 (L ≤ c2 ∧ (Kd.int .u8).C w11 A2 L ([sign] ++ pb P (k + 1))) := ⟨by
        rw [hL, Hxy.out.2, ← List.append_assoc, ← hB2]
        exact ⟨(Kd.R_reads' ho).2.1, (Kd.R_reads' ho).2.2⟩⟩
      have HW11 := Aside0.mk (below_step HW10.out hb11)
      rw [← hL]
      clear ho hb11 hB2 hL hx0 hx1 HB HW HR HC10 HW10 HB9 HW9 H9 Hr9 hn50
      go_wp2_with fail
      go_roundg gq
      case measure => omega
      case rel => exact ⟨k + 1, _, _, _, by omega, by go_num, rfl, HN, HW11⟩
    · have hkm : k = m := by omega
      subst hkm
      obtain ⟨B, hB⟩ : ∃ B, B = [sign] ++ pb P k := ⟨_, rfl⟩
      have HBb : Aside0 (Byt B ∧ B.length ≤ 1000) := ⟨by
        rw [hB]
        refine ⟨(Byt.cons HP.out.2.2.1.1 HP.out.2.2.1.2 Byt.nil).append (pb_byt _ _), ?_⟩
        rw [List.length_append]
        have := pb_length HP.out.2.2.2 k (by omega)
        simp
        omega⟩
      rw [← hB] at HB
      have HBe := Aside0.mk hB
      clear hB
      have hba := below_alloc (Below.refl wr.heap.size wr) (.cells #[.slice A n cb] 27)
      go_wp2_with fail
      refine (HK.out.tag _ (some ⟨wr.heap.size, 0, none⟩) 1 1 [B] (below_step HW.out hba) (HT.out.below (below_step HW.out hba)) (parts_one (heap_alloc_new _ _) (fun h => h) (Rd.came HB.out.2 hba (fun _ hk => hk.elim)) HB.out.1) (fun p hp => by rw [List.mem_singleton.1 hp]; exact HBb.out.1) (by have := HBb.out.2; simpa using (by omega : B.length ≤ 1000000))).mono ?_
      rintro e w12 ⟨rfl, hb12⟩
      obtain ⟨tb, htb⟩ : ∃ tb, tb = tf B := ⟨_, rfl⟩
      have e1 : tf [B].flatten = tb := by rw [htb]; simp
      have Htb : Aside0 (tb.length = 32 ∧ tf B = tb) := ⟨by rw [htb]; exact ⟨HK.out.len _, rfl⟩⟩
      rw [e1]
      have HW12 := Aside0.mk (below_step (below_step HW.out hba) hb12)
      have HC12 := Aside0.mk (Kd.C_below HB.out.2 (below_step hba hb12))
      clear e1 htb hb12 hba HW HB
      go_wp2_with (first | ((with_reducible refine gate_dst (N := 10) rfl ?_); refine box_event ?hg (N := 10) ?hd (cs := v8 (List.replicate 32 0)) (t := 30) ?hr ?_; (case hd => rfl); (case hg => rfl); (case hr => first | (go_simp; done) | (go_simp; rfl)); intro g10 hg_ w13 hbox_ hb_; have H13 := Aside0.mk hbox_; have HW13 := Aside0.mk (below_step HW12.out hb_); have HC13 := Aside0.mk (Kd.C_below HC12.out hb_); have Hg10 := Aside0.mk (show w.heap.size ≤ g10 ∧ w12.heap.size ≤ g10 from by rw [hg_]; exact ⟨HW12.out.size, Nat.le_refl _⟩); have Hr13 := Aside0.mk hb_;clear hg_ hbox_ hb_) | ((with_reducible refine gate_store (t := 30) (p := 10) rfl ?_); refine store_row ?hg (ty := 30) (p := 10) (v := ?vr_2) ?ho ?hd (g := g10) (t := 30) (old := v8 (List.replicate 32 0)) (cells := v8 tb) ?hx ?hy H13.out (size30 Htb.out.1) (by rw [v8_size, v8_size, Htb.out.1, List.length_replicate]) (v8_one _) ?_; (case hd => rfl); (case hg => rfl); (case ho => rfl); (case hx => rfl); (case hy => rfl); intro w14 hbox_ hk_ hb_; have H14 := Aside0.mk (show B8 w14 g10 30 tb from hbox_); have HW14 := Aside0.mk (HW13.out.trans (hb_.mono Hg10.out.1)); have HC14 := Aside0.mk (Kd.C_below HC12.out (Hr13.out.trans (hb_.mono Hg10.out.2)));clear hbox_ hk_ hb_))
      obtain ⟨s1, hs1⟩ : ∃ s1, s1 = strOfNums B := ⟨_, rfl⟩
      obtain ⟨s2, hs2⟩ : ∃ s2, s2 = strOfNums tb := ⟨_, rfl⟩
      have Hs1 := Aside0.mk hs1
      have Hs2 := Aside0.mk hs2
      have Hs12 : Aside0 (s1 ++ s2 = strOfNums (B ++ tf B)) := ⟨by rw [hs1, hs2, str_app, Htb.out.2]⟩
      have hsz : s1.size + s2.size ≤ 9223372036854775807 := by rw [hs1, hs2, strOfNums_size, strOfNums_size, Htb.out.1]; have := HBb.out.2; omega
      clear hs1 hs2 H13 HW13 HC13 HC12 HW12
      have hS : (fun W : World => Aside0 ((Kd.int .u8).C W A n B ∧ B8 W g10 30 tb)) w14.drew := ⟨Kd.C_drew HC14.out, H14.out⟩
      refine start_ (S := fun W : World => Aside0 ((Kd.int .u8).C W A n B ∧ B8 W g10 30 tb)) (ds := []) #[false, false, false, false, false, false] (by kernel_rfl) rfl rfl hS ?_
      intro hS_
      refine pure_ (i := 0) (a' := ?a2_1) (v := .slice A n cb) #[true, false, false, false, false, false] rfl rfl (by kernel_rfl) (fun _ _ _ h => h) (Or.inl ⟨rfl, ?hy2_1⟩) ?ha2_1 ?rest2_1
      case hy2_1 => intro w; first | (go_simp; done) | (go_simp; with_reducible rfl) | (go_simp; rfl)
      case ha2_1 => go_simp; rfl
      refine take_ (i := 1) (a' := ?a2_2) (v := .string s1) #[true, true, false, false, false, false] rfl rfl (by kernel_rfl) (fun _ _ _ h => h) (yields_cell rfl (fun w h => by have hcv := (Hs1.out ▸ Kd.C_string Tryd.underlying27 Tryd.underlying5 Tryd.underlying9 h.out.1 : (convert 27 9 (.slice A n cb)).run Tryd.prog w = .ok (.string s1) w); (first | (go_simp; done) | (go_simp; with_reducible rfl) | (go_simp; rfl)))) hS_ ?ha2_2 ?rest2_2
      case ha2_2 => go_simp; rfl
      refine pure_ (i := 2) (a' := ?a2_3) (v := .slice (some ⟨g10, 0, none⟩) 32 32) #[true, true, true, false, false, false] rfl rfl (by kernel_rfl) (fun _ _ _ h => h) (Or.inl ⟨rfl, ?hy2_3⟩) ?ha2_3 ?rest2_3
      case hy2_3 => intro w; first | (go_simp; done) | (go_simp; with_reducible rfl) | (go_simp; rfl)
      case ha2_3 => go_simp; rfl
      refine take_ (i := 3) (a' := ?a2_4) (v := .string s2) #[true, true, true, true, false, false] rfl rfl (by kernel_rfl) (fun _ _ _ h => h) (yields_cell rfl (fun w h => by have hcv := (Hs2.out ▸ Kd.C_string Tryd.underlying27 Tryd.underlying5 Tryd.underlying9 (row_read (S := fun _ => False) h.out.2 (fun h => h) Htb.out.1 (by decide)).now : (convert 27 9 (.slice (some ⟨g10, 0, none⟩) 32 32)).run Tryd.prog w = .ok (.string s2) w); (first | (go_simp; done) | (go_simp; with_reducible rfl) | (go_simp; rfl)))) hS_ ?ha2_4 ?rest2_4
      case ha2_4 => go_simp; rfl
      refine pure_ (i := 4) (a' := ?a2_5) (v := .string (s1 ++ s2)) #[true, true, true, true, true, false] rfl rfl (by kernel_rfl) (fun _ _ _ h => h) (Or.inl ⟨rfl, ?hy2_5⟩) ?ha2_5 ?rest2_5
      case hy2_5 => intro w; first | (go_simp; done) | (go_simp; with_reducible rfl) | (go_simp; rfl)
      case ha2_5 => go_simp; rfl
      refine pure_ (i := 5) (a' := ?a2_6) (v := .string (s1 ++ s2)) #[true, true, true, true, true, true] rfl rfl (by kernel_rfl) (fun _ _ _ h => h) (Or.inl ⟨rfl, ?hy2_6⟩) ?ha2_6 ?rest2_6
      case hy2_6 => intro w; first | (go_simp; done) | (go_simp; with_reducible rfl) | (go_simp; rfl)
      case ha2_6 => go_simp; rfl
      refine done_ (by kernel_rfl) ?_
      have HBf := Aside0.mk (below_drew HW14.out)
      go_wp2_with fail
      go_ret
      exact ⟨congrArg (fun s => Ending.returned (.string s)) (Hs12.out.trans (by rw [HBe.out]; rfl)), HBf.out⟩
end Go.Proofs.YtpigkgnmegpddaaDoor.Sh
namespace Go.Proofs.YtpigkgnmegpddaaDoor.Sh
set_option linter.unusedVariables false
set_option linter.unusedSimpArgs false
open Go.RowKit Go.Proofs.YtpigkgnmegpddaaDoorW.PrintWords Go.Proofs.YtpigkgnmegpddaaDoorW.PrintLast Go.Proofs.YtpigkgnmegpddaaDoorW.PrintMore

theorem lit_byte {ops : Array Oper} {rest : List Oper} {o : Oper} {a : Act} {Q : Exit → Act → World → Prop} {w0 W : World} (base : Nat) (y : Int) (hgd : o.guard = none) {N : Tmp} (hd : o.dst = some N)
    (hrun : (execOp a.eval o).run Tryd.prog W = .ok (.value (.slice (some ⟨W.heap.size, 0, none⟩) 1 1)) (W.alloc (.cells #[.int .u8 y] 5)))
    (HB : Below base w0 W) (hb : base ≤ W.heap.size)
    (h : ∀ v1 w1, Own w1 base v1 [y] → Below base w0 w1 → wpList Tryd.prog ops Q rest (a.put o.dst v1) w1) : wpList Tryd.prog ops Q (o :: rest) a W :=
  Kd.R_lit (Kd.int .u8) (w0 := w0) base 5 hgd hd (xs := [y]) (inner := [.int .u8 y]) (ok := fun _ => True) (okp := fun _ => False) hrun (Reps.one (v := .int .u8 y) rfl (Reps.none _ _)) (fun _ hk => hk.elim) trivial HB hb (by simp)
    (fun v1 w1 h1 h2 _ _ => h v1 w1 h1 h2)
theorem wrap_un (e : Int) : IntKind.u64.wrap e = ((un e : Nat) : Int) := by
  unfold un
  simp only [IntKind.wrap, IntKind.signed, IntKind.bits, Bool.false_and, Bool.false_eq_true, if_false]
  omega
theorem size58 : (Tryd.prog.info? 58).map (·.size) = some 2 := by kernel_rfl
theorem size60 : (Tryd.prog.info? 60).map (·.size) = some 3 := by kernel_rfl
def Tk.P (t : Tk) : Nat → Nat × Nat := fun k => [(t.p, 4), (un t.e, 8), (t.n, 8)].getD k (0, 0)
def Tn.P (t : Tn) : Nat → Nat × Nat := fun k => [(t.p, 4), (t.m, 4), (t.i, 2), (t.s, 1), (un t.e, 8), (t.n, 8)].getD k (0, 0)
theorem Tk.P_front (t : Tk) : [116] ++ pb t.P 3 = t.front := by
  show [116] ++ ((([] ++ bex t.p 4) ++ bex (un t.e) 8) ++ bex t.n 8) = _
  simp [Tk.front, List.append_assoc]
theorem Tn.P_front (t : Tn) : [106] ++ pb t.P 6 = t.front := by
  show [106] ++ (((((([] ++ bex t.p 4) ++ bex t.m 4) ++ bex t.i 2) ++ bex t.s 1) ++ bex (un t.e) 8) ++ bex t.n 8) = _
  simp [Tn.front, List.append_assoc]
theorem Tk.P_le (t : Tk) : ∀ k, k < 3 → (t.P k).2 ≤ 8 := fun k hk => by
  match k, hk with
  | 0, _ => exact (by decide : 4 ≤ 8)
  | 1, _ => exact (by decide : 8 ≤ 8)
  | 2, _ => exact (by decide : 8 ≤ 8)
theorem Tn.P_le (t : Tn) : ∀ k, k < 6 → (t.P k).2 ≤ 8 := fun k hk => by
  match k, hk with
  | 0, _ => exact (by decide : 4 ≤ 8)
  | 1, _ => exact (by decide : 4 ≤ 8)
  | 2, _ => exact (by decide : 2 ≤ 8)
  | 3, _ => exact (by decide : 1 ≤ 8)
  | 4, _ => exact (by decide : 8 ≤ 8)
  | 5, _ => exact (by decide : 8 ≤ 8)
set_option maxRecDepth 100000 in
set_option maxHeartbeats 4000000 in
theorem seal39 {t : Tk} {K : Value} {tf : List Int → List Int} (w : World) (hT : Tab w) (hK : KeyTag w K tf) (ht : t.ok) :
    Calls Tryd.prog 39 #[.agg #[.int .u32 t.p, .int .i64 t.e, .int .u64 t.n], K] w fun e w' => e = .returned (.string (strOfNums (t.front ++ tf t.front))) ∧ Below w.heap.size w w' := by
  have hu97 := Tryd.underlying97
  have hu58 := Tryd.underlying58
  have HT := Aside0.mk hT
  have HK := Aside0.mk hK
  have Ht := Aside0.mk ht
  obtain ⟨p, hp⟩ : ∃ p, p = t.p := ⟨_, rfl⟩
  obtain ⟨te, hte⟩ : ∃ te, te = t.e := ⟨_, rfl⟩
  obtain ⟨n, hn⟩ : ∃ n, n = t.n := ⟨_, rfl⟩
  obtain ⟨E, hE⟩ : ∃ E, E = un te := ⟨_, rfl⟩
  have HPP : Aside0 (∀ (W : World) (g : Nat), W.heap[g]? = some (.cells #[.int .u64 p, .int .i64 4, .int .u64 E, .int .i64 8, .int .u64 n, .int .i64 8] 97 (0, 0)) → Pt W g 3 t.P) := ⟨fun W g h k hk => by
    rw [hp, hE, hte, hn] at h
    match k, hk with
    | 0, _ => exact ⟨(blk_cell h 0).trans rfl, (blk_cell h 1).trans rfl⟩
    | 1, _ => exact ⟨(blk_cell h 2).trans rfl, (blk_cell h 3).trans rfl⟩
    | 2, _ => exact ⟨(blk_cell h 4).trans rfl, (blk_cell h 5).trans rfl⟩⟩
  have HE : Aside0 (IntKind.u64.wrap te = (E : Nat)) := ⟨by rw [hE]; exact wrap_un te⟩
  have qp : (0 : Int) ≤ (p : Int) := by omega
  have rp : (p : Int) ≤ 4294967295 := by have := ht.1; omega
  rw [← hp, ← hte, ← hn]
  clear hT hK ht hp hte hn hE
  go_enter Tryd.func39, Tryd.ntmps39
  go_wp2_with (first | ((with_reducible refine gate_dst (N := 2) rfl ?_); refine box_event ?hg (N := 2) ?hd (cs := #[.int .u32 (p : Nat), .int .i64 te, .int .u64 (n : Nat)]) (t := 60) ?hr ?_; (case hd => rfl); (case hg => rfl); (case hr => first | (go_simp; done) | (go_simp; rfl)); intro g2 hg_ w1 hbox_ hb_; have H1 := Aside0.mk hbox_; have HB1 := Aside0.mk hb_;clear hg_ hbox_ hb_) | ((with_reducible refine gate_dst (N := 9) rfl ?_); refine load_mid ?hg (N := 9) ?hd 58 (.tmp 8) ?ho g2 1 ?hx (#[.int .i64 te, .int .u64 (n : Nat)]) _ (fun j v hv => by match j, hv with | 0, hv => exact ((blk_cell H1.out 1).trans rfl).trans hv | 1, hv => exact ((blk_cell H1.out 2).trans rfl).trans hv) hu58 rfl size58 ?_; (case hg => rfl); (case hd => rfl); (case ho => rfl); (case hx => rfl)))
  refine (parts_any w1 HE.out).mono ?_
  rintro e w2 ⟨rfl, hb2⟩
  have HB2 := Aside0.mk (below_step HB1.out hb2)
  have H2 := Aside0.mk (blk_below H1.out hb2)
  have hc0 := (blk_cell H2.out 0).trans rfl
  clear hb2 HB1 H1
  go_wp2_with (first | ((with_reducible refine gate_dst (N := 5) rfl ?_); refine box_event ?hg (N := 5) ?hd (cs := #[.int .u64 0, .int .i64 0]) (t := 97) ?hr ?_; (case hd => rfl); (case hg => rfl); (case hr => first | (go_simp; done) | (go_simp; rfl)); intro g5 hg_ w3 hbox_ hb_; have H5 := Aside0.mk hbox_; have H23 := Aside0.mk (blk_below H2.out hb_); have HB3 := Aside0.mk (below_step HB2.out hb_); have Hg5 := Aside0.mk (show w.heap.size ≤ g5 ∧ g2 < g5 from by rw [hg_]; exact ⟨HB2.out.size, blk_lt H2.out⟩);clear hg_ hbox_ hb_) | ((with_reducible refine gate_dst (N := 6) rfl ?_); refine box_event ?hg (N := 6) ?hd (cs := #[.int .u64 0, .int .i64 0]) (t := 97) ?hr ?_; (case hd => rfl); (case hg => rfl); (case hr => first | (go_simp; done) | (go_simp; rfl)); intro g6 hg_ w4 hbox_ hb_; have H6 := Aside0.mk hbox_; have H24 := Aside0.mk (blk_below H23.out hb_); have H54 := Aside0.mk (blk_below H5.out hb_); have HB4 := Aside0.mk (below_step HB3.out hb_); have Hg6 := Aside0.mk (show w.heap.size ≤ g6 ∧ g2 < g6 ∧ g5 < g6 from by rw [hg_]; exact ⟨HB3.out.size, blk_lt H23.out, blk_lt H5.out⟩);clear hg_ hbox_ hb_) | ((with_reducible refine gate_store (t := 97) (p := 5) rfl ?_); refine store_row ?hg (ty := 97) (p := 5) (v := ?vr_1) ?ho ?hd (g := g5) (t := 97) (old := #[.int .u64 0, .int .i64 0]) (cells := #[.int .u64 (E : Nat), .int .i64 8]) ?hx ?hy H54.out size97 rfl (by simp [Value.oneCell']) ?_; (case hd => rfl); (case hg => rfl); (case ho => rfl); (case hx => rfl); (case hy => rfl); intro w5 hbox_ hk_ hb_; have H55 := Aside0.mk hbox_; have H25 := Aside0.mk ((hb_.block g2 Hg5.out.2).trans H24.out); have H65 := Aside0.mk ((hk_.2 g6 (blk_lt H6.out) (Nat.ne_of_gt Hg6.out.2.2)).trans H6.out); have HB5 := Aside0.mk (HB4.out.trans (hb_.mono Hg5.out.1));clear hbox_ hk_ hb_) | ((with_reducible refine gate_store (t := 97) (p := 6) rfl ?_); refine store_row ?hg (ty := 97) (p := 6) (v := ?vr_2) ?ho ?hd (g := g6) (t := 97) (old := #[.int .u64 0, .int .i64 0]) (cells := #[.int .u64 (n : Nat), .int .i64 8]) ?hx ?hy H65.out size97 rfl (by simp [Value.oneCell']) ?_; (case hd => rfl); (case hg => rfl); (case ho => rfl); (case hx => rfl); (case hy => rfl); intro w6 hbox_ hk_ hb_; have H66 := Aside0.mk hbox_; have H26 := Aside0.mk ((hb_.block g2 Hg6.out.2.1).trans H25.out); have H56 := Aside0.mk ((hb_.block g5 Hg6.out.2.2).trans H55.out); have HB6 := Aside0.mk (HB5.out.trans (hb_.mono Hg6.out.1)); have hc6 := (blk_cell H26.out 0).trans rfl;clear hbox_ hk_ hb_) | ((with_reducible refine gate_dst (N := 18) rfl ?_); refine wpList_load_row rfl 97 (.tmp 5) rfl g5 rfl 97 (#[.int .u64 (E : Nat), .int .i64 8]) (0, 0) _ H56.out hu97 rfl size97 ?_) | ((with_reducible refine gate_dst (N := 19) rfl ?_); refine wpList_load_row rfl 97 (.tmp 6) rfl g6 rfl 97 (#[.int .u64 (n : Nat), .int .i64 8]) (0, 0) _ H66.out hu97 rfl size97 ?_))
  have hba := below_alloc (Below.refl w6.heap.size w6) (.cells #[.int .u64 p, .int .i64 4, .int .u64 E, .int .i64 8, .int .u64 n, .int .i64 8] 97)
  refine (sealed_any (P := t.P) _ (HT.out.below (below_step HB6.out hba)) (HK.out.below (below_step HB6.out hba)) (HPP.out _ w6.heap.size (heap_alloc_new w6 _)) (by simp) (by decide) (by decide) t.P_le).mono ?_
  rintro e w7 ⟨rfl, hb7⟩
  rw [t.P_front]
  have HBf := Aside0.mk (below_step (below_step HB6.out hba) hb7)
  clear hb7 hba
  go_wp2_with fail
  go_ret
  exact ⟨rfl, HBf.out⟩
set_option maxRecDepth 100000 in
/-- ref06.signed. -/
theorem signed_any {A A2 : Option Addr} {n c n2 c2 : Nat} {key B : List Int} (w : World) (hC : (Kd.int .u8).C w A n key) (hc : n ≤ c) (hby : Byt key) (hm : key.length ≤ 1000000) (hM : (Kd.int .u8).C w A2 n2 B) (hbm : Byt B) (hmm : n2 ≤ 1000000) :
    Calls Tryd.prog 58 #[.slice A n c, .slice A2 n2 c2] w fun e w' => e = .returned (.string (strOfNums (B ++ tag key B))) ∧ Below w.heap.size w w' := by
  have hu30 := Tryd.underlying30
  have HC := Aside0.mk hC
  have HM := Aside0.mk hM
  have Hx := Aside0.mk (And.intro hc (And.intro hby (And.intro hm (And.intro hbm hmm))))
  have hnm2 := hM.2.1
  clear hC hM hc hby hm hbm hmm
  go_enter Tryd.func58, Tryd.ntmps58
  go_wp2_with fail
  refine (reftag_any (c2 := c2) w HC.out Hx.out.1 Hx.out.2.1 Hx.out.2.2.1 HM.out Hx.out.2.2.2.1 Hx.out.2.2.2.2).mono ?_
  rintro e w12 ⟨rfl, hb12⟩
  obtain ⟨tb, htb⟩ : ∃ tb, tb = tag key B := ⟨_, rfl⟩
  have Htb : Aside0 (tb.length = 32 ∧ tag key B = tb) := ⟨by rw [htb]; exact ⟨rfl, rfl⟩⟩
  rw [← htb]
  have HW12 := Aside0.mk hb12
  have HC12 := Aside0.mk (Kd.C_below HM.out hb12)
  clear htb hb12
  go_wp2_with (first | ((with_reducible refine gate_dst (N := 5) rfl ?_); refine box_event ?hg (N := 5) ?hd (cs := v8 (List.replicate 32 0)) (t := 30) ?hr ?_; (case hd => rfl); (case hg => rfl); (case hr => first | (go_simp; done) | (go_simp; rfl)); intro g10 hg_ w13 hbox_ hb_; have H13 := Aside0.mk hbox_; have HW13 := Aside0.mk (below_step HW12.out hb_); have Hg10 := Aside0.mk (show w.heap.size ≤ g10 ∧ w12.heap.size ≤ g10 from by rw [hg_]; exact ⟨HW12.out.size, Nat.le_refl _⟩); have Hr13 := Aside0.mk hb_;clear hg_ hbox_ hb_) | ((with_reducible refine gate_store (t := 30) (p := 5) rfl ?_); refine store_row ?hg (ty := 30) (p := 5) (v := ?vr_3) ?ho ?hd (g := g10) (t := 30) (old := v8 (List.replicate 32 0)) (cells := v8 tb) ?hx ?hy H13.out (size30 Htb.out.1) (by rw [v8_size, v8_size, Htb.out.1, List.length_replicate]) (v8_one _) ?_; (case hd => rfl); (case hg => rfl); (case ho => rfl); (case hx => rfl); (case hy => rfl); intro w14 hbox_ hk_ hb_; have H14 := Aside0.mk (show B8 w14 g10 30 tb from hbox_); have HW14 := Aside0.mk (HW13.out.trans (hb_.mono Hg10.out.1)); have HC14 := Aside0.mk (Kd.C_below HC12.out (Hr13.out.trans (hb_.mono Hg10.out.2)));clear hbox_ hk_ hb_))
  obtain ⟨s1, hs1⟩ : ∃ s1, s1 = strOfNums B := ⟨_, rfl⟩
  obtain ⟨s2, hs2⟩ : ∃ s2, s2 = strOfNums tb := ⟨_, rfl⟩
  have Hs1 := Aside0.mk hs1
  have Hs2 := Aside0.mk hs2
  have Hs12 : Aside0 (s1 ++ s2 = strOfNums (B ++ tag key B)) := ⟨by rw [hs1, hs2, str_app, Htb.out.2]⟩
  have hsz : s1.size + s2.size ≤ 9223372036854775807 := by rw [hs1, hs2, strOfNums_size, strOfNums_size, Htb.out.1, HM.out.1]; have := Hx.out.2.2.2.2; omega
  clear hs1 hs2 H13 HW13 HC12 HW12
  have hS : (fun W : World => Aside0 ((Kd.int .u8).C W A2 n2 B ∧ B8 W g10 30 tb)) w14.drew := ⟨Kd.C_drew HC14.out, H14.out⟩
  refine start_ (S := fun W : World => Aside0 ((Kd.int .u8).C W A2 n2 B ∧ B8 W g10 30 tb)) (ds := []) #[false, false, false, false, false, false] (by kernel_rfl) rfl rfl hS ?_
  intro hS_
  refine pure_ (i := 0) (a' := ?a1_1) (v := .slice A2 n2 c2) #[true, false, false, false, false, false] rfl rfl (by kernel_rfl) (fun _ _ _ h => h) (Or.inl ⟨rfl, ?hy1_1⟩) ?ha1_1 ?rest1_1
  case hy1_1 => intro w; first | (go_simp; done) | (go_simp; with_reducible rfl) | (go_simp; rfl)
  case ha1_1 => go_simp; rfl
  refine take_ (i := 1) (a' := ?a1_2) (v := .string s1) #[true, true, false, false, false, false] rfl rfl (by kernel_rfl) (fun _ _ _ h => h) (yields_cell rfl (fun w h => by have hcv := (Hs1.out ▸ Kd.C_string Tryd.underlying27 Tryd.underlying5 Tryd.underlying9 h.out.1 : (convert 27 9 (.slice A2 n2 c2)).run Tryd.prog w = .ok (.string s1) w); (first | (go_simp; done) | (go_simp; with_reducible rfl) | (go_simp; rfl)))) hS_ ?ha1_2 ?rest1_2
  case ha1_2 => go_simp; rfl
  refine pure_ (i := 2) (a' := ?a1_3) (v := .slice (some ⟨g10, 0, none⟩) 32 32) #[true, true, true, false, false, false] rfl rfl (by kernel_rfl) (fun _ _ _ h => h) (Or.inl ⟨rfl, ?hy1_3⟩) ?ha1_3 ?rest1_3
  case hy1_3 => intro w; first | (go_simp; done) | (go_simp; with_reducible rfl) | (go_simp; rfl)
  case ha1_3 => go_simp; rfl
  refine take_ (i := 3) (a' := ?a1_4) (v := .string s2) #[true, true, true, true, false, false] rfl rfl (by kernel_rfl) (fun _ _ _ h => h) (yields_cell rfl (fun w h => by have hcv := (Hs2.out ▸ Kd.C_string Tryd.underlying27 Tryd.underlying5 Tryd.underlying9 (row_read (S := fun _ => False) h.out.2 (fun h => h) Htb.out.1 (by decide)).now : (convert 27 9 (.slice (some ⟨g10, 0, none⟩) 32 32)).run Tryd.prog w = .ok (.string s2) w); (first | (go_simp; done) | (go_simp; with_reducible rfl) | (go_simp; rfl)))) hS_ ?ha1_4 ?rest1_4
  case ha1_4 => go_simp; rfl
  refine pure_ (i := 4) (a' := ?a1_5) (v := .string (s1 ++ s2)) #[true, true, true, true, true, false] rfl rfl (by kernel_rfl) (fun _ _ _ h => h) (Or.inl ⟨rfl, ?hy1_5⟩) ?ha1_5 ?rest1_5
  case hy1_5 => intro w; first | (go_simp; done) | (go_simp; with_reducible rfl) | (go_simp; rfl)
  case ha1_5 => go_simp; rfl
  refine pure_ (i := 5) (a' := ?a1_6) (v := .string (s1 ++ s2)) #[true, true, true, true, true, true] rfl rfl (by kernel_rfl) (fun _ _ _ h => h) (Or.inl ⟨rfl, ?hy1_6⟩) ?ha1_6 ?rest1_6
  case hy1_6 => intro w; first | (go_simp; done) | (go_simp; with_reducible rfl) | (go_simp; rfl)
  case ha1_6 => go_simp; rfl
  refine done_ (by kernel_rfl) ?_
  have HBf := Aside0.mk (below_drew HW14.out)
  go_wp2_with fail
  go_ret
  exact ⟨congrArg (fun s => Ending.returned (.string s)) Hs12.out, HBf.out⟩
end Go.Proofs.YtpigkgnmegpddaaDoor.Sh
namespace Go.Proofs.YtpigkgnmegpddaaDoor.Sh
set_option linter.unusedVariables false
set_option linter.unusedSimpArgs false
open Go.RowKit Go.Proofs.YtpigkgnmegpddaaDoorW.PrintWords Go.Proofs.YtpigkgnmegpddaaDoorW.PrintLast Go.Proofs.YtpigkgnmegpddaaDoorW.PrintMore

theorem bex_one {s : Nat} (h : s < 256) : bex s 1 = [(s : Int)] := by
  simp [bex]
  omega
set_option maxRecDepth 100000 in
set_option maxHeartbeats 4000000 in
theorem seal42 {t : Tn} {K : Value} {tf : List Int → List Int} (w : World) (hT : Tab w) (hK : KeyTag w K tf) (ht : t.ok) :
    Calls Tryd.prog 42 #[.agg #[.int .u32 t.p, .int .u32 t.m, .int .u16 t.i, .int .u8 t.s, .int .i64 t.e, .int .u64 t.n], K] w fun e w' => e = .returned (.string (strOfNums (t.front ++ tf t.front))) ∧ Below w.heap.size w w' := by
  have hu97 := Tryd.underlying97
  have hu58 := Tryd.underlying58
  have HT := Aside0.mk hT
  have HK := Aside0.mk hK
  have Ht := Aside0.mk ht
  obtain ⟨p, hp⟩ : ∃ p, p = t.p := ⟨_, rfl⟩
  obtain ⟨m, hm⟩ : ∃ m, m = t.m := ⟨_, rfl⟩
  obtain ⟨i, hi⟩ : ∃ i, i = t.i := ⟨_, rfl⟩
  obtain ⟨s, hs⟩ : ∃ s, s = t.s := ⟨_, rfl⟩
  obtain ⟨te, hte⟩ : ∃ te, te = t.e := ⟨_, rfl⟩
  obtain ⟨n, hn⟩ : ∃ n, n = t.n := ⟨_, rfl⟩
  obtain ⟨E, hE⟩ : ∃ E, E = un te := ⟨_, rfl⟩
  have HPP : Aside0 (∀ (W : World) (g : Nat), W.heap[g]? = some (.cells #[.int .u64 p, .int .i64 4, .int .u64 m, .int .i64 4, .int .u64 i, .int .i64 2, .int .u64 s, .int .i64 1, .int .u64 E, .int .i64 8, .int .u64 n, .int .i64 8] 97 (0, 0)) → Pt W g 6 t.P) := ⟨fun W g h k hk => by
    rw [hp, hm, hi, hs, hE, hte, hn] at h
    match k, hk with
    | 0, _ => exact ⟨(blk_cell h 0).trans rfl, (blk_cell h 1).trans rfl⟩
    | 1, _ => exact ⟨(blk_cell h 2).trans rfl, (blk_cell h 3).trans rfl⟩
    | 2, _ => exact ⟨(blk_cell h 4).trans rfl, (blk_cell h 5).trans rfl⟩
    | 3, _ => exact ⟨(blk_cell h 6).trans rfl, (blk_cell h 7).trans rfl⟩
    | 4, _ => exact ⟨(blk_cell h 8).trans rfl, (blk_cell h 9).trans rfl⟩
    | 5, _ => exact ⟨(blk_cell h 10).trans rfl, (blk_cell h 11).trans rfl⟩⟩
  have HE : Aside0 (IntKind.u64.wrap te = (E : Nat)) := ⟨by rw [hE]; exact wrap_un te⟩
  have rp : (p : Int) ≤ 4294967295 := by have := ht.1; omega
  have rm : (m : Int) ≤ 4294967295 := by have := ht.2.1; omega
  have ri : (i : Int) ≤ 65535 := by have := ht.2.2.1; omega
  have rs : (s : Int) ≤ 255 := by have := ht.2.2.2.1; omega
  rw [← hp, ← hm, ← hi, ← hs, ← hte, ← hn]
  clear hT hK ht hp hm hi hs hte hn hE
  go_enter Tryd.func42, Tryd.ntmps42
  go_wp2_with (first | ((with_reducible refine gate_dst (N := 2) rfl ?_); refine box_event ?hg (N := 2) ?hd (cs := #[.int .u32 (p : Nat), .int .u32 (m : Nat), .int .u16 (i : Nat), .int .u8 (s : Nat), .int .i64 te, .int .u64 (n : Nat)]) (t := 65) ?hr ?_; (case hd => rfl); (case hg => rfl); (case hr => first | (go_simp; done) | (go_simp; rfl)); intro g2 hg_ w1 hbox_ hb_; have H1 := Aside0.mk hbox_; have HB1 := Aside0.mk hb_;clear hg_ hbox_ hb_) | ((with_reducible refine gate_dst (N := 9) rfl ?_); refine load_mid ?hg (N := 9) ?hd 58 (.tmp 8) ?ho g2 4 ?hx (#[.int .i64 te, .int .u64 (n : Nat)]) _ (fun j v hv => by match j, hv with | 0, hv => exact ((blk_cell H1.out 4).trans rfl).trans hv | 1, hv => exact ((blk_cell H1.out 5).trans rfl).trans hv) hu58 rfl size58 ?_; (case hg => rfl); (case hd => rfl); (case ho => rfl); (case hx => rfl)))
  refine (parts_any w1 HE.out).mono ?_
  rintro e w2 ⟨rfl, hb2⟩
  have HB2 := Aside0.mk (below_step HB1.out hb2)
  have H2 := Aside0.mk (blk_below H1.out hb2)
  clear hb2 HB1 H1
  go_wp2_with (first | ((with_reducible refine gate_dst (N := 5) rfl ?_); refine box_event ?hg (N := 5) ?hd (cs := #[.int .u64 0, .int .i64 0]) (t := 97) ?hr ?_; (case hd => rfl); (case hg => rfl); (case hr => first | (go_simp; done) | (go_simp; rfl)); intro g5 hg_ w3 hbox_ hb_; have H5 := Aside0.mk hbox_; have H23 := Aside0.mk (blk_below H2.out hb_); have HB3 := Aside0.mk (below_step HB2.out hb_); have Hg5 := Aside0.mk (show w.heap.size ≤ g5 ∧ g2 < g5 from by rw [hg_]; exact ⟨HB2.out.size, blk_lt H2.out⟩);clear hg_ hbox_ hb_) | ((with_reducible refine gate_dst (N := 6) rfl ?_); refine box_event ?hg (N := 6) ?hd (cs := #[.int .u64 0, .int .i64 0]) (t := 97) ?hr ?_; (case hd => rfl); (case hg => rfl); (case hr => first | (go_simp; done) | (go_simp; rfl)); intro g6 hg_ w4 hbox_ hb_; have H6 := Aside0.mk hbox_; have H24 := Aside0.mk (blk_below H23.out hb_); have H54 := Aside0.mk (blk_below H5.out hb_); have HB4 := Aside0.mk (below_step HB3.out hb_); have Hg6 := Aside0.mk (show w.heap.size ≤ g6 ∧ g2 < g6 ∧ g5 < g6 from by rw [hg_]; exact ⟨HB3.out.size, blk_lt H23.out, blk_lt H5.out⟩);clear hg_ hbox_ hb_) | ((with_reducible refine gate_store (t := 97) (p := 5) rfl ?_); refine store_row ?hg (ty := 97) (p := 5) (v := ?vr_1) ?ho ?hd (g := g5) (t := 97) (old := #[.int .u64 0, .int .i64 0]) (cells := #[.int .u64 (E : Nat), .int .i64 8]) ?hx ?hy H54.out size97 rfl (by simp [Value.oneCell']) ?_; (case hd => rfl); (case hg => rfl); (case ho => rfl); (case hx => rfl); (case hy => rfl); intro w5 hbox_ hk_ hb_; have H55 := Aside0.mk hbox_; have H25 := Aside0.mk ((hb_.block g2 Hg5.out.2).trans H24.out); have H65 := Aside0.mk ((hk_.2 g6 (blk_lt H6.out) (Nat.ne_of_gt Hg6.out.2.2)).trans H6.out); have HB5 := Aside0.mk (HB4.out.trans (hb_.mono Hg5.out.1));clear hbox_ hk_ hb_) | ((with_reducible refine gate_store (t := 97) (p := 6) rfl ?_); refine store_row ?hg (ty := 97) (p := 6) (v := ?vr_2) ?ho ?hd (g := g6) (t := 97) (old := #[.int .u64 0, .int .i64 0]) (cells := #[.int .u64 (n : Nat), .int .i64 8]) ?hx ?hy H65.out size97 rfl (by simp [Value.oneCell']) ?_; (case hd => rfl); (case hg => rfl); (case ho => rfl); (case hx => rfl); (case hy => rfl); intro w6 hbox_ hk_ hb_; have H66 := Aside0.mk hbox_; have H26 := Aside0.mk ((hb_.block g2 Hg6.out.2.1).trans H25.out); have H56 := Aside0.mk ((hb_.block g5 Hg6.out.2.2).trans H55.out); have HB6 := Aside0.mk (HB5.out.trans (hb_.mono Hg6.out.1)); have hc0 := (blk_cell H26.out 0).trans rfl; have hc1 := (blk_cell H26.out 1).trans rfl; have hc2 := (blk_cell H26.out 2).trans rfl; have hc3 := (blk_cell H26.out 3).trans rfl;clear hbox_ hk_ hb_) | ((with_reducible refine gate_dst (N := 30) rfl ?_); refine wpList_load_row rfl 97 (.tmp 5) rfl g5 rfl 97 (#[.int .u64 (E : Nat), .int .i64 8]) (0, 0) _ H56.out hu97 rfl size97 ?_) | ((with_reducible refine gate_dst (N := 31) rfl ?_); refine wpList_load_row rfl 97 (.tmp 6) rfl g6 rfl 97 (#[.int .u64 (n : Nat), .int .i64 8]) (0, 0) _ H66.out hu97 rfl size97 ?_))
  have hba := below_alloc (Below.refl w6.heap.size w6) (.cells #[.int .u64 p, .int .i64 4, .int .u64 m, .int .i64 4, .int .u64 i, .int .i64 2, .int .u64 s, .int .i64 1, .int .u64 E, .int .i64 8, .int .u64 n, .int .i64 8] 97)
  refine (sealed_any (P := t.P) _ (HT.out.below (below_step HB6.out hba)) (HK.out.below (below_step HB6.out hba)) (HPP.out _ w6.heap.size (heap_alloc_new w6 _)) (by simp) (by decide) (by decide) t.P_le).mono ?_
  rintro e w7 ⟨rfl, hb7⟩
  rw [t.P_front]
  have HBf := Aside0.mk (below_step (below_step HB6.out hba) hb7)
  clear hb7 hba
  go_wp2_with fail
  go_ret
  exact ⟨rfl, HBf.out⟩
end Go.Proofs.YtpigkgnmegpddaaDoor.Sh
namespace Go.Proofs.YtpigkgnmegpddaaDoor.Sh
set_option linter.unusedVariables false
set_option linter.unusedSimpArgs false
open Go.RowKit Go.Proofs.YtpigkgnmegpddaaDoorW.PrintWords Go.Proofs.YtpigkgnmegpddaaDoorW.PrintLast Go.Proofs.YtpigkgnmegpddaaDoorW.PrintMore

set_option maxRecDepth 100000 in
set_option maxHeartbeats 4000000 in
theorem refseal40 {t : Tk} {A : Option Addr} {n0 c0 : Nat} {key : List Int} (w : World) (hC : (Kd.int .u8).C w A n0 key) (hc : n0 ≤ c0) (hby : Byt key) (hm : key.length ≤ 1000000) (ht : t.ok) :
    Calls Tryd.prog 40 #[.slice A n0 c0, .agg #[.int .u32 t.p, .int .i64 t.e, .int .u64 t.n]] w fun e w' => e = .returned (.string (strOfNums (t.front ++ tag key t.front))) ∧ Below w.heap.size w w' := by
  have HC := Aside0.mk hC
  have Hx := Aside0.mk (And.intro hc (And.intro hby hm))
  have Ht := Aside0.mk ht
  clear hC hc hby hm ht
  obtain ⟨p, hp⟩ : ∃ x, x = t.p := ⟨_, rfl⟩
  obtain ⟨te, hte⟩ : ∃ x, x = t.e := ⟨_, rfl⟩
  obtain ⟨n, hn⟩ : ∃ x, x = t.n := ⟨_, rfl⟩
  obtain ⟨E, hE⟩ : ∃ E, E = un te := ⟨_, rfl⟩
  have HE : Aside0 (IntKind.u64.wrap te = (E : Nat)) := ⟨by rw [hE]; exact wrap_un te⟩
  have HE8 : Aside0 (E < 18446744073709551616) := ⟨by rw [hE]; exact un_lt te⟩
  have Rp : Aside0 (p < 4294967296) := ⟨by have h := Ht.out; unfold Tk.ok at h; omega⟩
  have rp : (p : Int) ≤ 4294967295 := by have := Rp.out; omega
  have Rn : Aside0 (n < 18446744073709551616) := ⟨by have h := Ht.out; unfold Tk.ok at h; omega⟩
  have Hfr : Aside0 ([116] ++ bex p 4 ++ bex E 8 ++ bex n 8 = t.front) := ⟨by rw [hE, hp, hte, hn]; rfl⟩
  rw [← hp, ← hte, ← hn]
  clear hp hte hn hE
  have he2 : IntKind.u64.wrap te = (E : Nat) := HE.out
  have he3 : te % 18446744073709551616 = (E : Nat) := by rw [← HE.out]; simp [IntKind.wrap, IntKind.signed, IntKind.bits]
  go_enter Tryd.func40, Tryd.ntmps40
  go_wp2_with (first | ((with_reducible refine gate_dst (N := 3) rfl ?_); refine box_event ?hg (N := 3) ?hd (cs := #[.int .u32 (p : Nat), .int .i64 te, .int .u64 (n : Nat)]) (t := 53) ?hr ?_; (case hd => rfl); (case hg => rfl); (case hr => first | (go_simp; done) | (go_simp; rfl)); intro g3 hg_ w1 hbox_ hb_; have H1 := Aside0.mk hbox_; have HB1 := Aside0.mk hb_;clear hg_ hbox_ hb_) | ((with_reducible refine gate_dst (N := 6) rfl ?_); refine lit_byte (w0 := w1) (w1.heap.size) (116) ?hg (N := 6) ?hd ?hr (Below.refl w1.heap.size w1) (Nat.le_refl _) ?_; (case hd => rfl); (case hg => rfl); (case hr => first | (go_simp; done) | (go_simp; rfl)); intro v0 u0 ho_ hb_; have HO0 := Aside0.mk ho_; have HW0 := Aside0.mk hb_; clear ho_ hb_; have hc0 := (blk_cell (blk_below H1.out HW0.out) 0).trans rfl))
  refine (rput_any (N := p) (m := 4) u0 (by decide) (by have := Rp.out; omega)).mono ?_
  rintro e x0 ⟨y0, rfl, ho, hb⟩
  obtain ⟨B0, d0, rfl⟩ := Kd.R_slice ho
  obtain ⟨l0, hl0⟩ : ∃ l, l = bex p 4 := ⟨_, rfl⟩
  rw [← hl0] at ho ⊢
  have Hl0 := Aside0.mk hl0
  have Hll0 : Aside0 (l0.length = 4) := ⟨by rw [hl0, bex_length]⟩
  obtain ⟨L0, hL0⟩ : ∃ L, L = l0.length := ⟨_, rfl⟩
  have HR0 : Aside0 ((Kd.int .u8).C x0 B0 L0 l0) := ⟨by rw [hL0]; exact (Kd.R_reads' ho).2.2⟩
  have HLk0 : Aside0 (L0 = 4) := ⟨by rw [hL0]; exact Hll0.out⟩
  rw [← hL0]
  have HP0 := Aside0.mk (Kd.R_below HO0.out hb)
  have HV0 := Aside0.mk (below_step HW0.out hb)
  clear ho hb hl0 hL0 HO0 HW0 hc0
  obtain ⟨X0, hX0⟩ : ∃ X : List Int, X = [116] := ⟨_, rfl⟩
  rw [← hX0] at HP0
  have HX0 : Aside0 (X0.length = 1 ∧ X0 = [116]) := ⟨by rw [hX0]; exact ⟨by simp only [List.length_append, List.length_cons, List.length_nil], rfl⟩⟩
  clear hX0
  go_wp2_with (first | ((with_reducible refine gate_builtin (b := .append) (xs := #[.tmp 6, .tmp 10]) rfl ?_); at_builtin; refine append_row (w0 := w1) rfl (.tmp 6) (.tmp 10) rfl (w1.heap.size) (v0) (X0) (l0) (B0) (L0) (d0) rfl rfl (HP0.out) (HR0.out) (HV0.out) (HV0.out.size) (by have := HX0.out.1; have := HLk0.out; omega) ?_; intro v1 u1 ho_ hb_; have HO1 := Aside0.mk ho_; have HW1 := Aside0.mk hb_; clear ho_ hb_; have hc1 := (blk_cell (blk_below H1.out HW1.out) 1).trans rfl))
  refine (rput_any (N := E) (m := 8) u1 (by decide) HE8.out).mono ?_
  rintro e x1 ⟨y1, rfl, ho, hb⟩
  obtain ⟨B1, d1, rfl⟩ := Kd.R_slice ho
  obtain ⟨l1, hl1⟩ : ∃ l, l = bex E 8 := ⟨_, rfl⟩
  rw [← hl1] at ho ⊢
  have Hl1 := Aside0.mk hl1
  have Hll1 : Aside0 (l1.length = 8) := ⟨by rw [hl1, bex_length]⟩
  obtain ⟨L1, hL1⟩ : ∃ L, L = l1.length := ⟨_, rfl⟩
  have HR1 : Aside0 ((Kd.int .u8).C x1 B1 L1 l1) := ⟨by rw [hL1]; exact (Kd.R_reads' ho).2.2⟩
  have HLk1 : Aside0 (L1 = 8) := ⟨by rw [hL1]; exact Hll1.out⟩
  rw [← hL1]
  have HP1 := Aside0.mk (Kd.R_below HO1.out hb)
  have HV1 := Aside0.mk (below_step HW1.out hb)
  clear ho hb hl1 hL1 HO1 HW1 hc1
  obtain ⟨X1, hX1⟩ : ∃ X : List Int, X = X0 ++ l0 := ⟨_, rfl⟩
  rw [← hX1] at HP1
  have HX1 : Aside0 (X1.length = 5 ∧ X1 = X0 ++ l0) := ⟨by rw [hX1]; exact ⟨by simp only [List.length_append, List.length_cons, List.length_nil, HX0.out.1, Hll0.out], rfl⟩⟩
  clear hX1
  go_wp2_with (first | ((with_reducible refine gate_builtin (b := .append) (xs := #[.tmp 12, .tmp 16]) rfl ?_); at_builtin; refine append_row (w0 := w1) rfl (.tmp 12) (.tmp 16) rfl (w1.heap.size) (v1) (X1) (l1) (B1) (L1) (d1) rfl rfl (HP1.out) (HR1.out) (HV1.out) (HV1.out.size) (by have := HX1.out.1; have := HLk1.out; omega) ?_; intro v2 u2 ho_ hb_; have HO2 := Aside0.mk ho_; have HW2 := Aside0.mk hb_; clear ho_ hb_; have hc2 := (blk_cell (blk_below H1.out HW2.out) 2).trans rfl))
  refine (rput_any (N := n) (m := 8) u2 (by decide) (by have := Rn.out; omega)).mono ?_
  rintro e x2 ⟨y2, rfl, ho, hb⟩
  obtain ⟨B2, d2, rfl⟩ := Kd.R_slice ho
  obtain ⟨l2, hl2⟩ : ∃ l, l = bex n 8 := ⟨_, rfl⟩
  rw [← hl2] at ho ⊢
  have Hl2 := Aside0.mk hl2
  have Hll2 : Aside0 (l2.length = 8) := ⟨by rw [hl2, bex_length]⟩
  obtain ⟨L2, hL2⟩ : ∃ L, L = l2.length := ⟨_, rfl⟩
  have HR2 : Aside0 ((Kd.int .u8).C x2 B2 L2 l2) := ⟨by rw [hL2]; exact (Kd.R_reads' ho).2.2⟩
  have HLk2 : Aside0 (L2 = 8) := ⟨by rw [hL2]; exact Hll2.out⟩
  rw [← hL2]
  have HP2 := Aside0.mk (Kd.R_below HO2.out hb)
  have HV2 := Aside0.mk (below_step HW2.out hb)
  clear ho hb hl2 hL2 HO2 HW2 hc2
  obtain ⟨X2, hX2⟩ : ∃ X : List Int, X = X1 ++ l1 := ⟨_, rfl⟩
  rw [← hX2] at HP2
  have HX2 : Aside0 (X2.length = 13 ∧ X2 = X1 ++ l1) := ⟨by rw [hX2]; exact ⟨by simp only [List.length_append, List.length_cons, List.length_nil, HX0.out.1, Hll0.out, HX1.out.1, Hll1.out], rfl⟩⟩
  clear hX2
  go_wp2_with (first | ((with_reducible refine gate_builtin (b := .append) (xs := #[.tmp 19, .tmp 22]) rfl ?_); at_builtin; refine append_row (w0 := w1) rfl (.tmp 19) (.tmp 22) rfl (w1.heap.size) (v2) (X2) (l2) (B2) (L2) (d2) rfl rfl (HP2.out) (HR2.out) (HV2.out) (HV2.out.size) (by have := HX2.out.1; have := HLk2.out; omega) ?_; intro v3 u3 ho_ hb_; have HO3 := Aside0.mk ho_; have HW3 := Aside0.mk hb_; clear ho_ hb_; ))
  obtain ⟨AF, cF, rfl⟩ := Kd.R_slice HO3.out
  obtain ⟨F, hF⟩ : ∃ F, F = X2 ++ l2 := ⟨_, rfl⟩
  have HF : Aside0 (F = t.front) := ⟨by rw [hF, ← Hfr.out]; simp only [HX2.out.2, Hl2.out, HX1.out.2, Hl1.out, HX0.out.2, Hl0.out]⟩
  rw [← hF] at HO3 ⊢
  obtain ⟨L, hL⟩ : ∃ L, L = F.length := ⟨_, rfl⟩
  have HCF : Aside0 ((Kd.int .u8).C u3 AF L F ∧ L ≤ 1000000 ∧ Byt F) := ⟨by rw [hL]; exact ⟨(Kd.R_reads' HO3.out).2.2, by rw [HF.out, Tk.front_length]; decide, by rw [HF.out]; exact t.front_byt⟩⟩
  have HBF := Aside0.mk (below_step HB1.out HW3.out)
  rw [← hL]
  clear hF hL
  refine (signed_any (B := F) u3 (Kd.C_below HC.out HBF.out) Hx.out.1 Hx.out.2.1 Hx.out.2.2 HCF.out.1 HCF.out.2.2 HCF.out.2.1).mono ?_
  rintro e wf ⟨rfl, hbf⟩
  have HBf := Aside0.mk (below_step HBF.out hbf)
  rw [HF.out]
  clear hbf
  go_wp2_with fail
  go_ret
  exact ⟨rfl, HBf.out⟩
set_option maxRecDepth 100000 in
set_option maxHeartbeats 4000000 in
theorem refseal43 {t : Tn} {A : Option Addr} {n0 c0 : Nat} {key : List Int} (w : World) (hC : (Kd.int .u8).C w A n0 key) (hc : n0 ≤ c0) (hby : Byt key) (hm : key.length ≤ 1000000) (ht : t.ok) :
    Calls Tryd.prog 43 #[.slice A n0 c0, .agg #[.int .u32 t.p, .int .u32 t.m, .int .u16 t.i, .int .u8 t.s, .int .i64 t.e, .int .u64 t.n]] w fun e w' => e = .returned (.string (strOfNums (t.front ++ tag key t.front))) ∧ Below w.heap.size w w' := by
  have HC := Aside0.mk hC
  have Hx := Aside0.mk (And.intro hc (And.intro hby hm))
  have Ht := Aside0.mk ht
  clear hC hc hby hm ht
  obtain ⟨p, hp⟩ : ∃ x, x = t.p := ⟨_, rfl⟩
  obtain ⟨m, hm⟩ : ∃ x, x = t.m := ⟨_, rfl⟩
  obtain ⟨i, hi⟩ : ∃ x, x = t.i := ⟨_, rfl⟩
  obtain ⟨s, hs⟩ : ∃ x, x = t.s := ⟨_, rfl⟩
  obtain ⟨te, hte⟩ : ∃ x, x = t.e := ⟨_, rfl⟩
  obtain ⟨n, hn⟩ : ∃ x, x = t.n := ⟨_, rfl⟩
  obtain ⟨E, hE⟩ : ∃ E, E = un te := ⟨_, rfl⟩
  have HE : Aside0 (IntKind.u64.wrap te = (E : Nat)) := ⟨by rw [hE]; exact wrap_un te⟩
  have HE8 : Aside0 (E < 18446744073709551616) := ⟨by rw [hE]; exact un_lt te⟩
  have Rp : Aside0 (p < 4294967296) := ⟨by have h := Ht.out; unfold Tn.ok at h; omega⟩
  have rp : (p : Int) ≤ 4294967295 := by have := Rp.out; omega
  have Rm : Aside0 (m < 4294967296) := ⟨by have h := Ht.out; unfold Tn.ok at h; omega⟩
  have rm : (m : Int) ≤ 4294967295 := by have := Rm.out; omega
  have Ri : Aside0 (i < 65536) := ⟨by have h := Ht.out; unfold Tn.ok at h; omega⟩
  have ri : (i : Int) ≤ 65535 := by have := Ri.out; omega
  have Rs : Aside0 (s < 256) := ⟨by have h := Ht.out; unfold Tn.ok at h; omega⟩
  have rs : (s : Int) ≤ 255 := by have := Rs.out; omega
  have Rn : Aside0 (n < 18446744073709551616) := ⟨by have h := Ht.out; unfold Tn.ok at h; omega⟩
  have Hfr : Aside0 ([106] ++ bex p 4 ++ bex m 4 ++ bex i 2 ++ [((s : Nat) : Int)] ++ bex E 8 ++ bex n 8 = t.front) := ⟨by rw [← bex_one Rs.out]; rw [hE, hp, hm, hi, hs, hte, hn]; rfl⟩
  rw [← hp, ← hm, ← hi, ← hs, ← hte, ← hn]
  clear hp hm hi hs hte hn hE
  have he2 : IntKind.u64.wrap te = (E : Nat) := HE.out
  have he3 : te % 18446744073709551616 = (E : Nat) := by rw [← HE.out]; simp [IntKind.wrap, IntKind.signed, IntKind.bits]
  go_enter Tryd.func43, Tryd.ntmps43
  go_wp2_with (first | ((with_reducible refine gate_dst (N := 3) rfl ?_); refine box_event ?hg (N := 3) ?hd (cs := #[.int .u32 (p : Nat), .int .u32 (m : Nat), .int .u16 (i : Nat), .int .u8 (s : Nat), .int .i64 te, .int .u64 (n : Nat)]) (t := 56) ?hr ?_; (case hd => rfl); (case hg => rfl); (case hr => first | (go_simp; done) | (go_simp; rfl)); intro g3 hg_ w1 hbox_ hb_; have H1 := Aside0.mk hbox_; have HB1 := Aside0.mk hb_;clear hg_ hbox_ hb_) | ((with_reducible refine gate_dst (N := 6) rfl ?_); refine lit_byte (w0 := w1) (w1.heap.size) (106) ?hg (N := 6) ?hd ?hr (Below.refl w1.heap.size w1) (Nat.le_refl _) ?_; (case hd => rfl); (case hg => rfl); (case hr => first | (go_simp; done) | (go_simp; rfl)); intro v0 u0 ho_ hb_; have HO0 := Aside0.mk ho_; have HW0 := Aside0.mk hb_; clear ho_ hb_; have hc0 := (blk_cell (blk_below H1.out HW0.out) 0).trans rfl))
  refine (rput_any (N := p) (m := 4) u0 (by decide) (by have := Rp.out; omega)).mono ?_
  rintro e x0 ⟨y0, rfl, ho, hb⟩
  obtain ⟨B0, d0, rfl⟩ := Kd.R_slice ho
  obtain ⟨l0, hl0⟩ : ∃ l, l = bex p 4 := ⟨_, rfl⟩
  rw [← hl0] at ho ⊢
  have Hl0 := Aside0.mk hl0
  have Hll0 : Aside0 (l0.length = 4) := ⟨by rw [hl0, bex_length]⟩
  obtain ⟨L0, hL0⟩ : ∃ L, L = l0.length := ⟨_, rfl⟩
  have HR0 : Aside0 ((Kd.int .u8).C x0 B0 L0 l0) := ⟨by rw [hL0]; exact (Kd.R_reads' ho).2.2⟩
  have HLk0 : Aside0 (L0 = 4) := ⟨by rw [hL0]; exact Hll0.out⟩
  rw [← hL0]
  have HP0 := Aside0.mk (Kd.R_below HO0.out hb)
  have HV0 := Aside0.mk (below_step HW0.out hb)
  clear ho hb hl0 hL0 HO0 HW0 hc0
  obtain ⟨X0, hX0⟩ : ∃ X : List Int, X = [106] := ⟨_, rfl⟩
  rw [← hX0] at HP0
  have HX0 : Aside0 (X0.length = 1 ∧ X0 = [106]) := ⟨by rw [hX0]; exact ⟨by simp only [List.length_append, List.length_cons, List.length_nil], rfl⟩⟩
  clear hX0
  go_wp2_with (first | ((with_reducible refine gate_builtin (b := .append) (xs := #[.tmp 6, .tmp 10]) rfl ?_); at_builtin; refine append_row (w0 := w1) rfl (.tmp 6) (.tmp 10) rfl (w1.heap.size) (v0) (X0) (l0) (B0) (L0) (d0) rfl rfl (HP0.out) (HR0.out) (HV0.out) (HV0.out.size) (by have := HX0.out.1; have := HLk0.out; omega) ?_; intro v1 u1 ho_ hb_; have HO1 := Aside0.mk ho_; have HW1 := Aside0.mk hb_; clear ho_ hb_; have hc1 := (blk_cell (blk_below H1.out HW1.out) 1).trans rfl))
  refine (rput_any (N := m) (m := 4) u1 (by decide) (by have := Rm.out; omega)).mono ?_
  rintro e x1 ⟨y1, rfl, ho, hb⟩
  obtain ⟨B1, d1, rfl⟩ := Kd.R_slice ho
  obtain ⟨l1, hl1⟩ : ∃ l, l = bex m 4 := ⟨_, rfl⟩
  rw [← hl1] at ho ⊢
  have Hl1 := Aside0.mk hl1
  have Hll1 : Aside0 (l1.length = 4) := ⟨by rw [hl1, bex_length]⟩
  obtain ⟨L1, hL1⟩ : ∃ L, L = l1.length := ⟨_, rfl⟩
  have HR1 : Aside0 ((Kd.int .u8).C x1 B1 L1 l1) := ⟨by rw [hL1]; exact (Kd.R_reads' ho).2.2⟩
  have HLk1 : Aside0 (L1 = 4) := ⟨by rw [hL1]; exact Hll1.out⟩
  rw [← hL1]
  have HP1 := Aside0.mk (Kd.R_below HO1.out hb)
  have HV1 := Aside0.mk (below_step HW1.out hb)
  clear ho hb hl1 hL1 HO1 HW1 hc1
  obtain ⟨X1, hX1⟩ : ∃ X : List Int, X = X0 ++ l0 := ⟨_, rfl⟩
  rw [← hX1] at HP1
  have HX1 : Aside0 (X1.length = 5 ∧ X1 = X0 ++ l0) := ⟨by rw [hX1]; exact ⟨by simp only [List.length_append, List.length_cons, List.length_nil, HX0.out.1, Hll0.out], rfl⟩⟩
  clear hX1
  go_wp2_with (first | ((with_reducible refine gate_builtin (b := .append) (xs := #[.tmp 12, .tmp 16]) rfl ?_); at_builtin; refine append_row (w0 := w1) rfl (.tmp 12) (.tmp 16) rfl (w1.heap.size) (v1) (X1) (l1) (B1) (L1) (d1) rfl rfl (HP1.out) (HR1.out) (HV1.out) (HV1.out.size) (by have := HX1.out.1; have := HLk1.out; omega) ?_; intro v2 u2 ho_ hb_; have HO2 := Aside0.mk ho_; have HW2 := Aside0.mk hb_; clear ho_ hb_; have hc2 := (blk_cell (blk_below H1.out HW2.out) 2).trans rfl))
  refine (rput_any (N := i) (m := 2) u2 (by decide) (by have := Ri.out; omega)).mono ?_
  rintro e x2 ⟨y2, rfl, ho, hb⟩
  obtain ⟨B2, d2, rfl⟩ := Kd.R_slice ho
  obtain ⟨l2, hl2⟩ : ∃ l, l = bex i 2 := ⟨_, rfl⟩
  rw [← hl2] at ho ⊢
  have Hl2 := Aside0.mk hl2
  have Hll2 : Aside0 (l2.length = 2) := ⟨by rw [hl2, bex_length]⟩
  obtain ⟨L2, hL2⟩ : ∃ L, L = l2.length := ⟨_, rfl⟩
  have HR2 : Aside0 ((Kd.int .u8).C x2 B2 L2 l2) := ⟨by rw [hL2]; exact (Kd.R_reads' ho).2.2⟩
  have HLk2 : Aside0 (L2 = 2) := ⟨by rw [hL2]; exact Hll2.out⟩
  rw [← hL2]
  have HP2 := Aside0.mk (Kd.R_below HO2.out hb)
  have HV2 := Aside0.mk (below_step HW2.out hb)
  clear ho hb hl2 hL2 HO2 HW2 hc2
  obtain ⟨X2, hX2⟩ : ∃ X : List Int, X = X1 ++ l1 := ⟨_, rfl⟩
  rw [← hX2] at HP2
  have HX2 : Aside0 (X2.length = 9 ∧ X2 = X1 ++ l1) := ⟨by rw [hX2]; exact ⟨by simp only [List.length_append, List.length_cons, List.length_nil, HX0.out.1, Hll0.out, HX1.out.1, Hll1.out], rfl⟩⟩
  clear hX2
  go_wp2_with (first | ((with_reducible refine gate_builtin (b := .append) (xs := #[.tmp 18, .tmp 22]) rfl ?_); at_builtin; refine append_row (w0 := w1) rfl (.tmp 18) (.tmp 22) rfl (w1.heap.size) (v2) (X2) (l2) (B2) (L2) (d2) rfl rfl (HP2.out) (HR2.out) (HV2.out) (HV2.out.size) (by have := HX2.out.1; have := HLk2.out; omega) ?_; intro v3 u3 ho_ hb_; have HO3 := Aside0.mk ho_; have HW3 := Aside0.mk hb_; clear ho_ hb_; have hc3 := (blk_cell (blk_below H1.out HW3.out) 3).trans rfl) | ((with_reducible refine gate_builtin (b := .append) (xs := #[.tmp 24, .tmp 27]) rfl ?_); at_builtin; refine append_one (w0 := w1) rfl (.tmp 24) (.tmp 27) rfl (w1.heap.size) (v3) (X2 ++ l2) ((s : Nat)) rfl rfl (HO3.out) (HW3.out) (HW3.out.size) (by have := HX2.out.1; have := HLk2.out; have := Hll2.out; rw [List.length_append]; omega) ?_; intro v4 u4 ho_ hb_; have HO4 := Aside0.mk ho_; have HW4 := Aside0.mk hb_; clear ho_ hb_; have hc4 := (blk_cell (blk_below H1.out HW4.out) 4).trans rfl))
  refine (rput_any (N := E) (m := 8) u4 (by decide) HE8.out).mono ?_
  rintro e x4 ⟨y4, rfl, ho, hb⟩
  obtain ⟨B4, d4, rfl⟩ := Kd.R_slice ho
  obtain ⟨l4, hl4⟩ : ∃ l, l = bex E 8 := ⟨_, rfl⟩
  rw [← hl4] at ho ⊢
  have Hl4 := Aside0.mk hl4
  have Hll4 : Aside0 (l4.length = 8) := ⟨by rw [hl4, bex_length]⟩
  obtain ⟨L4, hL4⟩ : ∃ L, L = l4.length := ⟨_, rfl⟩
  have HR4 : Aside0 ((Kd.int .u8).C x4 B4 L4 l4) := ⟨by rw [hL4]; exact (Kd.R_reads' ho).2.2⟩
  have HLk4 : Aside0 (L4 = 8) := ⟨by rw [hL4]; exact Hll4.out⟩
  rw [← hL4]
  have HP4 := Aside0.mk (Kd.R_below HO4.out hb)
  have HV4 := Aside0.mk (below_step HW4.out hb)
  clear ho hb hl4 hL4 HO4 HW4 hc4
  obtain ⟨X4, hX4⟩ : ∃ X : List Int, X = (X2 ++ l2) ++ [((s : Nat) : Int)] := ⟨_, rfl⟩
  rw [← hX4] at HP4
  have HX4 : Aside0 (X4.length = 12 ∧ X4 = (X2 ++ l2) ++ [((s : Nat) : Int)]) := ⟨by rw [hX4]; exact ⟨by simp only [List.length_append, List.length_cons, List.length_nil, HX0.out.1, Hll0.out, HX1.out.1, Hll1.out, HX2.out.1, Hll2.out], rfl⟩⟩
  clear hX4
  go_wp2_with (first | ((with_reducible refine gate_builtin (b := .append) (xs := #[.tmp 29, .tmp 33]) rfl ?_); at_builtin; refine append_row (w0 := w1) rfl (.tmp 29) (.tmp 33) rfl (w1.heap.size) (v4) (X4) (l4) (B4) (L4) (d4) rfl rfl (HP4.out) (HR4.out) (HV4.out) (HV4.out.size) (by have := HX4.out.1; have := HLk4.out; omega) ?_; intro v5 u5 ho_ hb_; have HO5 := Aside0.mk ho_; have HW5 := Aside0.mk hb_; clear ho_ hb_; have hc5 := (blk_cell (blk_below H1.out HW5.out) 5).trans rfl))
  refine (rput_any (N := n) (m := 8) u5 (by decide) (by have := Rn.out; omega)).mono ?_
  rintro e x5 ⟨y5, rfl, ho, hb⟩
  obtain ⟨B5, d5, rfl⟩ := Kd.R_slice ho
  obtain ⟨l5, hl5⟩ : ∃ l, l = bex n 8 := ⟨_, rfl⟩
  rw [← hl5] at ho ⊢
  have Hl5 := Aside0.mk hl5
  have Hll5 : Aside0 (l5.length = 8) := ⟨by rw [hl5, bex_length]⟩
  obtain ⟨L5, hL5⟩ : ∃ L, L = l5.length := ⟨_, rfl⟩
  have HR5 : Aside0 ((Kd.int .u8).C x5 B5 L5 l5) := ⟨by rw [hL5]; exact (Kd.R_reads' ho).2.2⟩
  have HLk5 : Aside0 (L5 = 8) := ⟨by rw [hL5]; exact Hll5.out⟩
  rw [← hL5]
  have HP5 := Aside0.mk (Kd.R_below HO5.out hb)
  have HV5 := Aside0.mk (below_step HW5.out hb)
  clear ho hb hl5 hL5 HO5 HW5 hc5
  obtain ⟨X5, hX5⟩ : ∃ X : List Int, X = X4 ++ l4 := ⟨_, rfl⟩
  rw [← hX5] at HP5
  have HX5 : Aside0 (X5.length = 20 ∧ X5 = X4 ++ l4) := ⟨by rw [hX5]; exact ⟨by simp only [List.length_append, List.length_cons, List.length_nil, HX0.out.1, Hll0.out, HX1.out.1, Hll1.out, HX2.out.1, Hll2.out, HX4.out.1, Hll4.out], rfl⟩⟩
  clear hX5
  go_wp2_with (first | ((with_reducible refine gate_builtin (b := .append) (xs := #[.tmp 36, .tmp 39]) rfl ?_); at_builtin; refine append_row (w0 := w1) rfl (.tmp 36) (.tmp 39) rfl (w1.heap.size) (v5) (X5) (l5) (B5) (L5) (d5) rfl rfl (HP5.out) (HR5.out) (HV5.out) (HV5.out.size) (by have := HX5.out.1; have := HLk5.out; omega) ?_; intro v6 u6 ho_ hb_; have HO6 := Aside0.mk ho_; have HW6 := Aside0.mk hb_; clear ho_ hb_; ))
  obtain ⟨AF, cF, rfl⟩ := Kd.R_slice HO6.out
  obtain ⟨F, hF⟩ : ∃ F, F = X5 ++ l5 := ⟨_, rfl⟩
  have HF : Aside0 (F = t.front) := ⟨by rw [hF, ← Hfr.out]; simp only [HX5.out.2, Hl5.out, HX4.out.2, Hl4.out, HX2.out.2, Hl2.out, HX1.out.2, Hl1.out, HX0.out.2, Hl0.out]⟩
  rw [← hF] at HO6 ⊢
  obtain ⟨L, hL⟩ : ∃ L, L = F.length := ⟨_, rfl⟩
  have HCF : Aside0 ((Kd.int .u8).C u6 AF L F ∧ L ≤ 1000000 ∧ Byt F) := ⟨by rw [hL]; exact ⟨(Kd.R_reads' HO6.out).2.2, by rw [HF.out, Tn.front_length]; decide, by rw [HF.out]; exact t.front_byt⟩⟩
  have HBF := Aside0.mk (below_step HB1.out HW6.out)
  rw [← hL]
  clear hF hL
  refine (signed_any (B := F) u6 (Kd.C_below HC.out HBF.out) Hx.out.1 Hx.out.2.1 Hx.out.2.2 HCF.out.1 HCF.out.2.2 HCF.out.2.1).mono ?_
  rintro e wf ⟨rfl, hbf⟩
  have HBf := Aside0.mk (below_step HBF.out hbf)
  rw [HF.out]
  clear hbf
  go_wp2_with fail
  go_ret
  exact ⟨rfl, HBf.out⟩
end Go.Proofs.YtpigkgnmegpddaaDoor.Sh
namespace Go.Proofs.YtpigkgnmegpddaaDoor.Sh
set_option linter.unusedVariables false
set_option linter.unusedSimpArgs false
open Go.Proofs.YtpigkgnmegpddaaDoor.PPassTickets Go.RowKit Go.Proofs.YtpigkgnmegpddaaDoorW.PrintWords Go.Proofs.YtpigkgnmegpddaaDoorW.PrintLast Go.Proofs.YtpigkgnmegpddaaDoorW.PrintMore

theorem ticket38 {t : Tk} (w : World) : Calls Tryd.prog 38 #[.agg #[.int .u32 t.p, .int .i64 t.e, .int .u64 t.n]] w fun e w' => e = .returned (.agg #[.int .u32 t.p, .int .i64 t.e, .int .u64 t.n]) ∧ Below w.heap.size w w' :=
  tiltyardlaw06_ticket.calls _ _ _ _ _ _ w rfl
theorem token41 {t : Tn} (w : World) : Calls Tryd.prog 41 #[.agg #[.int .u32 t.p, .int .u32 t.m, .int .u16 t.i, .int .u8 t.s, .int .i64 t.e, .int .u64 t.n]] w fun e w' => e = .returned (.agg #[.int .u32 t.p, .int .u32 t.m, .int .u16 t.i, .int .u8 t.s, .int .i64 t.e, .int .u64 t.n]) ∧ Below w.heap.size w w' :=
  tiltyardlaw06_token.calls _ _ _ _ _ _ _ _ _ _ _ _ w rfl
theorem old45 (e n now : Int) (w : World) : Calls Tryd.prog 45 #[.agg #[.int .i64 e, .int .u64 n], .int .i64 now] w fun r w' => r = .returned (.bool (decide (now > e))) ∧ Below w.heap.size w w' :=
  pass_Stamp_Old.calls _ _ _ _ w rfl
set_option maxRecDepth 100000 in
set_option maxHeartbeats 4000000 in
theorem awake44_any (w : World) (hT : Tab w) : Calls Tryd.prog 44 #[] w fun e w' => e = .returned (.bool true) ∧ Below w.heap.size w w' := by
  have HT := Aside0.mk hT
  clear hT
  have hu58 := Tryd.underlying58
  have hu60 := Tryd.underlying60
  have hcv := fun (w : World) (C : Array Value) (n c : Nat) => Lib.run_convert_bytes_const (P := Tryd.prog) w 27 5 C n c Tryd.underlying27 Tryd.underlying5
  go_enter Tryd.func44, Tryd.ntmps44
  go_wp2_with fail
  have hw : ∃ w1 b1, w1 = w.alloc (.cells #[.int .u8 107, .int .u8 101, .int .u8 121] 5 (3, 4)) ∧ b1 = w.heap.size := ⟨_, _, rfl, rfl⟩
  obtain ⟨w1, b1, hw1, hb1⟩ := hw
  have hC : (Kd.int .u8).C w1 (some ⟨b1, 0, none⟩) 3 [107, 101, 121] := by
    have h1 : w1.heap[b1]? = some (.cells (v8 [107, 101, 121]) 5 (3, 4)) := by rw [hw1, hb1]; exact heap_alloc_new w _
    exact lit_C h1 (by decide)
  have hbel : Below w.heap.size w w1 := by rw [hw1]; exact below_alloc (Below.refl _ _) _
  rw [← hw1, ← hb1]
  have HB1 := Aside0.mk hbel
  have HC1 := Aside0.mk hC
  clear hw1 hb1 hC hbel hcv
  refine (make_any w1 (HT.out.below HB1.out) HC1.out (by decide) (Byt.lit (by decide)) (by decide)).mono ?_
  rintro e w2 ⟨g, rfl, hk, hg, hb2⟩
  have HK2 := Aside0.mk (KeyTag.of hk (kbl_length _) (kbl_byt (Byt.lit (by decide))))
  have HB2 := Aside0.mk (below_step HB1.out hb2)
  clear hk hg hb2 HB1 HC1
  obtain ⟨kf, hkf⟩ : ∃ kf, kf = tagk (kbl [107, 101, 121]) := ⟨_, rfl⟩
  rw [← hkf] at HK2
  clear hkf
  go_wp2_with fail
  refine (ticket38 (t := ⟨7, 9, 3⟩) w2).mono ?_
  rintro e w3 ⟨rfl, hb3⟩
  have HK3 := Aside0.mk (HK2.out.below hb3)
  have HB3 := Aside0.mk (below_step HB2.out hb3)
  clear hb3 HK2 HB2
  go_wp2_with (first | ((with_reducible refine gate_dst (N := 2) rfl ?_); refine box_event ?hg (N := 2) ?hd (cs := #[.int .u32 0, .int .i64 0, .int .u64 0]) (t := 60) ?hr ?_; (case hd => rfl); (case hg => rfl); (case hr => first | (go_simp; done) | (go_simp; rfl)); intro g2 hg_ w4 hbox_ hb_; have H4 := Aside0.mk hbox_; have HK4 := Aside0.mk (HK3.out.below hb_); have HB4 := Aside0.mk (below_step HB3.out hb_); have Hg2 := Aside0.mk (show w.heap.size ≤ g2 ∧ w3.heap.size ≤ g2 from by rw [hg_]; exact ⟨HB3.out.size, Nat.le_refl _⟩); have Hr4 := Aside0.mk hb_;clear hg_ hbox_ hb_) | ((with_reducible refine gate_store (t := 60) (p := 2) rfl ?_); refine store_row ?hg (ty := 60) (p := 2) (v := ?vr_1) ?ho ?hd (g := g2) (t := 60) (old := #[.int .u32 0, .int .i64 0, .int .u64 0]) (cells := #[.int .u32 7, .int .i64 9, .int .u64 3]) ?hx ?hy H4.out size60 rfl (by simp [Value.oneCell']) ?_; (case hd => rfl); (case hg => rfl); (case ho => rfl); (case hx => rfl); (case hy => rfl); intro w5 hbox_ hk_ hb_; have H5 := Aside0.mk hbox_; have HK5 := Aside0.mk (HK3.out.below (Hr4.out.trans (hb_.mono Hg2.out.2))); have HB5 := Aside0.mk (HB4.out.trans (hb_.mono Hg2.out.1));clear hbox_ hk_ hb_) | ((with_reducible refine gate_dst (N := 8) rfl ?_); refine wpList_load_row rfl 60 (.tmp 2) rfl g2 rfl 60 (#[.int .u32 7, .int .i64 9, .int .u64 3]) (0, 0) _ H5.out hu60 rfl size60 ?_))
  refine (seal39 (t := ⟨7, 9, 3⟩) w5 (HT.out.below HB5.out) HK5.out (by unfold Tk.ok; decide)).mono ?_
  rintro e w6 ⟨rfl, hb6⟩
  obtain ⟨s1, hs1⟩ : ∃ s1, s1 = strOfNums ((Tk.mk 7 9 3).front ++ kf (Tk.mk 7 9 3).front) := ⟨_, rfl⟩
  rw [← hs1]
  have hz1 : s1.size = 53 := by rw [hs1, strOfNums_size, List.length_append, Tk.front_length, HK5.out.len]
  have H6 := Aside0.mk (blk_below H5.out hb6)
  have HK6 := Aside0.mk (HK5.out.below hb6)
  have HB6 := Aside0.mk (below_step HB5.out hb6)
  clear hs1 hb6 HK5 HB5 H5
  go_wp2_with fail
  refine (seal42 (t := Tn.zero) w6 (HT.out.below HB6.out) HK6.out (by unfold Tn.ok Tn.zero; decide)).mono ?_
  rintro e w7 ⟨rfl, hb7⟩
  obtain ⟨s2, hs2⟩ : ∃ s2, s2 = strOfNums (Tn.zero.front ++ kf Tn.zero.front) := ⟨_, rfl⟩
  rw [← hs2]
  have hz2 : s2.size = 60 := by rw [hs2, strOfNums_size, List.length_append, Tn.front_length, HK6.out.len]
  have H7 := Aside0.mk (blk_below H6.out hb7)
  have HB7 := Aside0.mk (below_step HB6.out hb7)
  clear hs2 hb7 HK6 HB6 H6
  have hd1 : w7.cell? ⟨g2, 1, none⟩ = some (.int .i64 9) := (blk_cell H7.out 1).trans rfl
  have hd2 : w7.cell? ⟨g2, 2, none⟩ = some (.int .u64 3) := (blk_cell H7.out 2).trans rfl
  go_wp2_with fail
  refine (old45 9 3 10 w7).mono ?_
  rintro e w8 ⟨rfl, hb8⟩
  have H8 := Aside0.mk (blk_below H7.out hb8)
  have HB8 := Aside0.mk (below_step HB7.out hb8)
  rw [show decide ((10 : Int) > 9) = true from rfl]
  clear hb8 H7 HB7 hd1 hd2
  have hd1 : w8.cell? ⟨g2, 1, none⟩ = some (.int .i64 9) := (blk_cell H8.out 1).trans rfl
  have hd2 : w8.cell? ⟨g2, 2, none⟩ = some (.int .u64 3) := (blk_cell H8.out 2).trans rfl
  go_wp2_with fail
  refine (old45 9 3 9 w8).mono ?_
  rintro e w9 ⟨rfl, hb9⟩
  have HB9 := Aside0.mk (below_step HB8.out hb9)
  rw [show decide ((9 : Int) > 9) = false from rfl]
  clear hb9 H8 HB8
  go_wp2_with fail
  go_ret
  exact ⟨rfl, HB9.out⟩
end Go.Proofs.YtpigkgnmegpddaaDoor.Sh
