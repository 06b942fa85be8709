/-
PassNil, walked.
-/
import Derived.Test.YtpigkgnmegpddaaDoorPm
namespace Go.Proofs.YtpigkgnmegpddaaDoor.Sh
set_option linter.unusedVariables false
set_option linter.unusedSimpArgs false
open Go.RowKit Go.Proofs.YtpigkgnmegpddaaDoorW.PrintWords Go.Proofs.YtpigkgnmegpddaaDoorW.PrintLast Go.Proofs.YtpigkgnmegpddaaDoorW.PrintMore

theorem conv_string {ops : Array Oper} {rest : List Oper} {o : Oper} {a : Act} {Q : Exit → Act → World → Prop} {W : World} (hgd : o.guard = none) {N : Tmp} (hd : o.dst = some N) (x : Operand) (ho : o.op = .convert 27 9 x) {A : Option Addr} {n c : Nat} {l : List Int} (hx : a.eval x = .slice A n c) (hC : (Kd.int .u8).C W A n l) (S : ByteArray) (hS : strOfNums l = S)
    (h : wpList Tryd.prog ops Q rest (a.put o.dst (.string S)) W) : wpList Tryd.prog ops Q (o :: rest) a W := by
  subst hS
  refine Kd.event_run hgd (v := .string (strOfNums l)) (w1 := W) ?_ h
  unfold execOp
  simp only [ho, hx, Sem.run_bind, Kd.C_string (P := Tryd.prog) Tryd.underlying27 Tryd.underlying5 Tryd.underlying9 hC, Sem.run_pure, Result.andThen_ok]
theorem make32 {ops : Array Oper} {rest : List Oper} {o : Oper} {a : Act} {Q : Exit → Act → World → Prop} {W : World} (hgd : o.guard = none) {N : Tmp} (hd : o.dst = some N) (ho : o.op = .makeSlice 27 (.const (.int .i64 32)) (.const (.int .i64 32)))
    (h : ∀ A c w1, (Kd.int .u8).C w1 A 32 (List.replicate 32 0) → Below W.heap.size W w1 → wpList Tryd.prog ops Q rest (a.put o.dst (.slice A 32 c)) w1) : wpList Tryd.prog ops Q (o :: rest) a W := by
  refine Kd.R_make (Kd.int .u8) (w0 := W) W.heap.size 5 hgd (N := N) hd 27 (.const (.int .i64 32)) (.const (.int .i64 32)) ho 32 rfl rfl Tryd.underlying27 (.int .u8 0) 1 (show (Tryd.prog.info? 5).map (fun i => (i.zero, i.size, i.bytes)) = some (some (.int .u8 0), 1, 1) by kernel_rfl) rfl (by decide) (by decide) 0 (ok := fun _ => True) (okp := fun _ => True) rfl (fun _ hk => hk) trivial (by decide) (by decide) (Below.refl _ _) (Nat.le_refl _) ?_
  intro v1 w1 h1 h2 _ _
  obtain ⟨A, c, rfl, _, hC⟩ := Kd.R_reads h1
  exact h A c w1 hC h2
/-- What is sealed without a key. -/
def zeros32 : List Int := List.replicate 32 0
theorem zeros32_byt : Byt zeros32 := Byt.replicate _
theorem openT_tail {ff : List Int → List Int → Bool} {t : Tk} {l : List Int} (hl : l.length = 32) (hb : Byt l) (hf : ff l t.front = false) : (strOfNums (t.front ++ l)).size = 53 ∧ openT ff (strOfNums (t.front ++ l)) = (Tk.zero, 8) := by
  have hbb := bytes_back (t.front_byt.append hb)
  have h1 : (strOfNums (t.front ++ l)).size = 53 := by rw [← bytesOf_length, hbb, List.length_append, Tk.front_length, hl]
  have h2 : bt (strOfNums (t.front ++ l)) 0 = 116 := by rw [← bytes_first, hbb]; rfl
  refine ⟨h1, ?_⟩
  unfold openT
  rw [if_pos ⟨h1, h2⟩, hbb, (cut_first t.front l 21 t.front_length).1, (cut_first t.front l 21 t.front_length).2, hf]
  rfl
theorem openN_tail {ff : List Int → List Int → Bool} {t : Tn} {l : List Int} (hl : l.length = 32) (hb : Byt l) (hf : ff l t.front = false) : (strOfNums (t.front ++ l)).size = 60 ∧ openN ff (strOfNums (t.front ++ l)) = (Tn.zero, 8) := by
  have hbb := bytes_back (t.front_byt.append hb)
  have h1 : (strOfNums (t.front ++ l)).size = 60 := by rw [← bytesOf_length, hbb, List.length_append, Tn.front_length, hl]
  have h2 : bt (strOfNums (t.front ++ l)) 0 = 106 := by rw [← bytes_first, hbb]; rfl
  refine ⟨h1, ?_⟩
  unfold openN
  rw [if_pos ⟨h1, h2⟩, hbb, (cut_first t.front l 28 t.front_length).1, (cut_first t.front l 28 t.front_length).2, hf]
  rfl
theorem openT_never (s : ByteArray) : ∃ r, openT (fun _ _ => false) s = (Tk.zero, r) ∧ r ≠ 0 := by
  unfold openT
  split
  · exact ⟨8, rfl, by decide⟩
  · exact ⟨7, rfl, by decide⟩
theorem cut_str {a b : List Int} (ha : Byt a) (hb : Byt b) (n : Nat) (hn : a.length = n) : (strOfNums (a ++ b)).extract 0 n = strOfNums a ∧ (strOfNums (a ++ b)).extract n (a ++ b).length = strOfNums b := by
  have h : ∀ l : List Int, Byt l → (strOfNums l).size = l.length := fun l hl => by rw [← bytesOf_length, bytes_back hl]
  have hs := h (a ++ b) (ha.append hb)
  constructor
  · rw [eq_comm, str_nums ha, bytesOf_cut _ _ _ (by rw [hs, List.length_append]; omega), bytes_back (ha.append hb), (cut_first a b n hn).1, List.drop_zero]
  · rw [eq_comm, str_nums hb, bytesOf_cut _ _ _ (by rw [hs]; exact Nat.le_refl _), bytes_back (ha.append hb), List.take_length, (cut_first a b n hn).2]
def Snil (w0 : World) (g4 g5 : Nat) (V : Array Value) (tv : TypeId) (V2 : Array Value) (tv2 : TypeId) (W : World) : Prop := Aside0 (W.heap[g4]? = some (.cells V tv (0, 0)) ∧ W.heap[g5]? = some (.cells V2 tv2 (0, 0)) ∧ Below w0.heap.size w0 W)
theorem Snil.next {w0 W W' : World} {g4 g5 : Nat} {V V2 : Array Value} {tv tv2 : TypeId} (h : Snil w0 g4 g5 V tv V2 tv2 W) (hb : Below W.heap.size W W') : Snil w0 g4 g5 V tv V2 tv2 W' := ⟨blk_below h.out.1 hb, blk_below h.out.2.1 hb, below_step h.out.2.2 hb⟩
set_option maxRecDepth 100000 in
set_option maxHeartbeats 8000000 in
theorem nil_law {t : Tk} {u : Tn} {s : ByteArray} (w : World) (hT : Tab w) (ht : t.ok) (hu : u.ok) :
    Calls Tryd.prog 20 #[.agg #[.int .u32 (t.p : Nat), .int .i64 t.e, .int .u64 (t.n : Nat)], .agg #[.int .u32 (u.p : Nat), .int .u32 (u.m : Nat), .int .u16 (u.i : Nat), .int .u8 (u.s : Nat), .int .i64 u.e, .int .u64 (u.n : Nat)], .string s] w fun e w' => e = .returned (.bool true) ∧ Below w.heap.size w w' := by
  have hu53 := Tryd.underlying53
  have hu56 := Tryd.underlying56
  have hu60 := Tryd.underlying60
  have hu65 := Tryd.underlying65
  have size53 := sizeR53
  have size56 := sizeR56
  have HT := Aside0.mk hT
  have Ht := Aside0.mk ht
  have Hu := Aside0.mk hu
  clear hT ht hu
  by_cases h300 : 300 < s.size
  · go_enter Tryd.func20, Tryd.ntmps20
    go_wp2_with (first | ((with_reducible refine gate_dst (N := 3) rfl ?_); refine box_event ?hg (N := 3) ?hd (cs := #[.int .u32 (t.p : Nat), .int .i64 t.e, .int .u64 (t.n : Nat)]) (t := 53) ?hr ?_; (case hd => rfl); (case hg => rfl); (case hr => first | (go_simp; done) | (go_simp; rfl)); intro g3 hg_ w1 hbox_ hb_; have HB1 := Aside0.mk hb_;clear hg_ hbox_ hb_) | ((with_reducible refine gate_dst (N := 4) rfl ?_); refine box_event ?hg (N := 4) ?hd (cs := #[.int .u32 (u.p : Nat), .int .u32 (u.m : Nat), .int .u16 (u.i : Nat), .int .u8 (u.s : Nat), .int .i64 u.e, .int .u64 (u.n : Nat)]) (t := 56) ?hr ?_; (case hd => rfl); (case hg => rfl); (case hr => first | (go_simp; done) | (go_simp; rfl)); intro g4 hg_ w2 hbox_ hb_; have HB2 := Aside0.mk (below_step HB1.out hb_);clear hg_ hbox_ hb_))
    go_ret
    exact ⟨rfl, HB2.out⟩
  obtain ⟨z, hz⟩ : ∃ z, z = strOfNums zeros32 := ⟨_, rfl⟩
  obtain ⟨s1, hs1⟩ : ∃ s1, s1 = strOfNums (t.front ++ zeros32) := ⟨_, rfl⟩
  obtain ⟨s2, hs2⟩ : ∃ s2, s2 = strOfNums (u.front ++ zeros32) := ⟨_, rfl⟩
  obtain ⟨r1, hr1⟩ : ∃ r1, r1 = strOfNums (t.front ++ tag [] t.front) := ⟨_, rfl⟩
  have Hs1 : Aside0 (strOfNums (t.front ++ List.replicate 32 0) = s1) := ⟨hs1.symm⟩
  have Hs2 : Aside0 (strOfNums (u.front ++ List.replicate 32 0) = s2) := ⟨hs2.symm⟩
  have Hz : Aside0 (strOfNums (List.replicate 32 0) = z) := ⟨hz.symm⟩
  have Hr1 : Aside0 (strOfNums (t.front ++ tag [] t.front) = r1) := ⟨hr1.symm⟩
  have Hz1 : Aside0 (s1.size = 53) := ⟨by rw [hs1]; exact (openT_tail (ff := fun _ _ => false) rfl zeros32_byt rfl).1⟩
  have Hz2 : Aside0 (s2.size = 60) := ⟨by rw [hs2]; exact (openN_tail (ff := fun _ _ => false) rfl zeros32_byt rfl).1⟩
  have Hzr : Aside0 (r1.size = 53) := ⟨by rw [hr1]; exact seal_size [] t⟩
  have HO1 : Aside0 (openT (fun _ _ => false) s1 = (Tk.zero, 8)) := ⟨by rw [hs1]; exact (openT_tail rfl zeros32_byt rfl).2⟩
  have HO2 : Aside0 (openN (fun _ _ => false) s2 = (Tn.zero, 8)) := ⟨by rw [hs2]; exact (openN_tail rfl zeros32_byt rfl).2⟩
  obtain ⟨r, hO3, hr0⟩ := openT_never s
  have HO3 := Aside0.mk hO3
  have Hf1 : Aside0 (s1.extract 0 21 = strOfNums t.front) := ⟨by rw [hs1]; exact (cut_str t.front_byt zeros32_byt 21 t.front_length).1⟩
  have Hf2 : Aside0 (r1.extract 0 21 = strOfNums t.front) := ⟨by rw [hr1]; exact (cut_str t.front_byt (tag_byt _ _) 21 t.front_length).1⟩
  have Hf3 : Aside0 (s1.extract 21 53 = z) := ⟨by rw [hs1, hz]; exact (cut_str t.front_byt zeros32_byt 21 t.front_length).2⟩
  have Hf4 : Aside0 (s2.extract 28 60 = z) := ⟨by rw [hs2, hz]; exact (cut_str u.front_byt zeros32_byt 28 u.front_length).2⟩
  clear hs1 hs2 hz hr1 hO3
  have hz1 := Hz1.out
  have hz2 := Hz2.out
  have hzr := Hzr.out
  go_enter Tryd.func20, Tryd.ntmps20
  go_wp2_with (first | ((with_reducible refine gate_dst (N := 3) rfl ?_); refine box_event ?hg (N := 3) ?hd (cs := #[.int .u32 (t.p : Nat), .int .i64 t.e, .int .u64 (t.n : Nat)]) (t := 53) ?hr ?_; (case hd => rfl); (case hg => rfl); (case hr => first | (go_simp; done) | (go_simp; rfl)); intro g3 hg_ w1 hbox_ hb_; have H1 := Aside0.mk hbox_; have HB1 := Aside0.mk hb_;clear hg_ hbox_ hb_) | ((with_reducible refine gate_dst (N := 4) rfl ?_); refine box_event ?hg (N := 4) ?hd (cs := #[.int .u32 (u.p : Nat), .int .u32 (u.m : Nat), .int .u16 (u.i : Nat), .int .u8 (u.s : Nat), .int .i64 u.e, .int .u64 (u.n : Nat)]) (t := 56) ?hr ?_; (case hd => rfl); (case hg => rfl); (case hr => first | (go_simp; done) | (go_simp; rfl)); intro g4 hg_ w2 hbox_ hb_; have H2 := Aside0.mk hbox_; have H12 := Aside0.mk (blk_below H1.out hb_); have HB2 := Aside0.mk (below_step HB1.out hb_);clear hg_ hbox_ hb_))
  have HT2 := Aside0.mk (HT.out.below HB2.out)
  have hS : Snil w2 g3 g4 #[.int .u32 (t.p : Nat), .int .i64 t.e, .int .u64 (t.n : Nat)] 53 #[.int .u32 (u.p : Nat), .int .u32 (u.m : Nat), .int .u16 (u.i : Nat), .int .u8 (u.s : Nat), .int .i64 u.e, .int .u64 (u.n : Nat)] 56 w2.drew := ⟨H12.out, H2.out, below_drew (Below.refl _ _)⟩
  clear H1 HB1 H2 H12
  refine start_ (S := Snil w2 g3 g4 #[.int .u32 (t.p : Nat), .int .i64 t.e, .int .u64 (t.n : Nat)] 53 #[.int .u32 (u.p : Nat), .int .u32 (u.m : Nat), .int .u16 (u.i : Nat), .int .u8 (u.s : Nat), .int .i64 u.e, .int .u64 (u.n : Nat)] 56) (ds := []) #[false, false, false, false, false, false, false, false, false, false] (by kernel_rfl) rfl rfl hS ?_
  intro hS_
  refine take_ (i := 0) (a' := ?a1_1) (v := .agg #[.int .u32 (t.p : Nat), .int .i64 t.e, .int .u64 (t.n : Nat)]) #[true, false, false, false, false, false, false, false, false, false] rfl rfl (by kernel_rfl) (fun _ _ _ h => h) (yields_row rfl 53 (.tmp 3) rfl g3 0 rfl #[.int .u32 (t.p : Nat), .int .i64 t.e, .int .u64 (t.n : Nat)] _ (fun w h => range_block h.out.1 _ ⟨[], by rw [List.append_nil]⟩) hu53 rfl size53) hS_ ?ha1_1 ?rest1_1
  case ha1_1 => go_simp; rfl
  refine pure_ (i := 2) (a' := ?a1_2) (v := .pointer none) #[true, false, true, false, false, false, false, false, false, false] rfl rfl (by kernel_rfl) (fun _ _ _ h => h) (Or.inl ⟨rfl, ?hy1_2⟩) ?ha1_2 ?rest1_2
  case hy1_2 => intro w; first | (go_simp; done) | (go_simp; with_reducible rfl) | (go_simp; rfl)
  case ha1_2 => go_simp; rfl
  refine take_ (i := 4) (a' := ?a1_3) (v := .agg #[.int .u32 (u.p : Nat), .int .u32 (u.m : Nat), .int .u16 (u.i : Nat), .int .u8 (u.s : Nat), .int .i64 u.e, .int .u64 (u.n : Nat)]) #[true, false, true, false, true, false, false, false, false, false] rfl rfl (by kernel_rfl) (fun _ _ _ h => h) (yields_row rfl 56 (.tmp 4) rfl g4 0 rfl #[.int .u32 (u.p : Nat), .int .u32 (u.m : Nat), .int .u16 (u.i : Nat), .int .u8 (u.s : Nat), .int .i64 u.e, .int .u64 (u.n : Nat)] _ (fun w h => range_block h.out.2.1 _ ⟨[], by rw [List.append_nil]⟩) hu56 rfl size56) hS_ ?ha1_3 ?rest1_3
  case ha1_3 => go_simp; rfl
  refine pure_ (i := 6) (a' := ?a1_4) (v := .pointer none) #[true, false, true, false, true, false, true, false, false, false] rfl rfl (by kernel_rfl) (fun _ _ _ h => h) (Or.inl ⟨rfl, ?hy1_4⟩) ?ha1_4 ?rest1_4
  case hy1_4 => intro w; first | (go_simp; done) | (go_simp; with_reducible rfl) | (go_simp; rfl)
  case ha1_4 => go_simp; rfl
  refine one_ (i := 1) #[true, true, true, false, true, false, true, false, false, false] rfl rfl (by kernel_rfl) (by decide) ?_
  intro K_ hK_
  unfold Shut at hK_
  refine goes_ Tryd.func38 (by kernel_rfl) (by kernel_rfl) #[.agg #[.int .u32 (t.p : Nat), .int .i64 t.e, .int .u64 (t.n : Nat)]] rfl rfl rfl (by go_simp) ?_; refine (ticket38 (t := t) _).mono ?_; rintro e v1 ⟨rfl, hb6⟩; have hS2 := hS_.next hb6; clear hb6; refine ⟨_, rfl, hK_ _ _ hS2 (fun hS_ => ?_)⟩; clear hK_ hS2
  refine norm_ (a' := ?a1_6n) ?ha1_6n ?rest1_6n
  case ha1_6n => go_simp; rfl
  refine one_ (i := 3) #[true, true, true, true, true, false, true, false, false, false] rfl rfl (by kernel_rfl) (by decide) ?_
  intro K_ hK_
  unfold Shut at hK_
  refine goes_ Tryd.func39 (by kernel_rfl) (by kernel_rfl) #[.agg #[.int .u32 (t.p : Nat), .int .i64 t.e, .int .u64 (t.n : Nat)], .pointer none] rfl rfl rfl (by go_simp) ?_; refine (seal39 (t := t) _ (HT2.out.below hS_.out.2.2) (KeyTag.none _) Ht.out).mono ?_; rintro e v2 ⟨rfl, hb6⟩; rw [Hs1.out]; have hS2 := hS_.next hb6; clear hb6; refine ⟨_, rfl, hK_ _ _ hS2 (fun hS_ => ?_)⟩; clear hK_ hS2
  refine norm_ (a' := ?a1_8n) ?ha1_8n ?rest1_8n
  case ha1_8n => go_simp; rfl
  refine one_ (i := 5) #[true, true, true, true, true, true, true, false, false, false] rfl rfl (by kernel_rfl) (by decide) ?_
  intro K_ hK_
  unfold Shut at hK_
  refine goes_ Tryd.func41 (by kernel_rfl) (by kernel_rfl) #[.agg #[.int .u32 (u.p : Nat), .int .u32 (u.m : Nat), .int .u16 (u.i : Nat), .int .u8 (u.s : Nat), .int .i64 u.e, .int .u64 (u.n : Nat)]] rfl rfl rfl (by go_simp) ?_; refine (token41 (t := u) _).mono ?_; rintro e v3 ⟨rfl, hb6⟩; have hS2 := hS_.next hb6; clear hb6; refine ⟨_, rfl, hK_ _ _ hS2 (fun hS_ => ?_)⟩; clear hK_ hS2
  refine norm_ (a' := ?a1_10n) ?ha1_10n ?rest1_10n
  case ha1_10n => go_simp; rfl
  refine one_ (i := 7) #[true, true, true, true, true, true, true, true, false, false] rfl rfl (by kernel_rfl) (by decide) ?_
  intro K_ hK_
  unfold Shut at hK_
  refine goes_ Tryd.func42 (by kernel_rfl) (by kernel_rfl) #[.agg #[.int .u32 (u.p : Nat), .int .u32 (u.m : Nat), .int .u16 (u.i : Nat), .int .u8 (u.s : Nat), .int .i64 u.e, .int .u64 (u.n : Nat)], .pointer none] rfl rfl rfl (by go_simp) ?_; refine (seal42 (t := u) _ (HT2.out.below hS_.out.2.2) (KeyTag.none _) Hu.out).mono ?_; rintro e v4 ⟨rfl, hb6⟩; rw [Hs2.out]; have hS2 := hS_.next hb6; clear hb6; refine ⟨_, rfl, hK_ _ _ hS2 (fun hS_ => ?_)⟩; clear hK_ hS2
  refine norm_ (a' := ?a1_12n) ?ha1_12n ?rest1_12n
  case ha1_12n => go_simp; rfl
  refine pure_ (i := 8) (a' := ?a1_13) (v := .string s1) #[true, true, true, true, true, true, true, true, true, false] rfl rfl (by kernel_rfl) (fun _ _ _ h => h) (Or.inl ⟨rfl, ?hy1_13⟩) ?ha1_13 ?rest1_13
  case hy1_13 => intro w; first | (go_simp; done) | (go_simp; with_reducible rfl) | (go_simp; rfl)
  case ha1_13 => go_simp; rfl
  refine pure_ (i := 9) (a' := ?a1_14) (v := .string s2) #[true, true, true, true, true, true, true, true, true, true] rfl rfl (by kernel_rfl) (fun _ _ _ h => h) (Or.inl ⟨rfl, ?hy1_14⟩) ?ha1_14 ?rest1_14
  case hy1_14 => intro w; first | (go_simp; done) | (go_simp; with_reducible rfl) | (go_simp; rfl)
  case ha1_14 => go_simp; rfl
  refine done_ (by kernel_rfl) ?_
  have JB := Aside0.mk (HB2.out.trans (hS_.out.2.2.mono HB2.out.size))
  have Jg3 := Aside0.mk hS_.out.1
  clear hS_ hS HB2 HT2
  go_wp2_with (first | ((with_reducible refine gate_dst (N := 36) rfl ?_); refine make32 ?hg (N := 36) ?hd ?ho ?_; (case hg => rfl); (case hd => rfl); (case ho => rfl); intro Am cm wm hCm hb_; have JM := Aside0.mk hCm; replace JB := Aside0.mk (below_step JB.out hb_); replace Jg3 := Aside0.mk (blk_below Jg3.out hb_); clear hCm hb_) | ((with_reducible refine gate_dst (N := 37) rfl ?_); refine conv_string ?hg (N := 37) ?hd (.tmp 36) ?ho (c := cm) ?hx JM.out z Hz.out ?_; (case hg => rfl); (case hd => rfl); (case ho => rfl); (case hx => rfl)))
  refine (open46_any (s := s1) _ (HT.out.below JB.out) (KeyFits.none _) (by rw [Hz1.out]; decide)).mono ?_
  rintro e8 wa8 ⟨rfl, hb⟩
  rw [HO1.out]
  replace Jg3 := Aside0.mk (blk_below Jg3.out hb)
  replace JB := Aside0.mk (below_step JB.out hb)
  clear hb
  go_wp2_with (first | ((with_reducible refine gate_dst (N := 11) rfl ?_); refine box_event ?hg (N := 11) ?hd (cs := #[.int .u32 0, .int .i64 0, .int .u64 0]) (t := 60) ?hr ?_; (case hd => rfl); (case hg => rfl); (case hr => first | (go_simp; done) | (go_simp; rfl)); intro g11 hg_ wb8 hbox_ hb_; have Jg11 := Aside0.mk hbox_; have Ng := Aside0.mk (show w.heap.size ≤ g11 from Nat.le_trans JB.out.size (Nat.le_of_eq hg_.symm)); have Ng3 := Aside0.mk (show g3 ≠ g11 from by have := blk_lt Jg3.out; omega); replace Jg3 := Aside0.mk (blk_below Jg3.out hb_); replace JB := Aside0.mk (below_step JB.out hb_);clear hg_ hbox_ hb_) | ((with_reducible refine gate_store (t := 60) (p := 11) rfl ?_); refine store_row ?hg (ty := 60) (p := 11) (v := ?vr_1) ?ho ?hd (g := g11) (t := 60) (old := #[.int .u32 0, .int .i64 0, .int .u64 0]) (cells := #[.int .u32 0, .int .i64 0, .int .u64 0]) ?hx ?hy Jg11.out size60 rfl (by simp [Value.oneCell']) ?_; (case hd => rfl); (case hg => rfl); (case ho => rfl); (case hx => rfl); (case hy => rfl); intro wc8 hbox_ hk_ hb_; replace Jg11 := Aside0.mk hbox_; replace Jg3 := Aside0.mk ((hk_.2 g3 (blk_lt Jg3.out) Ng3.out).trans Jg3.out); replace JB := Aside0.mk (JB.out.trans (hb_.mono Ng.out));clear hbox_ hk_ hb_))
  refine (open48_any (s := s2) _ (HT.out.below JB.out) (KeyFits.none _) (by rw [Hz2.out]; decide)).mono ?_
  rintro e9 wa9 ⟨rfl, hb⟩
  rw [HO2.out]
  replace Jg3 := Aside0.mk (blk_below Jg3.out hb)
  replace JB := Aside0.mk (below_step JB.out hb)
  clear hb
  go_wp2_with (first | ((with_reducible refine gate_dst (N := 13) rfl ?_); refine box_event ?hg (N := 13) ?hd (cs := #[.int .u32 0, .int .u32 0, .int .u16 0, .int .u8 0, .int .i64 0, .int .u64 0]) (t := 65) ?hr ?_; (case hd => rfl); (case hg => rfl); (case hr => first | (go_simp; done) | (go_simp; rfl)); intro g13 hg_ wb9 hbox_ hb_; have Jg13 := Aside0.mk hbox_; have Ng := Aside0.mk (show w.heap.size ≤ g13 from Nat.le_trans JB.out.size (Nat.le_of_eq hg_.symm)); have Ng3 := Aside0.mk (show g3 ≠ g13 from by have := blk_lt Jg3.out; omega); replace Jg3 := Aside0.mk (blk_below Jg3.out hb_); replace JB := Aside0.mk (below_step JB.out hb_);clear hg_ hbox_ hb_) | ((with_reducible refine gate_store (t := 65) (p := 13) rfl ?_); refine store_row ?hg (ty := 65) (p := 13) (v := ?vr_2) ?ho ?hd (g := g13) (t := 65) (old := #[.int .u32 0, .int .u32 0, .int .u16 0, .int .u8 0, .int .i64 0, .int .u64 0]) (cells := #[.int .u32 0, .int .u32 0, .int .u16 0, .int .u8 0, .int .i64 0, .int .u64 0]) ?hx ?hy Jg13.out size65 rfl (by simp [Value.oneCell']) ?_; (case hd => rfl); (case hg => rfl); (case ho => rfl); (case hx => rfl); (case hy => rfl); intro wc9 hbox_ hk_ hb_; replace Jg13 := Aside0.mk hbox_; replace Jg3 := Aside0.mk ((hk_.2 g3 (blk_lt Jg3.out) Ng3.out).trans Jg3.out); replace JB := Aside0.mk (JB.out.trans (hb_.mono Ng.out));clear hbox_ hk_ hb_))
  refine (open46_any (s := s) _ (HT.out.below JB.out) (KeyFits.none _) (by omega)).mono ?_
  rintro e10 wa10 ⟨rfl, hb⟩
  rw [HO3.out]
  replace Jg3 := Aside0.mk (blk_below Jg3.out hb)
  replace JB := Aside0.mk (below_step JB.out hb)
  clear hb
  go_wp2_with (first | ((with_reducible refine gate_dst (N := 15) rfl ?_); refine box_event ?hg (N := 15) ?hd (cs := #[.int .u32 0, .int .i64 0, .int .u64 0]) (t := 60) ?hr ?_; (case hd => rfl); (case hg => rfl); (case hr => first | (go_simp; done) | (go_simp; rfl)); intro g15 hg_ wb10 hbox_ hb_; have Jg15 := Aside0.mk hbox_; have Ng := Aside0.mk (show w.heap.size ≤ g15 from Nat.le_trans JB.out.size (Nat.le_of_eq hg_.symm)); have Ng3 := Aside0.mk (show g3 ≠ g15 from by have := blk_lt Jg3.out; omega); replace Jg3 := Aside0.mk (blk_below Jg3.out hb_); replace JB := Aside0.mk (below_step JB.out hb_);clear hg_ hbox_ hb_) | ((with_reducible refine gate_store (t := 60) (p := 15) rfl ?_); refine store_row ?hg (ty := 60) (p := 15) (v := ?vr_3) ?ho ?hd (g := g15) (t := 60) (old := #[.int .u32 0, .int .i64 0, .int .u64 0]) (cells := #[.int .u32 0, .int .i64 0, .int .u64 0]) ?hx ?hy Jg15.out size60 rfl (by simp [Value.oneCell']) ?_; (case hd => rfl); (case hg => rfl); (case ho => rfl); (case hx => rfl); (case hy => rfl); intro wc10 hbox_ hk_ hb_; replace Jg15 := Aside0.mk hbox_; replace Jg3 := Aside0.mk ((hk_.2 g3 (blk_lt Jg3.out) Ng3.out).trans Jg3.out); replace JB := Aside0.mk (JB.out.trans (hb_.mono Ng.out));clear hbox_ hk_ hb_))
  have heq1 : ((s1.extract 0 21).toList == (r1.extract 0 21).toList) = true := by rw [Hf1.out, Hf2.out]; exact beq_self_eq_true _
  have heq2 : ((s1.extract 21 53).toList == z.toList) = true := by rw [Hf3.out]; exact beq_self_eq_true _
  have heq3 : ((s2.extract 28 60).toList == z.toList) = true := by rw [Hf4.out]; exact beq_self_eq_true _
  have hrn : (r != 0) = true := by simpa using hr0
  have hS : Snil wc10 g3 g15 #[.int .u32 (t.p : Nat), .int .i64 t.e, .int .u64 (t.n : Nat)] 53 #[.int .u32 0, .int .i64 0, .int .u64 0] 60 wc10.drew := ⟨Jg3.out, Jg15.out, below_drew (Below.refl _ _)⟩
  refine start_ (S := Snil wc10 g3 g15 #[.int .u32 (t.p : Nat), .int .i64 t.e, .int .u64 (t.n : Nat)] 53 #[.int .u32 0, .int .i64 0, .int .u64 0] 60) (ds := []) #[false, false, false, false, false, false, false, false, false, false, false, false, false, false, false, false, false, false, false, false, false, false, false, false, false, false, false, false, false, false, false, false, false, false, false, false, false, false, false] (by kernel_rfl) rfl rfl hS ?_
  intro hS_
  refine pure_ (i := 0) (a' := ?a2_1) (v := .string s1) #[true, false, false, false, false, false, false, false, false, false, false, false, false, false, false, false, false, false, false, false, false, false, false, false, false, false, false, false, false, false, false, false, false, false, false, false, false, false, false] rfl rfl (by kernel_rfl) (fun _ _ _ h => h) (Or.inl ⟨rfl, ?hy2_1⟩) ?ha2_1 ?rest2_1
  case hy2_1 => intro w; first | (go_simp; done) | (go_simp; with_reducible rfl) | (go_simp; rfl)
  case ha2_1 => go_simp; rfl
  refine pure_ (i := 1) (a' := ?a2_2) (v := .string (s1.extract 0 21)) #[true, true, false, false, false, false, false, false, false, false, false, false, false, false, false, false, false, false, false, false, false, false, false, false, false, false, false, false, false, false, false, false, false, false, false, false, false, false, false] rfl rfl (by kernel_rfl) (fun _ _ _ h => h) (Or.inl ⟨rfl, ?hy2_2⟩) ?ha2_2 ?rest2_2
  case hy2_2 => intro w; first | (go_simp; done) | (go_simp; with_reducible rfl) | (go_simp; rfl)
  case ha2_2 => go_simp; rfl
  refine take_ (i := 2) (a' := ?a2_3) (v := .agg #[.int .u32 (t.p : Nat), .int .i64 t.e, .int .u64 (t.n : Nat)]) #[true, true, true, false, false, false, false, false, false, false, false, false, false, false, false, false, false, false, false, false, false, false, false, false, false, false, false, false, false, false, false, false, false, false, false, false, false, false, false] rfl rfl (by kernel_rfl) (fun _ _ _ h => h) (yields_row rfl 53 (.tmp 3) rfl g3 0 rfl #[.int .u32 (t.p : Nat), .int .i64 t.e, .int .u64 (t.n : Nat)] _ (fun w h => range_block h.out.1 _ ⟨[], by rw [List.append_nil]⟩) hu53 rfl size53) hS_ ?ha2_3 ?rest2_3
  case ha2_3 => go_simp; rfl
  refine one_ (i := 3) #[true, true, true, true, false, false, false, false, false, false, false, false, false, false, false, false, false, false, false, false, false, false, false, false, false, false, false, false, false, false, false, false, false, false, false, false, false, false, false] rfl rfl (by kernel_rfl) (by decide) ?_
  intro K_ hK_
  unfold Shut at hK_
  refine goes_ Tryd.func40 (by kernel_rfl) (by kernel_rfl) #[.slice none 0 0, .agg #[.int .u32 (t.p : Nat), .int .i64 t.e, .int .u64 (t.n : Nat)]] rfl rfl rfl (by go_simp) ?_; refine (refseal40 (t := t) (key := []) _ (Kd.C_nil _ _) (Nat.le_refl _) Byt.nil (by decide) Ht.out).mono ?_; rintro e z1 ⟨rfl, hb6⟩; rw [Hr1.out]; have hS2 := hS_.next hb6; clear hb6; refine ⟨_, rfl, hK_ _ _ hS2 (fun hS_ => ?_)⟩; clear hK_ hS2
  refine norm_ (a' := ?a2_5n) ?ha2_5n ?rest2_5n
  case ha2_5n => go_simp; rfl
  refine pure_ (i := 4) (a' := ?a2_6) (v := .string (r1.extract 0 21)) #[true, true, true, true, true, false, false, false, false, false, false, false, false, false, false, false, false, false, false, false, false, false, false, false, false, false, false, false, false, false, false, false, false, false, false, false, false, false, false] rfl rfl (by kernel_rfl) (fun _ _ _ h => h) (Or.inl ⟨rfl, ?hy2_6⟩) ?ha2_6 ?rest2_6
  case hy2_6 => intro w; first | (go_simp; done) | (go_simp; with_reducible rfl) | (go_simp; rfl)
  case ha2_6 => go_simp; rfl
  refine pure_ (i := 5) (a' := ?a2_7) (v := .bool true) #[true, true, true, true, true, true, false, false, false, false, false, false, false, false, false, false, false, false, false, false, false, false, false, false, false, false, false, false, false, false, false, false, false, false, false, false, false, false, false] rfl rfl (by kernel_rfl) (fun _ _ _ h => h) (Or.inl ⟨rfl, ?hy2_7⟩) ?ha2_7 ?rest2_7
  case hy2_7 => intro w; first | (go_simp; done) | (go_simp; with_reducible rfl) | (go_simp; rfl)
  case ha2_7 => go_simp; rfl
  refine pure_ (i := 6) (a' := ?a2_8) (v := .bool true) #[true, true, true, true, true, true, true, false, false, false, false, false, false, false, false, false, false, false, false, false, false, false, false, false, false, false, false, false, false, false, false, false, false, false, false, false, false, false, false] rfl rfl (by kernel_rfl) (fun _ _ _ h => h) (Or.inl ⟨rfl, ?hy2_8⟩) ?ha2_8 ?rest2_8
  case hy2_8 => intro w; first | (go_simp; done) | (go_simp; with_reducible rfl) | (go_simp; rfl)
  case ha2_8 => go_simp; rfl
  refine pure_ (i := 7) (a' := ?a2_9) (v := .string s1) #[true, true, true, true, true, true, true, true, false, false, false, false, false, false, false, false, false, false, false, false, false, false, false, false, false, false, false, false, false, false, false, false, false, false, false, false, false, false, false] rfl rfl (by kernel_rfl) (fun _ _ _ h => h) (Or.inl ⟨rfl, ?hy2_9⟩) ?ha2_9 ?rest2_9
  case hy2_9 => intro w; first | (go_simp; done) | (go_simp; with_reducible rfl) | (go_simp; rfl)
  case ha2_9 => go_simp; rfl
  refine pure_ (i := 8) (a' := ?a2_10) (v := .string (s1.extract 21 53)) #[true, true, true, true, true, true, true, true, true, false, false, false, false, false, false, false, false, false, false, false, false, false, false, false, false, false, false, false, false, false, false, false, false, false, false, false, false, false, false] rfl rfl (by kernel_rfl) (fun _ _ _ h => h) (Or.inl ⟨rfl, ?hy2_10⟩) ?ha2_10 ?rest2_10
  case hy2_10 => intro w; first | (go_simp; done) | (go_simp; with_reducible rfl) | (go_simp; rfl)
  case ha2_10 => go_simp; rfl
  refine pure_ (i := 9) (a' := ?a2_11) (v := .string z) #[true, true, true, true, true, true, true, true, true, true, false, false, false, false, false, false, false, false, false, false, false, false, false, false, false, false, false, false, false, false, false, false, false, false, false, false, false, false, false] rfl rfl (by kernel_rfl) (fun _ _ _ h => h) (Or.inl ⟨rfl, ?hy2_11⟩) ?ha2_11 ?rest2_11
  case hy2_11 => intro w; first | (go_simp; done) | (go_simp; with_reducible rfl) | (go_simp; rfl)
  case ha2_11 => go_simp; rfl
  refine pure_ (i := 10) (a' := ?a2_12) (v := .bool true) #[true, true, true, true, true, true, true, true, true, true, true, false, false, false, false, false, false, false, false, false, false, false, false, false, false, false, false, false, false, false, false, false, false, false, false, false, false, false, false] rfl rfl (by kernel_rfl) (fun _ _ _ h => h) (Or.inl ⟨rfl, ?hy2_12⟩) ?ha2_12 ?rest2_12
  case hy2_12 => intro w; first | (go_simp; done) | (go_simp; with_reducible rfl) | (go_simp; rfl)
  case ha2_12 => go_simp; rfl
  refine pure_ (i := 11) (a' := ?a2_13) (v := .bool true) #[true, true, true, true, true, true, true, true, true, true, true, true, false, false, false, false, false, false, false, false, false, false, false, false, false, false, false, false, false, false, false, false, false, false, false, false, false, false, false] rfl rfl (by kernel_rfl) (fun _ _ _ h => h) (Or.inl ⟨rfl, ?hy2_13⟩) ?ha2_13 ?rest2_13
  case hy2_13 => intro w; first | (go_simp; done) | (go_simp; with_reducible rfl) | (go_simp; rfl)
  case ha2_13 => go_simp; rfl
  refine pure_ (i := 12) (a' := ?a2_14) (v := .bool true) #[true, true, true, true, true, true, true, true, true, true, true, true, true, false, false, false, false, false, false, false, false, false, false, false, false, false, false, false, false, false, false, false, false, false, false, false, false, false, false] rfl rfl (by kernel_rfl) (fun _ _ _ h => h) (Or.inl ⟨rfl, ?hy2_14⟩) ?ha2_14 ?rest2_14
  case hy2_14 => intro w; first | (go_simp; done) | (go_simp; with_reducible rfl) | (go_simp; rfl)
  case ha2_14 => go_simp; rfl
  refine pure_ (i := 13) (a' := ?a2_15) (v := .string s2) #[true, true, true, true, true, true, true, true, true, true, true, true, true, true, false, false, false, false, false, false, false, false, false, false, false, false, false, false, false, false, false, false, false, false, false, false, false, false, false] rfl rfl (by kernel_rfl) (fun _ _ _ h => h) (Or.inl ⟨rfl, ?hy2_15⟩) ?ha2_15 ?rest2_15
  case hy2_15 => intro w; first | (go_simp; done) | (go_simp; with_reducible rfl) | (go_simp; rfl)
  case ha2_15 => go_simp; rfl
  refine pure_ (i := 14) (a' := ?a2_16) (v := .string (s2.extract 28 60)) #[true, true, true, true, true, true, true, true, true, true, true, true, true, true, true, false, false, false, false, false, false, false, false, false, false, false, false, false, false, false, false, false, false, false, false, false, false, false, false] rfl rfl (by kernel_rfl) (fun _ _ _ h => h) (Or.inl ⟨rfl, ?hy2_16⟩) ?ha2_16 ?rest2_16
  case hy2_16 => intro w; first | (go_simp; done) | (go_simp; with_reducible rfl) | (go_simp; rfl)
  case ha2_16 => go_simp; rfl
  refine pure_ (i := 15) (a' := ?a2_17) (v := .string z) #[true, true, true, true, true, true, true, true, true, true, true, true, true, true, true, true, false, false, false, false, false, false, false, false, false, false, false, false, false, false, false, false, false, false, false, false, false, false, false] rfl rfl (by kernel_rfl) (fun _ _ _ h => h) (Or.inl ⟨rfl, ?hy2_17⟩) ?ha2_17 ?rest2_17
  case hy2_17 => intro w; first | (go_simp; done) | (go_simp; with_reducible rfl) | (go_simp; rfl)
  case ha2_17 => go_simp; rfl
  refine pure_ (i := 16) (a' := ?a2_18) (v := .bool true) #[true, true, true, true, true, true, true, true, true, true, true, true, true, true, true, true, true, false, false, false, false, false, false, false, false, false, false, false, false, false, false, false, false, false, false, false, false, false, false] rfl rfl (by kernel_rfl) (fun _ _ _ h => h) (Or.inl ⟨rfl, ?hy2_18⟩) ?ha2_18 ?rest2_18
  case hy2_18 => intro w; first | (go_simp; done) | (go_simp; with_reducible rfl) | (go_simp; rfl)
  case ha2_18 => go_simp; rfl
  refine pure_ (i := 17) (a' := ?a2_19) (v := .bool true) #[true, true, true, true, true, true, true, true, true, true, true, true, true, true, true, true, true, true, false, false, false, false, false, false, false, false, false, false, false, false, false, false, false, false, false, false, false, false, false] rfl rfl (by kernel_rfl) (fun _ _ _ h => h) (Or.inl ⟨rfl, ?hy2_19⟩) ?ha2_19 ?rest2_19
  case hy2_19 => intro w; first | (go_simp; done) | (go_simp; with_reducible rfl) | (go_simp; rfl)
  case ha2_19 => go_simp; rfl
  refine pure_ (i := 18) (a' := ?a2_20) (v := .bool true) #[true, true, true, true, true, true, true, true, true, true, true, true, true, true, true, true, true, true, true, false, false, false, false, false, false, false, false, false, false, false, false, false, false, false, false, false, false, false, false] rfl rfl (by kernel_rfl) (fun _ _ _ h => h) (Or.inl ⟨rfl, ?hy2_20⟩) ?ha2_20 ?rest2_20
  case hy2_20 => intro w; first | (go_simp; done) | (go_simp; with_reducible rfl) | (go_simp; rfl)
  case ha2_20 => go_simp; rfl
  refine pure_ (i := 19) (a' := ?a2_21) (v := .int .i64 8) #[true, true, true, true, true, true, true, true, true, true, true, true, true, true, true, true, true, true, true, true, false, false, false, false, false, false, false, false, false, false, false, false, false, false, false, false, false, false, false] rfl rfl (by kernel_rfl) (fun _ _ _ h => h) (Or.inl ⟨rfl, ?hy2_21⟩) ?ha2_21 ?rest2_21
  case hy2_21 => intro w; first | (go_simp; done) | (go_simp; with_reducible rfl) | (go_simp; rfl)
  case ha2_21 => go_simp; rfl
  refine pure_ (i := 20) (a' := ?a2_22) (v := .bool true) #[true, true, true, true, true, true, true, true, true, true, true, true, true, true, true, true, true, true, true, true, true, false, false, false, false, false, false, false, false, false, false, false, false, false, false, false, false, false, false] rfl rfl (by kernel_rfl) (fun _ _ _ h => h) (Or.inl ⟨rfl, ?hy2_22⟩) ?ha2_22 ?rest2_22
  case hy2_22 => intro w; first | (go_simp; done) | (go_simp; with_reducible rfl) | (go_simp; rfl)
  case ha2_22 => go_simp; rfl
  refine pure_ (i := 21) (a' := ?a2_23) (v := .bool true) #[true, true, true, true, true, true, true, true, true, true, true, true, true, true, true, true, true, true, true, true, true, true, false, false, false, false, false, false, false, false, false, false, false, false, false, false, false, false, false] rfl rfl (by kernel_rfl) (fun _ _ _ h => h) (Or.inl ⟨rfl, ?hy2_23⟩) ?ha2_23 ?rest2_23
  case hy2_23 => intro w; first | (go_simp; done) | (go_simp; with_reducible rfl) | (go_simp; rfl)
  case ha2_23 => go_simp; rfl
  refine pure_ (i := 22) (a' := ?a2_24) (v := .bool true) #[true, true, true, true, true, true, true, true, true, true, true, true, true, true, true, true, true, true, true, true, true, true, true, false, false, false, false, false, false, false, false, false, false, false, false, false, false, false, false] rfl rfl (by kernel_rfl) (fun _ _ _ h => h) (Or.inl ⟨rfl, ?hy2_24⟩) ?ha2_24 ?rest2_24
  case hy2_24 => intro w; first | (go_simp; done) | (go_simp; with_reducible rfl) | (go_simp; rfl)
  case ha2_24 => go_simp; rfl
  refine pure_ (i := 23) (a' := ?a2_25) (v := .int .i64 8) #[true, true, true, true, true, true, true, true, true, true, true, true, true, true, true, true, true, true, true, true, true, true, true, true, false, false, false, false, false, false, false, false, false, false, false, false, false, false, false] rfl rfl (by kernel_rfl) (fun _ _ _ h => h) (Or.inl ⟨rfl, ?hy2_25⟩) ?ha2_25 ?rest2_25
  case hy2_25 => intro w; first | (go_simp; done) | (go_simp; with_reducible rfl) | (go_simp; rfl)
  case ha2_25 => go_simp; rfl
  refine pure_ (i := 24) (a' := ?a2_26) (v := .bool true) #[true, true, true, true, true, true, true, true, true, true, true, true, true, true, true, true, true, true, true, true, true, true, true, true, true, false, false, false, false, false, false, false, false, false, false, false, false, false, false] rfl rfl (by kernel_rfl) (fun _ _ _ h => h) (Or.inl ⟨rfl, ?hy2_26⟩) ?ha2_26 ?rest2_26
  case hy2_26 => intro w; first | (go_simp; done) | (go_simp; with_reducible rfl) | (go_simp; rfl)
  case ha2_26 => go_simp; rfl
  refine pure_ (i := 25) (a' := ?a2_27) (v := .bool true) #[true, true, true, true, true, true, true, true, true, true, true, true, true, true, true, true, true, true, true, true, true, true, true, true, true, true, false, false, false, false, false, false, false, false, false, false, false, false, false] rfl rfl (by kernel_rfl) (fun _ _ _ h => h) (Or.inl ⟨rfl, ?hy2_27⟩) ?ha2_27 ?rest2_27
  case hy2_27 => intro w; first | (go_simp; done) | (go_simp; with_reducible rfl) | (go_simp; rfl)
  case ha2_27 => go_simp; rfl
  refine pure_ (i := 26) (a' := ?a2_28) (v := .bool true) #[true, true, true, true, true, true, true, true, true, true, true, true, true, true, true, true, true, true, true, true, true, true, true, true, true, true, true, false, false, false, false, false, false, false, false, false, false, false, false] rfl rfl (by kernel_rfl) (fun _ _ _ h => h) (Or.inl ⟨rfl, ?hy2_28⟩) ?ha2_28 ?rest2_28
  case hy2_28 => intro w; first | (go_simp; done) | (go_simp; with_reducible rfl) | (go_simp; rfl)
  case ha2_28 => go_simp; rfl
  refine pure_ (i := 27) (a' := ?a2_29) (v := .int .i64 r) #[true, true, true, true, true, true, true, true, true, true, true, true, true, true, true, true, true, true, true, true, true, true, true, true, true, true, true, true, false, false, false, false, false, false, false, false, false, false, false] rfl rfl (by kernel_rfl) (fun _ _ _ h => h) (Or.inl ⟨rfl, ?hy2_29⟩) ?ha2_29 ?rest2_29
  case hy2_29 => intro w; first | (go_simp; done) | (go_simp; with_reducible rfl) | (go_simp; rfl)
  case ha2_29 => go_simp; rfl
  refine pure_ (i := 28) (a' := ?a2_30) (v := .bool true) #[true, true, true, true, true, true, true, true, true, true, true, true, true, true, true, true, true, true, true, true, true, true, true, true, true, true, true, true, true, false, false, false, false, false, false, false, false, false, false] rfl rfl (by kernel_rfl) (fun _ _ _ h => h) (Or.inl ⟨rfl, ?hy2_30⟩) ?ha2_30 ?rest2_30
  case hy2_30 => intro w; first | (go_simp; done) | (go_simp; with_reducible rfl) | (go_simp; rfl)
  case ha2_30 => go_simp; rfl
  refine pure_ (i := 29) (a' := ?a2_31) (v := .bool true) #[true, true, true, true, true, true, true, true, true, true, true, true, true, true, true, true, true, true, true, true, true, true, true, true, true, true, true, true, true, true, false, false, false, false, false, false, false, false, false] rfl rfl (by kernel_rfl) (fun _ _ _ h => h) (Or.inl ⟨rfl, ?hy2_31⟩) ?ha2_31 ?rest2_31
  case hy2_31 => intro w; first | (go_simp; done) | (go_simp; with_reducible rfl) | (go_simp; rfl)
  case ha2_31 => go_simp; rfl
  refine pure_ (i := 30) (a' := ?a2_32) (v := .bool true) #[true, true, true, true, true, true, true, true, true, true, true, true, true, true, true, true, true, true, true, true, true, true, true, true, true, true, true, true, true, true, true, false, false, false, false, false, false, false, false] rfl rfl (by kernel_rfl) (fun _ _ _ h => h) (Or.inl ⟨rfl, ?hy2_32⟩) ?ha2_32 ?rest2_32
  case hy2_32 => intro w; first | (go_simp; done) | (go_simp; with_reducible rfl) | (go_simp; rfl)
  case ha2_32 => go_simp; rfl
  refine take_ (i := 31) (a' := ?a2_33) (v := .agg #[.int .u32 0, .int .i64 0, .int .u64 0]) #[true, true, true, true, true, true, true, true, true, true, true, true, true, true, true, true, true, true, true, true, true, true, true, true, true, true, true, true, true, true, true, true, false, false, false, false, false, false, false] rfl rfl (by kernel_rfl) (fun _ _ _ h => h) (yields_row rfl 60 (.tmp 15) rfl g15 0 rfl #[.int .u32 0, .int .i64 0, .int .u64 0] _ (fun w h => range_block h.out.2.1 _ ⟨[], by rw [List.append_nil]⟩) hu60 rfl size60) hS_ ?ha2_33 ?rest2_33
  case ha2_33 => go_simp; rfl
  refine pure_ (i := 32) (a' := ?a2_34) (v := .agg #[.int .u32 0, .int .i64 0, .int .u64 0]) #[true, true, true, true, true, true, true, true, true, true, true, true, true, true, true, true, true, true, true, true, true, true, true, true, true, true, true, true, true, true, true, true, true, false, false, false, false, false, false] rfl rfl (by kernel_rfl) (fun _ _ _ h => h) (Or.inl ⟨rfl, ?hy2_34⟩) ?ha2_34 ?rest2_34
  case hy2_34 => intro w; first | (go_simp; done) | (go_simp; with_reducible rfl) | (go_simp; rfl)
  case ha2_34 => go_simp; rfl
  refine pure_ (i := 33) (a' := ?a2_35) (v := .bool true) #[true, true, true, true, true, true, true, true, true, true, true, true, true, true, true, true, true, true, true, true, true, true, true, true, true, true, true, true, true, true, true, true, true, true, false, false, false, false, false] rfl rfl (by kernel_rfl) (fun _ _ _ h => h) (Or.inl ⟨rfl, ?hy2_35⟩) ?ha2_35 ?rest2_35
  case hy2_35 => intro w; first | (go_simp; done) | (go_simp; with_reducible rfl) | (go_simp; rfl)
  case ha2_35 => go_simp; rfl
  refine pure_ (i := 34) (a' := ?a2_36) (v := .bool true) #[true, true, true, true, true, true, true, true, true, true, true, true, true, true, true, true, true, true, true, true, true, true, true, true, true, true, true, true, true, true, true, true, true, true, true, false, false, false, false] rfl rfl (by kernel_rfl) (fun _ _ _ h => h) (Or.inl ⟨rfl, ?hy2_36⟩) ?ha2_36 ?rest2_36
  case hy2_36 => intro w; first | (go_simp; done) | (go_simp; with_reducible rfl) | (go_simp; rfl)
  case ha2_36 => go_simp; rfl
  refine pure_ (i := 35) (a' := ?a2_37) (v := .bool true) #[true, true, true, true, true, true, true, true, true, true, true, true, true, true, true, true, true, true, true, true, true, true, true, true, true, true, true, true, true, true, true, true, true, true, true, true, false, false, false] rfl rfl (by kernel_rfl) (fun _ _ _ h => h) (Or.inl ⟨rfl, ?hy2_37⟩) ?ha2_37 ?rest2_37
  case hy2_37 => intro w; first | (go_simp; done) | (go_simp; with_reducible rfl) | (go_simp; rfl)
  case ha2_37 => go_simp; rfl
  refine one_ (i := 36) #[true, true, true, true, true, true, true, true, true, true, true, true, true, true, true, true, true, true, true, true, true, true, true, true, true, true, true, true, true, true, true, true, true, true, true, true, true, false, false] rfl rfl (by kernel_rfl) (by decide) ?_
  intro K_ hK_
  unfold Shut at hK_
  refine goes_ Tryd.func44 (by kernel_rfl) (by kernel_rfl) #[] rfl rfl rfl (by go_simp) ?_; refine (awake44_any _ (HT.out.below (below_step JB.out hS_.out.2.2))).mono ?_; rintro e z2 ⟨rfl, hb6⟩; have hS2 := hS_.next hb6; clear hb6; refine ⟨_, rfl, hK_ _ _ hS2 (fun hS_ => ?_)⟩; clear hK_ hS2
  refine norm_ (a' := ?a2_39n) ?ha2_39n ?rest2_39n
  case ha2_39n => go_simp; rfl
  refine pure_ (i := 37) (a' := ?a2_40) (v := .bool true) #[true, true, true, true, true, true, true, true, true, true, true, true, true, true, true, true, true, true, true, true, true, true, true, true, true, true, true, true, true, true, true, true, true, true, true, true, true, true, false] rfl rfl (by kernel_rfl) (fun _ _ _ h => h) (Or.inl ⟨rfl, ?hy2_40⟩) ?ha2_40 ?rest2_40
  case hy2_40 => intro w; first | (go_simp; done) | (go_simp; with_reducible rfl) | (go_simp; rfl)
  case ha2_40 => go_simp; rfl
  refine pure_ (i := 38) (a' := ?a2_41) (v := .bool true) #[true, true, true, true, true, true, true, true, true, true, true, true, true, true, true, true, true, true, true, true, true, true, true, true, true, true, true, true, true, true, true, true, true, true, true, true, true, true, true] rfl rfl (by kernel_rfl) (fun _ _ _ h => h) (Or.inl ⟨rfl, ?hy2_41⟩) ?ha2_41 ?rest2_41
  case hy2_41 => intro w; first | (go_simp; done) | (go_simp; with_reducible rfl) | (go_simp; rfl)
  case ha2_41 => go_simp; rfl
  refine done_ (by kernel_rfl) ?_
  have HBf := Aside0.mk (JB.out.trans (hS_.out.2.2.mono JB.out.size))
  go_wp2_with fail
  go_ret
  exact ⟨rfl, HBf.out⟩
end Go.Proofs.YtpigkgnmegpddaaDoor.Sh
