/-
sha.Sum of parts; what Write and Sum of no hash do; memory that a call leaves as it was.
-/
import Derived.Test.YtpigkgnmegpddaaDoorSj
import Derived.Test.YtpigkgnmegpddaaDoorWFoot
namespace Go.Proofs.YtpigkgnmegpddaaDoor.Sh
set_option linter.unusedVariables false
set_option linter.unusedSimpArgs false
open Go.RowKit Go.Proofs.YtpigkgnmegpddaaDoorW.PrintWords Go.Proofs.YtpigkgnmegpddaaDoorW.PrintLast Go.Proofs.YtpigkgnmegpddaaDoorW.PrintMore

set_option maxRecDepth 100000 in
theorem write_nil {A : Option Addr} {n c : Nat} (w : World) : Calls Tryd.prog 28 #[.pointer none, .slice A n c] w fun e w' => e = .returned (.tuple #[]) ∧ w = w' := by
  go_enter Tryd.func28, Tryd.ntmps28
  go_wp2_with fail
  refine bodyPost_ret (results_none rfl _ _ _) rfl ?_
  exact ⟨rfl, rfl⟩
set_option maxRecDepth 100000 in
theorem hsum_nil (w : World) : Calls Tryd.prog 29 #[.pointer none] w fun e w' => e = .returned (.agg (v8 (List.replicate 32 0))) ∧ Below w.heap.size w w' := by
  have hu30 := Tryd.underlying30
  go_enter Tryd.func29, Tryd.ntmps29
  go_wp2_with (first | ((with_reducible refine gate_dst (N := 2) rfl ?_); refine box_event ?hg (N := 2) ?hd (cs := v8 (List.replicate 32 0)) (t := 30) ?hr ?_; (case hd => rfl); (case hg => rfl); (case hr => first | (go_simp; done) | (go_simp; rfl)); intro g2 hg_ w1 hbox_ hb_; have H2 := Aside0.mk hbox_; have HB := Aside0.mk hb_; have Hg2 := Aside0.mk (show w.heap.size ≤ g2 from Nat.le_of_eq hg_.symm);clear hg_ hbox_ hb_) | ((with_reducible refine gate_dst (N := 3) rfl ?_); refine box_event ?hg (N := 3) ?hd (cs := v8 (List.replicate 32 0)) (t := 30) ?hr ?_; (case hd => rfl); (case hg => rfl); (case hr => first | (go_simp; done) | (go_simp; rfl)); intro g3 hg_ w2 hbox_ hb_; have H3 := Aside0.mk hbox_; have H22 := Aside0.mk (blk_below H2.out hb_); have HB2 := Aside0.mk (below_step HB.out hb_);clear hg_ hbox_ hb_) | ((with_reducible refine gate_dst (N := 10) rfl ?_); refine wpList_load_row rfl 30 (.tmp 3) rfl g3 rfl 30 (v8 (List.replicate 32 0)) (0, 0) _ H3.out hu30 rfl (size30 rfl) ?_) | ((with_reducible refine gate_store (t := 30) (p := 2) rfl ?_); refine store_row ?hg (ty := 30) (p := 2) (v := ?vr_1) ?ho ?hd (g := g2) (t := 30) (old := v8 (List.replicate 32 0)) (cells := v8 (List.replicate 32 0)) ?hx ?hy H22.out (size30 rfl) rfl (v8_one _) ?_; (case hd => rfl); (case hg => rfl); (case ho => rfl); (case hx => rfl); (case hy => rfl); intro w12 hbox_ hk_ hb_; have HR := Aside0.mk hbox_; have HBf := Aside0.mk (HB2.out.trans (hb_.mono Hg2.out));clear hbox_ hk_ hb_))
  refine bodyPost_ret (results_cell_row rfl _ _ g2 30 (v8 (List.replicate 32 0)) (0, 0) _ rfl HR.out Tryd.underlying30 rfl (size30 rfl)) rfl ?_
  exact ⟨rfl, HBf.out⟩
/-- Parts that can be read as long as nothing but S is written. -/
def Rp (S : Nat → Prop) (w : World) (A : Option Addr) (n : Nat) (ps : List (List Int)) : Prop := ∀ W', Kept w W' S → (Kd.slice 27 (Kd.int .u8)).C W' A n ps
theorem Rp.now {S : Nat → Prop} {w : World} {A : Option Addr} {n : Nat} {ps : List (List Int)} (h : Rp S w A n ps) : (Kd.slice 27 (Kd.int .u8)).C w A n ps := h w (Kept.refl _ _)
/-- What came, in whatever was made since: as long as only what is new is written. -/
theorem Rp.came {S : Nat → Prop} {w W : World} {A : Option Addr} {n : Nat} {ps : List (List Int)} (h : (Kd.slice 27 (Kd.int .u8)).C w A n ps) (hb : Below w.heap.size w W) (hS : ∀ k, S k → w.heap.size ≤ k) : Rp S W A n ps :=
  Kd.C_kept_came (Kd.heap_slice 27 (Kd.heap_int .u8)) h hb hS
theorem Rd.came {S : Nat → Prop} {w W : World} {A : Option Addr} {n : Nat} {xs : List Int} (h : (Kd.int .u8).C w A n xs) (hb : Below w.heap.size w W) (hS : ∀ k, S k → w.heap.size ≤ k) : Rd S W A n xs :=
  Kd.C_kept_came (Kd.heap_int .u8) h hb hS
theorem Rp.later {S S' T : Nat → Prop} {w w1 : World} {A : Option Addr} {n : Nat} {ps : List (List Int)} (h : Rp S w A n ps) (hk : Kept w w1 T) (hT : ∀ k, T k → S k) (hS : ∀ k, S' k → S k ∨ w.heap.size ≤ k) : Rp S' w1 A n ps :=
  fun W' hk' => h W' ((hk.mono hT).then_ hk' hS)
set_option maxRecDepth 100000 in
theorem run_sliceAt27 (W : World) (x : Value) (l h m : Option Value) : (Instr.sliceAt 27 x l h m).run Tryd.prog W = (Instr.slice 27 x l h m).run Tryd.prog W := by
  unfold Instr.sliceAt
  rw [Sem.run_bind, run_underlying Tryd.underlying27]
  rfl
/-- 'b[l:h]' of bytes, in a region that draws its order. -/
theorem yields_cut {ops : Array Oper} {o : Oper} {a : Act} (hw : Region.wanted o (yielded ops a.tmps) = true) (x lo hi : Operand) (ho : o.op = .slice 27 x (some lo) (some hi) none) {v u lv hv : Value} (hx : a.eval x = u) (hl : a.eval lo = lv) (hh : a.eval hi = hv)
    (hcut : ∀ W : World, (Instr.slice 27 u (some lv) (some hv) none).run Tryd.prog W = .ok v W) : Yields Tryd.prog ops o v a := .inl ⟨hw, fun W => by
  unfold execOp
  simp only [ho, Option.map_some, Option.map_none, hx, hl, hh, Sem.run_bind, run_sliceAt27, hcut, Sem.run_pure, Result.andThen_ok]⟩
set_option maxRecDepth 100000 in
theorem cut_bytes {W : World} {n c : Nat} {A : Option Addr} {xs : List Int} (h : (Kd.int .u8).C W A n xs) (hc : n ≤ c) (l k : Nat) (hk : l + k ≤ n) :
    ∃ A', (∀ W : World, (Instr.slice 27 (.slice A n c) (some (.int .i64 l)) (some (.int .i64 ((l : Int) + (k : Int)))) none).run Tryd.prog W = .ok (.slice A' k (c - l)) W) ∧ (Kd.int .u8).C W A' k ((xs.drop l).take k) := by
  obtain ⟨i5, hi5, hz5⟩ := info5
  have hn := h.1
  have h2 : (Kd.int .u8).C W A xs.length xs := by rw [hn]; exact h
  have h3 := Kd.C_mid h2 (lo := l) (hi := l + k) (c := c) (by omega) (by omega) (by omega)
  have e : (xs.take (l + k)).drop l = (xs.drop l).take k := by rw [List.drop_take]; congr 1; omega
  rw [e] at h3
  have e2 : ((xs.drop l).take k).length = k := by rw [List.length_take, List.length_drop]; omega
  rw [e2] at h3
  refine ⟨_, fun W => ?_, h3⟩
  have := cut_mid 27 5 .i64 .i64 Tryd.underlying27 hi5 1 hz5 A n c (l : Int) ((l : Int) + (k : Int)) (by omega) (by omega) (by omega) hc W
  rw [show ((l : Int) + (k : Int)).toNat - (l : Int).toNat = k from by omega, Int.toNat_natCast] at this
  exact this
set_option maxRecDepth 100000 in
/-- sha.Sum. -/
theorem sum_any {A : Option Addr} {n c : Nat} {ps : List (List Int)} (w : World) (hT : Tab w) (hR : Rp (fun _ => False) w A n ps) (hby : ∀ p ∈ ps, Byt p) (hm : (ps.map List.length).sum ≤ 1000000000) :
    Calls Tryd.prog 24 #[.slice A n c] w fun e w' => e = .returned (.agg (v8 (sum ps.flatten))) ∧ Below w.heap.size w w' := by
  have hu30 := Tryd.underlying30
  have HT := Aside0.mk hT
  have HR := Aside0.mk hR
  have Hby := Aside0.mk hby
  have Hm := Aside0.mk hm
  clear hT hR hby hm
  go_enter Tryd.func24, Tryd.ntmps24
  go_wp2_with (first | ((with_reducible refine gate_dst (N := 2) rfl ?_); refine box_event ?hg (N := 2) ?hd (cs := v8 (List.replicate 32 0)) (t := 30) ?hr ?_; (case hd => rfl); (case hg => rfl); (case hr => first | (go_simp; done) | (go_simp; rfl)); intro g2 hg_ w1 hbox_ hb_; have H2 := Aside0.mk hbox_; have HB := Aside0.mk hb_; have Hg2 := Aside0.mk (show w.heap.size ≤ g2 from Nat.le_of_eq hg_.symm);clear hg_ hbox_ hb_))
  refine (new_any _ (HT.out.below HB.out)).mono ?_
  rintro e w2 ⟨rfl, h2, hb2⟩
  obtain ⟨ge, hge⟩ : ∃ g, g = w1.heap.size := ⟨_, rfl⟩
  rw [← hge] at h2 ⊢
  have Hge := Aside0.mk hge
  have HH := Aside0.mk h2
  have HB2 := Aside0.mk (below_step HB.out hb2)
  have H22 := Aside0.mk (blk_below H2.out hb2)
  have HG := Aside0.mk (show w.heap.size ≤ ge ∧ g2 < ge from by rw [hge]; exact ⟨HB.out.size, blk_lt H2.out⟩)
  clear h2 hb2 hge HB H2
  go_wp2_with fail
  refine (write_any (ps := ps) _ HH.out (HT.out.below HB2.out) (by have := HT.out.t.2.2; have := HG.out.1; omega) ?_ Hby.out (by show (0 : Nat) < 64; omega) (by show 0 + _ ≤ _; have := Hm.out; omega)).mono ?_
  · exact HR.out.later (Kept.of_below HB2.out (fun _ => False)) (fun _ h => h) (fun k hk => by
      rcases hk with rfl | hk
      · exact .inr HG.out.1
      · cases hk)
  rintro e w3 ⟨v3, rfl, hW⟩
  have HF : Aside0 ((ps.foldl Hv.put Hv.new) = Hv.of ps.flatten) := ⟨by rw [Hv.new_eq, Hv.puts, List.nil_append]⟩
  have HW := Aside0.mk hW
  rw [HF.out] at HW
  have H23 := Aside0.mk ((hW.bel.block g2 HG.out.2).trans H22.out)
  have HB3 := Aside0.mk (HB2.out.trans (hW.bel.mono HG.out.1))
  clear hW HH H22 HB2 HF
  go_wp2_with fail
  refine (hsum_any _ HW.out.h (HT.out.below HB3.out) (Hv.of_rest _) (by rw [Hv.of_m, List.length_flatten]; exact Hm.out)).mono ?_
  rintro e w4 ⟨rfl, hb4⟩
  rw [Hv.of_sum]
  have H24 := Aside0.mk (blk_below H23.out hb4)
  have HB4 := Aside0.mk (below_step HB3.out hb4)
  clear hb4 H23 HB3 HW
  obtain ⟨bs, hbs⟩ : ∃ bs, bs = sum ps.flatten := ⟨_, rfl⟩
  have hl32 : bs.length = 32 := by rw [hbs]; rfl
  rw [← hbs]
  have Hl32 := Aside0.mk hl32
  have Hbs := Aside0.mk hbs
  clear hl32 hbs
  go_wp2_with (first | ((with_reducible refine gate_store (t := 30) (p := 2) rfl ?_); refine store_row ?hg (ty := 30) (p := 2) (v := ?vr_2) ?ho ?hd (g := g2) (t := 30) (old := v8 (List.replicate 32 0)) (cells := v8 bs) ?hx ?hy H24.out (size30 Hl32.out) (by rw [v8_size, v8_size, Hl32.out, List.length_replicate]) (v8_one _) ?_; (case hd => rfl); (case hg => rfl); (case ho => rfl); (case hx => rfl); (case hy => rfl); intro w12 hbox_ hk_ hb_; have HR := Aside0.mk hbox_; have HBf := Aside0.mk (HB4.out.trans (hb_.mono Hg2.out));clear hbox_ hk_ hb_))
  refine bodyPost_ret (results_cell_row rfl _ _ g2 30 (v8 bs) (0, 0) _ rfl HR.out Tryd.underlying30 rfl (size30 Hl32.out)) rfl ?_
  exact ⟨by rw [Hbs.out], HBf.out⟩
end Go.Proofs.YtpigkgnmegpddaaDoor.Sh
