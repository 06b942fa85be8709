/-
The laws' walks: ShaSteps, ShaSums.
-/
import Derived.Test.YtpigkgnmegpddaaDoorSl
import Derived.Test.YtpigkgnmegpddaaDoorSn
import Derived.Lib.SlBytesConst
namespace Go.Proofs.YtpigkgnmegpddaaDoor.Sh
set_option linter.unusedVariables false
set_option linter.unusedSimpArgs false
open Go.RowKit Go.Proofs.YtpigkgnmegpddaaDoorW.PrintWords Go.Proofs.YtpigkgnmegpddaaDoorW.PrintLast Go.Proofs.YtpigkgnmegpddaaDoorW.PrintMore

/-- sha.Sum of one part. -/
theorem sum_one {W : World} {b n c : Nat} {A : Option Addr} {xs : List Int} (hT : Tab W) (hC : (Kd.int .u8).C W A n xs) (hc : n ≤ c) (hby : Byt xs) (hm : xs.length ≤ 1000000000) (hb : b = W.heap.size) :
    Calls Tryd.prog 24 #[.slice (some ⟨b, 0, none⟩) 1 1] (W.alloc (.cells #[.slice A n c] 27)) fun e w' => e = .returned (.agg (v8 (sum xs))) ∧ Below W.heap.size W w' := by
  subst hb
  have h := sum_any (A := some ⟨W.heap.size, 0, none⟩) (n := 1) (c := 1) (ps := [xs]) (W.alloc (.cells #[.slice A n c] 27)) (hT.below (below_alloc (Below.refl _ _) _))
    (parts_one (heap_alloc_new _ _) (fun h => h) (Rd.came hC (below_alloc (Below.refl _ _) _) (fun _ hk => hk.elim)) hc) (fun p hp => by rw [List.mem_singleton.1 hp]; exact hby) (by simpa using hm)
  refine h.mono ?_
  rintro e w' ⟨rfl, hb⟩
  have e1 : [xs].flatten = xs := by simp
  rw [e1]
  exact ⟨rfl, below_step (below_alloc (Below.refl _ _) _) hb⟩
theorem Byt.lit {l : List Int} (h : l.all (fun x => decide (0 ≤ x) && decide (x ≤ 255)) = true) : Byt l := fun x hx => by
  have := List.all_eq_true.1 h x hx
  simpa using this
theorem abc_get : ∀ i, i < 4 → (sum [97, 98, 99]).getD i 0 = [186, 120, 22, 191].getD i 0 := by
  intro i hi
  rw [← sum_abc, List.getD_eq_getElem?_getD, List.getD_eq_getElem?_getD, List.getElem?_take, if_pos hi]
set_option maxRecDepth 100000 in
theorem awake_any (w : World) (hT : Tab w) : Calls Tryd.prog 23 #[] w fun e w' => e = .returned (.bool true) ∧ Below w.heap.size w w' := by
  have HT := Aside0.mk hT
  clear hT
  have hcv := fun (w : World) (C : Array Value) (n c : Nat) => Lib.run_convert_bytes_const (P := Tryd.prog) w 27 5 C n c Tryd.underlying27 Tryd.underlying5
  go_enter Tryd.func23, Tryd.ntmps23
  go_wp2_with fail
  have hw : ∃ w1 b1, w1 = w.alloc (.cells #[.int .u8 97, .int .u8 98, .int .u8 99] 5 (3, 4)) ∧ b1 = w.heap.size := ⟨_, _, rfl, rfl⟩
  obtain ⟨w1, b1, hw1, hb1⟩ := hw
  have hC : (Kd.int .u8).C w1 (some ⟨b1, 0, none⟩) 3 [97, 98, 99] := by
    rw [hw1, hb1]
    exact (Rd.block (S := fun _ => False) (heap_alloc_new w _) (fun h => h) rfl (by decide) (fun j hj => by
      match j, hj with
      | 0, _ => rfl
      | 1, _ => rfl
      | 2, _ => rfl)).now
  have hbel : Below w.heap.size w w1 := by rw [hw1]; exact below_alloc (Below.refl _ _) _
  have hsz : w.heap.size + 1 = w1.heap.size := by rw [hw1]; simp
  rw [← hw1, ← hb1]
  refine (sum_one (HT.out.below hbel) hC (by decide) (Byt.lit (by decide)) (by decide) (by rw [hb1]; exact hsz)).mono ?_
  rintro e w2 ⟨rfl, hb2⟩
  have HB2 := Aside0.mk (below_step hbel hb2)
  obtain ⟨bs, hbs⟩ : ∃ bs, bs = sum [97, 98, 99] := ⟨_, rfl⟩
  have Hl : Aside0 (bs.length = 32) := ⟨by rw [hbs]; rfl⟩
  have Hg : Aside0 (bs.getD 0 0 = 186 ∧ bs.getD 1 0 = 120 ∧ bs.getD 2 0 = 22 ∧ bs.getD 3 0 = 191) := ⟨by rw [hbs]; exact ⟨abc_get 0 (by decide), abc_get 1 (by decide), abc_get 2 (by decide), abc_get 3 (by decide)⟩⟩
  rw [← hbs]
  clear hbs hw1 hb1 hC hbel hsz hb2 hcv
  have hu30 := Tryd.underlying30
  go_wp2_with (first | ((with_reducible refine gate_dst (N := 1) rfl ?_); refine box_event ?hg (N := 1) ?hd (cs := v8 (List.replicate 32 0)) (t := 30) ?hr ?_; (case hd => rfl); (case hg => rfl); (case hr => first | (go_simp; done) | (go_simp; rfl)); intro g1 hg_ w3 hbox_ hb_; have H1 := Aside0.mk hbox_; have HB3 := Aside0.mk (below_step HB2.out hb_); have Hg1 := Aside0.mk (show w.heap.size ≤ g1 from by rw [hg_]; exact HB2.out.size);clear hg_ hbox_ hb_) | ((with_reducible refine gate_store (t := 30) (p := 1) rfl ?_); refine store_row ?hg (ty := 30) (p := 1) (v := ?vr_1) ?ho ?hd (g := g1) (t := 30) (old := v8 (List.replicate 32 0)) (cells := v8 bs) ?hx ?hy H1.out (size30 Hl.out) (by rw [v8_size, v8_size, Hl.out, List.length_replicate]) (v8_one _) ?_; (case hd => rfl); (case hg => rfl); (case ho => rfl); (case hx => rfl); (case hy => rfl); intro w4 hbox_ hk_ hb_; have HR := Aside0.mk hbox_; have HBf := Aside0.mk (HB3.out.trans (hb_.mono Hg1.out)); have hc0 : w4.cell? ⟨g1, 0, none⟩ = some (.int .u8 186) := (B8.get (t := 30) HR.out 0 (by rw [Hl.out]; decide)).trans (by rw [Hg.out.1]); have hc1 : w4.cell? ⟨g1, 1, none⟩ = some (.int .u8 120) := (B8.get (t := 30) HR.out 1 (by rw [Hl.out]; decide)).trans (by rw [Hg.out.2.1]); have hc2 : w4.cell? ⟨g1, 2, none⟩ = some (.int .u8 22) := (B8.get (t := 30) HR.out 2 (by rw [Hl.out]; decide)).trans (by rw [Hg.out.2.2.1]); have hc3 : w4.cell? ⟨g1, 3, none⟩ = some (.int .u8 191) := (B8.get (t := 30) HR.out 3 (by rw [Hl.out]; decide)).trans (by rw [Hg.out.2.2.2]);clear hbox_ hk_ hb_))
  go_ret
  exact ⟨rfl, HBf.out⟩
set_option maxRecDepth 100000 in
theorem sums_law {A : Option Addr} {n c : Nat} {b : List Int} (w : World) (hT : Tab w) (hC : (Kd.int .u8).C w A n b) (hc : n ≤ c) (hby : Byt b) :
    Calls Tryd.prog 4 #[.slice A n c] w fun e w' => e = .returned (.bool true) ∧ Below w.heap.size w w' := by
  have HT := Aside0.mk hT
  have HC := Aside0.mk hC
  have Hby := Aside0.mk hby
  have hn := hC.1
  have hnm := hC.2.1
  have Hn := Aside0.mk hn
  clear hT hC hby hn
  by_cases h600 : 600 < n
  · go_enter Tryd.func4, Tryd.ntmps4
    go_wp2_with fail
    go_ret
    exact ⟨rfl, Below.refl _ _⟩
  · have hle : n ≤ 600 := by omega
    clear h600
    have hg30 := guard30
    go_enter Tryd.func4, Tryd.ntmps4
    go_wp2_with fail
    refine (sum_one HT.out HC.out hc Hby.out (by have := Hn.out; omega) rfl).mono ?_
    rintro e w1 ⟨rfl, hb1⟩
    obtain ⟨bs, hbs⟩ : ∃ bs, bs = sum b := ⟨_, rfl⟩
    have Hbs := Aside0.mk hbs
    have heq := fun w => eq30 bs bs (by rw [hbs]; rfl) (by rw [hbs]; rfl) w
    simp only [decide_true] at heq
    rw [← hbs]
    have HB1 := Aside0.mk hb1
    clear hb1 hbs
    go_wp2_with fail
    refine (refsum_any _ (Kd.C_below HC.out HB1.out) Hby.out (by have := Hn.out; omega)).mono ?_
    rintro e w2 ⟨rfl, hb2⟩
    rw [← Hbs.out]
    have HB2 := Aside0.mk (below_step HB1.out hb2)
    clear hb2 HB1
    go_wp2_with fail
    refine (awake_any _ (HT.out.below HB2.out)).mono ?_
    rintro e w3 ⟨rfl, hb3⟩
    have HB3 := Aside0.mk (below_step HB2.out hb3)
    clear hb3 HB2
    go_wp2_with fail
    go_ret
    exact ⟨rfl, HB3.out⟩
end Go.Proofs.YtpigkgnmegpddaaDoor.Sh
