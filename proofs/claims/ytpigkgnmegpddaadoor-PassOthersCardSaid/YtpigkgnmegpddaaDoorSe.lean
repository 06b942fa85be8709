/-
The reference's Step, and its tables: words, First.
-/
import Derived.Test.YtpigkgnmegpddaaDoorSd
namespace Go.Proofs.YtpigkgnmegpddaaDoor.Sh
set_option linter.unusedVariables false
set_option linter.unusedSimpArgs false
open Go.RowKit Go.Proofs.YtpigkgnmegpddaaDoorW.PrintWords Go.Proofs.YtpigkgnmegpddaaDoorW.PrintLast Go.Proofs.YtpigkgnmegpddaaDoorW.PrintMore

@[irreducible] def Ks : List Wd := (List.range 64).map Kw
theorem Ks_length : Ks.length = 64 := by
  unfold Ks
  rfl
theorem Ks_get (i : Nat) (h : i < 64) : Ks.getD i 0 = Kw i := by
  unfold Ks
  simp [List.getD_eq_getElem?_getD, h]
set_option maxRecDepth 100000 in
theorem first_any (w : World) : Calls Tryd.prog 54 #[] w fun e w' => e = .returned (.agg (v32 first.list)) ∧ Below w.heap.size w w' := by
  have hu23 := Tryd.underlying23
  go_enter Tryd.func54, Tryd.ntmps54
  go_wp2_with (first | ((with_reducible refine gate_dst (N := 0) rfl ?_); refine box_event ?hg (N := 0) ?hd (cs := v32 (List.replicate 8 0)) (t := 23) ?hr ?_; (case hd => rfl); (case hg => rfl); (case hr => first | (go_simp; done) | (go_simp; rfl)); intro g0 hg_ w1 hbox_ hb_; have H0 := Aside0.mk hbox_; have HB := Aside0.mk hb_; have K0 := Aside0.mk (show w.heap.size ≤ g0 from Nat.le_of_eq hg_.symm);clear hg_ hbox_ hb_) | ((with_reducible refine gate_store (t := 23) (p := 0) rfl ?_); refine store_row ?hg (ty := 23) (p := 0) (v := ?vr_1) ?ho ?hd (g := g0) (t := 23) (old := v32 (List.replicate 8 0)) (cells := v32 first.list) ?hx ?hy H0.out (size23 rfl) rfl (v32_one _) ?_; (case hd => rfl); (case hg => rfl); (case ho => rfl); (case hx => rfl); (case hy => rfl); intro w2 hbox_ hk_ hb_; have H2 := Aside0.mk hbox_; have HB2 := Aside0.mk (HB.out.trans (hb_.mono K0.out));clear hbox_ hk_ hb_))
  refine bodyPost_ret (results_cell_row rfl _ _ g0 23 (v32 first.list) (0, 0) _ rfl H2.out Tryd.underlying23 rfl (size23 rfl)) rfl ?_
  exact ⟨rfl, HB2.out⟩
def Kv : Array Value := #[.int .u32 1116352408, .int .u32 1899447441, .int .u32 3049323471, .int .u32 3921009573, .int .u32 961987163, .int .u32 1508970993, .int .u32 2453635748, .int .u32 2870763221, .int .u32 3624381080, .int .u32 310598401, .int .u32 607225278, .int .u32 1426881987, .int .u32 1925078388, .int .u32 2162078206, .int .u32 2614888103, .int .u32 3248222580, .int .u32 3835390401, .int .u32 4022224774, .int .u32 264347078, .int .u32 604807628, .int .u32 770255983, .int .u32 1249150122, .int .u32 1555081692, .int .u32 1996064986, .int .u32 2554220882, .int .u32 2821834349, .int .u32 2952996808, .int .u32 3210313671, .int .u32 3336571891, .int .u32 3584528711, .int .u32 113926993, .int .u32 338241895, .int .u32 666307205, .int .u32 773529912, .int .u32 1294757372, .int .u32 1396182291, .int .u32 1695183700, .int .u32 1986661051, .int .u32 2177026350, .int .u32 2456956037, .int .u32 2730485921, .int .u32 2820302411, .int .u32 3259730800, .int .u32 3345764771, .int .u32 3516065817, .int .u32 3600352804, .int .u32 4094571909, .int .u32 275423344, .int .u32 430227734, .int .u32 506948616, .int .u32 659060556, .int .u32 883997877, .int .u32 958139571, .int .u32 1322822218, .int .u32 1537002063, .int .u32 1747873779, .int .u32 1955562222, .int .u32 2024104815, .int .u32 2227730452, .int .u32 2361852424, .int .u32 2428436474, .int .u32 2756734187, .int .u32 3204031479, .int .u32 3329325298]
theorem Kv_eq : v32 Ks = Kv := by
  unfold Ks
  kernel_rfl
set_option maxRecDepth 100000 in
set_option maxHeartbeats 2000000 in
theorem words_any (w : World) : Calls Tryd.prog 53 #[] w fun e w' => e = .returned (.agg (v32 Ks)) ∧ Below w.heap.size w w' := by
  have hu85 := Tryd.underlying85
  have hKi : (Tryd.prog.info? 85).map (·.size) = some Kv.size := by kernel_rfl
  have hK1 : Kv.all (·.oneCell') = true := by kernel_rfl
  have hKs : (v32 (List.replicate 64 0)).size = Kv.size := by kernel_rfl
  rw [Kv_eq]
  go_enter Tryd.func53, Tryd.ntmps53
  go_wp2_with (first | ((with_reducible refine gate_dst (N := 0) rfl ?_); refine box_event ?hg (N := 0) ?hd (cs := v32 (List.replicate 64 0)) (t := 85) ?hr ?_; (case hd => rfl); (case hg => rfl); (case hr => first | (go_simp; done) | (go_simp; rfl)); intro g0 hg_ w1 hbox_ hb_; have H0 := Aside0.mk hbox_; have HB := Aside0.mk hb_; have K0 := Aside0.mk (show w.heap.size ≤ g0 from Nat.le_of_eq hg_.symm);clear hg_ hbox_ hb_) | ((with_reducible refine gate_store (t := 85) (p := 0) rfl ?_); refine store_row ?hg (ty := 85) (p := 0) (v := ?vr_2) ?ho ?hd (g := g0) (t := 85) (old := v32 (List.replicate 64 0)) (cells := Kv) ?hx ?hy H0.out hKi hKs hK1 ?_; (case hd => rfl); (case hg => rfl); (case ho => rfl); (case hx => rfl); (case hy => rfl); intro w2 hbox_ hk_ hb_; have H2 := Aside0.mk hbox_; have HB2 := Aside0.mk (HB.out.trans (hb_.mono K0.out));clear hbox_ hk_ hb_))
  refine bodyPost_ret (results_cell_row rfl _ _ g0 85 Kv (0, 0) _ rfl H2.out Tryd.underlying85 rfl hKi) rfl ?_
  exact ⟨rfl, HB2.out⟩
end Go.Proofs.YtpigkgnmegpddaaDoor.Sh
