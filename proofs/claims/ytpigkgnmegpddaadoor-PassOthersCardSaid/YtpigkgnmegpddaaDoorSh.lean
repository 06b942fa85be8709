/-
Write: parts are put behind.
-/
import Derived.Test.YtpigkgnmegpddaaDoorSg
namespace Go.Proofs.YtpigkgnmegpddaaDoor.Sh
set_option linter.unusedVariables false
set_option linter.unusedSimpArgs false
open Go.RowKit Go.Proofs.YtpigkgnmegpddaaDoorW.PrintWords Go.Proofs.YtpigkgnmegpddaaDoorW.PrintLast Go.Proofs.YtpigkgnmegpddaaDoorW.PrintMore

theorem hc_step (s : S8) (r : List Int) (h : 64 ≤ r.length) : chain (r.length / 64) s r = chain ((r.drop 64).length / 64) (step s (r.take 64)) (r.drop 64) ∧ r.drop (64 * (r.length / 64)) = (r.drop 64).drop (64 * ((r.drop 64).length / 64)) := by
  have h1 : r.length / 64 = (r.drop 64).length / 64 + 1 := by rw [List.length_drop]; omega
  rw [h1]
  refine ⟨rfl, ?_⟩
  rw [List.drop_drop]
  congr 1
  omega
theorem hc_slice (s : S8) (v v1 : Value) (m : Nat) : (hc s v m).setIfInBounds 8 v1 = hc s v1 m := rfl
theorem hc_many (s : S8) (v : Value) (m k : Nat) : (hc s v m).setIfInBounds 9 (.int .u64 k) = hc s v k := rfl
theorem put_m (h : Hv) (p : List Int) : (h.put p).m = h.m + p.length := rfl
theorem foldl_m (ps : List (List Int)) (h : Hv) : (ps.foldl Hv.put h).m = h.m + (ps.map List.length).sum := by
  induction ps generalizing h with
  | nil => rfl
  | cons p ps ih =>
    rw [List.foldl_cons, ih, put_m, List.map_cons, List.sum_cons]
    omega
theorem foldl_r (ps : List (List Int)) (h : Hv) (hl : h.r.length < 64) : (ps.foldl Hv.put h).r.length < 64 := by
  induction ps generalizing h with
  | nil => exact hl
  | cons p ps ih => exact ih _ (Hv.put_rest _ _)
theorem put_bound {ps : List (List Int)} {h : Hv} {N : Nat} (hm : h.m + (ps.map List.length).sum ≤ N) (hl : h.r.length < 64) (k : Nat) (hk : k < ps.length) :
    ((ps.take k).foldl Hv.put h).m + ps[k].length ≤ N ∧ ((ps.take k).foldl Hv.put h).r.length < 64 := by
  refine ⟨?_, foldl_r _ _ hl⟩
  rw [foldl_m]
  have h1 : ps = ps.take k ++ (ps[k] :: ps.drop (k + 1)) := by rw [← List.drop_eq_getElem_cons hk, List.take_append_drop]
  have h2 : (ps.map List.length).sum = ((ps.take k).map List.length).sum + (ps[k].length + ((ps.drop (k + 1)).map List.length).sum) := by
    conv => lhs; rw [h1]
    rw [List.map_append, List.sum_append, List.map_cons, List.sum_cons]
  omega
/-- What the rounds of one part leave to do. -/
structure Wr (w wr : World) (base g : Nat) (v0 : Value) (v : Value) (h : Hv) : Prop where
  h : Hh wr base g v h
  mv : Mv w v0 v
  bel : Below base w wr
  kept : Kept w wr (Fv g v0)
theorem Wr.appended {w wo w1 : World} {base g m : Nat} {v0 v v1 : Value} {s : S8} {r p : List Int} (H : Wr w wo base g v0 v ⟨s, r, m⟩) (hb : w1.heap[g]? = some (.cells (hc s v m) 93 (0, 0)))
    (hq : (Kd.int .u8).Q 5 w1 base (fun k => k ≠ g) v1 (r ++ p)) (hg : wo.grownBy w1 v.ownBlock) (hat : v1.ownBlock = v.ownBlock ∨ ∃ b, v1.ownBlock = some b ∧ wo.heap.size ≤ b) (hp : Byt p) :
    Wr w ((w1.setCell ⟨g, 8, none⟩ v1).setCell ⟨g, 9, none⟩ (.int .u64 ((m + p.length : Nat) : Int))) base g v0 v1 ⟨s, r ++ p, m + p.length⟩ := by
  have hsz := H.kept.1
  have hbw : base ≤ wo.heap.size := by have := H.h.lt; have := H.h.le; omega
  refine ⟨⟨blk_set (blk_set hb 8 _) 9 _, Kd.Q_far (p := ⟨g, 9, none⟩) (Kd.Q_far (p := ⟨g, 8, none⟩) hq (fun _ hk => hk) _) (fun _ hk => hk) _, H.h.le, H.h.byt.append hp⟩, fun k hk => ?_, ?_, ?_⟩
  · rcases hat with e | ⟨b, e, hle⟩
    · exact H.mv k (e ▸ hk)
    · rw [e] at hk
      injection hk with hk
      exact .inr (by omega)
  · exact (((H.bel.grown hg hbw (fun k hk => H.h.base_all k (.inr hk)))).setCell H.h.le _).setCell H.h.le _
  · exact Kept.setCell (p := ⟨g, 9, none⟩) (Kept.setCell (p := ⟨g, 8, none⟩) (Kept.of_grown hg H.kept (fun k hk => (H.mv k hk).imp .inr id)) (.inl (.inl rfl)) _) (.inl (.inl rfl)) _
theorem Wr.below {w wo w1 : World} {base g : Nat} {v0 v : Value} {h : Hv} (H : Wr w wo base g v0 v h) (hb : Below wo.drew.heap.size wo.drew w1) : Wr w w1 base g v0 v h := by
  have hbw : base ≤ wo.heap.size := by have := H.h.lt; have := H.h.le; omega
  have hb' : Below wo.heap.size wo w1 := ⟨hb.os, hb.tape, hb.output, hb.size, hb.block⟩
  exact ⟨H.h.below hb', H.mv, H.bel.trans (hb'.mono hbw), H.kept.below hb'⟩
theorem info5 : ∃ i, Tryd.prog.info? 5 = some i ∧ i.size = 1 := by
  obtain ⟨i, h1, h2⟩ := Option.map_eq_some_iff.1 (show (Tryd.prog.info? 5).map (·.size) = some 1 from by kernel_rfl)
  exact ⟨i, h1, h2⟩
/-- 'b[k:]' of bytes. -/
theorem cut_q {W : World} {base n c : Nat} {ok : Nat → Prop} {A : Option Addr} {r : List Int} (h : (Kd.int .u8).Q 5 W base ok (.slice A n c) r) (k : Nat) (hk : k ≤ r.length) :
    ∃ A', (∀ W : World, (Instr.slice 27 (.slice A n c) (some (.int .i64 k)) none none).run Tryd.prog W = .ok (.slice A' (n - k) (c - k)) W) ∧ (Kd.int .u8).Q 5 W base ok (.slice A' (n - k) (c - k)) (r.drop k) ∧
      (Value.slice A' (n - k) (c - k)).ownBlock = (Value.slice A n c).ownBlock := by
  obtain ⟨i5, hi5, hz5⟩ := info5
  have hn : n = r.length := (Kd.Q_reads' h).1
  refine ⟨_, fun W => ?_, Kd.Q_drop h hk, ?_⟩
  · have := cut_from 27 5 .i64 Tryd.underlying27 hi5 1 hz5 A n c (k : Int) (by omega) (by omega) W
    rw [Int.toNat_natCast] at this
    exact this
  · split
    · cases A <;> rfl
    · cases A with
      | none => rfl
      | some a => simp [Value.ownBlock]; unfold Addr.add; split <;> rfl
theorem Wr.stored {w wo : World} {base g m : Nat} {v0 v : Value} {s : S8} {r : List Int} (H : Wr w wo base g v0 v ⟨s, r, m⟩) (s' : S8) : Wr w (wo.setCells g 0 (v32 s'.list).toList) base g v0 v ⟨s', r, m⟩ := by
  obtain ⟨cur, h1, h2, h3⟩ := setCells_row (v32 s'.list).toList 0 wo _ H.h.b (by show 0 + 8 ≤ 10; omega)
  obtain ⟨t1, t2, t3, t4⟩ := setCells_same g (v32 s'.list).toList 0 wo
  have hcur : cur = hc s' v m := Array.toList_inj.1 (by rw [h3]; rfl)
  subst hcur
  have hfar : ∀ k, k ≠ g → (wo.setCells g 0 (v32 s'.list).toList).heap[k]? = wo.heap[k]? := fun k hk => setCells_far _ _ k hk
  refine ⟨⟨h1, Kd.Q_step H.h.q (fun k hk _ => hfar k hk), H.h.le, H.h.byt⟩, H.mv, ?_, ?_⟩
  · exact H.bel.trans ⟨t1, t2, t3, by rw [t4]; exact Nat.le_refl _, fun k hk => hfar k (by have := H.h.le; omega)⟩
  · exact H.kept.then_ (S2 := fun k => k = g) ⟨by rw [t4]; exact Nat.le_refl _, fun k _ hk => hfar k hk⟩ (fun k hk => .inl (.inl hk))
theorem Wr.resliced {w wo : World} {base g m : Nat} {v0 v v1 : Value} {s : S8} {r r1 : List Int} (H : Wr w wo base g v0 v ⟨s, r, m⟩) (hq : (Kd.int .u8).Q 5 wo base (fun k => k ≠ g) v1 r1) (ho : v1.ownBlock = v.ownBlock) (hb : Byt r1) :
    Wr w (wo.setCell ⟨g, 8, none⟩ v1) base g v0 v1 ⟨s, r1, m⟩ :=
  ⟨⟨blk_set H.h.b 8 _, Kd.Q_far (p := ⟨g, 8, none⟩) hq (fun _ hk => hk) _, H.h.le, hb⟩, fun k hk => H.mv k (ho ▸ hk), H.bel.setCell H.h.le _, Kept.setCell (p := ⟨g, 8, none⟩) H.kept (.inl (.inl rfl)) _⟩
set_option maxRecDepth 100000 in
set_option maxHeartbeats 4000000 in
theorem write_any {base g n c : Nat} {v : Value} {h : Hv} {ps : List (List Int)} {A : Option Addr} (w : World) (hH : Hh w base g v h) (hT : Tab w) (hb2 : 2 ≤ base)
    (HR : ∀ W', Kept w W' (Fv g v) → (Kd.slice 27 (Kd.int .u8)).C W' A n ps) (hby : ∀ p ∈ ps, Byt p) (hl : h.r.length < 64) (hm : h.m + (ps.map List.length).sum ≤ 1000000000) :
    Calls Tryd.prog 28 #[.pointer (some ⟨g, 0, none⟩), .slice A n c] w fun e w' => ∃ v', e = .returned (.tuple #[]) ∧ Wr w w' base g v v' (ps.foldl Hv.put h) := by
  have H := Aside0.mk hH
  have HT := Aside0.mk hT
  have HP := Aside0.mk HR
  have Hn := Aside0.mk (HR w (Kept.refl _ _)).1
  have hnm := (HR w (Kept.refl _ _)).2.1
  have Hby := Aside0.mk hby
  have Hl := Aside0.mk (And.intro hl hm)
  have Hb2 := Aside0.mk hb2
  have hlt := hH.lt
  clear hH hT HR hby hl hm hb2
  go_enter Tryd.func28, Tryd.ntmps28
  go_wp2_with fail
  go_loopg [10] n (fun gk iv wr => ∃ (k : Nat) (vr : Value), k + gk = n ∧ iv = .int .i64 k ∧ Aside0 (Wr w wr base g v vr ((ps.take k).foldl Hv.put h)))
  case atStart => exact ⟨0, v, by omega, rfl, ⟨⟨H.out, fun k hk => .inl hk, Below.refl _ _, Kept.refl _ _⟩⟩⟩
  case round =>
    obtain ⟨k, vr, hk, rfl, HW⟩ := hrel
    by_cases hlt : k < n
    · obtain ⟨gq, rfl⟩ : ∃ gq, gk = gq + 1 := ⟨gk - 1, by omega⟩
      obtain ⟨wo, hwo⟩ : ∃ wo, wo = wr := ⟨_, rfl⟩
      subst hwo
      obtain ⟨ad, Ap, cp, rfl, hp1, hp2, hp3⟩ := part_get (HP.out wo HW.out.kept) k hlt
      obtain ⟨p, hp⟩ : ∃ p, p = ps.getD k [] := ⟨_, rfl⟩
      rw [← hp] at hp1 hp2 hp3
      have hkl : k < ps.length := by rw [Hn.out]; exact hlt
      have hpe : ps.getD k [] = ps[k] := by rw [List.getD_eq_getElem?_getD, List.getElem?_eq_getElem hkl]; rfl
      have Hpb : Aside0 (Byt p) := ⟨by rw [hp, hpe]; exact Hby.out _ (List.getElem_mem _)⟩
      obtain ⟨hk1, hhk⟩ : ∃ x, x = (ps.take k).foldl Hv.put h := ⟨_, rfl⟩
      have Htk : Aside0 ((ps.take (k + 1)).foldl Hv.put h = hk1.put p) := ⟨by rw [List.take_succ_eq_append_getElem hkl, List.foldl_append, ← hhk, hp, hpe]; rfl⟩
      have Hmb : Aside0 (hk1.m + p.length ≤ 1000000000 ∧ hk1.r.length < 64) := ⟨by
        rw [hhk, hp, hpe]
        exact put_bound Hl.out.2 Hl.out.1 k hkl⟩
      rw [← hhk] at HW
      clear hhk hp hpe hkl
      obtain ⟨hks, hkr, hkm⟩ := hk1
      have HC := Aside0.mk hp3
      have Hcp := Aside0.mk hp2
      clear hp2 hp3
      obtain ⟨A0, c0, rfl, hl0⟩ := HW.out.h.slice
      have hc8 : wo.cell? ⟨g, 8, none⟩ = some (.slice A0 hkr.length c0) := (blk_cell HW.out.h.b 8).trans rfl
      have hpl : p.length ≤ 1000000000 := by have := Hmb.out.1; omega
      have p1 : (0 : Int) ≤ (k : Int) := by omega
      have hmb : hkm + p.length ≤ 1000000000 := Hmb.out.1
      have hbw : base ≤ wo.heap.size := by have := HW.out.h.lt; have := HW.out.h.le; omega
      go_wp2_with (first | ((with_reducible refine gate_builtin (b := .append) (xs := #[.tmp 18, .tmp 19]) rfl ?_); at_builtin; refine append_q rfl (.tmp 18) (.tmp 19) rfl base (.slice A0 hkr.length c0) hkr p Ap p.length cp (fun k => k ≠ g) rfl rfl (fun k hk => by have := HW.out.h.lt; omega) HW.out.h.q HC.out hbw (by have := Hmb.out; simp only at this; omega) ?_; intro v1 w1 hq1 hg1 hat1; obtain ⟨A1, c1, rfl, hl1⟩ := Kd.Q_slice hq1; have HQ1 := Aside0.mk hq1; have HG1 := Aside0.mk hg1; have HA1 := Aside0.mk hat1; clear hq1 hg1 hat1; have HB1 := Aside0.mk (blk_grown HW.out.h.b HG1.out (fun he => HW.out.h.q.1 g he.symm rfl)); have hc1 : w1.cell? ⟨g, 8, none⟩ = some (.slice A0 hkr.length c0) := (blk_cell HB1.out 8).trans rfl; have hf1 := blk_frozen HB1.out 8; have hc9 : w1.cell? ⟨g, 9, none⟩ = some (.int .u64 (hkm : Int)) := (blk_cell HB1.out 9).trans rfl; have hf9 := blk_frozen HB1.out 9))
      have HW2 : Aside0 (Wr w ((w1.setCell ⟨g, 8, none⟩ (.slice A1 (hkr ++ p).length c1)).setCell ⟨g, 9, none⟩ (.int .u64 ((hkm + p.length : Nat) : Int))) base g v (.slice A1 (hkr ++ p).length c1) ⟨hks, hkr ++ p, hkm + p.length⟩) := ⟨HW.out.appended HB1.out HQ1.out HG1.out HA1.out Hpb.out⟩
      rw [List.length_append, Int.natCast_add] at HW2
      obtain ⟨w2, hw2⟩ : ∃ w2, w2 = (w1.setCell ⟨g, 8, none⟩ (.slice A1 (hkr.length + p.length) c1)).setCell ⟨g, 9, none⟩ (.int .u64 ((hkm : Int) + (p.length : Int))) := ⟨_, rfl⟩
      rw [← hw2] at HW2 ⊢
      clear hw2 HW HQ1 HG1 HA1 HB1 hc1 hf1 hc9 hf9 hc8 hp1 hl0 hl1 HC Hcp Hpb
      have Hfin : Aside0 (Hv.mk (chain ((hkr ++ p).length / 64) hks (hkr ++ p)) ((hkr ++ p).drop (64 * ((hkr ++ p).length / 64))) (hkm + p.length) = (ps.take (k + 1)).foldl Hv.put h) := ⟨by rw [Htk.out]; rfl⟩
      have Hln : Aside0 ((hkr ++ p).length ≤ 1000000100) := ⟨by rw [List.length_append]; have := Hmb.out.2; have := Hmb.out.1; omega⟩
      obtain ⟨vi, hvi⟩ : ∃ vi : Value, vi = .slice A1 (hkr.length + p.length) c1 := ⟨_, rfl⟩
      rw [← hvi] at HW2
      clear hvi
      go_loopg [33] ((hkr ++ p).length / 64) (fun gk iv wr => ∃ (vr : Value) (s : S8) (r : List Int), Aside0 (r.length / 64 = gk ∧ r.length ≤ 1000000100) ∧ Aside0 (Wr w wr base g v vr ⟨s, r, hkm + p.length⟩) ∧ Aside0 (chain (r.length / 64) s r = chain ((hkr ++ p).length / 64) hks (hkr ++ p) ∧ r.drop (64 * (r.length / 64)) = (hkr ++ p).drop (64 * ((hkr ++ p).length / 64))))
      case atStart => exact ⟨vi, hks, hkr ++ p, ⟨rfl, Hln.out⟩, HW2, ⟨rfl, rfl⟩⟩
      case round =>
        clear HW2 Hln
        obtain ⟨vr, s, r, HL, HW, HQ⟩ := hrel
        obtain ⟨wo2, hwo2⟩ : ∃ wo2, wo2 = wr := ⟨_, rfl⟩
        subst hwo2
        obtain ⟨Ar, cr, rfl, hlr⟩ := HW.out.h.slice
        have hc8 : wo2.cell? ⟨g, 8, none⟩ = some (.slice Ar r.length cr) := (blk_cell HW.out.h.b 8).trans rfl
        by_cases h64 : 64 ≤ r.length
        · obtain ⟨gq2, hgq2⟩ : ∃ q, gk = q + 1 := ⟨gk - 1, by have := HL.out.1; omega⟩
          subst hgq2
          have h64i : (64 : Int) ≤ (r.length : Int) := by omega
          go_wp2_with fail
          obtain ⟨rb, ro, rfl, hrb⟩ := Q_form HW.out.h.q (by show 0 < r.length; omega)
          have hC := (Kd.Q_reads' HW.out.h.q).2.2
          have Hlen : Aside0 ((r.take 64).length = 64) := ⟨by rw [List.length_take]; omega⟩
          have Hrb : Aside0 (Byt (r.take 64)) := ⟨HW.out.h.byt.take 64⟩
          have hS : Aside0 (wo2.drew.rangeAt g 0 (v32 s.list).toList ∧ wo2.drew.cell? ⟨g, 8, none⟩ = some (.slice (some ⟨rb, ro, none⟩) r.length cr) ∧ wo2.drew.rangeAt rb ro (v8 (r.take 64)).toList) := ⟨by
            refine ⟨(World.rangeAt_drew _ _ _ _).2 (range_block HW.out.h.b _ ⟨_, rfl⟩), hc8, (World.rangeAt_drew _ _ _ _).2 (range_bytes hC 64 h64)⟩⟩
          clear hC hc8
          have hu23 := Tryd.underlying23
          have hu24 := Tryd.underlying24
          refine start_ (S := fun W => Aside0 (W.rangeAt g 0 (v32 s.list).toList ∧ W.cell? ⟨g, 8, none⟩ = some (.slice (some ⟨rb, ro, none⟩) r.length cr) ∧ W.rangeAt rb ro (v8 (r.take 64)).toList)) (ds := [11, 14]) #[false, false, false, false, false, false, false, false, false, false, false, false, false, false, false] (by kernel_rfl) rfl rfl hS ?_
          intro hS_
          refine pure_ (i := 0) (a' := ?a1_1) (v := .pointer (some ⟨g, 0, none⟩)) #[true, false, false, false, false, false, false, false, false, false, false, false, false, false, false] rfl rfl (by kernel_rfl) (fun _ _ _ h => h) (Or.inl ⟨rfl, ?hy1_1⟩) ?ha1_1 ?rest1_1
          case hy1_1 => intro w; first | (go_simp; done) | (go_simp; with_reducible rfl) | (go_simp; rfl)
          case ha1_1 => go_simp; rfl
          refine pure_ (i := 1) (a' := ?a1_2) (v := .pointer (some ⟨g, 0, none⟩)) #[true, true, false, false, false, false, false, false, false, false, false, false, false, false, false] rfl rfl (by kernel_rfl) (fun _ _ _ h => h) (Or.inl ⟨rfl, ?hy1_2⟩) ?ha1_2 ?rest1_2
          case hy1_2 => intro w; first | (go_simp; done) | (go_simp; with_reducible rfl) | (go_simp; rfl)
          case ha1_2 => go_simp; rfl
          refine pure_ (i := 2) (a' := ?a1_3) (v := .pointer (some ⟨g, 0, none⟩)) #[true, true, true, false, false, false, false, false, false, false, false, false, false, false, false] rfl rfl (by kernel_rfl) (fun _ _ _ h => h) (Or.inl ⟨rfl, ?hy1_3⟩) ?ha1_3 ?rest1_3
          case hy1_3 => intro w; first | (go_simp; done) | (go_simp; with_reducible rfl) | (go_simp; rfl)
          case ha1_3 => go_simp; rfl
          refine pure_ (i := 3) (a' := ?a1_4) (v := .pointer (some ⟨g, 0, none⟩)) #[true, true, true, true, false, false, false, false, false, false, false, false, false, false, false] rfl rfl (by kernel_rfl) (fun _ _ _ h => h) (Or.inl ⟨rfl, ?hy1_4⟩) ?ha1_4 ?rest1_4
          case hy1_4 => intro w; first | (go_simp; done) | (go_simp; with_reducible rfl) | (go_simp; rfl)
          case ha1_4 => go_simp; rfl
          refine take_ (i := 4) (a' := ?a1_5) (v := .agg (v32 s.list)) #[true, true, true, true, true, false, false, false, false, false, false, false, false, false, false] rfl rfl (by kernel_rfl) (fun _ _ _ h => h) (yields_row rfl 23 (.tmp 42) rfl g 0 rfl (v32 s.list) _ (fun w h => h.out.1) hu23 rfl (size23 rfl)) hS_ ?ha1_5 ?rest1_5
          case ha1_5 => go_simp; rfl
          refine pure_ (i := 5) (a' := ?a1_6) (v := .pointer (some ⟨g, 0, none⟩)) #[true, true, true, true, true, true, false, false, false, false, false, false, false, false, false] rfl rfl (by kernel_rfl) (fun _ _ _ h => h) (Or.inl ⟨rfl, ?hy1_6⟩) ?ha1_6 ?rest1_6
          case hy1_6 => intro w; first | (go_simp; done) | (go_simp; with_reducible rfl) | (go_simp; rfl)
          case ha1_6 => go_simp; rfl
          refine pure_ (i := 6) (a' := ?a1_7) (v := .pointer (some ⟨g, 0, none⟩)) #[true, true, true, true, true, true, true, false, false, false, false, false, false, false, false] rfl rfl (by kernel_rfl) (fun _ _ _ h => h) (Or.inl ⟨rfl, ?hy1_7⟩) ?ha1_7 ?rest1_7
          case hy1_7 => intro w; first | (go_simp; done) | (go_simp; with_reducible rfl) | (go_simp; rfl)
          case ha1_7 => go_simp; rfl
          refine pure_ (i := 7) (a' := ?a1_8) (v := .pointer (some ⟨g, 8, none⟩)) #[true, true, true, true, true, true, true, true, false, false, false, false, false, false, false] rfl rfl (by kernel_rfl) (fun _ _ _ h => h) (Or.inl ⟨rfl, ?hy1_8⟩) ?ha1_8 ?rest1_8
          case hy1_8 => intro w; first | (go_simp; done) | (go_simp; with_reducible rfl) | (go_simp; rfl)
          case ha1_8 => go_simp; rfl
          refine take_ (i := 8) (a' := ?a1_9) (v := .slice (some ⟨rb, ro, none⟩) r.length cr) #[true, true, true, true, true, true, true, true, true, false, false, false, false, false, false] rfl rfl (by kernel_rfl) (fun _ _ _ h => h) (yields_cell rfl (fun w h => by have h8 := h.out.2.1; (first | (go_simp; done) | (go_simp; with_reducible rfl) | (go_simp; rfl)))) hS_ ?ha1_9 ?rest1_9
          case ha1_9 => go_simp; rfl
          refine pure_ (i := 9) (a' := ?a1_10) (v := .pointer (some ⟨rb, ro, none⟩)) #[true, true, true, true, true, true, true, true, true, true, false, false, false, false, false] rfl rfl (by kernel_rfl) (fun _ _ _ h => h) ?hy1_10 ?ha1_10 ?rest1_10
          case hy1_10 => exact yields_s2a rfl (.tmp 47) rfl ⟨rb, ro, none⟩ r.length cr rfl h64
          case ha1_10 => go_simp; rfl
          refine take_ (i := 10) (a' := ?a1_11) (v := .agg (v8 (r.take 64))) #[true, true, true, true, true, true, true, true, true, true, true, false, false, false, false] rfl rfl (by kernel_rfl) (fun _ _ _ h => h) (yields_row rfl 24 (.tmp 48) rfl rb ro rfl (v8 (r.take 64)) _ (fun w h => h.out.2.2) hu24 rfl (size24 Hlen.out)) hS_ ?ha1_11 ?rest1_11
          case ha1_11 => go_simp; rfl
          refine last_ (i := 11) #[true, true, true, true, true, true, true, true, true, true, true, true, false, false, false] rfl rfl (by kernel_rfl) (by decide) ?_
          intro K_ hK_
          unfold Shut at hK_
          refine goes_ Tryd.func21 (by kernel_rfl) (by kernel_rfl) #[.agg (v32 s.list), .agg (v8 (r.take 64))] rfl rfl rfl (by go_simp) ?_; refine (step_any s (r.take 64) Hlen.out Hrb.out _ (HT.out.t.kept (HW.out.kept.drew) (fun k hk => Nat.le_trans Hb2.out (H.out.base_all k hk)))).mono ?_; rintro e w3 ⟨rfl, hb3⟩; have HW3 := Aside0.mk (HW.out.below hb3); clear hb3; refine ⟨_, rfl, hK_ _ _ ?_⟩; clear hK_
          refine pure_ (i := 12) (a' := ?a1_13) (v := .pointer (some ⟨g, 0, none⟩)) #[true, true, true, true, true, true, true, true, true, true, true, true, true, false, false] rfl rfl (by kernel_rfl) (fun _ _ _ h => h) (Or.inl ⟨rfl, ?hy1_13⟩) ?ha1_13 ?rest1_13
          case hy1_13 => intro w; first | (go_simp; done) | (go_simp; with_reducible rfl) | (go_simp; rfl)
          case ha1_13 => go_simp; rfl
          refine pure_ (i := 13) (a' := ?a1_14) (v := .pointer (some ⟨g, 0, none⟩)) #[true, true, true, true, true, true, true, true, true, true, true, true, true, true, false] rfl rfl (by kernel_rfl) (fun _ _ _ h => h) (Or.inl ⟨rfl, ?hy1_14⟩) ?ha1_14 ?rest1_14
          case hy1_14 => intro w; first | (go_simp; done) | (go_simp; with_reducible rfl) | (go_simp; rfl)
          case ha1_14 => go_simp; rfl
          refine last_ (i := 14) #[true, true, true, true, true, true, true, true, true, true, true, true, true, true, true] rfl rfl (by kernel_rfl) (by decide) ?_
          intro K_ hK_
          unfold Shut at hK_
          refine skip_ rfl rfl (run_store_row 23 (.tmp 52) (.tmp 50) rfl g 0 (v32 (step s (r.take 64)).list) rfl rfl (there_block HW3.out.h.b 0 _ (by show 0 + 8 ≤ 10; omega)) (size23 rfl) (v32_one _)) ?_; refine hK_ _ _ ?_; clear hK_
          refine done_ (by kernel_rfl) ?_
          have HW4 := Aside0.mk (HW3.out.stored (step s (r.take 64)))
          obtain ⟨w4, hw4⟩ : ∃ w4, w4 = w3.setCells g 0 (v32 (step s (r.take 64)).list).toList := ⟨_, rfl⟩
          rw [← hw4] at HW4 ⊢
          clear hw4 HW3 HW hS
          obtain ⟨A', hcut, hq', ho'⟩ := cut_q HW4.out.h.q 64 h64
          replace hcut : ∀ W : World, (Instr.slice 27 (.slice (some ⟨rb, ro, none⟩) r.length cr) (some (.int .i64 64)) none none).run Tryd.prog W = .ok (.slice A' (r.length - 64) (cr - 64)) W := hcut
          have hc8 : w4.cell? ⟨g, 8, none⟩ = some (.slice (some ⟨rb, ro, none⟩) r.length cr) := (blk_cell HW4.out.h.b 8).trans rfl
          have hf8 := blk_frozen HW4.out.h.b 8
          have HW5 := Aside0.mk (HW4.out.resliced hq' ho' (HW4.out.h.byt.drop 64))
          clear hq' ho'
          go_wp2_with fail
          go_roundg gq2
          case measure => omega
          case rel =>
            have h := hc_step s r h64
            have hdl : (r.drop 64).length = r.length - 64 := List.length_drop
            refine ⟨_, step s (r.take 64), r.drop 64, ⟨by rw [hdl]; have := HL.out.1; omega, by rw [hdl]; have := HL.out.2; omega⟩, HW5, ⟨?_, ?_⟩⟩
            · rw [← h.1]; exact HQ.out.1
            · rw [← h.2]; exact HQ.out.2
        · have h64i : (r.length : Int) < 64 := by omega
          have h64n : decide ((64 : Int) ≤ (r.length : Int)) = false := by simp; omega
          have hd0 : r.length / 64 = 0 := by omega
          have hq := HQ.out
          rw [hd0] at hq
          have hs : s = chain ((hkr ++ p).length / 64) hks (hkr ++ p) := hq.1
          have hr : r = (hkr ++ p).drop (64 * ((hkr ++ p).length / 64)) := hq.2
          have HWF : Aside0 (Wr w wo2 base g v (.slice Ar r.length cr) ((ps.take (k + 1)).foldl Hv.put h)) := ⟨by
            rw [← Hfin.out, ← hs, ← hr]
            exact HW.out⟩
          clear hq hs hr HQ HW hd0
          go_wp2_with fail
          go_roundg gq
          case measure => omega
          case rel => exact ⟨k + 1, _, by omega, by go_num, HWF⟩
    · have hkn : k = n := by omega
      subst hkn
      have HWF : Aside0 (Wr w wr base g v vr (ps.foldl Hv.put h)) := ⟨by
        have := HW.out
        rwa [List.take_of_length_le (by rw [Hn.out]; exact Nat.le_refl _)] at this⟩
      go_wp2_with fail
      go_end0
      exact ⟨_, rfl, HWF.out⟩
end Go.Proofs.YtpigkgnmegpddaaDoor.Sh
