/-
  Lemmas and walks for the proof in YtioaingenooelaaGreatAc.
-/
import Derived.Test.YtioaingenooelaaGreatAa
import Derived.Deep.RegionLaw
set_option linter.unusedVariables false
set_option linter.unusedSimpArgs false
/-
  cal.Cal: Copy walked .
-/
namespace Go.Proofs.YtioaingenooelaaGreat.CopyW
open Go.RowKit Go.Proofs.YtioaingenooelaaGreat.Wd Go.Proofs.YtioaingenooelaaGreat.Pure Go.Proofs.YtioaingenooelaaGreat.Sorted Go.Proofs.YtioaingenooelaaGreat.Search Go.Proofs.YtioaingenooelaaGreat.Norm Go.Proofs.YtioaingenooelaaGreat.Meets Go.Proofs.YtioaingenooelaaGreat.SetW Go.Proofs.YtioaingenooelaaGreat.Edit Go.Proofs.YtioaingenooelaaGreat.AddW Go.Proofs.YtioaingenooelaaGreat.CalRep Go.Proofs.YtioaingenooelaaGreat.CalOps Go.Proofs.YtioaingenooelaaGreat.CalAsk Go.Proofs.YtioaingenooelaaGreat.Ints Go.Proofs.YtioaingenooelaaGreat.Check Go.Proofs.YtioaingenooelaaGreat.Neat Go.Proofs.YtioaingenooelaaGreat.Reserve Go.Proofs.YtioaingenooelaaGreat.Settle Go.Proofs.YtioaingenooelaaGreat.Copy
theorem set_alloc (w2 : World) (ub i : Nat) (p : Value) (o : Obj) (k : Nat) (hk : k ≠ ub) : ((w2.setCell ⟨ub, i, none⟩ p).alloc o).heap[k]? = (w2.alloc o).heap[k]? := by
  have hs : (w2.setCell ⟨ub, i, none⟩ p).heap.size = w2.heap.size := by simp [World.setCell]
  show ((w2.setCell ⟨ub, i, none⟩ p).heap.push o)[k]? = (w2.heap.push o)[k]?
  rw [Array.getElem?_push, Array.getElem?_push, hs, Below.heap_setCell w2 _ p k hk]
theorem set_alloc_self (w2 : World) (ub i : Nat) (p : Value) (o : Obj) (cs : Array Value) (t : TypeId) (fz : Nat × Nat) (h : w2.heap[ub]? = some (.cells cs t fz)) : ((w2.setCell ⟨ub, i, none⟩ p).alloc o).heap[ub]? = some (.cells (cs.setIfInBounds i p) t fz) := by
  have hlt : ub < (w2.setCell ⟨ub, i, none⟩ p).heap.size := by simp [World.setCell]; exact (Array.getElem?_eq_some_iff.1 h).1
  rw [Below.heap_alloc _ o ub hlt]
  exact heap_setCell_self w2 ub i p cs t fz h
theorem infoP : (Tryz.prog.info? 73).map (fun i => (i.zero, i.size, i.bytes)) = some (some (.pointer none), 1, 8) := by kernel_rfl
theorem made_ptr (n : Nat) : madeCells (Value.pointer none).cells (n * 1) = (List.replicate n (Value.pointer none)).toArray := by
  apply Array.ext
  · simp [madeCells]
  · intro i h1 h2
    simp [madeCells, Value.cells, Nat.mod_one]
theorem make_users (n : Nat) (hn : n ≤ 1000000000000) (W : World) : (Instr.makeSlice 70 (.int .i64 n) (.int .i64 n)).run Tryz.prog W = .ok (.slice (some ⟨W.heap.size, 0, none⟩) n n) (W.alloc (.cells (List.replicate n (Value.pointer none)).toArray 73)) := by
  obtain ⟨i0, hi, hz0, hz1, hz2⟩ := info_parts infoP
  have h := run_make (P := Tryz.prog) W 70 73 i0 (.pointer none) Tryz.underlying70 hi hz0 .i64 .i64 n n (by omega) (by omega) (by rw [hz2]; omega) (by omega)
  rw [hz1, Int.toNat_natCast, made_ptr] at h
  exact h
theorem cal_fresh (w : World) (hd : List Value) (n : Nat) (h6 : hd.length = 6) (hn : 0 < n) {W : World} (hW : W.heap = ((w.alloc (.cells (List.replicate n (Value.pointer none)).toArray 73)).alloc (.cells (hd ++ [Value.slice (some ⟨w.heap.size, 0, none⟩) n n]).toArray 72)).heap) :
    CalAt W (w.heap.size + 1) w.heap.size hd (List.replicate n none) := by
  have h0 := heap_prev w _ _ hW
  have h1 := heap_last2 w _ _ hW
  refine ⟨h6, by simpa using hn, ?_, ?_, ?_, ?_⟩
  · rw [h1, List.length_replicate]
  · rw [h0, List.map_replicate]
    rfl
  · intro i u hu
    rw [List.getElem?_replicate] at hu
    split at hu <;> cases hu
  · intro i j u u' _ hu
    rw [List.getElem?_replicate] at hu
    split at hu <;> cases hu
set_option maxHeartbeats 16000000 in
set_option maxRecDepth 100000 in
theorem CalCopy_calls (w : World) (c ub : Nat) (n0 n1 lo hi nd : Int) (zA : Option Addr) (zl zc : Nat) (us : List (Option UserRep)) (h : CalAt w c ub [.int .i64 n0, .int .i64 n1, .slice zA zl zc, .int .i64 lo, .int .i64 hi, .int .i64 nd] us) (hl : us.length ≤ 1000000000000) (hf : Fits 100000000000 us) :
    Calls Tryz.prog 28 #[.pointer (some ⟨c, 0, none⟩)] w fun e w' => ∃ c' ub' us', e = .returned (.pointer (some ⟨c', 0, none⟩)) ∧ CalAt w' c' ub' [.int .i64 n0, .int .i64 n1, .slice zA zl zc, .int .i64 lo, .int .i64 hi, .int .i64 nd] us' ∧ abs us' = abs us ∧ w.heap.size ≤ c' ∧ w.heap.size ≤ ub' ∧ (∀ k, fp us' k → w.heap.size ≤ k) ∧ Below w.heap.size w w' := by
  have h6 := users_cell h
  have q0 : w.cell? ⟨c, 0, none⟩ = some (.int .i64 n0) := cell_of_row w c 0 _ _ (0, 0) h.cal
  have q1 : w.cell? ⟨c, 1, none⟩ = some (.int .i64 n1) := cell_of_row w c 1 _ _ (0, 0) h.cal
  have q2 : w.cell? ⟨c, 2, none⟩ = some (.slice zA zl zc) := cell_of_row w c 2 _ _ (0, 0) h.cal
  have q3 : w.cell? ⟨c, 3, none⟩ = some (.int .i64 lo) := cell_of_row w c 3 _ _ (0, 0) h.cal
  have q4 : w.cell? ⟨c, 4, none⟩ = some (.int .i64 hi) := cell_of_row w c 4 _ _ (0, 0) h.cal
  have q5 : w.cell? ⟨c, 5, none⟩ = some (.int .i64 nd) := cell_of_row w c 5 _ _ (0, 0) h.cal
  have hB := Below.refl w.heap.size w
  have hcl := h.c_lt
  have H := As.mk h
  have Hf := As.mk hf
  have HS : As (∀ w', Below w.heap.size w w' → w'.cell? ⟨c, 0, none⟩ = some (.int .i64 n0) ∧ w'.cell? ⟨c, 1, none⟩ = some (.int .i64 n1) ∧ w'.cell? ⟨c, 2, none⟩ = some (.slice zA zl zc) ∧ w'.cell? ⟨c, 3, none⟩ = some (.int .i64 lo) ∧ w'.cell? ⟨c, 4, none⟩ = some (.int .i64 hi) ∧ w'.cell? ⟨c, 5, none⟩ = some (.int .i64 nd) ∧ w'.cell? ⟨c, 6, none⟩ = some (.slice (some ⟨ub, 0, none⟩) us.length us.length) ∧ Below w.heap.size w w') := ⟨fun w' hb => ⟨(hb.cell (p := ⟨c, 0, none⟩) hcl).trans q0, (hb.cell (p := ⟨c, 1, none⟩) hcl).trans q1, (hb.cell (p := ⟨c, 2, none⟩) hcl).trans q2, (hb.cell (p := ⟨c, 3, none⟩) hcl).trans q3, (hb.cell (p := ⟨c, 4, none⟩) hcl).trans q4, (hb.cell (p := ⟨c, 5, none⟩) hcl).trans q5, (hb.cell (p := ⟨c, 6, none⟩) hcl).trans h6, hb⟩⟩
  have hmk := make_users us.length hl
  clear h hf
  go_enter Tryz.func28, Tryz.ntmps28
  go_wp2_with fail
  go_region_held3 (fun w' => w'.cell? ⟨c, 0, none⟩ = some (.int .i64 n0) ∧ w'.cell? ⟨c, 1, none⟩ = some (.int .i64 n1) ∧ w'.cell? ⟨c, 2, none⟩ = some (.slice zA zl zc) ∧ w'.cell? ⟨c, 3, none⟩ = some (.int .i64 lo) ∧ w'.cell? ⟨c, 4, none⟩ = some (.int .i64 hi) ∧ w'.cell? ⟨c, 5, none⟩ = some (.int .i64 nd) ∧ w'.cell? ⟨c, 6, none⟩ = some (.slice (some ⟨ub, 0, none⟩) us.length us.length) ∧ Below w.heap.size w w') ((refine HS.out _ ?_; (repeat' (first | assumption | exact Below.refl _ _ | refine below_drew ?_ | refine below_drewN ?_ _ | refine below_allocS ?_ _ | refine Below.setCell ?_ (by simp) _))))
    (first | (trace_state; fail))
  rename_i hHeld
  have hBx := hHeld.2.2.2.2.2.2.2
  clear hHeld
  refine wp_abs (fun W => CalAt W (w.heap.size + 1) w.heap.size [.int .i64 n0, .int .i64 n1, .slice zA zl zc, .int .i64 lo, .int .i64 hi, .int .i64 nd] (List.replicate us.length none) ∧ Below w.heap.size w W) ⟨cal_fresh w _ us.length rfl H.out.pos rfl, hBx⟩ ?_
  clear hBx
  rintro W1 ⟨hc1, hb1⟩
  have Hc1 := As.mk hc1
  have Hb1 := As.mk hb1
  have q6 := (hb1.cell (p := ⟨c, 6, none⟩) hcl).trans h6
  clear hc1 hb1 q0 q1 q2 q3 q4 q5 HS hmk hB
  go_wp2
  go_loopw [27] (fun i wr => ∃ (k : Nat) (us1 : List (Option UserRep)), k ≤ us.length ∧ i = .int .i64 k ∧ As (CalAt wr (w.heap.size + 1) w.heap.size [.int .i64 n0, .int .i64 n1, .slice zA zl zc, .int .i64 lo, .int .i64 hi, .int .i64 nd] us1) ∧ As (abs us1 = (abs us).take k ++ List.replicate (us.length - k) none) ∧ As (∀ j, fp us1 j → w.heap.size ≤ j) ∧ As (Below w.heap.size w wr)) (fun i _ => us.length - (intOf i).toNat)
  case atStart => exact ⟨0, _, Nat.zero_le _, rfl, Hc1, ⟨by simp [abs]⟩, ⟨fun j ⟨a, b, hab, _⟩ => by rw [List.getElem?_replicate] at hab; split at hab <;> cases hab⟩, Hb1⟩
  case round =>
    obtain ⟨k, us1, hk, rfl, H1, Ha, Hnew, Hb⟩ := hrel
    by_cases hlt : k < us.length
    · obtain ⟨oo, ho⟩ : ∃ oo, us[k]? = some oo := ⟨_, List.getElem?_eq_getElem hlt⟩
      have Hr := As.mk (H.out.below Hb.out)
      have hc := at_cell Hr.out ho
      have hab : (abs us)[k]? = some (oo.map absU) := by rw [abs_at, ho]; rfl
      have hal : (abs us).length = us.length := abs_len us
      cases oo with
      | none =>
        have Hn : As (abs us1 = (abs us).take (k + 1) ++ List.replicate (us.length - (k + 1)) none) := ⟨by
          rw [Ha.out]
          obtain ⟨hka, hkb⟩ := List.getElem?_eq_some_iff.1 hab
          rw [List.take_succ_eq_append_getElem hka, hkb, List.append_assoc]
          congr 1
          rw [show us.length - k = (us.length - (k + 1)) + 1 from by omega, List.replicate_succ]
          rfl⟩
        simp only [ptrOf] at hc
        clear ho hab hal
        go_wp2
        go_roundw
        case rel => exact ⟨k + 1, us1, by omega, by go_num, H1, Hn, Hnew, Hb⟩
        case measure => simp [intOf]; omega
      | some u =>
        simp only [ptrOf] at hc
        have hcs := s_cell Hr.out ho
        have hcr := r_cell Hr.out ho
        have Ho := As.mk ho
        have Hab := As.mk hab
        have hus := (H.out.user k u ho).2.1
        have hur := (H.out.user k u ho).2.2.1
        have hlen := Hf.out k u ho
        have hCS : ∀ W', Below w.heap.size w W' → Calls Tryz.prog 54 #[.pointer (some ⟨u.s.g, 0, none⟩)] W' _ := fun W' hW' => Copy_calls u.s.g u.s.v u.s.L W' (SetAt.below hus hW') (by omega)
        have hCR : ∀ W', Below w.heap.size w W' → Calls Tryz.prog 54 #[.pointer (some ⟨u.r.g, 0, none⟩)] W' _ := fun W' hW' => Copy_calls u.r.g u.r.v u.r.L W' (SetAt.below hur hW') (by omega)
        have HCS := As.mk hCS
        have HCR := As.mk hCR
        have hk1 : us1.length = us.length := by
          have h2 := congrArg List.length Ha.out
          rw [abs_len, List.length_append, List.length_take, abs_len, List.length_replicate] at h2
          omega
        have hn6 := users_cell H1.out
        have hnone : us1[k]? = some none := by
          have h2 : (abs us1)[k]? = some none := by
            rw [Ha.out, List.getElem?_append_right (by rw [List.length_take, abs_len]; omega), List.getElem?_replicate]
            rw [if_pos (by rw [List.length_take, abs_len]; omega)]
          rw [abs_at] at h2
          cases hq : us1[k]? with
          | none => rw [hq] at h2; cases h2
          | some oo => rw [hq] at h2; cases oo with
            | none => rfl
            | some _ => cases h2
        have hcn := at_cell H1.out hnone
        simp only [ptrOf] at hcn
        rw [hk1] at hn6
        have hfzn : wr.frozen? ⟨w.heap.size, k, none⟩ = false := by unfold World.frozen?; rw [H1.out.arr]; simp
        have hbr := Below.refl wr.heap.size wr
        have Hnone := As.mk hnone
        have hl1 := World.block_lt_of_cell? wr _ hcs
        have hl2 := World.block_lt_of_cell? wr _ hn6
        have hl3 := World.block_lt_of_cell? wr _ hcn
        have HS : As (∀ w', Below wr.heap.size wr w' → w'.cell? ⟨u.b, 0, none⟩ = some (.pointer (some ⟨u.s.g, 0, none⟩)) ∧ w'.cell? ⟨u.b, 1, none⟩ = some (.pointer (some ⟨u.r.g, 0, none⟩)) ∧ w'.cell? ⟨w.heap.size + 1, 6, none⟩ = some (.slice (some ⟨w.heap.size, 0, none⟩) us.length us.length)) := ⟨fun w' hb => ⟨(hb.cell (p := ⟨u.b, 0, none⟩) hl1).trans hcs, (hb.cell (p := ⟨u.b, 1, none⟩) hl1).trans hcr, (hb.cell (p := ⟨w.heap.size + 1, 6, none⟩) hl2).trans hn6⟩⟩
        have hub2 : u.b ≠ w.heap.size := by have := H.out.b_lt ho; omega
        have HS2 : As (∀ (W : World) (v : Value), Below wr.heap.size wr W → (W.setCell ⟨w.heap.size, k, none⟩ v).cell? ⟨u.b, 0, none⟩ = some (.pointer (some ⟨u.s.g, 0, none⟩)) ∧ (W.setCell ⟨w.heap.size, k, none⟩ v).cell? ⟨u.b, 1, none⟩ = some (.pointer (some ⟨u.r.g, 0, none⟩)) ∧ (W.setCell ⟨w.heap.size, k, none⟩ v).cell? ⟨w.heap.size + 1, 6, none⟩ = some (.slice (some ⟨w.heap.size, 0, none⟩) us.length us.length)) := ⟨fun W v hb => by
          have hs := HS.out W hb
          refine ⟨?_, ?_, ?_⟩
          · exact (World.cell?_of_block (Below.heap_setCell W _ v u.b hub2)).trans hs.1
          · exact (World.cell?_of_block (Below.heap_setCell W _ v u.b hub2)).trans hs.2.1
          · exact (World.cell?_of_block (Below.heap_setCell W _ v (w.heap.size + 1) (by simp))).trans hs.2.2⟩
        have HS3 : As (∀ (W : World) (v : Value) (o : Obj), Below wr.heap.size wr W → ((W.setCell ⟨w.heap.size, k, none⟩ v).alloc o).cell? ⟨u.b, 0, none⟩ = some (.pointer (some ⟨u.s.g, 0, none⟩)) ∧ ((W.setCell ⟨w.heap.size, k, none⟩ v).alloc o).cell? ⟨u.b, 1, none⟩ = some (.pointer (some ⟨u.r.g, 0, none⟩)) ∧ ((W.setCell ⟨w.heap.size, k, none⟩ v).alloc o).cell? ⟨w.heap.size + 1, 6, none⟩ = some (.slice (some ⟨w.heap.size, 0, none⟩) us.length us.length)) := ⟨fun W v o hb => by
          have hs := HS2.out W v hb
          exact ⟨(World.cell?_alloc_lt _ o _ (World.block_lt_of_cell? _ _ hs.1)).trans hs.1, (World.cell?_alloc_lt _ o _ (World.block_lt_of_cell? _ _ hs.2.1)).trans hs.2.1, (World.cell?_alloc_lt _ o _ (World.block_lt_of_cell? _ _ hs.2.2)).trans hs.2.2⟩⟩
        have HT : As (∀ W, Below wr.heap.size wr W → W.cell? ⟨w.heap.size, k, none⟩ = some (.pointer none) ∧ W.frozen? ⟨w.heap.size, k, none⟩ = false) := ⟨fun W hb => ⟨(hb.cell (p := ⟨w.heap.size, k, none⟩) hl3).trans hcn, (hb.frozen (p := ⟨w.heap.size, k, none⟩) hl3).trans hfzn⟩⟩
        clear ho hab hal hus hur hlen hCS hCR hk1 hnone hl1 hl2 hl3 hcn hfzn hub2
        go_wp2_with fail
        go_region_held3 (fun w' => w'.cell? ⟨u.b, 0, none⟩ = some (.pointer (some ⟨u.s.g, 0, none⟩)) ∧ w'.cell? ⟨u.b, 1, none⟩ = some (.pointer (some ⟨u.r.g, 0, none⟩)) ∧ w'.cell? ⟨w.heap.size + 1, 6, none⟩ = some (.slice (some ⟨w.heap.size, 0, none⟩) us.length us.length)) ((first | (refine HS3.out _ _ _ ?_; (repeat' (first | assumption | exact Below.refl _ _ | refine below_drew ?_ | refine below_drewN ?_ _ | refine below_allocS ?_ _)); done) | (refine HS2.out _ _ ?_; (repeat' (first | assumption | exact Below.refl _ _ | refine below_drew ?_ | refine below_drewN ?_ _ | refine below_allocS ?_ _)); done) | (refine HS.out _ ?_; (repeat' (first | assumption | exact Below.refl _ _ | refine below_drew ?_ | refine below_drewN ?_ _ | refine below_allocS ?_ _)); done)))
          (first
            | (go_at_call_of 54 (Value.pointer (some ⟨u.s.g, 0, none⟩))
               refine (HCS.out _ (below_then Hb.out (by (repeat' (first | assumption | exact Below.refl _ _ | refine below_drew ?_ | refine below_drewN ?_ _ | refine below_allocS ?_ _))))).mono ?_
               rintro e w1 ⟨g1, v1, rfl, hS1, hg1, hv1, hb1⟩
               have hb1' := below_then (below_drew hbr) hb1)
            | (go_at_call_of 54 (Value.pointer (some ⟨u.r.g, 0, none⟩))
               refine (HCR.out _ (below_then Hb.out hb1')).mono ?_
               rintro e w2 ⟨g2, v2, rfl, hS2, hg2, hv2, hb2⟩
               have hb2' := below_then hb1' hb2
               obtain ⟨t1, t2⟩ := HT.out _ hb2'
               have t3 : w.heap.size < w2.heap.size := World.block_lt_of_cell? w2 _ t1))
        rename_i hHeld
        clear hHeld
        have hS1' : SetAt w2 g1 v1 u.s.L := SetAt.below hS1 hb2
        have hl1 : w1.heap.size ≤ w2.heap.size := hb2.size
        have hl0 : wr.heap.size ≤ w1.heap.size := hb1.size
        have hown1 : ∀ j, ofSet g1 v1 j → wr.heap.size ≤ j ∧ j < w1.heap.size := fun j hj => by
          rcases hj with rfl | hj
          · exact ⟨hg1, hS1.lt⟩
          · exact ⟨hv1 j hj, (hS1.2.lt j hj).2⟩
        have hown2 : ∀ j, ofSet g2 v2 j → w1.heap.size ≤ j := fun j hj => by
          rcases hj with rfl | hj
          · exact hg2
          · exact hv2 j hj
        have hput := CalAt.put (W6 := ((w2.setCell ⟨w.heap.size, k, none⟩ (.pointer (some ⟨w2.heap.size, 0, none⟩))).alloc (.cells #[.pointer (some ⟨g1, 0, none⟩), .pointer (some ⟨g2, 0, none⟩)] 77))) (w5 := w2.alloc (.cells #[.pointer (some ⟨g1, 0, none⟩), .pointer (some ⟨g2, 0, none⟩)] 77)) (u' := ⟨w2.heap.size, ⟨g1, v1, u.s.L⟩, ⟨g2, v2, u.r.L⟩⟩) H1.out Hnone.out (below_allocS hb2' _) (heap_alloc_new w2 _)
          (SetAt.below hS1' (below_allocS (Below.refl _ _) _)) (SetAt.below hS2 (below_allocS (Below.refl _ _) _)) (fun j hj hj' => by have h1 := hown1 j hj; have h2 := hown2 j hj'; omega) (fun j hj => set_alloc w2 _ _ _ _ j hj) (set_alloc_self w2 _ _ _ _ _ _ _ ((hb2'.block _ H1.out.ub_lt).trans H1.out.arr)) (fun j hj => by
            rcases hj with hj | hj
            · exact (hown1 j hj).1
            · exact Nat.le_trans hl0 (hown2 j hj)) hb2'.size
        have hbig : Below w.heap.size w ((w2.setCell ⟨w.heap.size, k, none⟩ (.pointer (some ⟨w2.heap.size, 0, none⟩))).alloc (.cells #[.pointer (some ⟨g1, 0, none⟩), .pointer (some ⟨g2, 0, none⟩)] 77)) :=
          below_allocS (Below.setCell (below_then Hb.out hb2') (Nat.le_refl _) _) _
        have hfp := fp_put (us := us1) (i := k) (u' := ⟨w2.heap.size, ⟨g1, v1, u.s.L⟩, ⟨g2, v2, u.r.L⟩⟩) Hnew.out (fun j hj => by
            have hw := Hb.out.size
            rcases hj with hj | hj
            · exact Nat.le_trans hw (hown1 j hj).1
            · exact Nat.le_trans hw (Nat.le_trans hl0 (hown2 j hj)))
        have habs : abs (us1.set k (some ⟨w2.heap.size, ⟨g1, v1, u.s.L⟩, ⟨g2, v2, u.r.L⟩⟩)) = (abs us).take (k + 1) ++ List.replicate (us.length - (k + 1)) none := by
          rw [abs_set, Ha.out]
          obtain ⟨hka, hkb⟩ := List.getElem?_eq_some_iff.1 Hab.out
          have hlk : ((abs us).take k).length = k := by rw [List.length_take]; omega
          rw [List.take_succ_eq_append_getElem hka, hkb, List.set_append_right _ _ (by omega), hlk, Nat.sub_self, show us.length - k = (us.length - (k + 1)) + 1 from by omega, List.replicate_succ, List.set_cons_zero, List.append_assoc]
          rfl
        have Hput := As.mk hput
        have Hbig := As.mk hbig
        have Hfp := As.mk hfp
        have Habs := As.mk habs
        clear hput hbig hfp habs hown1 hown2 hS1' hS1 hS2 hg1 hv1 hg2 hv2 hb1 hb2 hl0 hl1 hb1' hb2' t1 t2 t3 hbr hcs hcr hn6 hc
        refine wp_abs (fun W => CalAt W (w.heap.size + 1) w.heap.size [.int .i64 n0, .int .i64 n1, .slice zA zl zc, .int .i64 lo, .int .i64 hi, .int .i64 nd] (us1.set k (some ⟨w2.heap.size, ⟨g1, v1, u.s.L⟩, ⟨g2, v2, u.r.L⟩⟩)) ∧ Below w.heap.size w W) ⟨Hput.out, Hbig.out⟩ ?_
        rintro W7 ⟨hc7, hb7⟩
        have Hc7 := As.mk hc7
        have Hb7 := As.mk hb7
        clear hc7 hb7
        go_wp2
        go_roundw
        case rel => exact ⟨k + 1, _, by omega, by go_num, Hc7, Habs, Hfp, Hb7⟩
        case measure => simp [intOf]; omega
    · obtain rfl : k = us.length := by omega
      have hfin : abs us1 = abs us := by rw [Ha.out, Nat.sub_self, List.take_of_length_le (by rw [abs_len]; exact Nat.le_refl _)]; simp
      have Hfin := As.mk hfin
      clear hfin
      go_wp2
      go_ret
      exact ⟨_, _, us1, rfl, H1.out, Hfin.out, Nat.le_succ _, Nat.le_refl _, Hnew.out, Hb.out⟩
end Go.Proofs.YtioaingenooelaaGreat.CopyW
/-
  Calendars as lists: what a reservation, a settling, a removal leave. Nothing of the program is walked.
-/
namespace Go.Proofs.YtioaingenooelaaGreat.Facts
open Go.Proofs.YtioaingenooelaaGreat.Pure Go.Proofs.YtioaingenooelaaGreat.Search Go.Proofs.YtioaingenooelaaGreat.Meets Go.Proofs.YtioaingenooelaaGreat.SetW Go.Proofs.YtioaingenooelaaGreat.Edit Go.Proofs.YtioaingenooelaaGreat.AddW Go.Proofs.YtioaingenooelaaGreat.Ints Go.Proofs.YtioaingenooelaaGreat.Neat Go.Proofs.YtioaingenooelaaGreat.CalOps Go.Proofs.YtioaingenooelaaGreat.Check Go.Proofs.YtioaingenooelaaGreat.Reserve Go.Proofs.YtioaingenooelaaGreat.Settle

/-! ### norm -/
theorem join_sep : ∀ (l out : List Span), Sep (out ++ l) → l.foldl joinStep out = out ++ l
  | [], out, _ => by simp
  | s :: l, out, h => by
    have hs : joinStep out s = out ++ [s] := by
      rcases List.eq_nil_or_concat out with rfl | ⟨a, t, rfl⟩
      · rfl
      · rw [List.concat_eq_append] at h ⊢
        refine joinStep_new (t := t) (by simp) ?_
        have h1 := (List.pairwise_append.1 h.apart).2.2 t (by simp) s (by simp)
        omega
    rw [List.foldl_cons, hs, join_sep l _ (by simpa using h)]
    simp
theorem sep_sorted {n : List Span} (h : Sep n) : n.Pairwise fun x y => x.1 ≤ y.1 :=
  List.Pairwise.imp_of_mem (fun {a b} ha _ hab => by have := h.full a ha; omega) h.apart
theorem norm_fix {n : List Span} (h : Sep n) : norm n = n := by
  have h1 : n.filter full = n := List.filter_eq_self.2 fun x hx => (full_iff x).2 (h.full x hx)
  have h2 := norm_of n n (by rw [h1]) (sep_sorted h)
  rw [← h2]
  have := join_sep n [] (by simpa using h)
  simpa [join] using this
theorem norm_norm (l : List Span) : norm (norm l) = norm l := norm_fix (norm_sep l)
theorem norm_nil : norm [] = [] := norm_fix Sep.nil
theorem sep_one {x : Span} (h : x.1 < x.2) : Sep [x] := ⟨by simp, by simpa using h⟩
theorem norm_one {x : Span} (h : x.1 < x.2) : norm [x] = [x] := norm_fix (sep_one h)

/-! ### One set -/
theorem tags_neat {n : List Span} (h : Sep n) (o : Int) (ho : 1 ≤ o) : Neat (tagsOf n o) := by
  refine ⟨?_, fun x hx => ?_⟩
  · unfold tagsOf
    rw [List.pairwise_map]
    exact h.apart.imp fun h => Int.le_of_lt h
  · obtain ⟨y, hy, rfl⟩ := List.mem_map.1 hx
    exact ⟨h.full y hy, ho⟩
theorem neat_sorted {L : List Tag} (h : Neat L) : L.Pairwise fun x y => x.1.1 ≤ y.1.1 :=
  List.Pairwise.imp_of_mem (fun {a b} ha _ hab => by have := (h.2 a ha).1; omega) h.1
theorem neat_strict {L : List Tag} (h : Neat L) : L.Pairwise fun x y => x.1.1 < y.1.1 :=
  List.Pairwise.imp_of_mem (fun {a b} ha _ hab => by have := (h.2 a ha).1; omega) h.1
theorem sort_neat {L : List Tag} (h : Neat L) : L.mergeSort leTag = L := by
  have hp : (L.mergeSort leTag).Perm L := List.mergeSort_perm _ _
  have g : Neat (L.mergeSort leTag) := by
    refine good_of_perm hp (h.1.imp fun h => .inl h) h.2 (leTag_sorted _)
  exact perm_unique _ _ hp (neat_strict g) (neat_strict h)
theorem clash_nil (n : List Span) (but : Int) : clashL [] n but = none := by
  unfold clashL
  rw [List.findSome?_eq_none_iff]
  intro x _
  simp [hit, scan]
theorem hasL_nil (o : Int) : hasL [] o = false := rfl
theorem addL_nil (l : List Span) (o : Int) (ho : 1 ≤ o) : addL [] l o = tagsOf (norm l) o := by
  unfold addL
  rw [List.nil_append]
  exact sort_neat (tags_neat (norm_sep l) o ho)
theorem may_nil (l : List Span) (o : Int) (ho : 1 ≤ o) : mayAdd [] l o = true := by
  unfold mayAdd
  rw [clash_nil, hasL_nil, decide_eq_false (by omega)]
  rfl
theorem afterAdd_nil (l : List Span) (o : Int) (ho : 1 ≤ o) : afterAdd [] l o = tagsOf (norm l) o := by
  unfold afterAdd
  rw [may_nil l o ho, if_pos rfl, addL_nil l o ho]
theorem ofL_tags (n : List Span) (o : Int) : ofL (tagsOf n o) o = n := by
  unfold ofL tagsOf
  rw [List.filter_eq_self.2 (by intro t ht; obtain ⟨x, _, rfl⟩ := List.mem_map.1 ht; simp), List.map_map]
  simp [Function.comp_def]
theorem keepL_tags (n : List Span) (o : Int) : keepL (tagsOf n o) o = [] := by
  unfold keepL tagsOf
  rw [List.filter_eq_nil_iff]
  intro t ht
  obtain ⟨x, _, rfl⟩ := List.mem_map.1 ht
  simp
theorem free_nil (n : List Span) : stillFree [] n = n := by
  unfold stillFree
  exact List.filter_eq_self.2 fun x _ => by rw [clash_nil]; rfl
theorem clash_own (n m : List Span) (o : Int) : clashL (tagsOf n o) m o = none := by
  unfold clashL
  rw [List.findSome?_eq_none_iff]
  intro x _
  unfold hit scan
  rw [List.find?_eq_none]
  intro t ht
  have h1 : t ∈ tagsOf n o := List.mem_of_mem_drop ((List.takeWhile_sublist _).subset ht)
  obtain ⟨y, _, rfl⟩ := List.mem_map.1 h1
  simp
theorem clash_self {n : List Span} (h : Sep n) (o : Int) (ho : 1 ≤ o) : (clashL (tagsOf n o) n 0).isSome = decide (0 < n.length) := by
  cases n with
  | nil => simp [clashL]
  | cons x r =>
    have h1 : clashL (tagsOf (x :: r) o) (x :: r) 0 ≠ none := by
      intro h2
      have h3 := (clash_none _ (tags_neat h o ho) _).1 h2 x (by simp) (x, o) (by simp [tagsOf])
      have := h.full x (by simp)
      simp [ov] at h3
      omega
    obtain ⟨t, ht⟩ := Option.ne_none_iff_exists'.1 h1
    rw [ht]
    simp
theorem owners_nil : ownersL [] = [] := by simp [ownersL, ownOf, Uniq.uniq]
theorem own_tags (n : List Span) (o : Int) : ownOf (tagsOf n o) = List.replicate n.length o := by
  unfold ownOf tagsOf
  rw [List.map_map]
  exact List.map_const' ..
theorem uniq_rep (o : Int) : ∀ k : Nat, Uniq.uniq (List.replicate (k + 1) o) = [o]
  | 0 => rfl
  | k + 1 => by
    rw [List.replicate_succ', Uniq.uniq_snoc, uniq_rep o k]
    simp [Uniq.ustep]
theorem sort_rep (k : Nat) (o : Int) : (List.replicate k o).mergeSort leI = List.replicate k o := by
  have hp := List.mergeSort_perm (List.replicate k o) leI
  exact List.perm_replicate.1 hp
theorem owners_tags (n : List Span) (o : Int) : ownersL (tagsOf n o) = if n = [] then [] else [o] := by
  unfold ownersL
  rw [own_tags, sort_rep]
  cases n with
  | nil => rfl
  | cons x r => rw [List.length_cons, uniq_rep, if_neg (by simp)]

/-! ### All users -/
theorem getA_map (f : List Tag × List Tag → List Tag × List Tag) (st : St) (v : Int) : getA (st.map (Option.map f)) v = (getA st v).map f := by
  unfold getA getU
  split
  · rfl
  · rw [List.getElem?_map]
    cases st[v.toNat]? with
    | none => rfl
    | some o => cases o <;> rfl
theorem getA_settle (st : St) (o v : Int) : getA (settleA st o) v = (getA st v).map (settleU o) := getA_map _ _ _
theorem getA_free (st : St) (o v : Int) : getA (freeA st o) v = (getA st v).map (freeU o) := getA_map _ _ _
theorem getA_remove (st : St) (o v : Int) : getA (removeA st o) v = (getA st v).map (removeU o) := getA_map _ _ _
theorem getA_resS (l : List Span) (o : Int) (st : St) (u v : Int) : getA (resS l o st u) v = if v = u then (getA st u).map (resU l o) else getA st v := by
  unfold resS
  cases hg : getA st u with
  | none =>
    by_cases e : v = u
    · rw [if_pos e, e, hg]; rfl
    · rw [if_neg e]
  | some p =>
    obtain ⟨hu, hat⟩ := getA_some hg
    by_cases e : v = u
    · subst e
      rw [if_pos rfl]
      unfold getA getU
      rw [if_neg (by omega), List.getElem?_set_self (List.getElem?_eq_some_iff.1 hat).1]
      rfl
    · rw [if_neg e]
      unfold getA getU
      split
      · rfl
      · rw [List.getElem?_set_ne (by omega)]
theorem hasA_iff (st : St) (o : Int) : hasA st o = true ↔ ∃ v p, getA st v = some p ∧ (hasL p.1 o || hasL p.2 o) = true := by
  unfold hasA
  rw [List.any_eq_true]
  constructor
  · rintro ⟨x, hx, h⟩
    cases x with
    | none => cases h
    | some p =>
      obtain ⟨k, hk, e⟩ := List.getElem_of_mem hx
      refine ⟨(k : Int), p, ?_, h⟩
      exact getU_at st k _ (by rw [List.getElem?_eq_getElem hk, e])
  · rintro ⟨v, p, hg, h⟩
    obtain ⟨_, hat⟩ := getA_some hg
    exact ⟨some p, List.mem_of_getElem? hat, h⟩
theorem hasA_false (st : St) (o : Int) : hasA st o = false ↔ ∀ v p, getA st v = some p → hasL p.1 o = false ∧ hasL p.2 o = false := by
  rw [← Bool.not_eq_true, hasA_iff]
  constructor
  · intro h v p hg
    have := fun hh => h ⟨v, p, hg, hh⟩
    simpa using this
  · rintro h ⟨v, p, hg, hh⟩
    have := h v p hg
    rw [this.1, this.2] at hh
    cases hh
theorem check_one (st : St) (u : Int) (l : List Span) (but : Int) : checkA st [u] l but = tellA st (norm l) but u := by
  unfold checkA checkL
  rw [show ([u] : List Int).mergeSort leI = [u] from by simp]
  simp only [List.findSome?_cons, List.findSome?_nil]
  cases tellA st (norm l) but u <;> rfl
theorem hasL_tags (n : List Span) (o o' : Int) (h : o ≠ o') : hasL (tagsOf n o) o' = false := by
  unfold hasL
  rw [List.any_eq_false]
  intro t ht
  obtain ⟨x, _, rfl⟩ := List.mem_map.1 ht
  simpa using h
end Go.Proofs.YtioaingenooelaaGreat.Facts
/-
  CalReplaces, plain. Nothing of the program is walked.
-/
namespace Go.Proofs.YtioaingenooelaaGreat.ReplP
open Go.Proofs.YtioaingenooelaaGreat.Pure Go.Proofs.YtioaingenooelaaGreat.Search Go.Proofs.YtioaingenooelaaGreat.Meets Go.Proofs.YtioaingenooelaaGreat.SetW Go.Proofs.YtioaingenooelaaGreat.Edit Go.Proofs.YtioaingenooelaaGreat.AddW Go.Proofs.YtioaingenooelaaGreat.Ints Go.Proofs.YtioaingenooelaaGreat.Neat Go.Proofs.YtioaingenooelaaGreat.CalOps Go.Proofs.YtioaingenooelaaGreat.Check Go.Proofs.YtioaingenooelaaGreat.Reserve Go.Proofs.YtioaingenooelaaGreat.Settle Go.Proofs.YtioaingenooelaaGreat.Facts

/-! ### Every state is good, and of a size -/
theorem good_map (f : List Tag × List Tag → List Tag × List Tag) (st : St) (h : GoodA st) (hf : ∀ p, Neat p.1 ∧ Neat p.2 → Neat (f p).1 ∧ Neat (f p).2) : GoodA (st.map (Option.map f)) := by
  intro k p hp
  rw [List.getElem?_map] at hp
  cases hq : st[k]? with
  | none => rw [hq] at hp; cases hp
  | some o => cases o with
    | none => rw [hq] at hp; cases hp
    | some q =>
      rw [hq] at hp
      have e : f q = p := Option.some.inj (Option.some.inj hp)
      rw [← e]
      exact hf q (h k q hq)
theorem fits_map (f : List Tag × List Tag → List Tag × List Tag) (st : St) (M N : Nat) (h : FitsA M st) (hf : ∀ p, p.1.length ≤ M ∧ p.2.length ≤ M → (f p).1.length ≤ N ∧ (f p).2.length ≤ N) : FitsA N (st.map (Option.map f)) := by
  intro k p hp
  rw [List.getElem?_map] at hp
  cases hq : st[k]? with
  | none => rw [hq] at hp; cases hp
  | some o => cases o with
    | none => rw [hq] at hp; cases hp
    | some q =>
      rw [hq] at hp
      have e : f q = p := Option.some.inj (Option.some.inj hp)
      rw [← e]
      exact hf q (h k q hq)
theorem good_settle {st : St} (o : Int) (h : GoodA st) : GoodA (settleA st o) := good_map _ _ h fun p hp => settleU_neat o p hp
theorem good_remove {st : St} (o : Int) (h : GoodA st) : GoodA (removeA st o) := good_map _ _ h fun _ hp => ⟨hp.1.keep o, hp.2⟩
theorem good_free {st : St} (o : Int) (h : GoodA st) : GoodA (freeA st o) := good_map _ _ h fun _ hp => ⟨hp.1, hp.2.keep o⟩
theorem fits_settle {st : St} {M : Nat} (o : Int) (h : FitsA M st) : FitsA (M + M) (settleA st o) := fits_map _ _ M _ h fun p hp => by
  have := settleU_len o p M hp
  omega
theorem fits_remove {st : St} {M : Nat} (o : Int) (h : FitsA M st) : FitsA M (removeA st o) := fits_map _ _ M _ h fun _ hp => ⟨Nat.le_trans (keepL_le _ _) hp.1, hp.2⟩
theorem fits_free {st : St} {M : Nat} (o : Int) (h : FitsA M st) : FitsA M (freeA st o) := fits_map _ _ M _ h fun _ hp => ⟨hp.1, Nat.le_trans (keepL_le _ _) hp.2⟩
theorem fits_mono {st : St} {M N : Nat} (h : FitsA M st) (hn : M ≤ N) : FitsA N st := fun k p hp => by have := h k p hp; omega

/-! ### Two users, no spans -/
def S0 : St := [some ([], []), some ([], [])]
theorem good0 : GoodA S0 := by
  intro k p hp
  match k, hp with
  | 0, hp => have e : ([], []) = p := Option.some.inj (Option.some.inj hp); subst e; exact ⟨Neat.nil, Neat.nil⟩
  | 1, hp => have e : ([], []) = p := Option.some.inj (Option.some.inj hp); subst e; exact ⟨Neat.nil, Neat.nil⟩
  | k + 2, hp => simp [S0] at hp
theorem fits0 : FitsA 0 S0 := by
  intro k p hp
  match k, hp with
  | 0, hp => have e : ([], []) = p := Option.some.inj (Option.some.inj hp); subst e; exact ⟨Nat.le_refl _, Nat.le_refl _⟩
  | 1, hp => have e : ([], []) = p := Option.some.inj (Option.some.inj hp); subst e; exact ⟨Nat.le_refl _, Nat.le_refl _⟩
  | k + 2, hp => simp [S0] at hp
theorem get0 (v : Int) : getA S0 v = if v = 0 ∨ v = 1 then some ([], []) else none := by
  unfold getA getU S0
  by_cases h : v < 0
  · rw [if_pos h, if_neg (by omega)]
  · rw [if_neg h]
    by_cases h0 : v = 0
    · subst h0; rfl
    · by_cases h1 : v = 1
      · subst h1; rfl
      · rw [if_neg (by omega), List.getElem?_eq_none (by simp; omega)]
        rfl

theorem tell_none {st : St} {u : Int} {p : List Tag × List Tag} {sp : List Span} {but : Int} (hg : getA st u = some p) (h1 : clashL p.1 sp but = none) (h2 : clashL p.2 sp 0 = none) : tellA st sp but u = none := by
  unfold tellA
  rw [hg]
  simp only [h1, h2]
theorem tell_some {st : St} {u : Int} {p : List Tag × List Tag} {sp : List Span} {but : Int} (hg : getA st u = some p) (h1 : clashL p.1 sp but = none) : (tellA st sp but u).isSome = (clashL p.2 sp 0).isSome := by
  unfold tellA
  rw [hg]
  simp only [h1]
  cases clashL p.2 sp 0 <;> rfl

def S1 (u : Int) (a : List Span) : St := resL S0 [u] a 1
def S2 (u : Int) (a : List Span) : St := settleA (S1 u a) 1
def S3 (u : Int) (a b : List Span) : St := resL (S2 u a) [u] b 2
def S4 (u : Int) (a b : List Span) : St := removeA (S3 u a b) 1
def S5 (u : Int) (a b : List Span) : St := settleA (S4 u a b) 2
theorem resL_one (st : St) (u : Int) (l : List Span) (o : Int) : resL st [u] l o = resS l o st u := rfl

theorem at0 (u : Int) (hu : u = 0 ∨ u = 1) : getA S0 u = some ([], []) := by rw [get0, if_pos hu]
theorem at1 (u : Int) (hu : u = 0 ∨ u = 1) (a : List Span) : getA (S1 u a) u = some ([], tagsOf (norm a) 1) := by
  unfold S1
  rw [resL_one, getA_resS, if_pos rfl, at0 u hu]
  show some (([] : List Tag), afterAdd [] a 1) = _
  rw [afterAdd_nil a 1 (by omega)]
theorem at2 (u : Int) (hu : u = 0 ∨ u = 1) (a : List Span) : getA (S2 u a) u = some (tagsOf (norm a) 1, []) := by
  unfold S2
  rw [getA_settle, at1 u hu]
  show some (afterAdd [] (stillFree [] (ofL (tagsOf (norm a) 1) 1)) 1, keepL (tagsOf (norm a) 1) 1) = _
  rw [ofL_tags, free_nil, afterAdd_nil _ 1 (by omega), norm_norm, keepL_tags]
theorem at3 (u : Int) (hu : u = 0 ∨ u = 1) (a : List Span) (b : List Span) : getA (S3 u a b) u = some (tagsOf (norm a) 1, tagsOf (norm b) 2) := by
  unfold S3
  rw [resL_one, getA_resS, if_pos rfl, at2 u hu]
  show some (tagsOf (norm a) 1, afterAdd [] b 2) = _
  rw [afterAdd_nil b 2 (by omega)]
theorem at4 (u : Int) (hu : u = 0 ∨ u = 1) (a : List Span) (b : List Span) : getA (S4 u a b) u = some ([], tagsOf (norm b) 2) := by
  unfold S4
  rw [getA_remove, at3 u hu]
  show some (keepL (tagsOf (norm a) 1) 1, _) = _
  rw [keepL_tags]
theorem at5 (u : Int) (hu : u = 0 ∨ u = 1) (a : List Span) (b : List Span) : getA (S5 u a b) u = some (tagsOf (norm b) 2, []) := by
  unfold S5
  rw [getA_settle, at4 u hu]
  show some (afterAdd [] (stillFree [] (ofL (tagsOf (norm b) 2) 2)) 2, keepL (tagsOf (norm b) 2) 2) = _
  rw [ofL_tags, free_nil, afterAdd_nil _ 2 (by omega), norm_norm, keepL_tags]
theorem has0 (o : Int) : hasA S0 o = false := by
  rw [hasA_false]
  intro v p hp
  rw [get0] at hp
  split at hp
  · have e : ([], []) = p := Option.some.inj hp
    rw [← e]
    exact ⟨rfl, rfl⟩
  · cases hp
theorem other2 (u : Int) (a : List Span) (v : Int) (hv : v ≠ u) : getA (S2 u a) v = getA S0 v := by
  unfold S2 S1
  rw [getA_settle, resL_one, getA_resS, if_neg hv, get0]
  split
  · show some (afterAdd [] (stillFree [] (ofL [] 1)) 1, keepL [] 1) = _
    rw [show ofL [] 1 = [] from rfl, free_nil, afterAdd_nil _ 1 (by omega), norm_nil]
    rfl
  · rfl
theorem has2 (u : Int) (hu : u = 0 ∨ u = 1) (a : List Span) : hasA (S2 u a) 2 = false := by
  rw [hasA_false]
  intro v p hp
  by_cases e : v = u
  · subst e
    rw [at2 v hu] at hp
    have e : (tagsOf (norm a) 1, []) = p := Option.some.inj hp
    rw [← e]
    exact ⟨hasL_tags _ 1 2 (by omega), rfl⟩
  · rw [other2 u a v e] at hp
    exact (hasA_false S0 2).1 (has0 2) v p hp
theorem may1 (u : Int) (hu : u = 0 ∨ u = 1) (a : List Span) : ((checkA S0 [u] a 0).isSome || (decide ((1 : Int) < 1) || hasA S0 1)) = false := by
  rw [check_one, tell_none (at0 u hu) (clash_nil _ _) (clash_nil _ _), has0]
  rfl
theorem may2 (u : Int) (hu : u = 0 ∨ u = 1) (a : List Span) (b : List Span) : ((checkA (S2 u a) [u] b 1).isSome || (decide ((2 : Int) < 1) || hasA (S2 u a) 2)) = false := by
  rw [check_one, tell_none (at2 u hu a) (clash_own _ _ _) (clash_nil _ _), has2 u hu]
  rfl
theorem clash3 (u : Int) (hu : u = 0 ∨ u = 1) (a : List Span) (b : List Span) : (checkA (S3 u a b) [u] b 1).isSome = decide (0 < (norm b).length) := by
  rw [check_one, tell_some (at3 u hu a b) (clash_own _ _ _), clash_self (norm_sep b) 2 (by omega)]
theorem good1 (u : Int) (a : List Span) : GoodA (S1 u a) := (resL_inv a 1 [u] S0 0 good0 fits0).1
theorem good2 (u : Int) (a : List Span) : GoodA (S2 u a) := good_settle _ (good1 u a)
theorem good3 (u : Int) (a b : List Span) : GoodA (S3 u a b) := resS_good b 2 _ u (good2 u a)
theorem good4 (u : Int) (a b : List Span) : GoodA (S4 u a b) := good_remove _ (good3 u a b)
theorem good5 (u : Int) (a b : List Span) : GoodA (S5 u a b) := good_settle _ (good4 u a b)
theorem fits1 (u : Int) (a : List Span) (ha : a.length ≤ 100) : FitsA 100 (S1 u a) := fits_mono (resS_fits a 1 S0 u 0 fits0) (by omega)
theorem fits2 (u : Int) (a : List Span) (ha : a.length ≤ 100) : FitsA 200 (S2 u a) := fits_settle 1 (fits1 u a ha)
theorem fits3 (u : Int) (a b : List Span) (ha : a.length ≤ 100) (hb : b.length ≤ 100) : FitsA 300 (S3 u a b) := fits_mono (resS_fits b 2 _ u 200 (fits2 u a ha)) (by omega)
theorem fits4 (u : Int) (a b : List Span) (ha : a.length ≤ 100) (hb : b.length ≤ 100) : FitsA 300 (S4 u a b) := fits_remove 1 (fits3 u a b ha hb)
theorem fits5 (u : Int) (a b : List Span) (ha : a.length ≤ 100) (hb : b.length ≤ 100) : FitsA 600 (S5 u a b) := fits_settle 2 (fits4 u a b ha hb)
def clip (lo hi : Int) (x : Span) : Span := (max x.1 lo, min x.2 hi)
theorem cut_tags (n : List Span) (o lo hi : Int) : cutL (tagsOf n o) lo hi = norm (n.map (clip lo hi)) := by
  unfold cutL cuts tagsOf
  rw [List.map_map]
  rfl
end Go.Proofs.YtioaingenooelaaGreat.ReplP
/-
  Calls on a calendar, plain: what each leaves, how great it grows. Nothing of the program is walked.
-/
namespace Go.Proofs.YtioaingenooelaaGreat.PlayP
open Go.Proofs.YtioaingenooelaaGreat.Pure Go.Proofs.YtioaingenooelaaGreat.Search Go.Proofs.YtioaingenooelaaGreat.Meets Go.Proofs.YtioaingenooelaaGreat.SetW Go.Proofs.YtioaingenooelaaGreat.Edit Go.Proofs.YtioaingenooelaaGreat.AddW Go.Proofs.YtioaingenooelaaGreat.Ints Go.Proofs.YtioaingenooelaaGreat.Neat Go.Proofs.YtioaingenooelaaGreat.CalOps Go.Proofs.YtioaingenooelaaGreat.Check Go.Proofs.YtioaingenooelaaGreat.Reserve Go.Proofs.YtioaingenooelaaGreat.Settle Go.Proofs.YtioaingenooelaaGreat.Facts Go.Proofs.YtioaingenooelaaGreat.ReplP

/-! ### How great -/
def FitsS (M : Nat) (st : St) : Prop := ∀ (k : Nat) (p : List Tag × List Tag), st[k]? = some (some p) → p.1.length + p.2.length ≤ M
theorem FitsS.fits {M : Nat} {st : St} (h : FitsS M st) : FitsA M st := fun k p hp => by have := h k p hp; omega
theorem FitsS.mono {M N : Nat} {st : St} (h : FitsS M st) (hn : M ≤ N) : FitsS N st := fun k p hp => by have := h k p hp; omega
theorem keep_of (L : List Tag) (o : Int) : (keepL L o).length + (ofL L o).length = L.length := by
  induction L with
  | nil => rfl
  | cons t L ih =>
    unfold keepL ofL at ih ⊢
    rw [List.filter_cons, List.filter_cons]
    by_cases h : t.2 = o
    · simp [h] at ih ⊢; omega
    · simp [h] at ih ⊢; omega
theorem sumMap (f : List Tag × List Tag → List Tag × List Tag) (st : St) (M : Nat) (h : FitsS M st) (hf : ∀ p, (f p).1.length + (f p).2.length ≤ p.1.length + p.2.length) : FitsS M (st.map (Option.map f)) := by
  intro k p hp
  rw [List.getElem?_map] at hp
  cases hq : st[k]? with
  | none => rw [hq] at hp; cases hp
  | some o => cases o with
    | none => rw [hq] at hp; cases hp
    | some q =>
      rw [hq] at hp
      have e : f q = p := Option.some.inj (Option.some.inj hp)
      rw [← e]
      exact Nat.le_trans (hf q) (h k q hq)
theorem settle_sum {st : St} {M : Nat} (o : Int) (h : FitsS M st) : FitsS M (settleA st o) := sumMap _ _ M h fun p => by
  have h1 := afterAdd_len p.1 (stillFree p.1 (ofL p.2 o)) o
  have h2 := stillFree_le p.1 (ofL p.2 o)
  have h3 := keep_of p.2 o
  show (afterAdd _ _ _).length + (keepL _ _).length ≤ _
  omega
theorem free_sum {st : St} {M : Nat} (o : Int) (h : FitsS M st) : FitsS M (freeA st o) := sumMap _ _ M h fun p => by
  have := keepL_le p.2 o
  show p.1.length + (keepL _ _).length ≤ _
  omega
theorem remove_sum {st : St} {M : Nat} (o : Int) (h : FitsS M st) : FitsS M (removeA st o) := sumMap _ _ M h fun p => by
  have := keepL_le p.1 o
  show (keepL _ _).length + p.2.length ≤ _
  omega
theorem resS_sum (l : List Span) (o : Int) (st : St) (u : Int) (M : Nat) (h : FitsS M st) : FitsS (M + l.length) (resS l o st u) := by
  intro k p hp
  rcases resS_at l o st u k p hp with h1 | ⟨q, hq, rfl⟩
  · have := h k p h1; omega
  · have := h k q hq
    have h2 := afterAdd_len q.2 l o
    show q.1.length + (afterAdd q.2 l o).length ≤ _
    omega
theorem resL_sum (l : List Span) (o : Int) : ∀ (users : List Int) (st : St) (M : Nat), FitsS M st → FitsS (M + users.length * l.length) (resL st users l o)
  | [], st, M, hf => by simpa [resL] using hf
  | u :: r, st, M, hf => by
    have ih := resL_sum l o r (resS l o st u) (M + l.length) (resS_sum l o st u M hf)
    have e : M + (u :: r).length * l.length = M + l.length + r.length * l.length := by rw [List.length_cons, Nat.add_mul]; omega
    rw [e]
    exact ih

/-! ### One call -/
structure Op where
  kind : Int
  n : Int
  m : Int
  users : List Int
  l : List Span
/-- Reserve: does it take them? -/
def takes (st : St) (o : Int) (users : List Int) (l : List Span) (but : Int) : Bool := !((checkA st users l but).isSome || (decide (o < 1) || hasA st o))
def resA (st : St) (o : Int) (users : List Int) (l : List Span) (but : Int) : St := if takes st o users l but then resL st users l o else st
theorem resA_no {st : St} {o : Int} {users : List Int} {l : List Span} {but : Int} (h : ((checkA st users l but).isSome || (decide (o < 1) || hasA st o)) = true) : resA st o users l but = st := by
  unfold resA takes; rw [h]; rfl
theorem resA_yes {st : St} {o : Int} {users : List Int} {l : List Span} {but : Int} (h : ((checkA st users l but).isSome || (decide (o < 1) || hasA st o)) = false) : resA st o users l but = resL st users l o := by
  unfold resA takes; rw [h]; rfl
theorem resA_good {st : St} (o : Int) (users : List Int) (l : List Span) (but : Int) (h : GoodA st) : GoodA (resA st o users l but) := by
  unfold resA
  split
  · have : ∀ (us : List Int) (st : St), GoodA st → GoodA (resL st us l o) := by
      intro us
      induction us with
      | nil => intro st h; exact h
      | cons u r ih => intro st h; exact ih _ (resS_good l o st u h)
    exact this _ _ h
  · exact h
theorem resA_sum {st : St} {M : Nat} (o : Int) (users : List Int) (l : List Span) (but : Int) (h : FitsS M st) : FitsS (M + users.length * l.length) (resA st o users l but) := by
  unfold resA
  split
  · exact resL_sum l o users st M h
  · exact h.mono (by omega)
theorem resA_len (st : St) (o : Int) (users : List Int) (l : List Span) (but : Int) : (resA st o users l but).length = st.length := by
  unfold resA
  split
  · have : ∀ (us : List Int) (st : St), (resL st us l o).length = st.length := by
      intro us
      induction us with
      | nil => intro st; rfl
      | cons u r ih => intro st; exact (ih _).trans (resS_len l o st u)
    exact this _ _
  · rfl
/-- Users are where they were. -/
def Dom (st st' : St) : Prop := ∀ v, (getA st' v).isSome = (getA st v).isSome
theorem Dom.refl (st : St) : Dom st st := fun _ => rfl
theorem Dom.trans {a b c : St} (h : Dom a b) (k : Dom b c) : Dom a c := fun v => (k v).trans (h v)
theorem dom_map (f : List Tag × List Tag → List Tag × List Tag) (st : St) : Dom st (st.map (Option.map f)) := fun v => by rw [getA_map]; cases getA st v <;> rfl
theorem dom_resS (l : List Span) (o : Int) (st : St) (u : Int) : Dom st (resS l o st u) := fun v => by
  rw [getA_resS]
  split
  · rename_i e; subst e; cases getA st v <;> rfl
  · rfl
theorem dom_resL (l : List Span) (o : Int) : ∀ (us : List Int) (st : St), Dom st (resL st us l o)
  | [], st => Dom.refl st
  | u :: r, st => (dom_resS l o st u).trans (dom_resL l o r _)
theorem dom_resA (st : St) (o : Int) (users : List Int) (l : List Span) (but : Int) : Dom st (resA st o users l but) := by
  unfold resA
  split
  · exact dom_resL l o users st
  · exact Dom.refl st

/-! ### Twice is once -/
theorem mergeSort_neat {L : List Tag} (h : Neat L) : L.mergeSort leTag = L := sort_neat h
theorem hasL_iff (L : List Tag) (o : Int) : hasL L o = true ↔ ∃ t ∈ L, t.2 = o := by
  unfold hasL
  rw [List.any_eq_true]
  simp
theorem hasL_no (L : List Tag) (o : Int) : hasL L o = false ↔ ∀ t ∈ L, t.2 ≠ o := by
  unfold hasL
  rw [List.any_eq_false]
  simp
theorem addL_empty {L : List Tag} (h : Neat L) (l : List Span) (o : Int) (hn : norm l = []) : addL L l o = L := by
  unfold addL
  rw [hn]
  show (L ++ []).mergeSort leTag = L
  rw [List.append_nil, sort_neat h]
theorem mem_addL (L : List Tag) (l : List Span) (o : Int) (t : Tag) : t ∈ addL L l o ↔ t ∈ L ∨ t ∈ tagsOf (norm l) o := by
  unfold addL
  rw [List.mem_mergeSort, List.mem_append]
theorem addL_has {L : List Tag} (l : List Span) (o : Int) (hn : norm l ≠ []) : hasL (addL L l o) o = true := by
  rw [hasL_iff]
  obtain ⟨x, r, hx⟩ := List.exists_cons_of_ne_nil hn
  exact ⟨(x, o), (mem_addL _ _ _ _).2 (.inr (by rw [hx]; simp [tagsOf])), rfl⟩
theorem afterAdd_twice {L : List Tag} (h : Neat L) (l : List Span) (o : Int) : afterAdd (afterAdd L l o) l o = afterAdd L l o := by
  cases hm : mayAdd L l o with
  | false =>
    have e : afterAdd L l o = L := by unfold afterAdd; rw [hm]; rfl
    rw [e, e]
  | true =>
    have e : afterAdd L l o = addL L l o := by unfold afterAdd; rw [hm]; rfl
    rw [e]
    by_cases hn : norm l = []
    · rw [addL_empty h l o hn, e, addL_empty h l o hn]
    · have h2 : mayAdd (addL L l o) l o = false := by
        unfold mayAdd
        rw [addL_has l o hn]
        simp
      unfold afterAdd
      rw [h2]
      rfl
theorem resU_twice {p : List Tag × List Tag} (h : Neat p.2) (l : List Span) (o : Int) : resU l o (resU l o p) = resU l o p := by
  unfold resU
  rw [afterAdd_twice h]
theorem getA_good {st : St} (h : GoodA st) {v : Int} {p : List Tag × List Tag} (hg : getA st v = some p) : Neat p.1 ∧ Neat p.2 := h _ p (getA_some hg).2
theorem getA_resL (l : List Span) (o : Int) : ∀ (us : List Int) (st : St) (v : Int), GoodA st → getA (resL st us l o) v = if v ∈ us then (getA st v).map (resU l o) else getA st v
  | [], st, v, _ => by simp [resL]
  | u :: r, st, v, h => by
    have e : resL st (u :: r) l o = resL (resS l o st u) r l o := rfl
    rw [e, getA_resL l o r _ v (resS_good l o st u h), getA_resS]
    by_cases hu : v = u
    · subst hu
      rw [if_pos rfl, if_pos (show v ∈ v :: r by simp)]
      by_cases hr : v ∈ r
      · rw [if_pos hr]
        cases hg : getA st v with
        | none => rfl
        | some p =>
          show some (resU l o (resU l o p)) = some (resU l o p)
          rw [resU_twice (getA_good h hg).2]
      · rw [if_neg hr]
    · rw [if_neg hu]
      by_cases hr : v ∈ r
      · rw [if_pos hr, if_pos (by simp [hr])]
      · rw [if_neg hr, if_neg (by simp [hu, hr])]

/-! ### What is reserved and freed; what is reserved and settled -/
theorem keepL_app (L M : List Tag) (o : Int) : keepL (L ++ M) o = keepL L o ++ keepL M o := by unfold keepL; rw [List.filter_append]
theorem keepL_id {L : List Tag} {o : Int} (h : hasL L o = false) : keepL L o = L := keepL_all L o fun x hx => by
  have := (hasL_no L o).1 h x hx
  simpa using this
theorem keepL_addL {L : List Tag} (h : Neat L) (l : List Span) (o : Int) (hm : mayAdd L l o = true) (hh : hasL L o = false) : keepL (addL L l o) o = L := by
  have hp : (keepL (addL L l o) o).Perm L := by
    have h1 : (keepL (addL L l o) o).Perm (keepL (L ++ tagsOf (norm l) o) o) := (List.mergeSort_perm _ _).filter _
    rw [keepL_app, keepL_tags, List.append_nil, keepL_id hh] at h1
    exact h1
  have g := (add_unique h l o hm (List.mergeSort_perm _ _) (leTag_sorted _)).2
  exact perm_unique _ _ hp (neat_strict (g.keep o)) (neat_strict h)
theorem ofL_tags_of (L : List Tag) (o : Int) : (L.filter fun t => t.2 == o) = tagsOf (ofL L o) o := by
  unfold tagsOf ofL
  rw [List.map_map]
  symm
  refine (List.map_congr_left (g := id) ?_).trans (List.map_id _)
  intro t ht
  rw [List.mem_filter] at ht
  have : t.2 = o := by simpa using ht.2
  show (t.1, o) = t
  rw [← this]
theorem ofL_addL {L : List Tag} (h : Neat L) (l : List Span) (o : Int) (hm : mayAdd L l o = true) (hh : hasL L o = false) : ofL (addL L l o) o = norm l := by
  have hp : ((addL L l o).filter fun t => t.2 == o).Perm (tagsOf (norm l) o) := by
    have h1 : ((addL L l o).filter fun t => t.2 == o).Perm ((L ++ tagsOf (norm l) o).filter fun t => t.2 == o) := (List.mergeSort_perm _ _).filter _
    have e1 : (L.filter fun t => t.2 == o) = [] := List.filter_eq_nil_iff.2 (fun t ht => by have := (hasL_no L o).1 hh t ht; simpa using this)
    have e2 : ((tagsOf (norm l) o).filter fun t => t.2 == o) = tagsOf (norm l) o := List.filter_eq_self.2 (fun t ht => by obtain ⟨x, _, rfl⟩ := List.mem_map.1 ht; simp)
    rw [List.filter_append, e1, e2, List.nil_append] at h1
    exact h1
  have ho : 1 ≤ o := by
    unfold mayAdd at hm
    simp only [Bool.and_eq_true, Bool.not_eq_true', decide_eq_false_iff_not] at hm
    omega
  have g := (add_unique h l o hm (List.mergeSort_perm _ _) (leTag_sorted _)).2
  have e := perm_unique _ _ hp (neat_strict (g.sub List.filter_sublist)) (neat_strict (tags_neat (norm_sep l) o ho))
  have e2 : ofL (addL L l o) o = (((addL L l o).filter fun t => t.2 == o)).map (·.1) := rfl
  rw [e2, e]
  unfold tagsOf
  rw [List.map_map]
  simp [Function.comp_def]
theorem free_all {S : List Tag} (h : Neat S) {n : List Span} (hn : ∀ x ∈ n, x.1 < x.2) (hc : clashL S n 0 = none) : stillFree S n = n := by
  unfold stillFree
  refine List.filter_eq_self.2 fun x hx => ?_
  have h1 : clashL S (norm [x]) 0 = none := by
    rw [norm_one (hn x hx)]
    refine (clash_none S h [x]).2 fun y hy => ?_
    rw [List.mem_singleton] at hy
    subst hy
    exact (clash_none S h n).1 hc y hx
  rw [h1]
  rfl
theorem afterAdd_empty {S : List Tag} (h : Neat S) (o : Int) : afterAdd S [] o = S := by
  unfold afterAdd
  split
  · exact addL_empty h [] o norm_nil
  · rfl
theorem ofL_none {L : List Tag} {o : Int} (h : hasL L o = false) : ofL L o = [] := by
  unfold ofL
  rw [List.filter_eq_nil_iff.2 (fun t ht => by have := (hasL_no L o).1 h t ht; simpa using this)]
  rfl
theorem mem_owners (L : List Tag) (o : Int) : o ∈ ownersL L ↔ hasL L o = true := by
  unfold ownersL
  rw [Uniq.mem_uniq, List.mem_mergeSort, hasL_iff]
  unfold ownOf
  simp
theorem hasL_keep (L : List Tag) (o : Int) : hasL (keepL L o) o = false := by
  rw [hasL_no]
  intro t ht
  unfold keepL at ht
  rw [List.mem_filter] at ht
  simpa using ht.2
/-- What a reservation that is taken knows of a user. -/
theorem takes_user {st : St} {o : Int} {users : List Int} {l : List Span} {but : Int} (h : takes st o users l but = true) {u : Int} (hu : u ∈ users) {p : List Tag × List Tag} (hg : getA st u = some p) : clashL p.1 (norm l) but = none ∧ clashL p.2 (norm l) 0 = none := by
  unfold takes at h
  simp only [Bool.not_eq_true', Bool.or_eq_false_iff, Option.isSome_eq_false_iff, Option.isNone_iff_eq_none] at h
  have h1 := h.1
  unfold checkA checkL at h1
  rw [List.findSome?_eq_none_iff] at h1
  have h2 := h1 u (List.mem_mergeSort.2 hu)
  unfold tellA at h2
  rw [hg] at h2
  cases c1 : clashL p.1 (norm l) but with
  | some t => simp [c1] at h2
  | none => cases c2 : clashL p.2 (norm l) 0 with
    | some t => simp [c1, c2] at h2
    | none => exact ⟨rfl, rfl⟩
theorem takes_tx {st : St} {o : Int} {users : List Int} {l : List Span} {but : Int} (h : takes st o users l but = true) : 1 ≤ o ∧ hasA st o = false := by
  unfold takes at h
  simp only [Bool.not_eq_true', Bool.or_eq_false_iff, decide_eq_false_iff_not] at h
  exact ⟨by omega, h.2.2⟩
theorem may_of {L : List Tag} {l : List Span} {o : Int} (h1 : 1 ≤ o) (h2 : hasL L o = false) (h3 : clashL L (norm l) 0 = none) : mayAdd L l o = true := by
  unfold mayAdd
  rw [decide_eq_false (by omega), h2, h3]
  rfl
/-- Reserved and freed: as it was. -/
theorem res_free {st : St} (hg : GoodA st) {o : Int} {users : List Int} {l : List Span} {but : Int} (h : takes st o users l but = true) (v : Int) : getA (freeA (resL st users l o) o) v = getA st v := by
  rw [getA_free, getA_resL l o users st v hg]
  obtain ⟨ho, hh⟩ := takes_tx h
  cases hp : getA st v with
  | none => split <;> rfl
  | some p =>
    have hu := (hasA_false st o).1 hh v p hp
    have hn := getA_good hg hp
    split
    · rename_i hv
      have hc := takes_user h hv hp
      have hm := may_of ho hu.2 hc.2
      show some (p.1, keepL (afterAdd p.2 l o) o) = some p
      unfold afterAdd
      rw [hm, if_pos rfl, keepL_addL hn.2 l o hm hu.2]
    · show some (p.1, keepL p.2 o) = some p
      rw [keepL_id hu.2]
/-- Reserved and settled: just the users that are here have it. -/
theorem res_settle {st : St} (hg : GoodA st) {o : Int} {users : List Int} {l : List Span} (h : takes st o users l 0 = true) (v : Int) (p : List Tag × List Tag) (hp : getA (settleA (resL st users l o) o) v = some p) : hasL p.2 o = false ∧ (hasL p.1 o = true ↔ v ∈ users ∧ norm l ≠ []) := by
  rw [getA_settle, getA_resL l o users st v hg] at hp
  obtain ⟨ho, hh⟩ := takes_tx h
  cases hq : getA st v with
  | none => rw [hq] at hp; split at hp <;> cases hp
  | some q =>
    have hu := (hasA_false st o).1 hh v q hq
    have hn := getA_good hg hq
    rw [hq] at hp
    split at hp
    · rename_i hv
      have hc := takes_user h hv hq
      have hm := may_of ho hu.2 hc.2
      have e1 : afterAdd q.2 l o = addL q.2 l o := by unfold afterAdd; rw [hm]; rfl
      have e : (afterAdd q.1 (stillFree q.1 (ofL (afterAdd q.2 l o) o)) o, keepL (afterAdd q.2 l o) o) = p := Option.some.inj hp
      rw [e1, ofL_addL hn.2 l o hm hu.2, free_all hn.1 (norm_sep l).full hc.1] at e
      have hm2 : mayAdd q.1 (norm l) o = true := may_of ho hu.1 (by rw [norm_norm]; exact hc.1)
      have e2 : afterAdd q.1 (norm l) o = addL q.1 (norm l) o := by unfold afterAdd; rw [hm2]; rfl
      rw [e2] at e
      rw [← e]
      refine ⟨hasL_keep _ _, ?_⟩
      constructor
      · intro h1
        refine ⟨hv, fun hz => ?_⟩
        rw [addL_empty hn.1 _ o (by rw [norm_norm]; exact hz)] at h1
        rw [hu.1] at h1
        cases h1
      · intro ⟨_, h1⟩
        exact addL_has (norm l) o (by rw [norm_norm]; exact h1)
    · rename_i hv
      have e : (afterAdd q.1 (stillFree q.1 (ofL q.2 o)) o, keepL q.2 o) = p := Option.some.inj hp
      rw [ofL_none hu.2, show stillFree q.1 [] = [] from rfl, afterAdd_empty hn.1] at e
      rw [← e]
      refine ⟨hasL_keep _ _, ?_⟩
      show hasL q.1 o = true ↔ _
      rw [hu.1]
      simp [hv]
end Go.Proofs.YtioaingenooelaaGreat.PlayP
/-
  The chapter's example, plain. Nothing of the program is walked.
-/
namespace Go.Proofs.YtioaingenooelaaGreat.FirstP
open Go.Proofs.YtioaingenooelaaGreat.Pure Go.Proofs.YtioaingenooelaaGreat.Search Go.Proofs.YtioaingenooelaaGreat.Meets Go.Proofs.YtioaingenooelaaGreat.SetW Go.Proofs.YtioaingenooelaaGreat.Edit Go.Proofs.YtioaingenooelaaGreat.AddW Go.Proofs.YtioaingenooelaaGreat.Ints Go.Proofs.YtioaingenooelaaGreat.Neat Go.Proofs.YtioaingenooelaaGreat.CalOps Go.Proofs.YtioaingenooelaaGreat.Check Go.Proofs.YtioaingenooelaaGreat.Reserve Go.Proofs.YtioaingenooelaaGreat.Settle Go.Proofs.YtioaingenooelaaGreat.Facts Go.Proofs.YtioaingenooelaaGreat.ReplP

def F1 : St := resL S0 [0, 1] [(5, 9)] 17
def F2 : St := settleA F1 17
theorem sort01 : ([0, 1] : List Int).mergeSort leI = [0, 1] := List.mergeSort_of_pairwise (by decide)
theorem n59 : norm [(5, 9)] = [(5, 9)] := norm_one (by decide)
theorem fat1 (v : Int) (hv : v = 0 ∨ v = 1) : getA F1 v = some ([], [((5, 9), 17)]) := by
  have e : F1 = resS [(5, 9)] 17 (resS [(5, 9)] 17 S0 0) 1 := rfl
  have r : resU [(5, 9)] 17 ([], []) = ([], [((5, 9), 17)]) := by
    show (([] : List Tag), afterAdd [] [(5, 9)] 17) = _
    rw [afterAdd_nil _ 17 (by omega), n59]
    rfl
  rw [e, getA_resS, getA_resS, getA_resS, get0, get0, get0]
  rcases hv with rfl | rfl
  · simp [r]
  · simp [r]
theorem fat2 (v : Int) (hv : v = 0 ∨ v = 1) : getA F2 v = some ([((5, 9), 17)], []) := by
  unfold F2
  rw [getA_settle, fat1 v hv]
  show some (afterAdd [] (stillFree [] (ofL (tagsOf [(5, 9)] 17) 17)) 17, keepL (tagsOf [(5, 9)] 17) 17) = _
  rw [ofL_tags, free_nil, afterAdd_nil _ 17 (by omega), n59, keepL_tags]
  rfl
theorem check_two (st : St) (u v : Int) (h : [u, v].mergeSort leI = [u, v]) (l : List Span) (but : Int) (h1 : tellA st (norm l) but u = none) (h2 : tellA st (norm l) but v = none) : checkA st [u, v] l but = none := by
  unfold checkA checkL
  rw [h]
  simp only [List.findSome?_cons, List.findSome?_nil, h1, h2]
theorem fmay1 : ((checkA S0 [0, 1] [(5, 9)] 0).isSome || (decide ((17 : Int) < 1) || hasA S0 17)) = false := by
  rw [check_two S0 0 1 sort01 _ _ (tell_none (at0 0 (.inl rfl)) (clash_nil _ _) (clash_nil _ _)) (tell_none (at0 1 (.inr rfl)) (clash_nil _ _) (clash_nil _ _)), has0]
  rfl
theorem fno : ((checkA F1 [1] [(8, 12)] 0).isSome || (decide ((33 : Int) < 1) || hasA F1 33)) = true := by
  rw [check_one, tell_some (fat1 1 (.inr rfl)) (clash_nil _ _), norm_one (by decide)]
  have : (clashL [((5, 9), 17)] [(8, 12)] 0).isSome = true := by decide
  rw [this]
  rfl
theorem fbusy : cutL [((5, 9), 17)] 0 100 = [(5, 9)] := by
  unfold cutL cuts
  exact norm_one (by decide)
theorem fcheck : checkA F2 [0] [(8, 9)] 17 = none := by
  rw [check_one]
  refine tell_none (fat2 0 (.inl rfl)) ?_ (clash_nil _ _)
  rw [norm_one (by decide)]
  decide
theorem fgood1 : GoodA F1 := (resL_inv [(5, 9)] 17 [0, 1] S0 0 good0 fits0).1
theorem ffits1 : FitsA 2 F1 := (resL_inv [(5, 9)] 17 [0, 1] S0 0 good0 fits0).2.1
theorem fgood2 : GoodA F2 := good_settle _ fgood1
theorem ffits2 : FitsA 4 F2 := fits_settle 17 ffits1
end Go.Proofs.YtioaingenooelaaGreat.FirstP
/-
  append from whatever row onto a row of the call's own; rows cut. Nothing of the program.
-/
namespace Go.Proofs.YtioaingenooelaaGreat.App
open Go.RowKit Go.Proofs.YtioaingenooelaaGreat.Wd Go.Proofs.YtioaingenooelaaGreat.Ints

section
variable {P : Program} {w : World}
theorem run_append_any (t ty : TypeId) (base : Nat) (e : TypeId) (i : TypeInfo) (z : Value) (size bytes : Nat) (ht : P.underlying t = some (.slice e)) (hi : P.info? e = some i) (hz : i.zero = some z)
    (hsize : i.size = size) (hby : i.bytes = bytes) (hzs : z.cells.size = size) (hsz : 0 < size)
    (v : Value) (n : Nat) (xs : List Value) (hown : w.ownsRow base e size v n xs)
    (A : Option Addr) (m c : Nat) (news : List Value) (hr : Rd w size A m news) (hc : A = none → c = 0) (h1 : ∀ u ∈ news, u.oneCell' = true)
    (h63 : n + m ≤ maxLen) (hbytes : (n + m) * bytes ≤ 140737488355328) (hbase : base ≤ w.heap.size) (H : Nat) (hH : w.heap.size = H) :
    ∃ v' w', (Builtin.append_ #[t, t] ty #[v, .slice A m c]).run P w = .ok v' w' ∧ w'.ownsRow base e size v' (n + m) (xs ++ news) ∧ w.grownBy w' v.ownBlock ∧ (v'.ownBlock = v.ownBlock ∨ v'.ownBlock = some H) := by
  cases A with
  | some ad =>
    obtain ⟨v', w', hrun, h2, h3, _, h5⟩ := run_append_own_at (P := P) w base t ty e i z size bytes ht hi hz hsize hby hzs hsz v n xs hown ad m c news hr.1 (fun j u hu => by
      obtain ⟨ad', e', hc'⟩ := hr.2 j u hu
      injection e' with e'
      rw [e']
      exact hc') h1 h63 hbytes hbase
    exact ⟨v', w', hrun, h2, h3, h5.imp id (fun h => by rw [h, hH])⟩
  | none =>
    have hn : news = [] := by
      cases news with
      | nil => rfl
      | cons u r =>
        obtain ⟨ad, e', _⟩ := hr.2 0 u rfl
        cases e'
    subst hn
    have hm : m = 0 := by
      have h9 := hr.1
      rcases Nat.eq_zero_or_pos m with h | h
      · exact h
      · have := Nat.mul_pos h hsz
        rw [List.length_nil] at h9
        omega
    subst hm
    rw [hc rfl]
    refine ⟨v, w, ?_, by rw [List.append_nil]; exact hown, World.grownBy.refl w _, .inl rfl⟩
    rcases hown.2 with ⟨rfl, hn⟩ | ⟨g, cap, cur, rfl, _, _, hnc, _⟩
    · simp [Builtin.append_, run_underlying ht, sizeOf, typeInfo, hi, Builtin.lenOf, Builtin.firstCells]
    · simp [Builtin.append_, run_underlying ht, sizeOf, typeInfo, hi, Builtin.lenOf, Builtin.firstCells, hnc, storeCells]
theorem step_append_any {ops : Array Oper} {o : Oper} {a : Act} {K : Act → World → Prop} {Q : Exit → Act → World → Prop} {E : Prop} (hgd : o.guard = none) (s x : Operand) (t : TypeId)
    (ho : o.op = .call { callee := .builtin .append, args := #[s, x], argTypes := #[t, t] })
    (base : Nat) (e : TypeId) (i : TypeInfo) (z : Value) (size bytes : Nat) (ht : P.underlying t = some (.slice e)) (hi : P.info? e = some i) (hz : i.zero = some z)
    (hsize : i.size = size) (hby : i.bytes = bytes) (hzs : z.cells.size = size) (hsz : 0 < size)
    (v : Value) (n : Nat) (xs : List Value) (hs : a.eval s = v) (hown : w.ownsRow base e size v n xs)
    (A : Option Addr) (m c : Nat) (news : List Value) (hx : a.eval x = .slice A m c) (hr : Rd w size A m news) (hc : A = none → c = 0) (h1 : ∀ u ∈ news, u.oneCell' = true)
    (h63 : n + m ≤ maxLen) (hbytes : (n + m) * bytes ≤ 140737488355328) (hbase : base ≤ w.heap.size) (H : Nat) (hH : w.heap.size = H)
    (h : ∀ v' w', w'.ownsRow base e size v' (n + m) (xs ++ news) → w.grownBy w' v.ownBlock → (v'.ownBlock = v.ownBlock ∨ v'.ownBlock = some H) → K (a.put o.dst v') w') :
    if Region.wanted o (yielded ops a.tmps) = true then Oper.wp P o a w K Q else E := by
  have hw : Region.wanted o (yielded ops a.tmps) = true := by simp [Region.wanted, hgd]
  rw [if_pos hw]
  obtain ⟨v', w', hrun, h2, h3, h4⟩ := run_append_any (P := P) (w := w) t o.type base e i z size bytes ht hi hz hsize hby hzs hsz v n xs hown A m c news hr hc h1 h63 hbytes hbase H hH
  unfold Oper.wp execOp
  simp only [ho, resolve, invoke, builtin, Sem.run_bind, Sem.run_pure, Result.andThen_ok, List.map_toArray, List.map_cons, List.map_nil, hs, hx, hrun]
  exact h v' w' h2 h3 h4
theorem wpList_append_any {ops : Array Oper} {rest : List Oper} {o : Oper} {a : Act} {Q : Exit → Act → World → Prop} (hgd : o.guard = none) (s x : Operand) (t : TypeId)
    (ho : o.op = .call { callee := .builtin .append, args := #[s, x], argTypes := #[t, t] })
    (base : Nat) (e : TypeId) (i : TypeInfo) (z : Value) (size bytes : Nat) (ht : P.underlying t = some (.slice e)) (hi : P.info? e = some i) (hz : i.zero = some z)
    (hsize : i.size = size) (hby : i.bytes = bytes) (hzs : z.cells.size = size) (hsz : 0 < size)
    (v : Value) (n : Nat) (xs : List Value) (hs : a.eval s = v) (hown : w.ownsRow base e size v n xs)
    (A : Option Addr) (m c : Nat) (news : List Value) (hx : a.eval x = .slice A m c) (hr : Rd w size A m news) (hc : A = none → c = 0) (h1 : ∀ u ∈ news, u.oneCell' = true)
    (h63 : n + m ≤ maxLen) (hbytes : (n + m) * bytes ≤ 140737488355328) (hbase : base ≤ w.heap.size) (H : Nat) (hH : w.heap.size = H)
    (h : ∀ v' w', w'.ownsRow base e size v' (n + m) (xs ++ news) → w.grownBy w' v.ownBlock → (v'.ownBlock = v.ownBlock ∨ v'.ownBlock = some H) → wpList P ops Q rest (a.put o.dst v') w') : wpList P ops Q (o :: rest) a w :=
  wpList_plain hgd fun _ hK => by
    obtain ⟨v', w', hrun, h2, h3, h4⟩ := run_append_any (P := P) (w := w) t o.type base e i z size bytes ht hi hz hsize hby hzs hsz v n xs hown A m c news hr hc h1 h63 hbytes hbase H hH
    unfold Oper.wp execOp
    simp only [ho, resolve, invoke, builtin, Sem.run_bind, Sem.run_pure, Result.andThen_ok, List.map_toArray, List.map_cons, List.map_nil, hs, hx, hrun]
    exact hK _ _ (h v' w' h2 h3 h4)
end

/-! ### Cut rows -/
theorem cut_lo {w : World} {base : Nat} {e : TypeId} {size n c k : Nat} {A : Option Addr} {xs : List Value} (h : w.ownsRow base e size (.slice A n c) n xs) (hk : k ≤ n) : w.ownsRow base e size (.slice A k c) k (xs.take (k * size)) := by
  cases A with
  | some a => exact own_take h hk
  | none =>
    have h0 : n = 0 ∧ c = 0 := by
      rcases h.2 with ⟨h1, h2⟩ | ⟨g, cap, cur, h1, _⟩
      · injection h1 with _ h3 h4
        exact ⟨h2, h4⟩
      · cases h1
    obtain ⟨rfl, rfl⟩ := h0
    obtain rfl : k = 0 := by omega
    have hx : xs = [] := by have := h.1; simp at this; exact this
    subst hx
    rw [List.take_nil]
    exact World.ownsRow_nil _ _ _ _
theorem cut_hi {w : World} {size n c k : Nat} {A : Option Addr} {xs : List Value} (h : Rd w size A n xs) (hk : k ≤ n) (hc : n ≤ c) : Rd w size (if c = k then A else A.map (·.add (k * size))) (n - k) (xs.drop (k * size)) := by
  refine ⟨by rw [List.length_drop, h.1, Nat.sub_mul], fun j u hu => ?_⟩
  rw [List.getElem?_drop] at hu
  obtain ⟨ad, rfl, hcell⟩ := h.2 _ u hu
  have hlt := (List.getElem?_eq_some_iff.1 hu).1
  rw [h.1] at hlt
  by_cases e : c = k
  · subst e
    obtain rfl : n = c := by omega
    omega
  · rw [if_neg e]
    exact ⟨_, rfl, by rw [add_of_add]; exact hcell⟩
theorem add_zero_ (a : Addr) : a.add 0 = a := by unfold Addr.add; simp
theorem run_lo {P : Program} (t e : TypeId) (size : Nat) (hel : P.elem t = e) (ht : P.underlying t = some (.slice e)) (hs : ∀ W, (sizeOf e).run P W = .ok size W) (A : Option Addr) (n c k : Nat) (hk : k ≤ c) (W : World) :
    (Instr.sliceAt t (.slice A n c) none (some (.int .i64 (k : Int))) none).run P W = .ok (.slice A k c) W := by
  subst hel
  rw [run_sliceAt_slice W t _ _ _ _ ht, run_slice_h W t A n c ht .i64 (k : Int) (by omega) (by omega), hs]
  simp only [Result.andThen_ok, sliced, Int.toNat_natCast, Nat.zero_mul, Nat.sub_zero]
  cases A with
  | none => split <;> rfl
  | some a => rw [Option.map_some, add_zero_, ite_self]
theorem run_hi {P : Program} (t e : TypeId) (size : Nat) (hel : P.elem t = e) (ht : P.underlying t = some (.slice e)) (hs : ∀ W, (sizeOf e).run P W = .ok size W) (A : Option Addr) (n c k : Nat) (hk : k ≤ n) (W : World) :
    (Instr.sliceAt t (.slice A n c) (some (.int .i64 (k : Int))) none none).run P W = .ok (.slice (if c = k then A else A.map (·.add (k * size))) (n - k) (c - k)) W := by
  subst hel
  rw [run_sliceAt_slice W t _ _ _ _ ht, run_slice_l W t A n c ht .i64 (k : Int) (by omega) (by omega), hs]
  simp only [Result.andThen_ok, sliced, Int.toNat_natCast]
/-- A block of one element is a row of its own. -/
theorem own_one {w : World} {base B : Nat} {e : TypeId} {size : Nat} {cs : List Value} (hb : w.heap[B]? = some (.cells cs.toArray e (0, 0))) (hB : base ≤ B) (hl : cs.length = size) : w.ownsRow base e size (.slice (some ⟨B, 0, none⟩) 1 1) 1 cs :=
  ⟨by rw [hl, Nat.one_mul], .inr ⟨B, 1, cs.toArray, rfl, hB, hb, Nat.le_refl _, by unfold maxLen; omega, by simp [hl], by rw [List.toList_toArray, Nat.one_mul]; exact List.take_of_length_le (by omega)⟩⟩
end Go.Proofs.YtioaingenooelaaGreat.App
/-
  vokref6.Norm walked.
-/
namespace Go.Proofs.YtioaingenooelaaGreat.RefNorm
open Go.RowKit Go.Proofs.YtioaingenooelaaGreat.Wd Go.Proofs.YtioaingenooelaaGreat.Pure Go.Proofs.YtioaingenooelaaGreat.Sorted Go.Proofs.YtioaingenooelaaGreat.Norm Go.Proofs.YtioaingenooelaaGreat.App
attribute [local go_sem] max2_i max_i

theorem fl2_take (S : List Span) (k : Nat) : (fl2 S).take (k * 2) = fl2 (S.take k) := by
  induction S generalizing k with
  | nil => simp [fl2]
  | cons x S ih =>
    cases k with
    | zero => simp [fl2]
    | succ k =>
      rw [fl2_cons, List.take_succ_cons, fl2_cons, show (k + 1) * 2 = k * 2 + 1 + 1 from by omega, List.take_succ_cons, List.take_succ_cons, ih]
theorem fl2_drop (S : List Span) (k : Nat) : (fl2 S).drop (k * 2) = fl2 (S.drop k) := by
  induction S generalizing k with
  | nil => simp [fl2]
  | cons x S ih =>
    cases k with
    | zero => simp
    | succ k =>
      rw [fl2_cons, List.drop_succ_cons, show (k + 1) * 2 = k * 2 + 1 + 1 from by omega, List.drop_succ_cons, List.drop_succ_cons, ih]
def Rise (S : List Span) : Prop := S.Pairwise fun x y => x.1 ≤ y.1
/-- One more in its place. -/
theorem put_rise {S : List Span} (h : Rise S) {k : Nat} {x : Span} (hk : k ≤ S.length) (hlo : k = 0 ∨ ∃ y, S[k - 1]? = some y ∧ y.1 ≤ x.1) (hhi : ∀ j y, k ≤ j → S[j]? = some y → x.1 < y.1) : Rise (S.take k ++ (x :: S.drop k)) := by
  have hs : Rise (S.take k ++ S.drop k) := by rw [List.take_append_drop]; exact h
  obtain ⟨h1, h2, h3⟩ := List.pairwise_append.1 hs
  refine List.pairwise_append.2 ⟨h1, List.pairwise_cons.2 ⟨fun y hy => ?_, h2⟩, fun a ha b hb => ?_⟩
  · obtain ⟨j, hj, rfl⟩ := List.getElem_of_mem hy
    have := hhi (k + j) (S.drop k)[j] (Nat.le_add_right _ _) (by rw [← List.getElem?_drop]; exact List.getElem?_eq_getElem hj)
    omega
  · rcases List.mem_cons.1 hb with rfl | hb
    · rcases hlo with rfl | ⟨y, hy, hle⟩
      · simp at ha
      · obtain ⟨j, hj, rfl⟩ := List.getElem_of_mem ha
        rw [List.length_take] at hj
        rw [List.getElem_take]
        obtain ⟨hk1, rfl⟩ := List.getElem?_eq_some_iff.1 hy
        rcases Nat.lt_or_ge j (k - 1) with hlt | hge
        · have := (List.pairwise_iff_getElem.1 h) j (k - 1) (by omega) hk1 hlt
          omega
        · have e : j = k - 1 := by omega
          subst e
          exact hle
    · exact h3 a ha b hb
theorem put_perm (S : List Span) (k : Nat) (x : Span) : (S.take k ++ (x :: S.drop k)).Perm (S ++ [x]) := by
  refine List.perm_middle.trans ?_
  rw [List.take_append_drop]
  exact (List.perm_append_comm (l₁ := [x]) (l₂ := S))
theorem fl2_one' (l : List Span) : ∀ u ∈ fl2 l, u.oneCell' = true := by
  intro u hu
  obtain ⟨x, _, hx⟩ := List.mem_flatMap.1 hu
  exact e2_one x u hx
theorem own_cap {w : World} {base n c : Nat} {e : TypeId} {size : Nat} {A : Option Addr} {xs : List Value} (h : w.ownsRow base e size (.slice A n c) n xs) : A = none → c = 0 := by
  rintro rfl
  rcases h.2 with ⟨h1, _⟩ | ⟨g, cap, cur, h1, _⟩
  · injection h1 with _ _ h4
  · cases h1
set_option maxHeartbeats 16000000 in
set_option maxRecDepth 100000 in
theorem RefNorm_any (A : Option Addr) (c : Nat) (l : List Span) (w : World) (hr : Rd w 2 A l.length (fl2 l)) (hl : l.length ≤ 1000000000000) :
    Calls Tryz.prog 15 #[.slice A l.length c] w (NormPost l w) := by
  have HR := As.mk hr
  clear hr
  obtain ⟨i0, hi, hz0, hz1, hz2⟩ := info_parts info36
  go_enter Tryz.func15, Tryz.ntmps15
  go_wp2
  go_loopw [3, 4] (fun v i wr => ∃ (k : Nat) (S : List Span), k ≤ l.length ∧ i = .int .i64 k ∧ As (wr.ownsRow w.heap.size 36 2 v S.length (fl2 S)) ∧ As (S.Perm ((l.take k).filter full)) ∧ As (Rise S) ∧ As (Below w.heap.size w wr)) (fun _ i _ => l.length - (intOf i).toNat)
  case atStart => exact ⟨0, [], Nat.zero_le _, rfl, ⟨World.ownsRow_nil _ _ _ _⟩, ⟨by simp⟩, ⟨List.Pairwise.nil⟩, ⟨Below.refl _ _⟩⟩
  case round =>
    obtain ⟨k, S, hk, rfl, Hown, Hp, Hs, Hb⟩ := hrel
    by_cases hlt : k < l.length
    · obtain ⟨x, hx0⟩ : ∃ x, l[k]? = some x := ⟨_, List.getElem?_eq_getElem hlt⟩
      obtain ⟨ad, rfl, h1, h2⟩ := (HR.out.belowS Hb.out).at2 hx0
      have Hx := As.mk hx0
      clear hx0
      by_cases hx : x.2 ≤ x.1
      · have hd : decide (x.2 ≤ x.1) = true := decide_eq_true hx
        go_wp2_with fail
        go_quiet (fail)
        go_wp2
        go_roundw
        case rel => exact ⟨k + 1, S, by omega, by go_num, Hown, ⟨by rw [filt_no l k x Hx.out (by omega)]; exact Hp.out⟩, Hs, ⟨below_drewN Hb.out _⟩⟩
        case measure => simp [intOf]; omega
      · have hd : decide (x.2 ≤ x.1) = false := decide_eq_false hx
        have hSl : S.length ≤ l.length := by
          have h3 := Hp.out.length_eq
          have h4 := filt_le l k
          omega
        obtain ⟨A1, c1, rfl, hc1, hc2⟩ := own_form Hown.out
        go_wp2_with fail
        go_quiet (fail)
        go_wp2
        obtain ⟨wa, hwa⟩ : ∃ y, y = wr := ⟨_, rfl⟩
        subst hwa
        have Hown2 := As.mk (own_drewN Hown.out nq)
        have Hb2 := As.mk (below_drewN Hb.out nq)
        have HR2 := As.mk (Rd.drewN (HR.out.belowS Hb.out) nq)
        have h1' : (wa.drewN nq).cell? (ad.add (k * 2)) = some (.int .i64 x.1) := h1
        have h2' : (wa.drewN nq).cell? ⟨(ad.add (k * 2)).block, (ad.add (k * 2)).off + 1, none⟩ = some (.int .i64 x.2) := h2
        obtain ⟨wo, hwo⟩ : ∃ y, y = wa.drewN nq := ⟨_, rfl⟩
        rw [← hwo] at Hown2 Hb2 HR2 h1' h2' ⊢
        clear hwo h1 h2
        go_loopw [5] (fun kk w2 => ∃ (m q : Nat), kk = .int .i64 m ∧ m ≤ S.length ∧ As (∀ j y, m ≤ j → S[j]? = some y → x.1 < y.1) ∧ w2 = wo.drewN q) (fun kk _ => (intOf kk).toNat)
        case atStart => exact ⟨S.length, 0, rfl, Nat.le_refl _, ⟨fun j y hj hy => by rw [List.getElem?_eq_none hj] at hy; cases hy⟩, rfl⟩
        case round =>
          obtain ⟨m, q, rfl, hm, Hhi, rfl⟩ := hrel
          have h1q : (wo.drewN q).cell? (ad.add (k * 2)) = some (.int .i64 x.1) := h1'
          have h2q : (wo.drewN q).cell? ⟨(ad.add (k * 2)).block, (ad.add (k * 2)).off + 1, none⟩ = some (.int .i64 x.2) := h2'
          rcases Nat.eq_zero_or_pos m with h0 | h0
          · have hd2 : decide ((0 : Int) < (m : Int)) = false := decide_eq_false (by omega)
            have Hlo : As (m = 0 ∨ ∃ y, S[m - 1]? = some y ∧ y.1 ≤ x.1) := ⟨.inl h0⟩
            have hd2n : decide (0 < m) = false := decide_eq_false (by omega)
            clear h0
            go_wp2_with fail
            go_quiet (fail)
            go_wp2
            have hcA := own_cap Hown2.out
            have hlo : ∀ W, (Instr.sliceAt 22 (.slice A1 S.length c1) none (some (.int .i64 (m : Int))) none).run Tryz.prog W = .ok (.slice A1 m c1) W := fun W => run_lo 22 36 2 rfl Tryz.underlying22 Tryz.sizeOf36 A1 S.length c1 m (by omega) W
            obtain ⟨A2, hA2⟩ : ∃ a, a = (if c1 = m then A1 else Option.map (fun b : Addr => b.add (m * 2)) A1) := ⟨_, rfl⟩
            have hhi : ∀ W, (Instr.sliceAt 22 (.slice A1 S.length c1) (some (.int .i64 (m : Int))) none none).run Tryz.prog W = .ok (.slice A2 (S.length - m) (c1 - m)) W := fun W => by rw [hA2]; exact run_hi 22 36 2 rfl Tryz.underlying22 Tryz.sizeOf36 A1 S.length c1 m hm W
            have HA2 : As (Rd wo 2 A2 (S.length - m) (fl2 (S.drop m))) := ⟨by rw [hA2, ← fl2_drop]; exact cut_hi (Rd.of_own Hown2.out) hm hc1⟩
            have HcA2 : As (A2 = none → c1 - m = 0) := ⟨fun e => by
              rw [hA2] at e
              by_cases e1 : c1 = m
              · omega
              · rw [if_neg e1] at e
                cases hq : A1 with
                | none => rw [hcA hq]; omega
                | some b => rw [hq] at e; cases e⟩
            have Hlo2 : As (wo.ownsRow w.heap.size 36 2 (.slice A1 m c1) m (fl2 (S.take m))) := ⟨by rw [← fl2_take]; exact cut_lo Hown2.out hm⟩
            have HoneD : As (∀ u ∈ fl2 (S.drop m), u.oneCell' = true) := ⟨fl2_one' _⟩
            have hmS : S.length - m ≤ 1000000000000 := by omega
            have hmm : m ≤ 1000000000000 := by omega
            have Hwo : As (w.heap.size ≤ wo.heap.size) := ⟨Hb2.out.size⟩
            clear hA2 hcA
            go_region_law (first
              | (refine step_append_any rfl (.tmp 53) (.tmp 56) 22 rfl w.heap.size 36 i0 (.agg #[.int .i64 0, .int .i64 0]) 2 16 Tryz.underlying22 hi hz0 hz1 hz2 rfl (by decide) (.slice (some ⟨wo.heap.size, 0, none⟩) 1 1) 1 (e2 x) rfl (by exact own_one (heap_alloc_new _ _) Hwo.out rfl) A2 (S.length - m) (c1 - m) (fl2 (S.drop m)) rfl (by exact Rd.alloc HA2.out _) HcA2.out HoneD.out (by unfold maxLen; omega) (by omega) (by simp; have := Hwo.out; omega) _ rfl ?_
                 intro v7 w7 hown7 hg7 hat7
                 obtain ⟨A7, c7, rfl, hc7, _⟩ := own_form hown7)
              | (refine step_append_any rfl (.tmp 48) (.tmp 57) 22 rfl w.heap.size 36 i0 (.agg #[.int .i64 0, .int .i64 0]) 2 16 Tryz.underlying22 hi hz0 hz1 hz2 rfl (by decide) (.slice A1 m c1) m (fl2 (S.take m)) rfl (by exact own_move (World.ownsRow.alloc Hlo2.out _) fun j hj => hg7.block j (by simp; have := (Hlo2.out.lt j hj).2; omega) (fun e => by have := (Hlo2.out.lt j hj).2; simp [Value.ownBlock] at e; omega)) A7 (1 + (S.length - m)) c7 (e2 x ++ fl2 (S.drop m)) rfl (by exact Rd.of_own hown7) (own_cap hown7) (by intro u hu; rcases List.mem_append.1 hu with hu | hu; exact e2_one x u hu; exact HoneD.out u hu) (by unfold maxLen; omega) (by omega) (by have h1 := hg7.size; have h2 := Hwo.out; simp at h1; omega) _ rfl ?_
                 intro v8 w8 hown8 hg8 hat8))
            have hbw8 : Below w.heap.size w w8 := (((below_drewN Hb2.out _).alloc Hwo.out _).grown hg7 (by simp; have := Hwo.out; omega) (fun j hj => by have := Hwo.out; simp [Value.ownBlock] at hj; omega)).grown hg8 (by have h1 := hg7.size; have h2 := Hwo.out; simp at h1; omega) (fun j hj => (Hlo2.out.lt j hj).1)
            have hlen8 : (S.take m ++ (x :: S.drop m)).length = m + (1 + (S.length - m)) := by rw [List.length_append, List.length_cons, List.length_take, List.length_drop]; omega
            have hown9 : w8.ownsRow w.heap.size 36 2 v8 (S.take m ++ (x :: S.drop m)).length (fl2 (S.take m ++ (x :: S.drop m))) := by rw [hlen8, fl2_append, show fl2 (x :: S.drop m) = e2 x ++ fl2 (S.drop m) from rfl]; exact hown8
            have Hown9 := As.mk hown9
            have Hbw8 := As.mk hbw8
            have Hp9 : As ((S.take m ++ (x :: S.drop m)).Perm ((l.take (k + 1)).filter full)) := ⟨by rw [filt_yes l k x Hx.out (by omega)]; exact (put_perm S m x).trans (Hp.out.append_right [x])⟩
            have Hs9 := As.mk (put_rise Hs.out hm Hlo.out Hhi.out)
            clear hbw8 hlen8 hown9 hown8 hg8 hat8 hown7 hg7 hat7 hc7 hlo hhi
            go_wp2
            go_roundw
            case rel => exact ⟨k + 1, _, by omega, by go_num, Hown9, Hp9, Hs9, Hbw8⟩
            case measure => simp [intOf]; omega
          · obtain ⟨p, rfl⟩ : ∃ p, m = p + 1 := ⟨m - 1, by omega⟩
            obtain ⟨y, hy0⟩ : ∃ y, S[p]? = some y := ⟨_, List.getElem?_eq_getElem (by omega)⟩
            obtain ⟨ad1, rfl, g1, g2⟩ := (Rd.of_own Hown2.out).at2 hy0
            have Hy := As.mk hy0
            have hn0 : (0 : Int) < (p : Int) + 1 := by omega
            have hpS : p < S.length := by omega
            have hwp : IntKind.i64.wrap (p : Int) = (p : Int) := IntWalk.i64_in _ (by omega)
            clear hy0 h0
            by_cases hgt : x.1 < y.1
            · have hd3 : decide (x.1 < y.1) = true := decide_eq_true hgt
              have Hhi2 : As (∀ j z, p ≤ j → S[j]? = some z → x.1 < z.1) := ⟨fun j z hj hz => by
                rcases Nat.lt_or_eq_of_le hj with h | h
                · exact Hhi.out j z h hz
                · subst h
                  rw [Hy.out] at hz
                  injection hz with hz
                  rw [← hz]
                  exact hgt⟩
              clear hgt
              go_wp2_with fail
              go_quiet (fail)
              go_wp2
              go_roundw
              case rel => exact ⟨p, _, by go_num, by omega, Hhi2, rfl⟩
              case measure => simp [intOf]
            · have hd3 : decide (x.1 < y.1) = false := decide_eq_false hgt
              have Hlo : As (p + 1 = 0 ∨ ∃ y, S[p + 1 - 1]? = some y ∧ y.1 ≤ x.1) := ⟨.inr ⟨y, Hy.out, by omega⟩⟩
              clear hgt
              go_wp2_with fail
              go_quiet (fail)
              go_wp2
              obtain ⟨m, hmp⟩ : ∃ m, m = p + 1 := ⟨_, rfl⟩
              rw [← hmp] at Hlo Hhi hm ⊢
              clear hmp hn0 hwp hpS Hy g1 g2 hd3
              have hcA := own_cap Hown2.out
              have hlo : ∀ W, (Instr.sliceAt 22 (.slice (some ad1) S.length c1) none (some (.int .i64 (m : Int))) none).run Tryz.prog W = .ok (.slice (some ad1) m c1) W := fun W => run_lo 22 36 2 rfl Tryz.underlying22 Tryz.sizeOf36 (some ad1) S.length c1 m (by omega) W
              obtain ⟨A2, hA2⟩ : ∃ a, a = (if c1 = m then (some ad1) else Option.map (fun b : Addr => b.add (m * 2)) (some ad1)) := ⟨_, rfl⟩
              have hhi : ∀ W, (Instr.sliceAt 22 (.slice (some ad1) S.length c1) (some (.int .i64 (m : Int))) none none).run Tryz.prog W = .ok (.slice A2 (S.length - m) (c1 - m)) W := fun W => by rw [hA2]; exact run_hi 22 36 2 rfl Tryz.underlying22 Tryz.sizeOf36 (some ad1) S.length c1 m hm W
              have HA2 : As (Rd wo 2 A2 (S.length - m) (fl2 (S.drop m))) := ⟨by rw [hA2, ← fl2_drop]; exact cut_hi (Rd.of_own Hown2.out) hm hc1⟩
              have HcA2 : As (A2 = none → c1 - m = 0) := ⟨fun e => by
                rw [hA2] at e
                by_cases e1 : c1 = m
                · omega
                · rw [if_neg e1] at e
                  cases hq : (some ad1) with
                  | none => rw [hcA hq]; omega
                  | some b => rw [hq] at e; cases e⟩
              have Hlo2 : As (wo.ownsRow w.heap.size 36 2 (.slice (some ad1) m c1) m (fl2 (S.take m))) := ⟨by rw [← fl2_take]; exact cut_lo Hown2.out hm⟩
              have HoneD : As (∀ u ∈ fl2 (S.drop m), u.oneCell' = true) := ⟨fl2_one' _⟩
              have hmS : S.length - m ≤ 1000000000000 := by omega
              have hmm : m ≤ 1000000000000 := by omega
              have Hwo : As (w.heap.size ≤ wo.heap.size) := ⟨Hb2.out.size⟩
              clear hA2 hcA
              go_region_law (first
                | (refine step_append_any rfl (.tmp 53) (.tmp 56) 22 rfl w.heap.size 36 i0 (.agg #[.int .i64 0, .int .i64 0]) 2 16 Tryz.underlying22 hi hz0 hz1 hz2 rfl (by decide) (.slice (some ⟨wo.heap.size, 0, none⟩) 1 1) 1 (e2 x) rfl (by exact own_one (heap_alloc_new _ _) Hwo.out rfl) A2 (S.length - m) (c1 - m) (fl2 (S.drop m)) rfl (by exact Rd.alloc HA2.out _) HcA2.out HoneD.out (by unfold maxLen; omega) (by omega) (by simp; have := Hwo.out; omega) _ rfl ?_
                   intro v7 w7 hown7 hg7 hat7
                   obtain ⟨A7, c7, rfl, hc7, _⟩ := own_form hown7)
                | (refine step_append_any rfl (.tmp 48) (.tmp 57) 22 rfl w.heap.size 36 i0 (.agg #[.int .i64 0, .int .i64 0]) 2 16 Tryz.underlying22 hi hz0 hz1 hz2 rfl (by decide) (.slice (some ad1) m c1) m (fl2 (S.take m)) rfl (by exact own_move (World.ownsRow.alloc Hlo2.out _) fun j hj => hg7.block j (by simp; have := (Hlo2.out.lt j hj).2; omega) (fun e => by have := (Hlo2.out.lt j hj).2; simp [Value.ownBlock] at e; omega)) A7 (1 + (S.length - m)) c7 (e2 x ++ fl2 (S.drop m)) rfl (by exact Rd.of_own hown7) (own_cap hown7) (by intro u hu; rcases List.mem_append.1 hu with hu | hu; exact e2_one x u hu; exact HoneD.out u hu) (by unfold maxLen; omega) (by omega) (by have h1 := hg7.size; have h2 := Hwo.out; simp at h1; omega) _ rfl ?_
                   intro v8 w8 hown8 hg8 hat8))
              have hbw8 : Below w.heap.size w w8 := (((below_drewN Hb2.out _).alloc Hwo.out _).grown hg7 (by simp; have := Hwo.out; omega) (fun j hj => by have := Hwo.out; simp [Value.ownBlock] at hj; omega)).grown hg8 (by have h1 := hg7.size; have h2 := Hwo.out; simp at h1; omega) (fun j hj => (Hlo2.out.lt j hj).1)
              have hlen8 : (S.take m ++ (x :: S.drop m)).length = m + (1 + (S.length - m)) := by rw [List.length_append, List.length_cons, List.length_take, List.length_drop]; omega
              have hown9 : w8.ownsRow w.heap.size 36 2 v8 (S.take m ++ (x :: S.drop m)).length (fl2 (S.take m ++ (x :: S.drop m))) := by rw [hlen8, fl2_append, show fl2 (x :: S.drop m) = e2 x ++ fl2 (S.drop m) from rfl]; exact hown8
              have Hown9 := As.mk hown9
              have Hbw8 := As.mk hbw8
              have Hp9 : As ((S.take m ++ (x :: S.drop m)).Perm ((l.take (k + 1)).filter full)) := ⟨by rw [filt_yes l k x Hx.out (by omega)]; exact (put_perm S m x).trans (Hp.out.append_right [x])⟩
              have Hs9 := As.mk (put_rise Hs.out hm Hlo.out Hhi.out)
              clear hbw8 hlen8 hown9 hown8 hg8 hat8 hown7 hg7 hat7 hc7 hlo hhi
              go_wp2
              go_roundw
              case rel => exact ⟨k + 1, _, by omega, by go_num, Hown9, Hp9, Hs9, Hbw8⟩
              case measure => simp [intOf]; omega
    · obtain rfl : k = l.length := by omega
      have hp := Hp.out
      rw [List.take_length] at hp
      have hSl : S.length ≤ l.length := by have h3 := hp.length_eq; have h4 := List.length_filter_le full l; omega
      obtain ⟨A1, c1, rfl, hc1, _⟩ := own_form Hown.out
      have Hpf := As.mk hp
      clear hp
      obtain ⟨wa, hwa⟩ : ∃ y, y = wr := ⟨_, rfl⟩
      subst hwa
      have hba := Hb.out.size
      go_wp2
      go_loopw [6, 7] (fun v i wr => ∃ k : Nat, k ≤ S.length ∧ i = .int .i64 k ∧ wr.ownsRow wa.heap.size 36 2 v (join (S.take k)).length (fl2 (join (S.take k))) ∧ Below wa.heap.size wa wr) (fun _ i _ => S.length - (intOf i).toNat)
      case atStart => exact ⟨0, Nat.zero_le _, rfl, by simpa [fl2, join] using World.ownsRow_nil _ _ _ _, Below.refl _ _⟩
      case round =>
        obtain ⟨k, hk, rfl, hown, hb2⟩ := hrel
        by_cases hlt : k < S.length
        · obtain ⟨x, hx0⟩ : ∃ x, S[k]? = some x := ⟨_, List.getElem?_eq_getElem hlt⟩
          obtain ⟨ad, rfl, h1, h2⟩ := ((Rd.of_own Hown.out).belowS hb2).at2 hx0
          have Hx := As.mk hx0
          clear hx0
          have hjl := join_take_le S k
          generalize hj : join (S.take k) = out at hown hjl
          have Hj := As.mk hj
          clear hj
          rcases snoc_of out with rfl | ⟨o0, t, rfl⟩
          · obtain ⟨A3, c3, rfl, _, _⟩ := own_form hown
            simp only [List.length_nil] at hown
            go_wp2
            go_quiet (fail)
            go_wp2_with (at_builtin; refine wpList_append_own _ rfl (.tmp 100) (.tmp 105) 22 rfl wa.heap.size 36 i0 (.agg #[.int .i64 0, .int .i64 0]) 2 16 Tryz.underlying22 hi hz0 hz1 hz2 rfl (by decide) _ _ _ rfl ((own_drewN hown _).alloc _) ⟨wr.heap.size, 0, none⟩ 1 1 (e2 x) rfl rfl ?d1 ?d2 ?d3 ?d4 ?d5 ?_)
            case d1 => intro j u hu; exact cell_new2 _ x _ _ rfl j u hu
            case d2 => exact e2_one x
            case d3 => unfold maxLen; omega
            case d4 => omega
            case d5 => simp; have := hb2.size; omega
            intro v' w1 hown' hg _
            go_wp2
            go_roundw
            case rel =>
              refine ⟨k + 1, by omega, by go_num, ?_, ?_⟩
              · rw [join_yes S k x _ Hx.out Hj.out, joinStep_nil]; exact hown'
              · exact ((below_drewN hb2 _).alloc hb2.size _).grown hg (by simp; have := hb2.size; omega) (fun j hj => (hown.lt j hj).1)
            case measure => simp [intOf]; omega
          · obtain ⟨g3, c3, rfl, hg3, _⟩ := hown.form (by simp)
            obtain ⟨_, c3', he3, hc3, _⟩ := own_form hown
            have hn0 : (0 : Int) < (o0.length : Int) + 1 := by omega
            obtain ⟨ad3, hae, h5, h6⟩ := (Rd.of_own hown).at2 (k := o0.length) (x := t) (by simp)
            have hz3 : wr.frozen? ⟨(ad3.add (o0.length * 2)).block, (ad3.add (o0.length * 2)).off + 1, none⟩ = false := by
              injection hae with hae
              subst hae
              rw [add_plain]
              exact hown.frozenAt _
            have Hae := As.mk hae
            rw [hae] at hown ⊢
            clear hae he3
            have hol : (o0 ++ [t]).length = o0.length + 1 := by simp
            rw [hol] at hjl hown ⊢
            have Hol := As.mk hol
            have hwo0 : IntKind.i64.wrap (o0.length : Int) = (o0.length : Int) := IntWalk.i64_in _ (by omega)
            clear hol
            by_cases hm : x.1 ≤ t.2
            · go_wp2
              go_quiet (fail)
              go_wp2
              go_region
              go_wp2
              go_roundw
              case rel =>
                have hae := Hae.out
                injection hae with hae
                subst hae
                refine ⟨k + 1, by omega, by go_num, ?_, ?_⟩
                · rw [join_yes S k x _ Hx.out Hj.out, joinStep_join (by simp) hm, fl2_last]
                  rw [add_plain]
                  rw [show ((o0 ++ [t]).dropLast ++ [(t.1, max t.2 x.2)]).length = o0.length + 1 from by simp]
                  exact ((own_drewN hown _).stored _ _).1
                · exact (below_drewN hb2 _).setCell (by rw [add_plain]; exact hg3) _
              case measure => simp [intOf]; omega
            · go_wp2
              go_quiet (fail)
              go_wp2_with (at_builtin; (refine wpList_append_own _ rfl (.tmp 100) (.tmp 105) 22 rfl wa.heap.size 36 i0 (.agg #[.int .i64 0, .int .i64 0]) 2 16 Tryz.underlying22 hi hz0 hz1 hz2 rfl (by decide) _ _ _ rfl ((own_drewN hown _).alloc _) ⟨wr.heap.size, 0, none⟩ 1 1 (e2 x) rfl rfl ?f1 ?f2 ?f3 ?f4 ?f5 ?_))
              case f1 => intro j u hu; exact cell_new2 _ x _ _ rfl j u hu
              case f2 => exact e2_one x
              case f3 => unfold maxLen; omega
              case f4 => omega
              case f5 => simp; have := hb2.size; omega
              intro v' w1 hown' hg _
              go_wp2
              go_roundw
              case rel =>
                refine ⟨k + 1, by omega, by go_num, ?_, ?_⟩
                · rw [join_yes S k x _ Hx.out Hj.out, joinStep_new (by simp) (show ¬ x.1 ≤ t.2 by omega), fl2_append, fl2_one, List.length_append, Hol.out]; exact hown'
                · exact ((below_drewN hb2 _).alloc hb2.size _).grown hg (by simp; have := hb2.size; omega) (fun j hj => (hown.lt j hj).1)
              case measure => simp [intOf]; omega
        · obtain rfl : k = S.length := by omega
          rw [List.take_length] at hown
          have Hw := As.mk hown
          have Hb2' := As.mk hb2
          clear hown hb2
          go_wp2
          go_ret
          exact ⟨_, S, rfl, Hpf.out, Hs.out, own_mono Hw.out hba, Hb.out.trans (Hb2'.out.mono hba)⟩
theorem RefNorm_calls (A : Option Addr) (c : Nat) (l : List Span) (w : World) (hr : Rd w 2 A l.length (fl2 l)) (hl : l.length ≤ 1000000000000) :
    Calls Tryz.prog 15 #[.slice A l.length c] w (Row2 (norm l) w) := by
  refine (RefNorm_any A c l w hr hl).mono ?_
  rintro e w' ⟨v, l2, rfl, hp, hs, h1, h2⟩
  rw [norm_of l l2 hp hs] at h1
  exact ⟨v, rfl, h1, h2⟩
end Go.Proofs.YtioaingenooelaaGreat.RefNorm
