import Derived.Test.YtioaingenooelaaGreatAx0
import Derived.Test.YtioaingenooelaaGreatAx1
namespace Go.Proofs.YtioaingenooelaaGreat.L
open Go.RowKit Go.Proofs.YtioaingenooelaaGreatW.PrintWords Go.Proofs.YtioaingenooelaaGreatW.PrintLast Go.Proofs.YtioaingenooelaaGreatW.PrintMore
attribute [local go_sem] max2_int min2_int max_two min_two max_three min_three max_four min_four   -- for this text's walks alone
set_option linter.unusedVariables false
set_option linter.unusedSimpArgs false

/-! ### zone_mayYears: function 84 -/
def zone_mayYears.l0 : Nat → List (S113) → List (S113) → Int → Int → Option (Bool)
  | 0, _, _, _, _ => none
  | k + 1, x0, x6, x7, x8 => if x8 < x7 then (if 0 ≤ x8 then (if x8 < (x6.length : Int) then (if ((rd_T113 x6 x8).f0) < 1 then (some false) else (if ((rd_T113 x6 x8).f0) > 12 then (some false) else (if ((rd_T113 x6 x8).f1) < 1 then (some false) else (if ((rd_T113 x6 x8).f1) > 5 then (some false) else (if ((rd_T113 x6 x8).f2) < 0 then (some false) else (if ((rd_T113 x6 x8).f2) > 6 then (some false) else (if ((rd_T113 x6 x8).f3) < 0 then (some false) else (if ((rd_T113 x6 x8).f3) ≥ 86400 then (some false) else ((zone_offset.f ((rd_T113 x6 x8).f4)).bind fun t115 => (if t115 = true then (zone_mayYears.l0 k x0 x6 x7 (wrap64 (x8 + 1))) else (some false))))))))))) else (none)) else (none)) else (if 1 < (x0.length : Int) then (if 0 < (x0.length : Int) then (if (wrap64 (((rd_T113 x0 1).f0) - ((rd_T113 x0 0).f0))) ≥ 2 then (some (decide ((wrap64 (((rd_T113 x0 1).f0) - ((rd_T113 x0 0).f0))) ≤ 10))) else (some false)) else (none)) else (none))
def zone_mayYears.f (k : Nat) (l0 : List (S113)) : Option (Bool) := zone_mayYears.l0 k l0 l0 (l0.length : Int) 0
theorem zone_mayYears.mono_l : ∀ k, (∀ y0 y1 y2 y3, LeO (zone_mayYears.l0 k y0 y1 y2 y3) (zone_mayYears.l0 (k + 1) y0 y1 y2 y3))
  | 0 => fun _ _ _ _ r h => by simp [zone_mayYears.l0] at h
  | k + 1 => by
    have ih0 := zone_mayYears.mono_l k
    · intro y0 y1 y2 y3
      unfold zone_mayYears.l0
      repeat' first
      | (with_reducible exact ih0 _ _ _ _)
      | (with_reducible exact LeO.refl _)
      | (with_reducible exact LeO.none _)
      | (with_reducible refine LeO.ite ?_ ?_)
      | (with_reducible refine LeO.bind ?_ (fun _ => ?_))
      | exact ih0 _ _ _ _
      | exact LeO.none _
      | refine LeO.ite ?_ ?_
      | refine LeO.bind ?_ (fun _ => ?_)
theorem zone_mayYears.mono : ∀ a0 k, LeO (zone_mayYears.f k a0) (zone_mayYears.f (k + 1) a0) := by
  intro a0 k
  have ih0 := zone_mayYears.mono_l k
  unfold zone_mayYears.f
  repeat' first
      | (with_reducible exact ih0 _ _ _ _)
      | (with_reducible exact LeO.refl _)
      | (with_reducible exact LeO.none _)
      | (with_reducible refine LeO.ite ?_ ?_)
      | (with_reducible refine LeO.bind ?_ (fun _ => ?_))
      | exact ih0 _ _ _ _
      | exact LeO.none _
      | refine LeO.ite ?_ ?_
      | refine LeO.bind ?_ (fun _ => ?_)
set_option maxHeartbeats 8000000 in
set_option maxRecDepth 100000 in
theorem zone_mayYears.calls (k : Nat) (A0 : Option Addr) (c0 : Nat) (l0 : List (S113)) (r : Bool) (w : World) (hr0 : Kd.C k113 w A0 l0.length l0) (hc0 : l0.length ≤ c0) (h : zone_mayYears.f k l0 = some r) :
    Calls Tryz.prog 84 #[.slice A0 l0.length c0] w fun e w' => e = .returned (.bool r) ∧ Below w.heap.size w w' := by
  have hu113 := Tryz.underlying113
  have HR0 := Aside0.mk hr0
  have HC0 := Aside0.mk hc0
  clear hr0 hc0
  have HB := Aside0.mk (Below.refl w.heap.size w)
  have H : (zone_mayYears.l0 k l0 l0 (l0.length : Int) 0) = some r := h
  clear h
  have H' := Aside0.mk H
  clear H
  go_enter Tryz.func84, Tryz.ntmps84
  go_wp2
  repeat (go_quiet (fail); try go_wp2)
  go_loopg [8] k (fun kq v8 w' => ∃ (x8_1 : Int), v8 = .int .i64 x8_1 ∧ Aside0 (zone_mayYears.l0 kq l0 l0 (l0.length : Int) x8_1 = some r) ∧ Aside0 (kq ≤ k) ∧ Aside0 (Below w.heap.size w w'))
  case atStart => exact ⟨(0), (by first | rfl | (simp; done) | (simp [*]; done)), H', ⟨Nat.le_refl _⟩, ⟨by repeat (first | (with_reducible first | exact HB.out | apply below_alloc | apply pw_below_drewN | apply below_drew1) | exact HB.out)⟩⟩
  case round =>
    clear H'
    obtain ⟨x8_1, rfl, HA, HK1, HB⟩ := hrel
    cases gk with
    | zero => exact absurd HA.out (by simp [zone_mayYears.l0])
    | succ k1 =>
      have H := HA.out
      clear HA
      simp only [zone_mayYears.l0] at H
      by_cases c2 : x8_1 < (l0.length : Int)
      · rw [if_pos c2] at H
        have c2b0 : decide (x8_1 < (l0.length : Int)) = true := decide_eq_true c2
        clear c2
        by_cases c3 : 0 ≤ x8_1
        · rw [if_pos c3] at H
          have c3b0 : decide (0 ≤ x8_1) = true := decide_eq_true c3
          clear c3
          by_cases c4 : x8_1 < (l0.length : Int)
          · rw [if_pos c4] at H
            have c4b0 : decide (x8_1 < (l0.length : Int)) = true := decide_eq_true c4
            clear c4
            by_cases c5 : ((rd_T113 l0 x8_1).f0) < 1
            · rw [if_pos c5] at H
              have c5b0 : decide (((rd_T113 l0 x8_1).f0) < 1) = true := decide_eq_true c5
              clear c5
              obtain rfl := Option.some.inj H
              have p113 : 0 ≤ (x8_1 : Int) := of_decide_eq_true (by first | (with_reducible assumption) | assumption)
              have q113 : x8_1 < (l0.length : Int) := of_decide_eq_true (by first | (with_reducible assumption) | assumption)
              obtain ⟨ad113, e113, hx113_0, hx113_1, hx113_2, hx113_3, hx113_4⟩ := at_T113 HR0.out x8_1 p113 q113
              cases e113
              replace hx113_0 := (HB.out.cell (World.block_lt_of_cell? w _ hx113_0)).trans hx113_0
              replace hx113_1 := (HB.out.cell (World.block_lt_of_cell? w _ hx113_1)).trans hx113_1
              replace hx113_2 := (HB.out.cell (World.block_lt_of_cell? w _ hx113_2)).trans hx113_2
              replace hx113_3 := (HB.out.cell (World.block_lt_of_cell? w _ hx113_3)).trans hx113_3
              replace hx113_4 := (HB.out.cell (World.block_lt_of_cell? w _ hx113_4)).trans hx113_4
              replace p113 := eq_true p113
              replace q113 := eq_true q113
              go_wp2_with (first | ((with_reducible refine gate_dst (N := 4) rfl ?_); refine box_event ?hg (N := 4) ?hd (cs := #[.int .i64 0, .int .i64 0, .int .i64 0, .int .i64 0, .int .i64 0]) (t := 113) ?hr ?_; (case hd => rfl); (case hg => rfl); (case hr => first | (go_simp; done) | (go_simp; rfl)); intro gb114 hg w6 hbox hb; have n0_ := Aside0.mk (below_step (by repeat (first | (with_reducible first | exact HB.out | apply below_alloc | apply pw_below_drewN | apply below_drew1) | exact HB.out)) hb); have n1_ := Aside0.mk (hbox); have n2_ := Aside0.mk ((by rw [hg]; exact (below_size (by repeat (first | (with_reducible first | exact HB.out | apply below_alloc | apply pw_below_drewN | apply below_drew1) | exact HB.out))) : w.heap.size ≤ gb114)); have n3_ := Aside0.mk ((by rw [hg]; exact (below_size (by repeat (first | (with_reducible first | exact HB.out | apply below_alloc | apply pw_below_drewN | apply below_drew1) | exact HB.out))) : w.heap.size ≤ gb114)); clear HB; have HB := n0_; have BK114 := n1_; have GW114 := n2_; have GE114 := n3_; clear n0_ n1_ n2_ n3_; clear hb hbox hg; have hcz7_0 : w6.cell? ⟨gb114, 0, none⟩ = some (.int .i64 0) := (blk_cell BK114.out 0).trans rfl; have hcz7_1 : w6.cell? ⟨gb114, 1, none⟩ = some (.int .i64 0) := (blk_cell BK114.out 1).trans rfl; have hcz7_2 : w6.cell? ⟨gb114, 2, none⟩ = some (.int .i64 0) := (blk_cell BK114.out 2).trans rfl; have hcz7_3 : w6.cell? ⟨gb114, 3, none⟩ = some (.int .i64 0) := (blk_cell BK114.out 3).trans rfl; have hcz7_4 : w6.cell? ⟨gb114, 4, none⟩ = some (.int .i64 0) := (blk_cell BK114.out 4).trans rfl; have hfz7_0 := blk_frozen BK114.out 0; have hfz7_1 := blk_frozen BK114.out 1; have hfz7_2 := blk_frozen BK114.out 2; have hfz7_3 := blk_frozen BK114.out 3; have hfz7_4 := blk_frozen BK114.out 4))
              repeat (go_quiet (first | ((with_reducible refine gate_dst (N := 4) rfl ?_); refine box_event ?hg (N := 4) ?hd (cs := #[.int .i64 0, .int .i64 0, .int .i64 0, .int .i64 0, .int .i64 0]) (t := 113) ?hr ?_; (case hd => rfl); (case hg => rfl); (case hr => first | (go_simp; done) | (go_simp; rfl)); intro gb114 hg w6 hbox hb; have n0_ := Aside0.mk (below_step (by repeat (first | (with_reducible first | exact HB.out | apply below_alloc | apply pw_below_drewN | apply below_drew1) | exact HB.out)) hb); have n1_ := Aside0.mk (hbox); have n2_ := Aside0.mk ((by rw [hg]; exact (below_size (by repeat (first | (with_reducible first | exact HB.out | apply below_alloc | apply pw_below_drewN | apply below_drew1) | exact HB.out))) : w.heap.size ≤ gb114)); have n3_ := Aside0.mk ((by rw [hg]; exact (below_size (by repeat (first | (with_reducible first | exact HB.out | apply below_alloc | apply pw_below_drewN | apply below_drew1) | exact HB.out))) : w.heap.size ≤ gb114)); clear HB; have HB := n0_; have BK114 := n1_; have GW114 := n2_; have GE114 := n3_; clear n0_ n1_ n2_ n3_; clear hb hbox hg; have hcz7_0 : w6.cell? ⟨gb114, 0, none⟩ = some (.int .i64 0) := (blk_cell BK114.out 0).trans rfl; have hcz7_1 : w6.cell? ⟨gb114, 1, none⟩ = some (.int .i64 0) := (blk_cell BK114.out 1).trans rfl; have hcz7_2 : w6.cell? ⟨gb114, 2, none⟩ = some (.int .i64 0) := (blk_cell BK114.out 2).trans rfl; have hcz7_3 : w6.cell? ⟨gb114, 3, none⟩ = some (.int .i64 0) := (blk_cell BK114.out 3).trans rfl; have hcz7_4 : w6.cell? ⟨gb114, 4, none⟩ = some (.int .i64 0) := (blk_cell BK114.out 4).trans rfl; have hfz7_0 := blk_frozen BK114.out 0; have hfz7_1 := blk_frozen BK114.out 1; have hfz7_2 := blk_frozen BK114.out 2; have hfz7_3 := blk_frozen BK114.out 3; have hfz7_4 := blk_frozen BK114.out 4)); try go_wp2_with (first | ((with_reducible refine gate_dst (N := 4) rfl ?_); refine box_event ?hg (N := 4) ?hd (cs := #[.int .i64 0, .int .i64 0, .int .i64 0, .int .i64 0, .int .i64 0]) (t := 113) ?hr ?_; (case hd => rfl); (case hg => rfl); (case hr => first | (go_simp; done) | (go_simp; rfl)); intro gb114 hg w6 hbox hb; have n0_ := Aside0.mk (below_step (by repeat (first | (with_reducible first | exact HB.out | apply below_alloc | apply pw_below_drewN | apply below_drew1) | exact HB.out)) hb); have n1_ := Aside0.mk (hbox); have n2_ := Aside0.mk ((by rw [hg]; exact (below_size (by repeat (first | (with_reducible first | exact HB.out | apply below_alloc | apply pw_below_drewN | apply below_drew1) | exact HB.out))) : w.heap.size ≤ gb114)); have n3_ := Aside0.mk ((by rw [hg]; exact (below_size (by repeat (first | (with_reducible first | exact HB.out | apply below_alloc | apply pw_below_drewN | apply below_drew1) | exact HB.out))) : w.heap.size ≤ gb114)); clear HB; have HB := n0_; have BK114 := n1_; have GW114 := n2_; have GE114 := n3_; clear n0_ n1_ n2_ n3_; clear hb hbox hg; have hcz7_0 : w6.cell? ⟨gb114, 0, none⟩ = some (.int .i64 0) := (blk_cell BK114.out 0).trans rfl; have hcz7_1 : w6.cell? ⟨gb114, 1, none⟩ = some (.int .i64 0) := (blk_cell BK114.out 1).trans rfl; have hcz7_2 : w6.cell? ⟨gb114, 2, none⟩ = some (.int .i64 0) := (blk_cell BK114.out 2).trans rfl; have hcz7_3 : w6.cell? ⟨gb114, 3, none⟩ = some (.int .i64 0) := (blk_cell BK114.out 3).trans rfl; have hcz7_4 : w6.cell? ⟨gb114, 4, none⟩ = some (.int .i64 0) := (blk_cell BK114.out 4).trans rfl; have hfz7_0 := blk_frozen BK114.out 0; have hfz7_1 := blk_frozen BK114.out 1; have hfz7_2 := blk_frozen BK114.out 2; have hfz7_3 := blk_frozen BK114.out 3; have hfz7_4 := blk_frozen BK114.out 4)))
              go_ret
              exact ⟨by first | rfl | (simp [errW_none, errW_some] <;> rfl) | (simp [*, errW_none, errW_some] <;> rfl), by repeat (first | (with_reducible first | exact HB.out | apply below_alloc | apply pw_below_drewN | apply below_drew1 | refine below_set ?_ GE114.out) | exact HB.out)⟩
            · rw [if_neg c5] at H
              have c5b0 : decide (((rd_T113 l0 x8_1).f0) < 1) = false := decide_eq_false c5
              clear c5
              by_cases c8 : ((rd_T113 l0 x8_1).f0) > 12
              · rw [if_pos c8] at H
                have c8b0 : decide (12 < ((rd_T113 l0 x8_1).f0)) = true := decide_eq_true c8
                clear c8
                obtain rfl := Option.some.inj H
                have p113 : 0 ≤ (x8_1 : Int) := of_decide_eq_true (by first | (with_reducible assumption) | assumption)
                have q113 : x8_1 < (l0.length : Int) := of_decide_eq_true (by first | (with_reducible assumption) | assumption)
                obtain ⟨ad113, e113, hx113_0, hx113_1, hx113_2, hx113_3, hx113_4⟩ := at_T113 HR0.out x8_1 p113 q113
                cases e113
                replace hx113_0 := (HB.out.cell (World.block_lt_of_cell? w _ hx113_0)).trans hx113_0
                replace hx113_1 := (HB.out.cell (World.block_lt_of_cell? w _ hx113_1)).trans hx113_1
                replace hx113_2 := (HB.out.cell (World.block_lt_of_cell? w _ hx113_2)).trans hx113_2
                replace hx113_3 := (HB.out.cell (World.block_lt_of_cell? w _ hx113_3)).trans hx113_3
                replace hx113_4 := (HB.out.cell (World.block_lt_of_cell? w _ hx113_4)).trans hx113_4
                replace p113 := eq_true p113
                replace q113 := eq_true q113
                go_wp2_with (first | ((with_reducible refine gate_dst (N := 4) rfl ?_); refine box_event ?hg (N := 4) ?hd (cs := #[.int .i64 0, .int .i64 0, .int .i64 0, .int .i64 0, .int .i64 0]) (t := 113) ?hr ?_; (case hd => rfl); (case hg => rfl); (case hr => first | (go_simp; done) | (go_simp; rfl)); intro gb114 hg w9 hbox hb; have n0_ := Aside0.mk (below_step (by repeat (first | (with_reducible first | exact HB.out | apply below_alloc | apply pw_below_drewN | apply below_drew1) | exact HB.out)) hb); have n1_ := Aside0.mk (hbox); have n2_ := Aside0.mk ((by rw [hg]; exact (below_size (by repeat (first | (with_reducible first | exact HB.out | apply below_alloc | apply pw_below_drewN | apply below_drew1) | exact HB.out))) : w.heap.size ≤ gb114)); have n3_ := Aside0.mk ((by rw [hg]; exact (below_size (by repeat (first | (with_reducible first | exact HB.out | apply below_alloc | apply pw_below_drewN | apply below_drew1) | exact HB.out))) : w.heap.size ≤ gb114)); clear HB; have HB := n0_; have BK114 := n1_; have GW114 := n2_; have GE114 := n3_; clear n0_ n1_ n2_ n3_; clear hb hbox hg; have hcz10_0 : w9.cell? ⟨gb114, 0, none⟩ = some (.int .i64 0) := (blk_cell BK114.out 0).trans rfl; have hcz10_1 : w9.cell? ⟨gb114, 1, none⟩ = some (.int .i64 0) := (blk_cell BK114.out 1).trans rfl; have hcz10_2 : w9.cell? ⟨gb114, 2, none⟩ = some (.int .i64 0) := (blk_cell BK114.out 2).trans rfl; have hcz10_3 : w9.cell? ⟨gb114, 3, none⟩ = some (.int .i64 0) := (blk_cell BK114.out 3).trans rfl; have hcz10_4 : w9.cell? ⟨gb114, 4, none⟩ = some (.int .i64 0) := (blk_cell BK114.out 4).trans rfl; have hfz10_0 := blk_frozen BK114.out 0; have hfz10_1 := blk_frozen BK114.out 1; have hfz10_2 := blk_frozen BK114.out 2; have hfz10_3 := blk_frozen BK114.out 3; have hfz10_4 := blk_frozen BK114.out 4))
                repeat (go_quiet (first | ((with_reducible refine gate_dst (N := 4) rfl ?_); refine box_event ?hg (N := 4) ?hd (cs := #[.int .i64 0, .int .i64 0, .int .i64 0, .int .i64 0, .int .i64 0]) (t := 113) ?hr ?_; (case hd => rfl); (case hg => rfl); (case hr => first | (go_simp; done) | (go_simp; rfl)); intro gb114 hg w9 hbox hb; have n0_ := Aside0.mk (below_step (by repeat (first | (with_reducible first | exact HB.out | apply below_alloc | apply pw_below_drewN | apply below_drew1) | exact HB.out)) hb); have n1_ := Aside0.mk (hbox); have n2_ := Aside0.mk ((by rw [hg]; exact (below_size (by repeat (first | (with_reducible first | exact HB.out | apply below_alloc | apply pw_below_drewN | apply below_drew1) | exact HB.out))) : w.heap.size ≤ gb114)); have n3_ := Aside0.mk ((by rw [hg]; exact (below_size (by repeat (first | (with_reducible first | exact HB.out | apply below_alloc | apply pw_below_drewN | apply below_drew1) | exact HB.out))) : w.heap.size ≤ gb114)); clear HB; have HB := n0_; have BK114 := n1_; have GW114 := n2_; have GE114 := n3_; clear n0_ n1_ n2_ n3_; clear hb hbox hg; have hcz10_0 : w9.cell? ⟨gb114, 0, none⟩ = some (.int .i64 0) := (blk_cell BK114.out 0).trans rfl; have hcz10_1 : w9.cell? ⟨gb114, 1, none⟩ = some (.int .i64 0) := (blk_cell BK114.out 1).trans rfl; have hcz10_2 : w9.cell? ⟨gb114, 2, none⟩ = some (.int .i64 0) := (blk_cell BK114.out 2).trans rfl; have hcz10_3 : w9.cell? ⟨gb114, 3, none⟩ = some (.int .i64 0) := (blk_cell BK114.out 3).trans rfl; have hcz10_4 : w9.cell? ⟨gb114, 4, none⟩ = some (.int .i64 0) := (blk_cell BK114.out 4).trans rfl; have hfz10_0 := blk_frozen BK114.out 0; have hfz10_1 := blk_frozen BK114.out 1; have hfz10_2 := blk_frozen BK114.out 2; have hfz10_3 := blk_frozen BK114.out 3; have hfz10_4 := blk_frozen BK114.out 4)); try go_wp2_with (first | ((with_reducible refine gate_dst (N := 4) rfl ?_); refine box_event ?hg (N := 4) ?hd (cs := #[.int .i64 0, .int .i64 0, .int .i64 0, .int .i64 0, .int .i64 0]) (t := 113) ?hr ?_; (case hd => rfl); (case hg => rfl); (case hr => first | (go_simp; done) | (go_simp; rfl)); intro gb114 hg w9 hbox hb; have n0_ := Aside0.mk (below_step (by repeat (first | (with_reducible first | exact HB.out | apply below_alloc | apply pw_below_drewN | apply below_drew1) | exact HB.out)) hb); have n1_ := Aside0.mk (hbox); have n2_ := Aside0.mk ((by rw [hg]; exact (below_size (by repeat (first | (with_reducible first | exact HB.out | apply below_alloc | apply pw_below_drewN | apply below_drew1) | exact HB.out))) : w.heap.size ≤ gb114)); have n3_ := Aside0.mk ((by rw [hg]; exact (below_size (by repeat (first | (with_reducible first | exact HB.out | apply below_alloc | apply pw_below_drewN | apply below_drew1) | exact HB.out))) : w.heap.size ≤ gb114)); clear HB; have HB := n0_; have BK114 := n1_; have GW114 := n2_; have GE114 := n3_; clear n0_ n1_ n2_ n3_; clear hb hbox hg; have hcz10_0 : w9.cell? ⟨gb114, 0, none⟩ = some (.int .i64 0) := (blk_cell BK114.out 0).trans rfl; have hcz10_1 : w9.cell? ⟨gb114, 1, none⟩ = some (.int .i64 0) := (blk_cell BK114.out 1).trans rfl; have hcz10_2 : w9.cell? ⟨gb114, 2, none⟩ = some (.int .i64 0) := (blk_cell BK114.out 2).trans rfl; have hcz10_3 : w9.cell? ⟨gb114, 3, none⟩ = some (.int .i64 0) := (blk_cell BK114.out 3).trans rfl; have hcz10_4 : w9.cell? ⟨gb114, 4, none⟩ = some (.int .i64 0) := (blk_cell BK114.out 4).trans rfl; have hfz10_0 := blk_frozen BK114.out 0; have hfz10_1 := blk_frozen BK114.out 1; have hfz10_2 := blk_frozen BK114.out 2; have hfz10_3 := blk_frozen BK114.out 3; have hfz10_4 := blk_frozen BK114.out 4)))
                go_ret
                exact ⟨by first | rfl | (simp [errW_none, errW_some] <;> rfl) | (simp [*, errW_none, errW_some] <;> rfl), by repeat (first | (with_reducible first | exact HB.out | apply below_alloc | apply pw_below_drewN | apply below_drew1 | refine below_set ?_ GE114.out) | exact HB.out)⟩
              · rw [if_neg c8] at H
                have c8b0 : decide (12 < ((rd_T113 l0 x8_1).f0)) = false := decide_eq_false c8
                clear c8
                by_cases c11 : ((rd_T113 l0 x8_1).f1) < 1
                · rw [if_pos c11] at H
                  have c11b0 : decide (((rd_T113 l0 x8_1).f1) < 1) = true := decide_eq_true c11
                  clear c11
                  obtain rfl := Option.some.inj H
                  have p113 : 0 ≤ (x8_1 : Int) := of_decide_eq_true (by first | (with_reducible assumption) | assumption)
                  have q113 : x8_1 < (l0.length : Int) := of_decide_eq_true (by first | (with_reducible assumption) | assumption)
                  obtain ⟨ad113, e113, hx113_0, hx113_1, hx113_2, hx113_3, hx113_4⟩ := at_T113 HR0.out x8_1 p113 q113
                  cases e113
                  replace hx113_0 := (HB.out.cell (World.block_lt_of_cell? w _ hx113_0)).trans hx113_0
                  replace hx113_1 := (HB.out.cell (World.block_lt_of_cell? w _ hx113_1)).trans hx113_1
                  replace hx113_2 := (HB.out.cell (World.block_lt_of_cell? w _ hx113_2)).trans hx113_2
                  replace hx113_3 := (HB.out.cell (World.block_lt_of_cell? w _ hx113_3)).trans hx113_3
                  replace hx113_4 := (HB.out.cell (World.block_lt_of_cell? w _ hx113_4)).trans hx113_4
                  replace p113 := eq_true p113
                  replace q113 := eq_true q113
                  go_wp2_with (first | ((with_reducible refine gate_dst (N := 4) rfl ?_); refine box_event ?hg (N := 4) ?hd (cs := #[.int .i64 0, .int .i64 0, .int .i64 0, .int .i64 0, .int .i64 0]) (t := 113) ?hr ?_; (case hd => rfl); (case hg => rfl); (case hr => first | (go_simp; done) | (go_simp; rfl)); intro gb114 hg w12 hbox hb; have n0_ := Aside0.mk (below_step (by repeat (first | (with_reducible first | exact HB.out | apply below_alloc | apply pw_below_drewN | apply below_drew1) | exact HB.out)) hb); have n1_ := Aside0.mk (hbox); have n2_ := Aside0.mk ((by rw [hg]; exact (below_size (by repeat (first | (with_reducible first | exact HB.out | apply below_alloc | apply pw_below_drewN | apply below_drew1) | exact HB.out))) : w.heap.size ≤ gb114)); have n3_ := Aside0.mk ((by rw [hg]; exact (below_size (by repeat (first | (with_reducible first | exact HB.out | apply below_alloc | apply pw_below_drewN | apply below_drew1) | exact HB.out))) : w.heap.size ≤ gb114)); clear HB; have HB := n0_; have BK114 := n1_; have GW114 := n2_; have GE114 := n3_; clear n0_ n1_ n2_ n3_; clear hb hbox hg; have hcz13_0 : w12.cell? ⟨gb114, 0, none⟩ = some (.int .i64 0) := (blk_cell BK114.out 0).trans rfl; have hcz13_1 : w12.cell? ⟨gb114, 1, none⟩ = some (.int .i64 0) := (blk_cell BK114.out 1).trans rfl; have hcz13_2 : w12.cell? ⟨gb114, 2, none⟩ = some (.int .i64 0) := (blk_cell BK114.out 2).trans rfl; have hcz13_3 : w12.cell? ⟨gb114, 3, none⟩ = some (.int .i64 0) := (blk_cell BK114.out 3).trans rfl; have hcz13_4 : w12.cell? ⟨gb114, 4, none⟩ = some (.int .i64 0) := (blk_cell BK114.out 4).trans rfl; have hfz13_0 := blk_frozen BK114.out 0; have hfz13_1 := blk_frozen BK114.out 1; have hfz13_2 := blk_frozen BK114.out 2; have hfz13_3 := blk_frozen BK114.out 3; have hfz13_4 := blk_frozen BK114.out 4))
                  repeat (go_quiet (first | ((with_reducible refine gate_dst (N := 4) rfl ?_); refine box_event ?hg (N := 4) ?hd (cs := #[.int .i64 0, .int .i64 0, .int .i64 0, .int .i64 0, .int .i64 0]) (t := 113) ?hr ?_; (case hd => rfl); (case hg => rfl); (case hr => first | (go_simp; done) | (go_simp; rfl)); intro gb114 hg w12 hbox hb; have n0_ := Aside0.mk (below_step (by repeat (first | (with_reducible first | exact HB.out | apply below_alloc | apply pw_below_drewN | apply below_drew1) | exact HB.out)) hb); have n1_ := Aside0.mk (hbox); have n2_ := Aside0.mk ((by rw [hg]; exact (below_size (by repeat (first | (with_reducible first | exact HB.out | apply below_alloc | apply pw_below_drewN | apply below_drew1) | exact HB.out))) : w.heap.size ≤ gb114)); have n3_ := Aside0.mk ((by rw [hg]; exact (below_size (by repeat (first | (with_reducible first | exact HB.out | apply below_alloc | apply pw_below_drewN | apply below_drew1) | exact HB.out))) : w.heap.size ≤ gb114)); clear HB; have HB := n0_; have BK114 := n1_; have GW114 := n2_; have GE114 := n3_; clear n0_ n1_ n2_ n3_; clear hb hbox hg; have hcz13_0 : w12.cell? ⟨gb114, 0, none⟩ = some (.int .i64 0) := (blk_cell BK114.out 0).trans rfl; have hcz13_1 : w12.cell? ⟨gb114, 1, none⟩ = some (.int .i64 0) := (blk_cell BK114.out 1).trans rfl; have hcz13_2 : w12.cell? ⟨gb114, 2, none⟩ = some (.int .i64 0) := (blk_cell BK114.out 2).trans rfl; have hcz13_3 : w12.cell? ⟨gb114, 3, none⟩ = some (.int .i64 0) := (blk_cell BK114.out 3).trans rfl; have hcz13_4 : w12.cell? ⟨gb114, 4, none⟩ = some (.int .i64 0) := (blk_cell BK114.out 4).trans rfl; have hfz13_0 := blk_frozen BK114.out 0; have hfz13_1 := blk_frozen BK114.out 1; have hfz13_2 := blk_frozen BK114.out 2; have hfz13_3 := blk_frozen BK114.out 3; have hfz13_4 := blk_frozen BK114.out 4)); try go_wp2_with (first | ((with_reducible refine gate_dst (N := 4) rfl ?_); refine box_event ?hg (N := 4) ?hd (cs := #[.int .i64 0, .int .i64 0, .int .i64 0, .int .i64 0, .int .i64 0]) (t := 113) ?hr ?_; (case hd => rfl); (case hg => rfl); (case hr => first | (go_simp; done) | (go_simp; rfl)); intro gb114 hg w12 hbox hb; have n0_ := Aside0.mk (below_step (by repeat (first | (with_reducible first | exact HB.out | apply below_alloc | apply pw_below_drewN | apply below_drew1) | exact HB.out)) hb); have n1_ := Aside0.mk (hbox); have n2_ := Aside0.mk ((by rw [hg]; exact (below_size (by repeat (first | (with_reducible first | exact HB.out | apply below_alloc | apply pw_below_drewN | apply below_drew1) | exact HB.out))) : w.heap.size ≤ gb114)); have n3_ := Aside0.mk ((by rw [hg]; exact (below_size (by repeat (first | (with_reducible first | exact HB.out | apply below_alloc | apply pw_below_drewN | apply below_drew1) | exact HB.out))) : w.heap.size ≤ gb114)); clear HB; have HB := n0_; have BK114 := n1_; have GW114 := n2_; have GE114 := n3_; clear n0_ n1_ n2_ n3_; clear hb hbox hg; have hcz13_0 : w12.cell? ⟨gb114, 0, none⟩ = some (.int .i64 0) := (blk_cell BK114.out 0).trans rfl; have hcz13_1 : w12.cell? ⟨gb114, 1, none⟩ = some (.int .i64 0) := (blk_cell BK114.out 1).trans rfl; have hcz13_2 : w12.cell? ⟨gb114, 2, none⟩ = some (.int .i64 0) := (blk_cell BK114.out 2).trans rfl; have hcz13_3 : w12.cell? ⟨gb114, 3, none⟩ = some (.int .i64 0) := (blk_cell BK114.out 3).trans rfl; have hcz13_4 : w12.cell? ⟨gb114, 4, none⟩ = some (.int .i64 0) := (blk_cell BK114.out 4).trans rfl; have hfz13_0 := blk_frozen BK114.out 0; have hfz13_1 := blk_frozen BK114.out 1; have hfz13_2 := blk_frozen BK114.out 2; have hfz13_3 := blk_frozen BK114.out 3; have hfz13_4 := blk_frozen BK114.out 4)))
                  go_ret
                  exact ⟨by first | rfl | (simp [errW_none, errW_some] <;> rfl) | (simp [*, errW_none, errW_some] <;> rfl), by repeat (first | (with_reducible first | exact HB.out | apply below_alloc | apply pw_below_drewN | apply below_drew1 | refine below_set ?_ GE114.out) | exact HB.out)⟩
                · rw [if_neg c11] at H
                  have c11b0 : decide (((rd_T113 l0 x8_1).f1) < 1) = false := decide_eq_false c11
                  clear c11
                  by_cases c14 : ((rd_T113 l0 x8_1).f1) > 5
                  · rw [if_pos c14] at H
                    have c14b0 : decide (5 < ((rd_T113 l0 x8_1).f1)) = true := decide_eq_true c14
                    clear c14
                    obtain rfl := Option.some.inj H
                    have p113 : 0 ≤ (x8_1 : Int) := of_decide_eq_true (by first | (with_reducible assumption) | assumption)
                    have q113 : x8_1 < (l0.length : Int) := of_decide_eq_true (by first | (with_reducible assumption) | assumption)
                    obtain ⟨ad113, e113, hx113_0, hx113_1, hx113_2, hx113_3, hx113_4⟩ := at_T113 HR0.out x8_1 p113 q113
                    cases e113
                    replace hx113_0 := (HB.out.cell (World.block_lt_of_cell? w _ hx113_0)).trans hx113_0
                    replace hx113_1 := (HB.out.cell (World.block_lt_of_cell? w _ hx113_1)).trans hx113_1
                    replace hx113_2 := (HB.out.cell (World.block_lt_of_cell? w _ hx113_2)).trans hx113_2
                    replace hx113_3 := (HB.out.cell (World.block_lt_of_cell? w _ hx113_3)).trans hx113_3
                    replace hx113_4 := (HB.out.cell (World.block_lt_of_cell? w _ hx113_4)).trans hx113_4
                    replace p113 := eq_true p113
                    replace q113 := eq_true q113
                    go_wp2_with (first | ((with_reducible refine gate_dst (N := 4) rfl ?_); refine box_event ?hg (N := 4) ?hd (cs := #[.int .i64 0, .int .i64 0, .int .i64 0, .int .i64 0, .int .i64 0]) (t := 113) ?hr ?_; (case hd => rfl); (case hg => rfl); (case hr => first | (go_simp; done) | (go_simp; rfl)); intro gb114 hg w15 hbox hb; have n0_ := Aside0.mk (below_step (by repeat (first | (with_reducible first | exact HB.out | apply below_alloc | apply pw_below_drewN | apply below_drew1) | exact HB.out)) hb); have n1_ := Aside0.mk (hbox); have n2_ := Aside0.mk ((by rw [hg]; exact (below_size (by repeat (first | (with_reducible first | exact HB.out | apply below_alloc | apply pw_below_drewN | apply below_drew1) | exact HB.out))) : w.heap.size ≤ gb114)); have n3_ := Aside0.mk ((by rw [hg]; exact (below_size (by repeat (first | (with_reducible first | exact HB.out | apply below_alloc | apply pw_below_drewN | apply below_drew1) | exact HB.out))) : w.heap.size ≤ gb114)); clear HB; have HB := n0_; have BK114 := n1_; have GW114 := n2_; have GE114 := n3_; clear n0_ n1_ n2_ n3_; clear hb hbox hg; have hcz16_0 : w15.cell? ⟨gb114, 0, none⟩ = some (.int .i64 0) := (blk_cell BK114.out 0).trans rfl; have hcz16_1 : w15.cell? ⟨gb114, 1, none⟩ = some (.int .i64 0) := (blk_cell BK114.out 1).trans rfl; have hcz16_2 : w15.cell? ⟨gb114, 2, none⟩ = some (.int .i64 0) := (blk_cell BK114.out 2).trans rfl; have hcz16_3 : w15.cell? ⟨gb114, 3, none⟩ = some (.int .i64 0) := (blk_cell BK114.out 3).trans rfl; have hcz16_4 : w15.cell? ⟨gb114, 4, none⟩ = some (.int .i64 0) := (blk_cell BK114.out 4).trans rfl; have hfz16_0 := blk_frozen BK114.out 0; have hfz16_1 := blk_frozen BK114.out 1; have hfz16_2 := blk_frozen BK114.out 2; have hfz16_3 := blk_frozen BK114.out 3; have hfz16_4 := blk_frozen BK114.out 4))
                    repeat (go_quiet (first | ((with_reducible refine gate_dst (N := 4) rfl ?_); refine box_event ?hg (N := 4) ?hd (cs := #[.int .i64 0, .int .i64 0, .int .i64 0, .int .i64 0, .int .i64 0]) (t := 113) ?hr ?_; (case hd => rfl); (case hg => rfl); (case hr => first | (go_simp; done) | (go_simp; rfl)); intro gb114 hg w15 hbox hb; have n0_ := Aside0.mk (below_step (by repeat (first | (with_reducible first | exact HB.out | apply below_alloc | apply pw_below_drewN | apply below_drew1) | exact HB.out)) hb); have n1_ := Aside0.mk (hbox); have n2_ := Aside0.mk ((by rw [hg]; exact (below_size (by repeat (first | (with_reducible first | exact HB.out | apply below_alloc | apply pw_below_drewN | apply below_drew1) | exact HB.out))) : w.heap.size ≤ gb114)); have n3_ := Aside0.mk ((by rw [hg]; exact (below_size (by repeat (first | (with_reducible first | exact HB.out | apply below_alloc | apply pw_below_drewN | apply below_drew1) | exact HB.out))) : w.heap.size ≤ gb114)); clear HB; have HB := n0_; have BK114 := n1_; have GW114 := n2_; have GE114 := n3_; clear n0_ n1_ n2_ n3_; clear hb hbox hg; have hcz16_0 : w15.cell? ⟨gb114, 0, none⟩ = some (.int .i64 0) := (blk_cell BK114.out 0).trans rfl; have hcz16_1 : w15.cell? ⟨gb114, 1, none⟩ = some (.int .i64 0) := (blk_cell BK114.out 1).trans rfl; have hcz16_2 : w15.cell? ⟨gb114, 2, none⟩ = some (.int .i64 0) := (blk_cell BK114.out 2).trans rfl; have hcz16_3 : w15.cell? ⟨gb114, 3, none⟩ = some (.int .i64 0) := (blk_cell BK114.out 3).trans rfl; have hcz16_4 : w15.cell? ⟨gb114, 4, none⟩ = some (.int .i64 0) := (blk_cell BK114.out 4).trans rfl; have hfz16_0 := blk_frozen BK114.out 0; have hfz16_1 := blk_frozen BK114.out 1; have hfz16_2 := blk_frozen BK114.out 2; have hfz16_3 := blk_frozen BK114.out 3; have hfz16_4 := blk_frozen BK114.out 4)); try go_wp2_with (first | ((with_reducible refine gate_dst (N := 4) rfl ?_); refine box_event ?hg (N := 4) ?hd (cs := #[.int .i64 0, .int .i64 0, .int .i64 0, .int .i64 0, .int .i64 0]) (t := 113) ?hr ?_; (case hd => rfl); (case hg => rfl); (case hr => first | (go_simp; done) | (go_simp; rfl)); intro gb114 hg w15 hbox hb; have n0_ := Aside0.mk (below_step (by repeat (first | (with_reducible first | exact HB.out | apply below_alloc | apply pw_below_drewN | apply below_drew1) | exact HB.out)) hb); have n1_ := Aside0.mk (hbox); have n2_ := Aside0.mk ((by rw [hg]; exact (below_size (by repeat (first | (with_reducible first | exact HB.out | apply below_alloc | apply pw_below_drewN | apply below_drew1) | exact HB.out))) : w.heap.size ≤ gb114)); have n3_ := Aside0.mk ((by rw [hg]; exact (below_size (by repeat (first | (with_reducible first | exact HB.out | apply below_alloc | apply pw_below_drewN | apply below_drew1) | exact HB.out))) : w.heap.size ≤ gb114)); clear HB; have HB := n0_; have BK114 := n1_; have GW114 := n2_; have GE114 := n3_; clear n0_ n1_ n2_ n3_; clear hb hbox hg; have hcz16_0 : w15.cell? ⟨gb114, 0, none⟩ = some (.int .i64 0) := (blk_cell BK114.out 0).trans rfl; have hcz16_1 : w15.cell? ⟨gb114, 1, none⟩ = some (.int .i64 0) := (blk_cell BK114.out 1).trans rfl; have hcz16_2 : w15.cell? ⟨gb114, 2, none⟩ = some (.int .i64 0) := (blk_cell BK114.out 2).trans rfl; have hcz16_3 : w15.cell? ⟨gb114, 3, none⟩ = some (.int .i64 0) := (blk_cell BK114.out 3).trans rfl; have hcz16_4 : w15.cell? ⟨gb114, 4, none⟩ = some (.int .i64 0) := (blk_cell BK114.out 4).trans rfl; have hfz16_0 := blk_frozen BK114.out 0; have hfz16_1 := blk_frozen BK114.out 1; have hfz16_2 := blk_frozen BK114.out 2; have hfz16_3 := blk_frozen BK114.out 3; have hfz16_4 := blk_frozen BK114.out 4)))
                    go_ret
                    exact ⟨by first | rfl | (simp [errW_none, errW_some] <;> rfl) | (simp [*, errW_none, errW_some] <;> rfl), by repeat (first | (with_reducible first | exact HB.out | apply below_alloc | apply pw_below_drewN | apply below_drew1 | refine below_set ?_ GE114.out) | exact HB.out)⟩
                  · rw [if_neg c14] at H
                    have c14b0 : decide (5 < ((rd_T113 l0 x8_1).f1)) = false := decide_eq_false c14
                    clear c14
                    by_cases c17 : ((rd_T113 l0 x8_1).f2) < 0
                    · rw [if_pos c17] at H
                      have c17b0 : decide (((rd_T113 l0 x8_1).f2) < 0) = true := decide_eq_true c17
                      clear c17
                      obtain rfl := Option.some.inj H
                      have p113 : 0 ≤ (x8_1 : Int) := of_decide_eq_true (by first | (with_reducible assumption) | assumption)
                      have q113 : x8_1 < (l0.length : Int) := of_decide_eq_true (by first | (with_reducible assumption) | assumption)
                      obtain ⟨ad113, e113, hx113_0, hx113_1, hx113_2, hx113_3, hx113_4⟩ := at_T113 HR0.out x8_1 p113 q113
                      cases e113
                      replace hx113_0 := (HB.out.cell (World.block_lt_of_cell? w _ hx113_0)).trans hx113_0
                      replace hx113_1 := (HB.out.cell (World.block_lt_of_cell? w _ hx113_1)).trans hx113_1
                      replace hx113_2 := (HB.out.cell (World.block_lt_of_cell? w _ hx113_2)).trans hx113_2
                      replace hx113_3 := (HB.out.cell (World.block_lt_of_cell? w _ hx113_3)).trans hx113_3
                      replace hx113_4 := (HB.out.cell (World.block_lt_of_cell? w _ hx113_4)).trans hx113_4
                      replace p113 := eq_true p113
                      replace q113 := eq_true q113
                      go_wp2_with (first | ((with_reducible refine gate_dst (N := 4) rfl ?_); refine box_event ?hg (N := 4) ?hd (cs := #[.int .i64 0, .int .i64 0, .int .i64 0, .int .i64 0, .int .i64 0]) (t := 113) ?hr ?_; (case hd => rfl); (case hg => rfl); (case hr => first | (go_simp; done) | (go_simp; rfl)); intro gb114 hg w18 hbox hb; have n0_ := Aside0.mk (below_step (by repeat (first | (with_reducible first | exact HB.out | apply below_alloc | apply pw_below_drewN | apply below_drew1) | exact HB.out)) hb); have n1_ := Aside0.mk (hbox); have n2_ := Aside0.mk ((by rw [hg]; exact (below_size (by repeat (first | (with_reducible first | exact HB.out | apply below_alloc | apply pw_below_drewN | apply below_drew1) | exact HB.out))) : w.heap.size ≤ gb114)); have n3_ := Aside0.mk ((by rw [hg]; exact (below_size (by repeat (first | (with_reducible first | exact HB.out | apply below_alloc | apply pw_below_drewN | apply below_drew1) | exact HB.out))) : w.heap.size ≤ gb114)); clear HB; have HB := n0_; have BK114 := n1_; have GW114 := n2_; have GE114 := n3_; clear n0_ n1_ n2_ n3_; clear hb hbox hg; have hcz19_0 : w18.cell? ⟨gb114, 0, none⟩ = some (.int .i64 0) := (blk_cell BK114.out 0).trans rfl; have hcz19_1 : w18.cell? ⟨gb114, 1, none⟩ = some (.int .i64 0) := (blk_cell BK114.out 1).trans rfl; have hcz19_2 : w18.cell? ⟨gb114, 2, none⟩ = some (.int .i64 0) := (blk_cell BK114.out 2).trans rfl; have hcz19_3 : w18.cell? ⟨gb114, 3, none⟩ = some (.int .i64 0) := (blk_cell BK114.out 3).trans rfl; have hcz19_4 : w18.cell? ⟨gb114, 4, none⟩ = some (.int .i64 0) := (blk_cell BK114.out 4).trans rfl; have hfz19_0 := blk_frozen BK114.out 0; have hfz19_1 := blk_frozen BK114.out 1; have hfz19_2 := blk_frozen BK114.out 2; have hfz19_3 := blk_frozen BK114.out 3; have hfz19_4 := blk_frozen BK114.out 4))
                      repeat (go_quiet (first | ((with_reducible refine gate_dst (N := 4) rfl ?_); refine box_event ?hg (N := 4) ?hd (cs := #[.int .i64 0, .int .i64 0, .int .i64 0, .int .i64 0, .int .i64 0]) (t := 113) ?hr ?_; (case hd => rfl); (case hg => rfl); (case hr => first | (go_simp; done) | (go_simp; rfl)); intro gb114 hg w18 hbox hb; have n0_ := Aside0.mk (below_step (by repeat (first | (with_reducible first | exact HB.out | apply below_alloc | apply pw_below_drewN | apply below_drew1) | exact HB.out)) hb); have n1_ := Aside0.mk (hbox); have n2_ := Aside0.mk ((by rw [hg]; exact (below_size (by repeat (first | (with_reducible first | exact HB.out | apply below_alloc | apply pw_below_drewN | apply below_drew1) | exact HB.out))) : w.heap.size ≤ gb114)); have n3_ := Aside0.mk ((by rw [hg]; exact (below_size (by repeat (first | (with_reducible first | exact HB.out | apply below_alloc | apply pw_below_drewN | apply below_drew1) | exact HB.out))) : w.heap.size ≤ gb114)); clear HB; have HB := n0_; have BK114 := n1_; have GW114 := n2_; have GE114 := n3_; clear n0_ n1_ n2_ n3_; clear hb hbox hg; have hcz19_0 : w18.cell? ⟨gb114, 0, none⟩ = some (.int .i64 0) := (blk_cell BK114.out 0).trans rfl; have hcz19_1 : w18.cell? ⟨gb114, 1, none⟩ = some (.int .i64 0) := (blk_cell BK114.out 1).trans rfl; have hcz19_2 : w18.cell? ⟨gb114, 2, none⟩ = some (.int .i64 0) := (blk_cell BK114.out 2).trans rfl; have hcz19_3 : w18.cell? ⟨gb114, 3, none⟩ = some (.int .i64 0) := (blk_cell BK114.out 3).trans rfl; have hcz19_4 : w18.cell? ⟨gb114, 4, none⟩ = some (.int .i64 0) := (blk_cell BK114.out 4).trans rfl; have hfz19_0 := blk_frozen BK114.out 0; have hfz19_1 := blk_frozen BK114.out 1; have hfz19_2 := blk_frozen BK114.out 2; have hfz19_3 := blk_frozen BK114.out 3; have hfz19_4 := blk_frozen BK114.out 4)); try go_wp2_with (first | ((with_reducible refine gate_dst (N := 4) rfl ?_); refine box_event ?hg (N := 4) ?hd (cs := #[.int .i64 0, .int .i64 0, .int .i64 0, .int .i64 0, .int .i64 0]) (t := 113) ?hr ?_; (case hd => rfl); (case hg => rfl); (case hr => first | (go_simp; done) | (go_simp; rfl)); intro gb114 hg w18 hbox hb; have n0_ := Aside0.mk (below_step (by repeat (first | (with_reducible first | exact HB.out | apply below_alloc | apply pw_below_drewN | apply below_drew1) | exact HB.out)) hb); have n1_ := Aside0.mk (hbox); have n2_ := Aside0.mk ((by rw [hg]; exact (below_size (by repeat (first | (with_reducible first | exact HB.out | apply below_alloc | apply pw_below_drewN | apply below_drew1) | exact HB.out))) : w.heap.size ≤ gb114)); have n3_ := Aside0.mk ((by rw [hg]; exact (below_size (by repeat (first | (with_reducible first | exact HB.out | apply below_alloc | apply pw_below_drewN | apply below_drew1) | exact HB.out))) : w.heap.size ≤ gb114)); clear HB; have HB := n0_; have BK114 := n1_; have GW114 := n2_; have GE114 := n3_; clear n0_ n1_ n2_ n3_; clear hb hbox hg; have hcz19_0 : w18.cell? ⟨gb114, 0, none⟩ = some (.int .i64 0) := (blk_cell BK114.out 0).trans rfl; have hcz19_1 : w18.cell? ⟨gb114, 1, none⟩ = some (.int .i64 0) := (blk_cell BK114.out 1).trans rfl; have hcz19_2 : w18.cell? ⟨gb114, 2, none⟩ = some (.int .i64 0) := (blk_cell BK114.out 2).trans rfl; have hcz19_3 : w18.cell? ⟨gb114, 3, none⟩ = some (.int .i64 0) := (blk_cell BK114.out 3).trans rfl; have hcz19_4 : w18.cell? ⟨gb114, 4, none⟩ = some (.int .i64 0) := (blk_cell BK114.out 4).trans rfl; have hfz19_0 := blk_frozen BK114.out 0; have hfz19_1 := blk_frozen BK114.out 1; have hfz19_2 := blk_frozen BK114.out 2; have hfz19_3 := blk_frozen BK114.out 3; have hfz19_4 := blk_frozen BK114.out 4)))
                      go_ret
                      exact ⟨by first | rfl | (simp [errW_none, errW_some] <;> rfl) | (simp [*, errW_none, errW_some] <;> rfl), by repeat (first | (with_reducible first | exact HB.out | apply below_alloc | apply pw_below_drewN | apply below_drew1 | refine below_set ?_ GE114.out) | exact HB.out)⟩
                    · rw [if_neg c17] at H
                      have c17b0 : decide (((rd_T113 l0 x8_1).f2) < 0) = false := decide_eq_false c17
                      clear c17
                      by_cases c20 : ((rd_T113 l0 x8_1).f2) > 6
                      · rw [if_pos c20] at H
                        have c20b0 : decide (6 < ((rd_T113 l0 x8_1).f2)) = true := decide_eq_true c20
                        clear c20
                        obtain rfl := Option.some.inj H
                        have p113 : 0 ≤ (x8_1 : Int) := of_decide_eq_true (by first | (with_reducible assumption) | assumption)
                        have q113 : x8_1 < (l0.length : Int) := of_decide_eq_true (by first | (with_reducible assumption) | assumption)
                        obtain ⟨ad113, e113, hx113_0, hx113_1, hx113_2, hx113_3, hx113_4⟩ := at_T113 HR0.out x8_1 p113 q113
                        cases e113
                        replace hx113_0 := (HB.out.cell (World.block_lt_of_cell? w _ hx113_0)).trans hx113_0
                        replace hx113_1 := (HB.out.cell (World.block_lt_of_cell? w _ hx113_1)).trans hx113_1
                        replace hx113_2 := (HB.out.cell (World.block_lt_of_cell? w _ hx113_2)).trans hx113_2
                        replace hx113_3 := (HB.out.cell (World.block_lt_of_cell? w _ hx113_3)).trans hx113_3
                        replace hx113_4 := (HB.out.cell (World.block_lt_of_cell? w _ hx113_4)).trans hx113_4
                        replace p113 := eq_true p113
                        replace q113 := eq_true q113
                        go_wp2_with (first | ((with_reducible refine gate_dst (N := 4) rfl ?_); refine box_event ?hg (N := 4) ?hd (cs := #[.int .i64 0, .int .i64 0, .int .i64 0, .int .i64 0, .int .i64 0]) (t := 113) ?hr ?_; (case hd => rfl); (case hg => rfl); (case hr => first | (go_simp; done) | (go_simp; rfl)); intro gb114 hg w21 hbox hb; have n0_ := Aside0.mk (below_step (by repeat (first | (with_reducible first | exact HB.out | apply below_alloc | apply pw_below_drewN | apply below_drew1) | exact HB.out)) hb); have n1_ := Aside0.mk (hbox); have n2_ := Aside0.mk ((by rw [hg]; exact (below_size (by repeat (first | (with_reducible first | exact HB.out | apply below_alloc | apply pw_below_drewN | apply below_drew1) | exact HB.out))) : w.heap.size ≤ gb114)); have n3_ := Aside0.mk ((by rw [hg]; exact (below_size (by repeat (first | (with_reducible first | exact HB.out | apply below_alloc | apply pw_below_drewN | apply below_drew1) | exact HB.out))) : w.heap.size ≤ gb114)); clear HB; have HB := n0_; have BK114 := n1_; have GW114 := n2_; have GE114 := n3_; clear n0_ n1_ n2_ n3_; clear hb hbox hg; have hcz22_0 : w21.cell? ⟨gb114, 0, none⟩ = some (.int .i64 0) := (blk_cell BK114.out 0).trans rfl; have hcz22_1 : w21.cell? ⟨gb114, 1, none⟩ = some (.int .i64 0) := (blk_cell BK114.out 1).trans rfl; have hcz22_2 : w21.cell? ⟨gb114, 2, none⟩ = some (.int .i64 0) := (blk_cell BK114.out 2).trans rfl; have hcz22_3 : w21.cell? ⟨gb114, 3, none⟩ = some (.int .i64 0) := (blk_cell BK114.out 3).trans rfl; have hcz22_4 : w21.cell? ⟨gb114, 4, none⟩ = some (.int .i64 0) := (blk_cell BK114.out 4).trans rfl; have hfz22_0 := blk_frozen BK114.out 0; have hfz22_1 := blk_frozen BK114.out 1; have hfz22_2 := blk_frozen BK114.out 2; have hfz22_3 := blk_frozen BK114.out 3; have hfz22_4 := blk_frozen BK114.out 4))
                        repeat (go_quiet (first | ((with_reducible refine gate_dst (N := 4) rfl ?_); refine box_event ?hg (N := 4) ?hd (cs := #[.int .i64 0, .int .i64 0, .int .i64 0, .int .i64 0, .int .i64 0]) (t := 113) ?hr ?_; (case hd => rfl); (case hg => rfl); (case hr => first | (go_simp; done) | (go_simp; rfl)); intro gb114 hg w21 hbox hb; have n0_ := Aside0.mk (below_step (by repeat (first | (with_reducible first | exact HB.out | apply below_alloc | apply pw_below_drewN | apply below_drew1) | exact HB.out)) hb); have n1_ := Aside0.mk (hbox); have n2_ := Aside0.mk ((by rw [hg]; exact (below_size (by repeat (first | (with_reducible first | exact HB.out | apply below_alloc | apply pw_below_drewN | apply below_drew1) | exact HB.out))) : w.heap.size ≤ gb114)); have n3_ := Aside0.mk ((by rw [hg]; exact (below_size (by repeat (first | (with_reducible first | exact HB.out | apply below_alloc | apply pw_below_drewN | apply below_drew1) | exact HB.out))) : w.heap.size ≤ gb114)); clear HB; have HB := n0_; have BK114 := n1_; have GW114 := n2_; have GE114 := n3_; clear n0_ n1_ n2_ n3_; clear hb hbox hg; have hcz22_0 : w21.cell? ⟨gb114, 0, none⟩ = some (.int .i64 0) := (blk_cell BK114.out 0).trans rfl; have hcz22_1 : w21.cell? ⟨gb114, 1, none⟩ = some (.int .i64 0) := (blk_cell BK114.out 1).trans rfl; have hcz22_2 : w21.cell? ⟨gb114, 2, none⟩ = some (.int .i64 0) := (blk_cell BK114.out 2).trans rfl; have hcz22_3 : w21.cell? ⟨gb114, 3, none⟩ = some (.int .i64 0) := (blk_cell BK114.out 3).trans rfl; have hcz22_4 : w21.cell? ⟨gb114, 4, none⟩ = some (.int .i64 0) := (blk_cell BK114.out 4).trans rfl; have hfz22_0 := blk_frozen BK114.out 0; have hfz22_1 := blk_frozen BK114.out 1; have hfz22_2 := blk_frozen BK114.out 2; have hfz22_3 := blk_frozen BK114.out 3; have hfz22_4 := blk_frozen BK114.out 4)); try go_wp2_with (first | ((with_reducible refine gate_dst (N := 4) rfl ?_); refine box_event ?hg (N := 4) ?hd (cs := #[.int .i64 0, .int .i64 0, .int .i64 0, .int .i64 0, .int .i64 0]) (t := 113) ?hr ?_; (case hd => rfl); (case hg => rfl); (case hr => first | (go_simp; done) | (go_simp; rfl)); intro gb114 hg w21 hbox hb; have n0_ := Aside0.mk (below_step (by repeat (first | (with_reducible first | exact HB.out | apply below_alloc | apply pw_below_drewN | apply below_drew1) | exact HB.out)) hb); have n1_ := Aside0.mk (hbox); have n2_ := Aside0.mk ((by rw [hg]; exact (below_size (by repeat (first | (with_reducible first | exact HB.out | apply below_alloc | apply pw_below_drewN | apply below_drew1) | exact HB.out))) : w.heap.size ≤ gb114)); have n3_ := Aside0.mk ((by rw [hg]; exact (below_size (by repeat (first | (with_reducible first | exact HB.out | apply below_alloc | apply pw_below_drewN | apply below_drew1) | exact HB.out))) : w.heap.size ≤ gb114)); clear HB; have HB := n0_; have BK114 := n1_; have GW114 := n2_; have GE114 := n3_; clear n0_ n1_ n2_ n3_; clear hb hbox hg; have hcz22_0 : w21.cell? ⟨gb114, 0, none⟩ = some (.int .i64 0) := (blk_cell BK114.out 0).trans rfl; have hcz22_1 : w21.cell? ⟨gb114, 1, none⟩ = some (.int .i64 0) := (blk_cell BK114.out 1).trans rfl; have hcz22_2 : w21.cell? ⟨gb114, 2, none⟩ = some (.int .i64 0) := (blk_cell BK114.out 2).trans rfl; have hcz22_3 : w21.cell? ⟨gb114, 3, none⟩ = some (.int .i64 0) := (blk_cell BK114.out 3).trans rfl; have hcz22_4 : w21.cell? ⟨gb114, 4, none⟩ = some (.int .i64 0) := (blk_cell BK114.out 4).trans rfl; have hfz22_0 := blk_frozen BK114.out 0; have hfz22_1 := blk_frozen BK114.out 1; have hfz22_2 := blk_frozen BK114.out 2; have hfz22_3 := blk_frozen BK114.out 3; have hfz22_4 := blk_frozen BK114.out 4)))
                        go_ret
                        exact ⟨by first | rfl | (simp [errW_none, errW_some] <;> rfl) | (simp [*, errW_none, errW_some] <;> rfl), by repeat (first | (with_reducible first | exact HB.out | apply below_alloc | apply pw_below_drewN | apply below_drew1 | refine below_set ?_ GE114.out) | exact HB.out)⟩
                      · rw [if_neg c20] at H
                        have c20b0 : decide (6 < ((rd_T113 l0 x8_1).f2)) = false := decide_eq_false c20
                        clear c20
                        by_cases c23 : ((rd_T113 l0 x8_1).f3) < 0
                        · rw [if_pos c23] at H
                          have c23b0 : decide (((rd_T113 l0 x8_1).f3) < 0) = true := decide_eq_true c23
                          clear c23
                          obtain rfl := Option.some.inj H
                          have p113 : 0 ≤ (x8_1 : Int) := of_decide_eq_true (by first | (with_reducible assumption) | assumption)
                          have q113 : x8_1 < (l0.length : Int) := of_decide_eq_true (by first | (with_reducible assumption) | assumption)
                          obtain ⟨ad113, e113, hx113_0, hx113_1, hx113_2, hx113_3, hx113_4⟩ := at_T113 HR0.out x8_1 p113 q113
                          cases e113
                          replace hx113_0 := (HB.out.cell (World.block_lt_of_cell? w _ hx113_0)).trans hx113_0
                          replace hx113_1 := (HB.out.cell (World.block_lt_of_cell? w _ hx113_1)).trans hx113_1
                          replace hx113_2 := (HB.out.cell (World.block_lt_of_cell? w _ hx113_2)).trans hx113_2
                          replace hx113_3 := (HB.out.cell (World.block_lt_of_cell? w _ hx113_3)).trans hx113_3
                          replace hx113_4 := (HB.out.cell (World.block_lt_of_cell? w _ hx113_4)).trans hx113_4
                          replace p113 := eq_true p113
                          replace q113 := eq_true q113
                          go_wp2_with (first | ((with_reducible refine gate_dst (N := 4) rfl ?_); refine box_event ?hg (N := 4) ?hd (cs := #[.int .i64 0, .int .i64 0, .int .i64 0, .int .i64 0, .int .i64 0]) (t := 113) ?hr ?_; (case hd => rfl); (case hg => rfl); (case hr => first | (go_simp; done) | (go_simp; rfl)); intro gb114 hg w24 hbox hb; have n0_ := Aside0.mk (below_step (by repeat (first | (with_reducible first | exact HB.out | apply below_alloc | apply pw_below_drewN | apply below_drew1) | exact HB.out)) hb); have n1_ := Aside0.mk (hbox); have n2_ := Aside0.mk ((by rw [hg]; exact (below_size (by repeat (first | (with_reducible first | exact HB.out | apply below_alloc | apply pw_below_drewN | apply below_drew1) | exact HB.out))) : w.heap.size ≤ gb114)); have n3_ := Aside0.mk ((by rw [hg]; exact (below_size (by repeat (first | (with_reducible first | exact HB.out | apply below_alloc | apply pw_below_drewN | apply below_drew1) | exact HB.out))) : w.heap.size ≤ gb114)); clear HB; have HB := n0_; have BK114 := n1_; have GW114 := n2_; have GE114 := n3_; clear n0_ n1_ n2_ n3_; clear hb hbox hg; have hcz25_0 : w24.cell? ⟨gb114, 0, none⟩ = some (.int .i64 0) := (blk_cell BK114.out 0).trans rfl; have hcz25_1 : w24.cell? ⟨gb114, 1, none⟩ = some (.int .i64 0) := (blk_cell BK114.out 1).trans rfl; have hcz25_2 : w24.cell? ⟨gb114, 2, none⟩ = some (.int .i64 0) := (blk_cell BK114.out 2).trans rfl; have hcz25_3 : w24.cell? ⟨gb114, 3, none⟩ = some (.int .i64 0) := (blk_cell BK114.out 3).trans rfl; have hcz25_4 : w24.cell? ⟨gb114, 4, none⟩ = some (.int .i64 0) := (blk_cell BK114.out 4).trans rfl; have hfz25_0 := blk_frozen BK114.out 0; have hfz25_1 := blk_frozen BK114.out 1; have hfz25_2 := blk_frozen BK114.out 2; have hfz25_3 := blk_frozen BK114.out 3; have hfz25_4 := blk_frozen BK114.out 4))
                          repeat (go_quiet (first | ((with_reducible refine gate_dst (N := 4) rfl ?_); refine box_event ?hg (N := 4) ?hd (cs := #[.int .i64 0, .int .i64 0, .int .i64 0, .int .i64 0, .int .i64 0]) (t := 113) ?hr ?_; (case hd => rfl); (case hg => rfl); (case hr => first | (go_simp; done) | (go_simp; rfl)); intro gb114 hg w24 hbox hb; have n0_ := Aside0.mk (below_step (by repeat (first | (with_reducible first | exact HB.out | apply below_alloc | apply pw_below_drewN | apply below_drew1) | exact HB.out)) hb); have n1_ := Aside0.mk (hbox); have n2_ := Aside0.mk ((by rw [hg]; exact (below_size (by repeat (first | (with_reducible first | exact HB.out | apply below_alloc | apply pw_below_drewN | apply below_drew1) | exact HB.out))) : w.heap.size ≤ gb114)); have n3_ := Aside0.mk ((by rw [hg]; exact (below_size (by repeat (first | (with_reducible first | exact HB.out | apply below_alloc | apply pw_below_drewN | apply below_drew1) | exact HB.out))) : w.heap.size ≤ gb114)); clear HB; have HB := n0_; have BK114 := n1_; have GW114 := n2_; have GE114 := n3_; clear n0_ n1_ n2_ n3_; clear hb hbox hg; have hcz25_0 : w24.cell? ⟨gb114, 0, none⟩ = some (.int .i64 0) := (blk_cell BK114.out 0).trans rfl; have hcz25_1 : w24.cell? ⟨gb114, 1, none⟩ = some (.int .i64 0) := (blk_cell BK114.out 1).trans rfl; have hcz25_2 : w24.cell? ⟨gb114, 2, none⟩ = some (.int .i64 0) := (blk_cell BK114.out 2).trans rfl; have hcz25_3 : w24.cell? ⟨gb114, 3, none⟩ = some (.int .i64 0) := (blk_cell BK114.out 3).trans rfl; have hcz25_4 : w24.cell? ⟨gb114, 4, none⟩ = some (.int .i64 0) := (blk_cell BK114.out 4).trans rfl; have hfz25_0 := blk_frozen BK114.out 0; have hfz25_1 := blk_frozen BK114.out 1; have hfz25_2 := blk_frozen BK114.out 2; have hfz25_3 := blk_frozen BK114.out 3; have hfz25_4 := blk_frozen BK114.out 4)); try go_wp2_with (first | ((with_reducible refine gate_dst (N := 4) rfl ?_); refine box_event ?hg (N := 4) ?hd (cs := #[.int .i64 0, .int .i64 0, .int .i64 0, .int .i64 0, .int .i64 0]) (t := 113) ?hr ?_; (case hd => rfl); (case hg => rfl); (case hr => first | (go_simp; done) | (go_simp; rfl)); intro gb114 hg w24 hbox hb; have n0_ := Aside0.mk (below_step (by repeat (first | (with_reducible first | exact HB.out | apply below_alloc | apply pw_below_drewN | apply below_drew1) | exact HB.out)) hb); have n1_ := Aside0.mk (hbox); have n2_ := Aside0.mk ((by rw [hg]; exact (below_size (by repeat (first | (with_reducible first | exact HB.out | apply below_alloc | apply pw_below_drewN | apply below_drew1) | exact HB.out))) : w.heap.size ≤ gb114)); have n3_ := Aside0.mk ((by rw [hg]; exact (below_size (by repeat (first | (with_reducible first | exact HB.out | apply below_alloc | apply pw_below_drewN | apply below_drew1) | exact HB.out))) : w.heap.size ≤ gb114)); clear HB; have HB := n0_; have BK114 := n1_; have GW114 := n2_; have GE114 := n3_; clear n0_ n1_ n2_ n3_; clear hb hbox hg; have hcz25_0 : w24.cell? ⟨gb114, 0, none⟩ = some (.int .i64 0) := (blk_cell BK114.out 0).trans rfl; have hcz25_1 : w24.cell? ⟨gb114, 1, none⟩ = some (.int .i64 0) := (blk_cell BK114.out 1).trans rfl; have hcz25_2 : w24.cell? ⟨gb114, 2, none⟩ = some (.int .i64 0) := (blk_cell BK114.out 2).trans rfl; have hcz25_3 : w24.cell? ⟨gb114, 3, none⟩ = some (.int .i64 0) := (blk_cell BK114.out 3).trans rfl; have hcz25_4 : w24.cell? ⟨gb114, 4, none⟩ = some (.int .i64 0) := (blk_cell BK114.out 4).trans rfl; have hfz25_0 := blk_frozen BK114.out 0; have hfz25_1 := blk_frozen BK114.out 1; have hfz25_2 := blk_frozen BK114.out 2; have hfz25_3 := blk_frozen BK114.out 3; have hfz25_4 := blk_frozen BK114.out 4)))
                          go_ret
                          exact ⟨by first | rfl | (simp [errW_none, errW_some] <;> rfl) | (simp [*, errW_none, errW_some] <;> rfl), by repeat (first | (with_reducible first | exact HB.out | apply below_alloc | apply pw_below_drewN | apply below_drew1 | refine below_set ?_ GE114.out) | exact HB.out)⟩
                        · rw [if_neg c23] at H
                          have c23b0 : decide (((rd_T113 l0 x8_1).f3) < 0) = false := decide_eq_false c23
                          clear c23
                          by_cases c26 : ((rd_T113 l0 x8_1).f3) ≥ 86400
                          · rw [if_pos c26] at H
                            have c26b0 : decide (86400 ≤ ((rd_T113 l0 x8_1).f3)) = true := decide_eq_true c26
                            clear c26
                            obtain rfl := Option.some.inj H
                            have p113 : 0 ≤ (x8_1 : Int) := of_decide_eq_true (by first | (with_reducible assumption) | assumption)
                            have q113 : x8_1 < (l0.length : Int) := of_decide_eq_true (by first | (with_reducible assumption) | assumption)
                            obtain ⟨ad113, e113, hx113_0, hx113_1, hx113_2, hx113_3, hx113_4⟩ := at_T113 HR0.out x8_1 p113 q113
                            cases e113
                            replace hx113_0 := (HB.out.cell (World.block_lt_of_cell? w _ hx113_0)).trans hx113_0
                            replace hx113_1 := (HB.out.cell (World.block_lt_of_cell? w _ hx113_1)).trans hx113_1
                            replace hx113_2 := (HB.out.cell (World.block_lt_of_cell? w _ hx113_2)).trans hx113_2
                            replace hx113_3 := (HB.out.cell (World.block_lt_of_cell? w _ hx113_3)).trans hx113_3
                            replace hx113_4 := (HB.out.cell (World.block_lt_of_cell? w _ hx113_4)).trans hx113_4
                            replace p113 := eq_true p113
                            replace q113 := eq_true q113
                            go_wp2_with (first | ((with_reducible refine gate_dst (N := 4) rfl ?_); refine box_event ?hg (N := 4) ?hd (cs := #[.int .i64 0, .int .i64 0, .int .i64 0, .int .i64 0, .int .i64 0]) (t := 113) ?hr ?_; (case hd => rfl); (case hg => rfl); (case hr => first | (go_simp; done) | (go_simp; rfl)); intro gb114 hg w27 hbox hb; have n0_ := Aside0.mk (below_step (by repeat (first | (with_reducible first | exact HB.out | apply below_alloc | apply pw_below_drewN | apply below_drew1) | exact HB.out)) hb); have n1_ := Aside0.mk (hbox); have n2_ := Aside0.mk ((by rw [hg]; exact (below_size (by repeat (first | (with_reducible first | exact HB.out | apply below_alloc | apply pw_below_drewN | apply below_drew1) | exact HB.out))) : w.heap.size ≤ gb114)); have n3_ := Aside0.mk ((by rw [hg]; exact (below_size (by repeat (first | (with_reducible first | exact HB.out | apply below_alloc | apply pw_below_drewN | apply below_drew1) | exact HB.out))) : w.heap.size ≤ gb114)); clear HB; have HB := n0_; have BK114 := n1_; have GW114 := n2_; have GE114 := n3_; clear n0_ n1_ n2_ n3_; clear hb hbox hg; have hcz28_0 : w27.cell? ⟨gb114, 0, none⟩ = some (.int .i64 0) := (blk_cell BK114.out 0).trans rfl; have hcz28_1 : w27.cell? ⟨gb114, 1, none⟩ = some (.int .i64 0) := (blk_cell BK114.out 1).trans rfl; have hcz28_2 : w27.cell? ⟨gb114, 2, none⟩ = some (.int .i64 0) := (blk_cell BK114.out 2).trans rfl; have hcz28_3 : w27.cell? ⟨gb114, 3, none⟩ = some (.int .i64 0) := (blk_cell BK114.out 3).trans rfl; have hcz28_4 : w27.cell? ⟨gb114, 4, none⟩ = some (.int .i64 0) := (blk_cell BK114.out 4).trans rfl; have hfz28_0 := blk_frozen BK114.out 0; have hfz28_1 := blk_frozen BK114.out 1; have hfz28_2 := blk_frozen BK114.out 2; have hfz28_3 := blk_frozen BK114.out 3; have hfz28_4 := blk_frozen BK114.out 4))
                            repeat (go_quiet (first | ((with_reducible refine gate_dst (N := 4) rfl ?_); refine box_event ?hg (N := 4) ?hd (cs := #[.int .i64 0, .int .i64 0, .int .i64 0, .int .i64 0, .int .i64 0]) (t := 113) ?hr ?_; (case hd => rfl); (case hg => rfl); (case hr => first | (go_simp; done) | (go_simp; rfl)); intro gb114 hg w27 hbox hb; have n0_ := Aside0.mk (below_step (by repeat (first | (with_reducible first | exact HB.out | apply below_alloc | apply pw_below_drewN | apply below_drew1) | exact HB.out)) hb); have n1_ := Aside0.mk (hbox); have n2_ := Aside0.mk ((by rw [hg]; exact (below_size (by repeat (first | (with_reducible first | exact HB.out | apply below_alloc | apply pw_below_drewN | apply below_drew1) | exact HB.out))) : w.heap.size ≤ gb114)); have n3_ := Aside0.mk ((by rw [hg]; exact (below_size (by repeat (first | (with_reducible first | exact HB.out | apply below_alloc | apply pw_below_drewN | apply below_drew1) | exact HB.out))) : w.heap.size ≤ gb114)); clear HB; have HB := n0_; have BK114 := n1_; have GW114 := n2_; have GE114 := n3_; clear n0_ n1_ n2_ n3_; clear hb hbox hg; have hcz28_0 : w27.cell? ⟨gb114, 0, none⟩ = some (.int .i64 0) := (blk_cell BK114.out 0).trans rfl; have hcz28_1 : w27.cell? ⟨gb114, 1, none⟩ = some (.int .i64 0) := (blk_cell BK114.out 1).trans rfl; have hcz28_2 : w27.cell? ⟨gb114, 2, none⟩ = some (.int .i64 0) := (blk_cell BK114.out 2).trans rfl; have hcz28_3 : w27.cell? ⟨gb114, 3, none⟩ = some (.int .i64 0) := (blk_cell BK114.out 3).trans rfl; have hcz28_4 : w27.cell? ⟨gb114, 4, none⟩ = some (.int .i64 0) := (blk_cell BK114.out 4).trans rfl; have hfz28_0 := blk_frozen BK114.out 0; have hfz28_1 := blk_frozen BK114.out 1; have hfz28_2 := blk_frozen BK114.out 2; have hfz28_3 := blk_frozen BK114.out 3; have hfz28_4 := blk_frozen BK114.out 4)); try go_wp2_with (first | ((with_reducible refine gate_dst (N := 4) rfl ?_); refine box_event ?hg (N := 4) ?hd (cs := #[.int .i64 0, .int .i64 0, .int .i64 0, .int .i64 0, .int .i64 0]) (t := 113) ?hr ?_; (case hd => rfl); (case hg => rfl); (case hr => first | (go_simp; done) | (go_simp; rfl)); intro gb114 hg w27 hbox hb; have n0_ := Aside0.mk (below_step (by repeat (first | (with_reducible first | exact HB.out | apply below_alloc | apply pw_below_drewN | apply below_drew1) | exact HB.out)) hb); have n1_ := Aside0.mk (hbox); have n2_ := Aside0.mk ((by rw [hg]; exact (below_size (by repeat (first | (with_reducible first | exact HB.out | apply below_alloc | apply pw_below_drewN | apply below_drew1) | exact HB.out))) : w.heap.size ≤ gb114)); have n3_ := Aside0.mk ((by rw [hg]; exact (below_size (by repeat (first | (with_reducible first | exact HB.out | apply below_alloc | apply pw_below_drewN | apply below_drew1) | exact HB.out))) : w.heap.size ≤ gb114)); clear HB; have HB := n0_; have BK114 := n1_; have GW114 := n2_; have GE114 := n3_; clear n0_ n1_ n2_ n3_; clear hb hbox hg; have hcz28_0 : w27.cell? ⟨gb114, 0, none⟩ = some (.int .i64 0) := (blk_cell BK114.out 0).trans rfl; have hcz28_1 : w27.cell? ⟨gb114, 1, none⟩ = some (.int .i64 0) := (blk_cell BK114.out 1).trans rfl; have hcz28_2 : w27.cell? ⟨gb114, 2, none⟩ = some (.int .i64 0) := (blk_cell BK114.out 2).trans rfl; have hcz28_3 : w27.cell? ⟨gb114, 3, none⟩ = some (.int .i64 0) := (blk_cell BK114.out 3).trans rfl; have hcz28_4 : w27.cell? ⟨gb114, 4, none⟩ = some (.int .i64 0) := (blk_cell BK114.out 4).trans rfl; have hfz28_0 := blk_frozen BK114.out 0; have hfz28_1 := blk_frozen BK114.out 1; have hfz28_2 := blk_frozen BK114.out 2; have hfz28_3 := blk_frozen BK114.out 3; have hfz28_4 := blk_frozen BK114.out 4)))
                            go_ret
                            exact ⟨by first | rfl | (simp [errW_none, errW_some] <;> rfl) | (simp [*, errW_none, errW_some] <;> rfl), by repeat (first | (with_reducible first | exact HB.out | apply below_alloc | apply pw_below_drewN | apply below_drew1 | refine below_set ?_ GE114.out) | exact HB.out)⟩
                          · rw [if_neg c26] at H
                            have c26b0 : decide (86400 ≤ ((rd_T113 l0 x8_1).f3)) = false := decide_eq_false c26
                            clear c26
                            replace H := Option.bind_eq_some_iff.mp H
                            obtain ⟨t115, A290, H⟩ := H
                            replace H : (if t115 = true then (zone_mayYears.l0 k1 l0 l0 (l0.length : Int) (wrap64 (x8_1 + 1))) else (some false)) = some r := H
                            have A29 := Aside0.mk A290
                            clear A290
                            by_cases c30 : t115 = true
                            · subst c30
                              have H1 : (zone_mayYears.l0 k1 l0 l0 (l0.length : Int) (wrap64 (x8_1 + 1))) = some r := by rw [if_pos rfl] at H; exact H
                              clear H
                              have H := H1
                              clear H1
                              have H' := Aside0.mk H
                              clear H
                              have p113 : 0 ≤ (x8_1 : Int) := of_decide_eq_true (by first | (with_reducible assumption) | assumption)
                              have q113 : x8_1 < (l0.length : Int) := of_decide_eq_true (by first | (with_reducible assumption) | assumption)
                              obtain ⟨ad113, e113, hx113_0, hx113_1, hx113_2, hx113_3, hx113_4⟩ := at_T113 HR0.out x8_1 p113 q113
                              cases e113
                              replace hx113_0 := (HB.out.cell (World.block_lt_of_cell? w _ hx113_0)).trans hx113_0
                              replace hx113_1 := (HB.out.cell (World.block_lt_of_cell? w _ hx113_1)).trans hx113_1
                              replace hx113_2 := (HB.out.cell (World.block_lt_of_cell? w _ hx113_2)).trans hx113_2
                              replace hx113_3 := (HB.out.cell (World.block_lt_of_cell? w _ hx113_3)).trans hx113_3
                              replace hx113_4 := (HB.out.cell (World.block_lt_of_cell? w _ hx113_4)).trans hx113_4
                              replace p113 := eq_true p113
                              replace q113 := eq_true q113
                              go_wp2_with (first | ((with_reducible refine gate_dst (N := 4) rfl ?_); refine box_event ?hg (N := 4) ?hd (cs := #[.int .i64 0, .int .i64 0, .int .i64 0, .int .i64 0, .int .i64 0]) (t := 113) ?hr ?_; (case hd => rfl); (case hg => rfl); (case hr => first | (go_simp; done) | (go_simp; rfl)); intro gb114 hg w31 hbox hb; have n0_ := Aside0.mk (below_step (by repeat (first | (with_reducible first | exact HB.out | apply below_alloc | apply pw_below_drewN | apply below_drew1) | exact HB.out)) hb); have n1_ := Aside0.mk (hbox); have n2_ := Aside0.mk ((by rw [hg]; exact (below_size (by repeat (first | (with_reducible first | exact HB.out | apply below_alloc | apply pw_below_drewN | apply below_drew1) | exact HB.out))) : w.heap.size ≤ gb114)); have n3_ := Aside0.mk ((by rw [hg]; exact (below_size (by repeat (first | (with_reducible first | exact HB.out | apply below_alloc | apply pw_below_drewN | apply below_drew1) | exact HB.out))) : w.heap.size ≤ gb114)); clear HB; have HB := n0_; have BK114 := n1_; have GW114 := n2_; have GE114 := n3_; clear n0_ n1_ n2_ n3_; clear hb hbox hg; have hcz32_0 : w31.cell? ⟨gb114, 0, none⟩ = some (.int .i64 0) := (blk_cell BK114.out 0).trans rfl; have hcz32_1 : w31.cell? ⟨gb114, 1, none⟩ = some (.int .i64 0) := (blk_cell BK114.out 1).trans rfl; have hcz32_2 : w31.cell? ⟨gb114, 2, none⟩ = some (.int .i64 0) := (blk_cell BK114.out 2).trans rfl; have hcz32_3 : w31.cell? ⟨gb114, 3, none⟩ = some (.int .i64 0) := (blk_cell BK114.out 3).trans rfl; have hcz32_4 : w31.cell? ⟨gb114, 4, none⟩ = some (.int .i64 0) := (blk_cell BK114.out 4).trans rfl; have hfz32_0 := blk_frozen BK114.out 0; have hfz32_1 := blk_frozen BK114.out 1; have hfz32_2 := blk_frozen BK114.out 2; have hfz32_3 := blk_frozen BK114.out 3; have hfz32_4 := blk_frozen BK114.out 4) | (go_at_call 81; (with_reducible refine (zone_offset.calls ((rd_T113 l0 x8_1).f4) true _ A29.out).mono ?_); rintro e w' ⟨rfl, ⟨nd, rfl⟩⟩; (try first | exact ⟨rfl, _, World.drewN_drewN _ _ _⟩ | exact ⟨rfl, _, Eq.trans (World.drewN_drewN _ _ _) (congrArg (World.drewN _) (Nat.add_assoc _ _ _))⟩)))
                              repeat (go_quiet (first | ((with_reducible refine gate_dst (N := 4) rfl ?_); refine box_event ?hg (N := 4) ?hd (cs := #[.int .i64 0, .int .i64 0, .int .i64 0, .int .i64 0, .int .i64 0]) (t := 113) ?hr ?_; (case hd => rfl); (case hg => rfl); (case hr => first | (go_simp; done) | (go_simp; rfl)); intro gb114 hg w31 hbox hb; have n0_ := Aside0.mk (below_step (by repeat (first | (with_reducible first | exact HB.out | apply below_alloc | apply pw_below_drewN | apply below_drew1) | exact HB.out)) hb); have n1_ := Aside0.mk (hbox); have n2_ := Aside0.mk ((by rw [hg]; exact (below_size (by repeat (first | (with_reducible first | exact HB.out | apply below_alloc | apply pw_below_drewN | apply below_drew1) | exact HB.out))) : w.heap.size ≤ gb114)); have n3_ := Aside0.mk ((by rw [hg]; exact (below_size (by repeat (first | (with_reducible first | exact HB.out | apply below_alloc | apply pw_below_drewN | apply below_drew1) | exact HB.out))) : w.heap.size ≤ gb114)); clear HB; have HB := n0_; have BK114 := n1_; have GW114 := n2_; have GE114 := n3_; clear n0_ n1_ n2_ n3_; clear hb hbox hg; have hcz32_0 : w31.cell? ⟨gb114, 0, none⟩ = some (.int .i64 0) := (blk_cell BK114.out 0).trans rfl; have hcz32_1 : w31.cell? ⟨gb114, 1, none⟩ = some (.int .i64 0) := (blk_cell BK114.out 1).trans rfl; have hcz32_2 : w31.cell? ⟨gb114, 2, none⟩ = some (.int .i64 0) := (blk_cell BK114.out 2).trans rfl; have hcz32_3 : w31.cell? ⟨gb114, 3, none⟩ = some (.int .i64 0) := (blk_cell BK114.out 3).trans rfl; have hcz32_4 : w31.cell? ⟨gb114, 4, none⟩ = some (.int .i64 0) := (blk_cell BK114.out 4).trans rfl; have hfz32_0 := blk_frozen BK114.out 0; have hfz32_1 := blk_frozen BK114.out 1; have hfz32_2 := blk_frozen BK114.out 2; have hfz32_3 := blk_frozen BK114.out 3; have hfz32_4 := blk_frozen BK114.out 4) | (go_at_call 81; (with_reducible refine (zone_offset.calls ((rd_T113 l0 x8_1).f4) true _ A29.out).mono ?_); rintro e w' ⟨rfl, ⟨nd, rfl⟩⟩; (try first | exact ⟨rfl, _, World.drewN_drewN _ _ _⟩ | exact ⟨rfl, _, Eq.trans (World.drewN_drewN _ _ _) (congrArg (World.drewN _) (Nat.add_assoc _ _ _))⟩))); try go_wp2_with (first | ((with_reducible refine gate_dst (N := 4) rfl ?_); refine box_event ?hg (N := 4) ?hd (cs := #[.int .i64 0, .int .i64 0, .int .i64 0, .int .i64 0, .int .i64 0]) (t := 113) ?hr ?_; (case hd => rfl); (case hg => rfl); (case hr => first | (go_simp; done) | (go_simp; rfl)); intro gb114 hg w31 hbox hb; have n0_ := Aside0.mk (below_step (by repeat (first | (with_reducible first | exact HB.out | apply below_alloc | apply pw_below_drewN | apply below_drew1) | exact HB.out)) hb); have n1_ := Aside0.mk (hbox); have n2_ := Aside0.mk ((by rw [hg]; exact (below_size (by repeat (first | (with_reducible first | exact HB.out | apply below_alloc | apply pw_below_drewN | apply below_drew1) | exact HB.out))) : w.heap.size ≤ gb114)); have n3_ := Aside0.mk ((by rw [hg]; exact (below_size (by repeat (first | (with_reducible first | exact HB.out | apply below_alloc | apply pw_below_drewN | apply below_drew1) | exact HB.out))) : w.heap.size ≤ gb114)); clear HB; have HB := n0_; have BK114 := n1_; have GW114 := n2_; have GE114 := n3_; clear n0_ n1_ n2_ n3_; clear hb hbox hg; have hcz32_0 : w31.cell? ⟨gb114, 0, none⟩ = some (.int .i64 0) := (blk_cell BK114.out 0).trans rfl; have hcz32_1 : w31.cell? ⟨gb114, 1, none⟩ = some (.int .i64 0) := (blk_cell BK114.out 1).trans rfl; have hcz32_2 : w31.cell? ⟨gb114, 2, none⟩ = some (.int .i64 0) := (blk_cell BK114.out 2).trans rfl; have hcz32_3 : w31.cell? ⟨gb114, 3, none⟩ = some (.int .i64 0) := (blk_cell BK114.out 3).trans rfl; have hcz32_4 : w31.cell? ⟨gb114, 4, none⟩ = some (.int .i64 0) := (blk_cell BK114.out 4).trans rfl; have hfz32_0 := blk_frozen BK114.out 0; have hfz32_1 := blk_frozen BK114.out 1; have hfz32_2 := blk_frozen BK114.out 2; have hfz32_3 := blk_frozen BK114.out 3; have hfz32_4 := blk_frozen BK114.out 4) | (go_at_call 81; (with_reducible refine (zone_offset.calls ((rd_T113 l0 x8_1).f4) true _ A29.out).mono ?_); rintro e w' ⟨rfl, ⟨nd, rfl⟩⟩; (try first | exact ⟨rfl, _, World.drewN_drewN _ _ _⟩ | exact ⟨rfl, _, Eq.trans (World.drewN_drewN _ _ _) (congrArg (World.drewN _) (Nat.add_assoc _ _ _))⟩))))
                              go_roundg k1
                              case measure => have := HK1.out; omega
                              case rel => exact ⟨(wrap64 (x8_1 + 1)), (by first | rfl | (simp; done) | (simp [*]; done)), H', ⟨by have := HK1.out; omega⟩, ⟨by repeat (first | (with_reducible first | exact HB.out | apply below_alloc | apply pw_below_drewN | apply below_drew1 | refine below_set ?_ GE114.out) | exact HB.out)⟩⟩
                            · replace c30 := Bool.eq_false_iff.mpr c30
                              subst c30
                              have H1 : (some false) = some r := by rw [if_neg (show ¬ (false = true) by decide)] at H; exact H
                              clear H
                              have H := H1
                              clear H1
                              obtain rfl := Option.some.inj H
                              have p113 : 0 ≤ (x8_1 : Int) := of_decide_eq_true (by first | (with_reducible assumption) | assumption)
                              have q113 : x8_1 < (l0.length : Int) := of_decide_eq_true (by first | (with_reducible assumption) | assumption)
                              obtain ⟨ad113, e113, hx113_0, hx113_1, hx113_2, hx113_3, hx113_4⟩ := at_T113 HR0.out x8_1 p113 q113
                              cases e113
                              replace hx113_0 := (HB.out.cell (World.block_lt_of_cell? w _ hx113_0)).trans hx113_0
                              replace hx113_1 := (HB.out.cell (World.block_lt_of_cell? w _ hx113_1)).trans hx113_1
                              replace hx113_2 := (HB.out.cell (World.block_lt_of_cell? w _ hx113_2)).trans hx113_2
                              replace hx113_3 := (HB.out.cell (World.block_lt_of_cell? w _ hx113_3)).trans hx113_3
                              replace hx113_4 := (HB.out.cell (World.block_lt_of_cell? w _ hx113_4)).trans hx113_4
                              replace p113 := eq_true p113
                              replace q113 := eq_true q113
                              go_wp2_with (first | ((with_reducible refine gate_dst (N := 4) rfl ?_); refine box_event ?hg (N := 4) ?hd (cs := #[.int .i64 0, .int .i64 0, .int .i64 0, .int .i64 0, .int .i64 0]) (t := 113) ?hr ?_; (case hd => rfl); (case hg => rfl); (case hr => first | (go_simp; done) | (go_simp; rfl)); intro gb114 hg w33 hbox hb; have n0_ := Aside0.mk (below_step (by repeat (first | (with_reducible first | exact HB.out | apply below_alloc | apply pw_below_drewN | apply below_drew1) | exact HB.out)) hb); have n1_ := Aside0.mk (hbox); have n2_ := Aside0.mk ((by rw [hg]; exact (below_size (by repeat (first | (with_reducible first | exact HB.out | apply below_alloc | apply pw_below_drewN | apply below_drew1) | exact HB.out))) : w.heap.size ≤ gb114)); have n3_ := Aside0.mk ((by rw [hg]; exact (below_size (by repeat (first | (with_reducible first | exact HB.out | apply below_alloc | apply pw_below_drewN | apply below_drew1) | exact HB.out))) : w.heap.size ≤ gb114)); clear HB; have HB := n0_; have BK114 := n1_; have GW114 := n2_; have GE114 := n3_; clear n0_ n1_ n2_ n3_; clear hb hbox hg; have hcz34_0 : w33.cell? ⟨gb114, 0, none⟩ = some (.int .i64 0) := (blk_cell BK114.out 0).trans rfl; have hcz34_1 : w33.cell? ⟨gb114, 1, none⟩ = some (.int .i64 0) := (blk_cell BK114.out 1).trans rfl; have hcz34_2 : w33.cell? ⟨gb114, 2, none⟩ = some (.int .i64 0) := (blk_cell BK114.out 2).trans rfl; have hcz34_3 : w33.cell? ⟨gb114, 3, none⟩ = some (.int .i64 0) := (blk_cell BK114.out 3).trans rfl; have hcz34_4 : w33.cell? ⟨gb114, 4, none⟩ = some (.int .i64 0) := (blk_cell BK114.out 4).trans rfl; have hfz34_0 := blk_frozen BK114.out 0; have hfz34_1 := blk_frozen BK114.out 1; have hfz34_2 := blk_frozen BK114.out 2; have hfz34_3 := blk_frozen BK114.out 3; have hfz34_4 := blk_frozen BK114.out 4) | (go_at_call 81; (with_reducible refine (zone_offset.calls ((rd_T113 l0 x8_1).f4) false _ A29.out).mono ?_); rintro e w' ⟨rfl, ⟨nd, rfl⟩⟩; (try first | exact ⟨rfl, _, World.drewN_drewN _ _ _⟩ | exact ⟨rfl, _, Eq.trans (World.drewN_drewN _ _ _) (congrArg (World.drewN _) (Nat.add_assoc _ _ _))⟩)))
                              repeat (go_quiet (first | ((with_reducible refine gate_dst (N := 4) rfl ?_); refine box_event ?hg (N := 4) ?hd (cs := #[.int .i64 0, .int .i64 0, .int .i64 0, .int .i64 0, .int .i64 0]) (t := 113) ?hr ?_; (case hd => rfl); (case hg => rfl); (case hr => first | (go_simp; done) | (go_simp; rfl)); intro gb114 hg w33 hbox hb; have n0_ := Aside0.mk (below_step (by repeat (first | (with_reducible first | exact HB.out | apply below_alloc | apply pw_below_drewN | apply below_drew1) | exact HB.out)) hb); have n1_ := Aside0.mk (hbox); have n2_ := Aside0.mk ((by rw [hg]; exact (below_size (by repeat (first | (with_reducible first | exact HB.out | apply below_alloc | apply pw_below_drewN | apply below_drew1) | exact HB.out))) : w.heap.size ≤ gb114)); have n3_ := Aside0.mk ((by rw [hg]; exact (below_size (by repeat (first | (with_reducible first | exact HB.out | apply below_alloc | apply pw_below_drewN | apply below_drew1) | exact HB.out))) : w.heap.size ≤ gb114)); clear HB; have HB := n0_; have BK114 := n1_; have GW114 := n2_; have GE114 := n3_; clear n0_ n1_ n2_ n3_; clear hb hbox hg; have hcz34_0 : w33.cell? ⟨gb114, 0, none⟩ = some (.int .i64 0) := (blk_cell BK114.out 0).trans rfl; have hcz34_1 : w33.cell? ⟨gb114, 1, none⟩ = some (.int .i64 0) := (blk_cell BK114.out 1).trans rfl; have hcz34_2 : w33.cell? ⟨gb114, 2, none⟩ = some (.int .i64 0) := (blk_cell BK114.out 2).trans rfl; have hcz34_3 : w33.cell? ⟨gb114, 3, none⟩ = some (.int .i64 0) := (blk_cell BK114.out 3).trans rfl; have hcz34_4 : w33.cell? ⟨gb114, 4, none⟩ = some (.int .i64 0) := (blk_cell BK114.out 4).trans rfl; have hfz34_0 := blk_frozen BK114.out 0; have hfz34_1 := blk_frozen BK114.out 1; have hfz34_2 := blk_frozen BK114.out 2; have hfz34_3 := blk_frozen BK114.out 3; have hfz34_4 := blk_frozen BK114.out 4) | (go_at_call 81; (with_reducible refine (zone_offset.calls ((rd_T113 l0 x8_1).f4) false _ A29.out).mono ?_); rintro e w' ⟨rfl, ⟨nd, rfl⟩⟩; (try first | exact ⟨rfl, _, World.drewN_drewN _ _ _⟩ | exact ⟨rfl, _, Eq.trans (World.drewN_drewN _ _ _) (congrArg (World.drewN _) (Nat.add_assoc _ _ _))⟩))); try go_wp2_with (first | ((with_reducible refine gate_dst (N := 4) rfl ?_); refine box_event ?hg (N := 4) ?hd (cs := #[.int .i64 0, .int .i64 0, .int .i64 0, .int .i64 0, .int .i64 0]) (t := 113) ?hr ?_; (case hd => rfl); (case hg => rfl); (case hr => first | (go_simp; done) | (go_simp; rfl)); intro gb114 hg w33 hbox hb; have n0_ := Aside0.mk (below_step (by repeat (first | (with_reducible first | exact HB.out | apply below_alloc | apply pw_below_drewN | apply below_drew1) | exact HB.out)) hb); have n1_ := Aside0.mk (hbox); have n2_ := Aside0.mk ((by rw [hg]; exact (below_size (by repeat (first | (with_reducible first | exact HB.out | apply below_alloc | apply pw_below_drewN | apply below_drew1) | exact HB.out))) : w.heap.size ≤ gb114)); have n3_ := Aside0.mk ((by rw [hg]; exact (below_size (by repeat (first | (with_reducible first | exact HB.out | apply below_alloc | apply pw_below_drewN | apply below_drew1) | exact HB.out))) : w.heap.size ≤ gb114)); clear HB; have HB := n0_; have BK114 := n1_; have GW114 := n2_; have GE114 := n3_; clear n0_ n1_ n2_ n3_; clear hb hbox hg; have hcz34_0 : w33.cell? ⟨gb114, 0, none⟩ = some (.int .i64 0) := (blk_cell BK114.out 0).trans rfl; have hcz34_1 : w33.cell? ⟨gb114, 1, none⟩ = some (.int .i64 0) := (blk_cell BK114.out 1).trans rfl; have hcz34_2 : w33.cell? ⟨gb114, 2, none⟩ = some (.int .i64 0) := (blk_cell BK114.out 2).trans rfl; have hcz34_3 : w33.cell? ⟨gb114, 3, none⟩ = some (.int .i64 0) := (blk_cell BK114.out 3).trans rfl; have hcz34_4 : w33.cell? ⟨gb114, 4, none⟩ = some (.int .i64 0) := (blk_cell BK114.out 4).trans rfl; have hfz34_0 := blk_frozen BK114.out 0; have hfz34_1 := blk_frozen BK114.out 1; have hfz34_2 := blk_frozen BK114.out 2; have hfz34_3 := blk_frozen BK114.out 3; have hfz34_4 := blk_frozen BK114.out 4) | (go_at_call 81; (with_reducible refine (zone_offset.calls ((rd_T113 l0 x8_1).f4) false _ A29.out).mono ?_); rintro e w' ⟨rfl, ⟨nd, rfl⟩⟩; (try first | exact ⟨rfl, _, World.drewN_drewN _ _ _⟩ | exact ⟨rfl, _, Eq.trans (World.drewN_drewN _ _ _) (congrArg (World.drewN _) (Nat.add_assoc _ _ _))⟩))))
                              go_ret
                              exact ⟨by first | rfl | (simp [errW_none, errW_some] <;> rfl) | (simp [*, errW_none, errW_some] <;> rfl), by repeat (first | (with_reducible first | exact HB.out | apply below_alloc | apply pw_below_drewN | apply below_drew1 | refine below_set ?_ GE114.out) | exact HB.out)⟩
          · rw [if_neg c4] at H
            exact absurd H (by simp)
        · rw [if_neg c3] at H
          exact absurd H (by simp)
      · rw [if_neg c2] at H
        have c2b0 : decide (x8_1 < (l0.length : Int)) = false := decide_eq_false c2
        clear c2
        by_cases c35 : 1 < (l0.length : Int)
        · rw [if_pos c35] at H
          have c35b0 : decide (1 < (l0.length : Int)) = true := decide_eq_true c35
          have c35b1 : decide (1 < l0.length) = true := decide_eq_true (by omega)
          clear c35
          by_cases c36 : 0 < (l0.length : Int)
          · rw [if_pos c36] at H
            have c36b0 : decide (0 < (l0.length : Int)) = true := decide_eq_true c36
            have c36b1 : decide (0 < l0.length) = true := decide_eq_true (by omega)
            clear c36
            by_cases c37 : (wrap64 (((rd_T113 l0 1).f0) - ((rd_T113 l0 0).f0))) ≥ 2
            · rw [if_pos c37] at H
              have c37b0 : decide (2 ≤ (wrap64 (((rd_T113 l0 1).f0) - ((rd_T113 l0 0).f0)))) = true := decide_eq_true c37
              have c37b0x : decide (2 ≤ (IntKind.i64.wrap (((rd_T113 l0 1).f0) - ((rd_T113 l0 0).f0)))) = true := by simpa only [i64_w] using c37b0
              clear c37
              obtain rfl := Option.some.inj H
              have p116 : 0 ≤ (1 : Int) := (by omega)
              have q116 : 1 < (l0.length : Int) := of_decide_eq_true (by first | (with_reducible assumption) | assumption)
              obtain ⟨ad116, e116, hx116_0, hx116_1, hx116_2, hx116_3, hx116_4⟩ := at_T113 HR0.out 1 p116 q116
              cases e116
              (try simp only [show (1 : Int).toNat = 1 from rfl, Nat.reduceMul, Nat.reduceEqDiff, Go.Addr.add, ↓reduceIte] at hx116_0)
              (try simp only [show (1 : Int).toNat = 1 from rfl, Nat.reduceMul, Nat.reduceEqDiff, Go.Addr.add, ↓reduceIte] at hx116_1)
              (try simp only [show (1 : Int).toNat = 1 from rfl, Nat.reduceMul, Nat.reduceEqDiff, Go.Addr.add, ↓reduceIte] at hx116_2)
              (try simp only [show (1 : Int).toNat = 1 from rfl, Nat.reduceMul, Nat.reduceEqDiff, Go.Addr.add, ↓reduceIte] at hx116_3)
              (try simp only [show (1 : Int).toNat = 1 from rfl, Nat.reduceMul, Nat.reduceEqDiff, Go.Addr.add, ↓reduceIte] at hx116_4)
              have qi116 : (1 < l0.length) = True := eq_true (by omega)
              (try rw [show ((1 : Int)).toNat = 1 from rfl] at hx116_0)
              (try rw [show 1 * 5 = 5 from rfl] at hx116_0)
              (try rw [show ((1 : Int)).toNat = 1 from rfl] at hx116_1)
              (try rw [show 1 * 5 = 5 from rfl] at hx116_1)
              (try rw [show ((1 : Int)).toNat = 1 from rfl] at hx116_2)
              (try rw [show 1 * 5 = 5 from rfl] at hx116_2)
              (try rw [show ((1 : Int)).toNat = 1 from rfl] at hx116_3)
              (try rw [show 1 * 5 = 5 from rfl] at hx116_3)
              (try rw [show ((1 : Int)).toNat = 1 from rfl] at hx116_4)
              (try rw [show 1 * 5 = 5 from rfl] at hx116_4)
              replace hx116_0 := (HB.out.cell (World.block_lt_of_cell? w _ hx116_0)).trans hx116_0
              replace hx116_1 := (HB.out.cell (World.block_lt_of_cell? w _ hx116_1)).trans hx116_1
              replace hx116_2 := (HB.out.cell (World.block_lt_of_cell? w _ hx116_2)).trans hx116_2
              replace hx116_3 := (HB.out.cell (World.block_lt_of_cell? w _ hx116_3)).trans hx116_3
              replace hx116_4 := (HB.out.cell (World.block_lt_of_cell? w _ hx116_4)).trans hx116_4
              replace p116 := eq_true p116
              replace q116 := eq_true q116
              have p117 : 0 ≤ (0 : Int) := (by omega)
              have q117 : 0 < (l0.length : Int) := of_decide_eq_true (by first | (with_reducible assumption) | assumption)
              obtain ⟨ad117, e117, hx117_0, hx117_1, hx117_2, hx117_3, hx117_4⟩ := at_T113 HR0.out 0 p117 q117
              obtain rfl : ad116 = ad117 := (by injection e117)
              have qi117 : (0 < l0.length) = True := eq_true (by omega)
              (try rw [show ((0 : Int)).toNat = 0 from rfl] at hx117_0)
              (try rw [show 0 * 5 = 0 from rfl] at hx117_0)
              (try rw [Addr.add_zero'] at hx117_0)
              (try rw [show ((0 : Int)).toNat = 0 from rfl] at hx117_1)
              (try rw [show 0 * 5 = 0 from rfl] at hx117_1)
              (try rw [Addr.add_zero'] at hx117_1)
              (try rw [show ((0 : Int)).toNat = 0 from rfl] at hx117_2)
              (try rw [show 0 * 5 = 0 from rfl] at hx117_2)
              (try rw [Addr.add_zero'] at hx117_2)
              (try rw [show ((0 : Int)).toNat = 0 from rfl] at hx117_3)
              (try rw [show 0 * 5 = 0 from rfl] at hx117_3)
              (try rw [Addr.add_zero'] at hx117_3)
              (try rw [show ((0 : Int)).toNat = 0 from rfl] at hx117_4)
              (try rw [show 0 * 5 = 0 from rfl] at hx117_4)
              (try rw [Addr.add_zero'] at hx117_4)
              replace hx117_0 := (HB.out.cell (World.block_lt_of_cell? w _ hx117_0)).trans hx117_0
              replace hx117_1 := (HB.out.cell (World.block_lt_of_cell? w _ hx117_1)).trans hx117_1
              replace hx117_2 := (HB.out.cell (World.block_lt_of_cell? w _ hx117_2)).trans hx117_2
              replace hx117_3 := (HB.out.cell (World.block_lt_of_cell? w _ hx117_3)).trans hx117_3
              replace hx117_4 := (HB.out.cell (World.block_lt_of_cell? w _ hx117_4)).trans hx117_4
              replace p117 := eq_true p117
              replace q117 := eq_true q117
              go_wp2
              repeat (go_quiet (fail); try go_wp2)
              go_ret
              exact ⟨by first | rfl | (simp [errW_none, errW_some] <;> rfl) | (simp [*, errW_none, errW_some] <;> rfl), by repeat (first | (with_reducible first | exact HB.out | apply below_alloc | apply pw_below_drewN | apply below_drew1) | exact HB.out)⟩
            · rw [if_neg c37] at H
              have c37b0 : decide (2 ≤ (wrap64 (((rd_T113 l0 1).f0) - ((rd_T113 l0 0).f0)))) = false := decide_eq_false c37
              have c37b0x : decide (2 ≤ (IntKind.i64.wrap (((rd_T113 l0 1).f0) - ((rd_T113 l0 0).f0)))) = false := by simpa only [i64_w] using c37b0
              clear c37
              obtain rfl := Option.some.inj H
              have p116 : 0 ≤ (1 : Int) := (by omega)
              have q116 : 1 < (l0.length : Int) := of_decide_eq_true (by first | (with_reducible assumption) | assumption)
              obtain ⟨ad116, e116, hx116_0, hx116_1, hx116_2, hx116_3, hx116_4⟩ := at_T113 HR0.out 1 p116 q116
              cases e116
              (try simp only [show (1 : Int).toNat = 1 from rfl, Nat.reduceMul, Nat.reduceEqDiff, Go.Addr.add, ↓reduceIte] at hx116_0)
              (try simp only [show (1 : Int).toNat = 1 from rfl, Nat.reduceMul, Nat.reduceEqDiff, Go.Addr.add, ↓reduceIte] at hx116_1)
              (try simp only [show (1 : Int).toNat = 1 from rfl, Nat.reduceMul, Nat.reduceEqDiff, Go.Addr.add, ↓reduceIte] at hx116_2)
              (try simp only [show (1 : Int).toNat = 1 from rfl, Nat.reduceMul, Nat.reduceEqDiff, Go.Addr.add, ↓reduceIte] at hx116_3)
              (try simp only [show (1 : Int).toNat = 1 from rfl, Nat.reduceMul, Nat.reduceEqDiff, Go.Addr.add, ↓reduceIte] at hx116_4)
              have qi116 : (1 < l0.length) = True := eq_true (by omega)
              (try rw [show ((1 : Int)).toNat = 1 from rfl] at hx116_0)
              (try rw [show 1 * 5 = 5 from rfl] at hx116_0)
              (try rw [show ((1 : Int)).toNat = 1 from rfl] at hx116_1)
              (try rw [show 1 * 5 = 5 from rfl] at hx116_1)
              (try rw [show ((1 : Int)).toNat = 1 from rfl] at hx116_2)
              (try rw [show 1 * 5 = 5 from rfl] at hx116_2)
              (try rw [show ((1 : Int)).toNat = 1 from rfl] at hx116_3)
              (try rw [show 1 * 5 = 5 from rfl] at hx116_3)
              (try rw [show ((1 : Int)).toNat = 1 from rfl] at hx116_4)
              (try rw [show 1 * 5 = 5 from rfl] at hx116_4)
              replace hx116_0 := (HB.out.cell (World.block_lt_of_cell? w _ hx116_0)).trans hx116_0
              replace hx116_1 := (HB.out.cell (World.block_lt_of_cell? w _ hx116_1)).trans hx116_1
              replace hx116_2 := (HB.out.cell (World.block_lt_of_cell? w _ hx116_2)).trans hx116_2
              replace hx116_3 := (HB.out.cell (World.block_lt_of_cell? w _ hx116_3)).trans hx116_3
              replace hx116_4 := (HB.out.cell (World.block_lt_of_cell? w _ hx116_4)).trans hx116_4
              replace p116 := eq_true p116
              replace q116 := eq_true q116
              have p117 : 0 ≤ (0 : Int) := (by omega)
              have q117 : 0 < (l0.length : Int) := of_decide_eq_true (by first | (with_reducible assumption) | assumption)
              obtain ⟨ad117, e117, hx117_0, hx117_1, hx117_2, hx117_3, hx117_4⟩ := at_T113 HR0.out 0 p117 q117
              obtain rfl : ad116 = ad117 := (by injection e117)
              have qi117 : (0 < l0.length) = True := eq_true (by omega)
              (try rw [show ((0 : Int)).toNat = 0 from rfl] at hx117_0)
              (try rw [show 0 * 5 = 0 from rfl] at hx117_0)
              (try rw [Addr.add_zero'] at hx117_0)
              (try rw [show ((0 : Int)).toNat = 0 from rfl] at hx117_1)
              (try rw [show 0 * 5 = 0 from rfl] at hx117_1)
              (try rw [Addr.add_zero'] at hx117_1)
              (try rw [show ((0 : Int)).toNat = 0 from rfl] at hx117_2)
              (try rw [show 0 * 5 = 0 from rfl] at hx117_2)
              (try rw [Addr.add_zero'] at hx117_2)
              (try rw [show ((0 : Int)).toNat = 0 from rfl] at hx117_3)
              (try rw [show 0 * 5 = 0 from rfl] at hx117_3)
              (try rw [Addr.add_zero'] at hx117_3)
              (try rw [show ((0 : Int)).toNat = 0 from rfl] at hx117_4)
              (try rw [show 0 * 5 = 0 from rfl] at hx117_4)
              (try rw [Addr.add_zero'] at hx117_4)
              replace hx117_0 := (HB.out.cell (World.block_lt_of_cell? w _ hx117_0)).trans hx117_0
              replace hx117_1 := (HB.out.cell (World.block_lt_of_cell? w _ hx117_1)).trans hx117_1
              replace hx117_2 := (HB.out.cell (World.block_lt_of_cell? w _ hx117_2)).trans hx117_2
              replace hx117_3 := (HB.out.cell (World.block_lt_of_cell? w _ hx117_3)).trans hx117_3
              replace hx117_4 := (HB.out.cell (World.block_lt_of_cell? w _ hx117_4)).trans hx117_4
              replace p117 := eq_true p117
              replace q117 := eq_true q117
              go_wp2
              repeat (go_quiet (fail); try go_wp2)
              go_ret
              exact ⟨by first | rfl | (simp [errW_none, errW_some] <;> rfl) | (simp [*, errW_none, errW_some] <;> rfl), by repeat (first | (with_reducible first | exact HB.out | apply below_alloc | apply pw_below_drewN | apply below_drew1) | exact HB.out)⟩
          · rw [if_neg c36] at H
            exact absurd H (by simp)
        · rw [if_neg c35] at H
          exact absurd H (by simp)

/-! ### zone_May: function 57 -/
def zone_May.j0 : Nat → Bool → Int → List (S110) → List (S113) → Int → Option (Bool)
  | 0, _, _, _, _, _ => none
  | k + 1, x15, x119000, x119001, x119002, x119003 => if x15 = true then (some false) else (if (x119002.length : Int) = 0 then (some (x119003 == 0)) else (if (x119002.length : Int) = 2 then ((stamp_Make.f k x119003 1 1 0 0 0).bind fun bt121 => (if bt121.2 = 0 then ((zone_mayYears.f k x119002).bind fun t123 => (if t123 = true then (if (x119001.length : Int) = 0 then (some true) else (if 0 ≤ (wrap64 ((x119001.length : Int) - 1)) then (if (wrap64 ((x119001.length : Int) - 1)) < (x119001.length : Int) then (some (decide (bt121.1 ≥ (wrap64 (((rd_T110 x119001 (wrap64 ((x119001.length : Int) - 1))).f0) + 200000))))) else (none)) else (none))) else (some false))) else (some false))) else (some false)))
def zone_May.f (k : Nat) (a0_0 : Int) (l0_1 : List (S110)) (l0_2 : List (S113)) (a0_3 : Int) : Option (Bool) := (zone_offset.f a0_0).bind fun t119 => (if t119 = true then ((zone_mayShifts.f k l0_1).bind fun t120 => (zone_May.j0 k (!t120) a0_0 l0_1 l0_2 a0_3)) else (zone_May.j0 k true a0_0 l0_1 l0_2 a0_3))
theorem zone_May.mono_l : ∀ k, (∀ y0 y1 y2 y3 y4, LeO (zone_May.j0 k y0 y1 y2 y3 y4) (zone_May.j0 (k + 1) y0 y1 y2 y3 y4))
  | 0 => fun _ _ _ _ _ r h => by simp [zone_May.j0] at h
  | k + 1 => by
    have ih0 := zone_May.mono_l k
    · intro y0 y1 y2 y3 y4
      unfold zone_May.j0
      repeat' first
      | (with_reducible exact ih0 _ _ _ _ _)
      | (with_reducible exact stamp_Make.mono _ _ _ _ _ _ _)
      | (with_reducible exact zone_mayShifts.mono _ _)
      | (with_reducible exact zone_mayYears.mono _ _)
      | (with_reducible exact LeO.refl _)
      | (with_reducible exact LeO.none _)
      | (with_reducible refine LeO.ite ?_ ?_)
      | (with_reducible refine LeO.bind ?_ (fun _ => ?_))
      | exact ih0 _ _ _ _ _
      | exact stamp_Make.mono _ _ _ _ _ _ _
      | exact zone_mayShifts.mono _ _
      | exact zone_mayYears.mono _ _
      | exact LeO.none _
      | refine LeO.ite ?_ ?_
      | refine LeO.bind ?_ (fun _ => ?_)
theorem zone_May.mono : ∀ a0 a1 a2 a3 k, LeO (zone_May.f k a0 a1 a2 a3) (zone_May.f (k + 1) a0 a1 a2 a3) := by
  intro a0 a1 a2 a3 k
  have ih0 := zone_May.mono_l k
  unfold zone_May.f
  repeat' first
      | (with_reducible exact ih0 _ _ _ _ _)
      | (with_reducible exact stamp_Make.mono _ _ _ _ _ _ _)
      | (with_reducible exact zone_mayShifts.mono _ _)
      | (with_reducible exact zone_mayYears.mono _ _)
      | (with_reducible exact LeO.refl _)
      | (with_reducible exact LeO.none _)
      | (with_reducible refine LeO.ite ?_ ?_)
      | (with_reducible refine LeO.bind ?_ (fun _ => ?_))
      | exact ih0 _ _ _ _ _
      | exact stamp_Make.mono _ _ _ _ _ _ _
      | exact zone_mayShifts.mono _ _
      | exact zone_mayYears.mono _ _
      | exact LeO.none _
      | refine LeO.ite ?_ ?_
      | refine LeO.bind ?_ (fun _ => ?_)
set_option maxHeartbeats 8000000 in
set_option maxRecDepth 100000 in
theorem zone_May.calls (k : Nat) (a0_0 : Int) (A0_1 : Option Addr) (c0_1 : Nat) (l0_1 : List (S110)) (A0_2 : Option Addr) (c0_2 : Nat) (l0_2 : List (S113)) (a0_3 : Int) (r : Bool) (w : World) (hr0_1 : Kd.C k110 w A0_1 l0_1.length l0_1) (hc0_1 : l0_1.length ≤ c0_1) (hr0_2 : Kd.C k113 w A0_2 l0_2.length l0_2) (hc0_2 : l0_2.length ≤ c0_2) (h : zone_May.f k a0_0 l0_1 l0_2 a0_3 = some r) :
    Calls Tryz.prog 57 #[.agg #[.int .i64 a0_0, .slice A0_1 l0_1.length c0_1, .slice A0_2 l0_2.length c0_2, .int .i64 a0_3]] w fun e w' => e = .returned (.bool r) ∧ Below w.heap.size w w' := by
  have hu98 := Tryz.underlying98
  have HR0_1 := Aside0.mk hr0_1
  have HC0_1 := Aside0.mk hc0_1
  clear hr0_1 hc0_1
  have HR0_2 := Aside0.mk hr0_2
  have HC0_2 := Aside0.mk hc0_2
  clear hr0_2 hc0_2
  have HB := Aside0.mk (Below.refl w.heap.size w)
  have H : ((zone_offset.f a0_0).bind fun t119 => (if t119 = true then ((zone_mayShifts.f k l0_1).bind fun t120 => (zone_May.j0 k (!t120) a0_0 l0_1 l0_2 a0_3)) else (zone_May.j0 k true a0_0 l0_1 l0_2 a0_3))) = some r := h
  clear h
  have HC2 := Aside0.mk H
  clear H
  go_enter Tryz.func57, Tryz.ntmps57
  go_upto_region 1 with (first | ((with_reducible refine gate_dst (N := 1) rfl ?_); refine box_event ?hg (N := 1) ?hd (cs := #[.int .i64 a0_0, .slice A0_1 l0_1.length c0_1, .slice A0_2 l0_2.length c0_2, .int .i64 a0_3]) (t := 98) ?hr ?_; (case hd => rfl); (case hg => rfl); (case hr => first | (go_simp; done) | (go_simp; rfl)); intro gb118 hg w3 hbox hb; have n0_ := Aside0.mk (below_step (by repeat (first | (with_reducible first | exact HB.out | apply below_alloc | apply pw_below_drewN | apply below_drew1) | exact HB.out)) hb); have n1_ := Aside0.mk (hbox); have n2_ := Aside0.mk ((by rw [hg]; exact (below_size (by repeat (first | (with_reducible first | exact HB.out | apply below_alloc | apply pw_below_drewN | apply below_drew1) | exact HB.out))) : w.heap.size ≤ gb118)); have n3_ := Aside0.mk ((by rw [hg]; exact (below_size (by repeat (first | (with_reducible first | exact HB.out | apply below_alloc | apply pw_below_drewN | apply below_drew1) | exact HB.out))) : w.heap.size ≤ gb118)); clear HB; have HB := n0_; have BK118 := n1_; have GW118 := n2_; have GE118 := n3_; clear n0_ n1_ n2_ n3_; clear hb hbox hg))
  (try simp only [Act.put, List.setIfInBounds_toArray, List.set_cons_zero, List.set_cons_succ])
  go_cut [15] (fun v15 wc => ∃ (kq : Nat) (x15_1 : Bool), v15 = .bool x15_1 ∧ Aside0 (zone_May.j0 kq x15_1 a0_0 l0_1 l0_2 a0_3 = some r) ∧ Aside0 (kq ≤ k) ∧ Aside0 (wc.heap[gb118]? = some (.cells #[.int .i64 a0_0, (.slice A0_1 l0_1.length c0_1), (.slice A0_2 l0_2.length c0_2), .int .i64 a0_3] 98 (0, 0))) ∧ Aside0 (Below w.heap.size w wc))
  case first =>
    have H := HC2.out
    clear HC2
    replace H := Option.bind_eq_some_iff.mp H
    obtain ⟨t119, A40, H⟩ := H
    replace H : (if t119 = true then ((zone_mayShifts.f k l0_1).bind fun t120 => (zone_May.j0 k (!t120) a0_0 l0_1 l0_2 a0_3)) else (zone_May.j0 k true a0_0 l0_1 l0_2 a0_3)) = some r := H
    have A4 := Aside0.mk A40
    clear A40
    by_cases c5 : t119 = true
    · subst c5
      have H1 : ((zone_mayShifts.f k l0_1).bind fun t120 => (zone_May.j0 k (!t120) a0_0 l0_1 l0_2 a0_3)) = some r := by rw [if_pos rfl] at H; exact H
      clear H
      have H := H1
      clear H1
      replace H := Option.bind_eq_some_iff.mp H
      obtain ⟨t120, A60, H⟩ := H
      replace H : (zone_May.j0 k (!t120) a0_0 l0_1 l0_2 a0_3) = some r := H
      have A6 := Aside0.mk A60
      clear A60
      have H' := Aside0.mk H
      clear H
      have hcz7_0 : w3.cell? ⟨gb118, 0, none⟩ = some (.int .i64 a0_0) := (blk_cell BK118.out 0).trans rfl
      have hcz7_1 : w3.cell? ⟨gb118, 1, none⟩ = some (.slice A0_1 l0_1.length c0_1) := (blk_cell BK118.out 1).trans rfl
      have hcz7_2 : w3.cell? ⟨gb118, 2, none⟩ = some (.slice A0_2 l0_2.length c0_2) := (blk_cell BK118.out 2).trans rfl
      have hcz7_3 : w3.cell? ⟨gb118, 3, none⟩ = some (.int .i64 a0_3) := (blk_cell BK118.out 3).trans rfl
      have hfz7_0 := blk_frozen BK118.out 0
      have hfz7_1 := blk_frozen BK118.out 1
      have hfz7_2 := blk_frozen BK118.out 2
      have hfz7_3 := blk_frozen BK118.out 3
      go_wp2_with (first | ((with_reducible refine gate_callee (f := 81) rfl ?_); refine goesL_ (some 8) rfl rfl Tryz.func81 (by kernel_rfl) rfl #[.int .i64 a0_0] rfl (by (try simp only [List.map_toArray, List.map_cons, List.map_nil]); first | done | rfl | (simp only [List.length_drop, List.length_take]; rfl)) ?_; (with_reducible refine (zone_offset.calls a0_0 true _ A4.out).mono ?_); rintro e w' ⟨rfl, ⟨nd, rfl⟩⟩; refine ⟨_, rfl, ?_⟩) | (go_at_call 82; (with_reducible refine (zone_mayShifts.calls k _ _ l0_1 t120 _ ?side1 ?side2 A6.out).mono ?_); (case side1 => repeat (first | exact (Kd.C_below HR0_1.out (by repeat (first | (with_reducible first | exact HB.out | apply below_alloc | apply pw_below_drewN | apply below_drew1 | refine below_set ?_ GE118.out) | exact HB.out))) | (with_reducible refine Kd.C_alloc ?_ _) | (with_reducible refine Kd.C_drewN ?_ _) | (with_reducible refine Kd.C_drew ?_))); (case side2 => exact HC0_1.out); rintro e w8 ⟨rfl, hb⟩; have n0_ := Aside0.mk (blk_below (g := gb118) (o := .cells #[.int .i64 a0_0, .slice A0_1 l0_1.length c0_1, .slice A0_2 l0_2.length c0_2, .int .i64 a0_3] 98 (0, 0)) (by (with_reducible repeat (first | refine blk_drewN ?_ _ | refine blk_drew ?_ | refine blk_alloc ?_ _)); exact BK118.out) hb); have n1_ := Aside0.mk (below_step (by repeat (first | (with_reducible first | exact HB.out | apply below_alloc | apply pw_below_drewN | apply below_drew1 | refine below_set ?_ GE118.out) | exact HB.out)) hb); clear BK118; clear HB; have BK118 := n0_; have HB := n1_; clear n0_ n1_; (try clear hb); (try clear hb2); (try clear hk); (try clear hi)))
      go_meet
      case rel => exact ⟨_, (!t120), (by first | rfl | (simp; done) | (simp [*]; done)), H', ⟨by first | omega | exact Nat.le_refl _⟩, ⟨by (with_reducible repeat (first | refine blk_drewN ?_ _ | refine blk_drew ?_ | refine blk_alloc ?_ _)); exact BK118.out⟩, ⟨by repeat (first | (with_reducible first | exact HB.out | apply below_alloc | apply pw_below_drewN | apply below_drew1 | refine below_set ?_ GE118.out) | exact HB.out)⟩⟩
    · replace c5 := Bool.eq_false_iff.mpr c5
      subst c5
      have H1 : (zone_May.j0 k true a0_0 l0_1 l0_2 a0_3) = some r := by rw [if_neg (show ¬ (false = true) by decide)] at H; exact H
      clear H
      have H := H1
      clear H1
      have H' := Aside0.mk H
      clear H
      have hcz9_0 : w3.cell? ⟨gb118, 0, none⟩ = some (.int .i64 a0_0) := (blk_cell BK118.out 0).trans rfl
      have hcz9_1 : w3.cell? ⟨gb118, 1, none⟩ = some (.slice A0_1 l0_1.length c0_1) := (blk_cell BK118.out 1).trans rfl
      have hcz9_2 : w3.cell? ⟨gb118, 2, none⟩ = some (.slice A0_2 l0_2.length c0_2) := (blk_cell BK118.out 2).trans rfl
      have hcz9_3 : w3.cell? ⟨gb118, 3, none⟩ = some (.int .i64 a0_3) := (blk_cell BK118.out 3).trans rfl
      have hfz9_0 := blk_frozen BK118.out 0
      have hfz9_1 := blk_frozen BK118.out 1
      have hfz9_2 := blk_frozen BK118.out 2
      have hfz9_3 := blk_frozen BK118.out 3
      go_wp2_with (first | ((with_reducible refine gate_callee (f := 81) rfl ?_); refine goesL_ (some 8) rfl rfl Tryz.func81 (by kernel_rfl) rfl #[.int .i64 a0_0] rfl (by (try simp only [List.map_toArray, List.map_cons, List.map_nil]); first | done | rfl | (simp only [List.length_drop, List.length_take]; rfl)) ?_; (with_reducible refine (zone_offset.calls a0_0 false _ A4.out).mono ?_); rintro e w' ⟨rfl, ⟨nd, rfl⟩⟩; refine ⟨_, rfl, ?_⟩))
      go_meet
      case rel => exact ⟨_, (true), (by first | rfl | (simp; done) | (simp [*]; done)), H', ⟨by first | omega | exact Nat.le_refl _⟩, ⟨by (with_reducible repeat (first | refine blk_drewN ?_ _ | refine blk_drew ?_ | refine blk_alloc ?_ _)); exact BK118.out⟩, ⟨by repeat (first | (with_reducible first | exact HB.out | apply below_alloc | apply pw_below_drewN | apply below_drew1 | refine below_set ?_ GE118.out) | exact HB.out)⟩⟩
  case rest =>
    clear HC2
    try clear p2
    try clear c5
    try clear c8
    try clear hcz7_0
    try clear hcz7_1
    try clear hcz7_2
    try clear hcz7_3
    try clear hcz9_0
    try clear hcz9_1
    try clear hcz9_2
    try clear hcz9_3
    try clear hfz7_0
    try clear hfz7_1
    try clear hfz7_2
    try clear hfz7_3
    try clear hfz9_0
    try clear hfz9_1
    try clear hfz9_2
    try clear hfz9_3
    obtain ⟨kq, x15_1, rfl, HA, HJ1, BK118, HB⟩ := hcut
    cases kq with
    | zero => exact absurd HA.out (by simp [zone_May.j0])
    | succ kj1 =>
      have H := HA.out
      clear HA
      simp only [zone_May.j0] at H
      by_cases c10 : x15_1 = true
      · subst c10
        have H1 : (some false) = some r := by rw [if_pos rfl] at H; exact H
        clear H
        have H := H1
        clear H1
        obtain rfl := Option.some.inj H
        go_wp2
        go_ret
        exact ⟨by first | rfl | (simp [errW_none, errW_some] <;> rfl) | (simp [*, errW_none, errW_some] <;> rfl), by repeat (first | (with_reducible first | exact HB.out | apply below_alloc | apply pw_below_drewN | apply below_drew1 | refine below_set ?_ GE118.out) | exact HB.out)⟩
      · replace c10 := Bool.eq_false_iff.mpr c10
        subst c10
        have H1 : (if (l0_2.length : Int) = 0 then (some (a0_3 == 0)) else (if (l0_2.length : Int) = 2 then ((stamp_Make.f kj1 a0_3 1 1 0 0 0).bind fun bt121 => (if bt121.2 = 0 then ((zone_mayYears.f kj1 l0_2).bind fun t123 => (if t123 = true then (if (l0_1.length : Int) = 0 then (some true) else (if 0 ≤ (wrap64 ((l0_1.length : Int) - 1)) then (if (wrap64 ((l0_1.length : Int) - 1)) < (l0_1.length : Int) then (some (decide (bt121.1 ≥ (wrap64 (((rd_T110 l0_1 (wrap64 ((l0_1.length : Int) - 1))).f0) + 200000))))) else (none)) else (none))) else (some false))) else (some false))) else (some false))) = some r := by rw [if_neg (show ¬ (false = true) by decide)] at H; exact H
        clear H
        have H := H1
        clear H1
        by_cases c11 : (l0_2.length : Int) = 0
        · rw [if_pos c11] at H
          have c11b0 : ((l0_2.length : Int) == 0) = true := beq_iff_eq.mpr c11
          have c11b1 : ((l0_2.length : Int) != 0) = false := bne_eq_false_iff_eq.mpr c11
          clear c11
          obtain rfl := Option.some.inj H
          have hcz12_0 : wc.cell? ⟨gb118, 0, none⟩ = some (.int .i64 a0_0) := (blk_cell BK118.out 0).trans rfl
          have hcz12_1 : wc.cell? ⟨gb118, 1, none⟩ = some (.slice A0_1 l0_1.length c0_1) := (blk_cell BK118.out 1).trans rfl
          have hcz12_2 : wc.cell? ⟨gb118, 2, none⟩ = some (.slice A0_2 l0_2.length c0_2) := (blk_cell BK118.out 2).trans rfl
          have hcz12_3 : wc.cell? ⟨gb118, 3, none⟩ = some (.int .i64 a0_3) := (blk_cell BK118.out 3).trans rfl
          have hfz12_0 := blk_frozen BK118.out 0
          have hfz12_1 := blk_frozen BK118.out 1
          have hfz12_2 := blk_frozen BK118.out 2
          have hfz12_3 := blk_frozen BK118.out 3
          go_wp2
          go_ret
          exact ⟨by first | rfl | (simp [errW_none, errW_some] <;> rfl) | (simp [*, errW_none, errW_some] <;> rfl), by repeat (first | (with_reducible first | exact HB.out | apply below_alloc | apply pw_below_drewN | apply below_drew1 | refine below_set ?_ GE118.out) | exact HB.out)⟩
        · rw [if_neg c11] at H
          have c11b0 : ((l0_2.length : Int) == 0) = false := beq_eq_false_iff_ne.mpr c11
          have c11b1 : ((l0_2.length : Int) != 0) = true := bne_iff_ne.mpr c11
          have c11b2 : ¬ (l0_2 = []) := fun h_ => c11 (by rw [h_]; rfl)
          by_cases c13 : (l0_2.length : Int) = 2
          · rw [if_pos c13] at H
            have c13b0 : ((l0_2.length : Int) == 2) = true := beq_iff_eq.mpr c13
            have c13b1 : ((l0_2.length : Int) != 2) = false := bne_eq_false_iff_eq.mpr c13
            clear c13
            replace H := Option.bind_eq_some_iff.mp H
            obtain ⟨⟨t121, t122⟩, A140, H⟩ := H
            replace H : (if t122 = 0 then ((zone_mayYears.f kj1 l0_2).bind fun t123 => (if t123 = true then (if (l0_1.length : Int) = 0 then (some true) else (if 0 ≤ (wrap64 ((l0_1.length : Int) - 1)) then (if (wrap64 ((l0_1.length : Int) - 1)) < (l0_1.length : Int) then (some (decide (t121 ≥ (wrap64 (((rd_T110 l0_1 (wrap64 ((l0_1.length : Int) - 1))).f0) + 200000))))) else (none)) else (none))) else (some false))) else (some false)) = some r := H
            have A14 := Aside0.mk A140
            clear A140
            by_cases c15 : t122 = 0
            · rw [if_pos c15] at H
              have c15b0 : (t122 == 0) = true := beq_iff_eq.mpr c15
              have c15b1 : (t122 != 0) = false := bne_eq_false_iff_eq.mpr c15
              clear c15
              replace H := Option.bind_eq_some_iff.mp H
              obtain ⟨t123, A160, H⟩ := H
              replace H : (if t123 = true then (if (l0_1.length : Int) = 0 then (some true) else (if 0 ≤ (wrap64 ((l0_1.length : Int) - 1)) then (if (wrap64 ((l0_1.length : Int) - 1)) < (l0_1.length : Int) then (some (decide (t121 ≥ (wrap64 (((rd_T110 l0_1 (wrap64 ((l0_1.length : Int) - 1))).f0) + 200000))))) else (none)) else (none))) else (some false)) = some r := H
              have A16 := Aside0.mk A160
              clear A160
              by_cases c17 : t123 = true
              · subst c17
                have H1 : (if (l0_1.length : Int) = 0 then (some true) else (if 0 ≤ (wrap64 ((l0_1.length : Int) - 1)) then (if (wrap64 ((l0_1.length : Int) - 1)) < (l0_1.length : Int) then (some (decide (t121 ≥ (wrap64 (((rd_T110 l0_1 (wrap64 ((l0_1.length : Int) - 1))).f0) + 200000))))) else (none)) else (none))) = some r := by rw [if_pos rfl] at H; exact H
                clear H
                have H := H1
                clear H1
                by_cases c18 : (l0_1.length : Int) = 0
                · rw [if_pos c18] at H
                  have c18b0 : ((l0_1.length : Int) == 0) = true := beq_iff_eq.mpr c18
                  have c18b1 : ((l0_1.length : Int) != 0) = false := bne_eq_false_iff_eq.mpr c18
                  clear c18
                  obtain rfl := Option.some.inj H
                  have hcz19_0 : wc.cell? ⟨gb118, 0, none⟩ = some (.int .i64 a0_0) := (blk_cell BK118.out 0).trans rfl
                  have hcz19_1 : wc.cell? ⟨gb118, 1, none⟩ = some (.slice A0_1 l0_1.length c0_1) := (blk_cell BK118.out 1).trans rfl
                  have hcz19_2 : wc.cell? ⟨gb118, 2, none⟩ = some (.slice A0_2 l0_2.length c0_2) := (blk_cell BK118.out 2).trans rfl
                  have hcz19_3 : wc.cell? ⟨gb118, 3, none⟩ = some (.int .i64 a0_3) := (blk_cell BK118.out 3).trans rfl
                  have hfz19_0 := blk_frozen BK118.out 0
                  have hfz19_1 := blk_frozen BK118.out 1
                  have hfz19_2 := blk_frozen BK118.out 2
                  have hfz19_3 := blk_frozen BK118.out 3
                  go_wp2_with (first | ((with_reducible refine gate_callee (f := 83) rfl ?_); refine goesL_ (some 29) rfl rfl Tryz.func83 (by kernel_rfl) rfl #[.int .i64 a0_3, .int .i64 1, .int .i64 1, .int .i64 0, .int .i64 0, .int .i64 0] rfl (by (try simp only [List.map_toArray, List.map_cons, List.map_nil]); first | done | rfl | (simp only [List.length_drop, List.length_take]; rfl)) ?_; (with_reducible refine (stamp_Make.calls kj1 a0_3 1 1 0 0 0 t121 t122 _ A14.out).mono ?_); rintro e w' ⟨rfl, ⟨nd, rfl⟩⟩; refine ⟨_, rfl, ?_⟩) | (go_at_call 84; (with_reducible refine (zone_mayYears.calls kj1 _ _ l0_2 true _ ?side1 ?side2 A16.out).mono ?_); (case side1 => repeat (first | exact (Kd.C_below HR0_2.out (by repeat (first | (with_reducible first | exact HB.out | apply below_alloc | apply pw_below_drewN | apply below_drew1 | refine below_set ?_ GE118.out) | exact HB.out))) | (with_reducible refine Kd.C_alloc ?_ _) | (with_reducible refine Kd.C_drewN ?_ _) | (with_reducible refine Kd.C_drew ?_))); (case side2 => exact HC0_2.out); rintro e w20 ⟨rfl, hb⟩; have n0_ := Aside0.mk (blk_below (g := gb118) (o := .cells #[.int .i64 a0_0, .slice A0_1 l0_1.length c0_1, .slice A0_2 l0_2.length c0_2, .int .i64 a0_3] 98 (0, 0)) (by (with_reducible repeat (first | refine blk_drewN ?_ _ | refine blk_drew ?_ | refine blk_alloc ?_ _)); exact BK118.out) hb); have n1_ := Aside0.mk (below_step (by repeat (first | (with_reducible first | exact HB.out | apply below_alloc | apply pw_below_drewN | apply below_drew1 | refine below_set ?_ GE118.out) | exact HB.out)) hb); clear BK118; clear HB; have BK118 := n0_; have HB := n1_; clear n0_ n1_; (try clear hb); (try clear hb2); (try clear hk); (try clear hi); have hcz21_0 : w20.cell? ⟨gb118, 0, none⟩ = some (.int .i64 a0_0) := (blk_cell BK118.out 0).trans rfl; have hcz21_1 : w20.cell? ⟨gb118, 1, none⟩ = some (.slice A0_1 l0_1.length c0_1) := (blk_cell BK118.out 1).trans rfl; have hcz21_2 : w20.cell? ⟨gb118, 2, none⟩ = some (.slice A0_2 l0_2.length c0_2) := (blk_cell BK118.out 2).trans rfl; have hcz21_3 : w20.cell? ⟨gb118, 3, none⟩ = some (.int .i64 a0_3) := (blk_cell BK118.out 3).trans rfl; have hfz21_0 := blk_frozen BK118.out 0; have hfz21_1 := blk_frozen BK118.out 1; have hfz21_2 := blk_frozen BK118.out 2; have hfz21_3 := blk_frozen BK118.out 3))
                  go_ret
                  exact ⟨by first | rfl | (simp [errW_none, errW_some] <;> rfl) | (simp [*, errW_none, errW_some] <;> rfl), by repeat (first | (with_reducible first | exact HB.out | apply below_alloc | apply pw_below_drewN | apply below_drew1 | refine below_set ?_ GE118.out) | exact HB.out)⟩
                · rw [if_neg c18] at H
                  have c18b0 : ((l0_1.length : Int) == 0) = false := beq_eq_false_iff_ne.mpr c18
                  have c18b1 : ((l0_1.length : Int) != 0) = true := bne_iff_ne.mpr c18
                  have c18b2 : ¬ (l0_1 = []) := fun h_ => c18 (by rw [h_]; rfl)
                  obtain ⟨ji22, hji22⟩ : ∃ j_ : Int, (wrap64 ((l0_1.length : Int) - 1)) = j_ := ⟨_, rfl⟩
                  replace H : (if 0 ≤ (ji22) then (if (ji22) < (l0_1.length : Int) then (some (decide (t121 ≥ (wrap64 (((rd_T110 l0_1 (ji22)).f0) + 200000))))) else (none)) else (none)) = some r := by first | (rw [hji22] at H; exact H) | (simp only [hji22] at H ⊢; exact H)
                  (try rw [hji22] at A14)
                  (try rw [hji22] at A16)
                  have hji22w : (IntKind.i64.wrap ((l0_1.length : Int) - 1)) = ji22 := (i64_w _).trans hji22
                  by_cases c23 : 0 ≤ (ji22)
                  · rw [if_pos c23] at H
                    have c23b0 : decide (0 ≤ (ji22)) = true := decide_eq_true c23
                    clear c23
                    by_cases c24 : (ji22) < (l0_1.length : Int)
                    · rw [if_pos c24] at H
                      have c24b0 : decide ((ji22) < (l0_1.length : Int)) = true := decide_eq_true c24
                      clear c24
                      obtain rfl := Option.some.inj H
                      have hcz25_0 : wc.cell? ⟨gb118, 0, none⟩ = some (.int .i64 a0_0) := (blk_cell BK118.out 0).trans rfl
                      have hcz25_1 : wc.cell? ⟨gb118, 1, none⟩ = some (.slice A0_1 l0_1.length c0_1) := (blk_cell BK118.out 1).trans rfl
                      have hcz25_2 : wc.cell? ⟨gb118, 2, none⟩ = some (.slice A0_2 l0_2.length c0_2) := (blk_cell BK118.out 2).trans rfl
                      have hcz25_3 : wc.cell? ⟨gb118, 3, none⟩ = some (.int .i64 a0_3) := (blk_cell BK118.out 3).trans rfl
                      have hfz25_0 := blk_frozen BK118.out 0
                      have hfz25_1 := blk_frozen BK118.out 1
                      have hfz25_2 := blk_frozen BK118.out 2
                      have hfz25_3 := blk_frozen BK118.out 3
                      go_wp2_with (first | ((with_reducible refine gate_callee (f := 83) rfl ?_); refine goesL_ (some 29) rfl rfl Tryz.func83 (by kernel_rfl) rfl #[.int .i64 a0_3, .int .i64 1, .int .i64 1, .int .i64 0, .int .i64 0, .int .i64 0] rfl (by (try simp only [List.map_toArray, List.map_cons, List.map_nil]); first | done | rfl | (simp only [List.length_drop, List.length_take]; rfl)) ?_; (with_reducible refine (stamp_Make.calls kj1 a0_3 1 1 0 0 0 t121 t122 _ A14.out).mono ?_); rintro e w' ⟨rfl, ⟨nd, rfl⟩⟩; refine ⟨_, rfl, ?_⟩) | (go_at_call 84; (with_reducible refine (zone_mayYears.calls kj1 _ _ l0_2 true _ ?side1 ?side2 A16.out).mono ?_); (case side1 => repeat (first | exact (Kd.C_below HR0_2.out (by repeat (first | (with_reducible first | exact HB.out | apply below_alloc | apply pw_below_drewN | apply below_drew1 | refine below_set ?_ GE118.out) | exact HB.out))) | (with_reducible refine Kd.C_alloc ?_ _) | (with_reducible refine Kd.C_drewN ?_ _) | (with_reducible refine Kd.C_drew ?_))); (case side2 => exact HC0_2.out); rintro e w26 ⟨rfl, hb⟩; have n0_ := Aside0.mk (blk_below (g := gb118) (o := .cells #[.int .i64 a0_0, .slice A0_1 l0_1.length c0_1, .slice A0_2 l0_2.length c0_2, .int .i64 a0_3] 98 (0, 0)) (by (with_reducible repeat (first | refine blk_drewN ?_ _ | refine blk_drew ?_ | refine blk_alloc ?_ _)); exact BK118.out) hb); have n1_ := Aside0.mk (below_step (by repeat (first | (with_reducible first | exact HB.out | apply below_alloc | apply pw_below_drewN | apply below_drew1 | refine below_set ?_ GE118.out) | exact HB.out)) hb); clear BK118; clear HB; have BK118 := n0_; have HB := n1_; clear n0_ n1_; (try clear hb); (try clear hb2); (try clear hk); (try clear hi); have hcz27_0 : w26.cell? ⟨gb118, 0, none⟩ = some (.int .i64 a0_0) := (blk_cell BK118.out 0).trans rfl; have hcz27_1 : w26.cell? ⟨gb118, 1, none⟩ = some (.slice A0_1 l0_1.length c0_1) := (blk_cell BK118.out 1).trans rfl; have hcz27_2 : w26.cell? ⟨gb118, 2, none⟩ = some (.slice A0_2 l0_2.length c0_2) := (blk_cell BK118.out 2).trans rfl; have hcz27_3 : w26.cell? ⟨gb118, 3, none⟩ = some (.int .i64 a0_3) := (blk_cell BK118.out 3).trans rfl; have hfz27_0 := blk_frozen BK118.out 0; have hfz27_1 := blk_frozen BK118.out 1; have hfz27_2 := blk_frozen BK118.out 2; have hfz27_3 := blk_frozen BK118.out 3; have p124 : 0 ≤ ((ji22) : Int) := of_decide_eq_true (by first | (with_reducible assumption) | assumption); have q124 : (ji22) < (l0_1.length : Int) := of_decide_eq_true (by first | (with_reducible assumption) | assumption); obtain ⟨ad124, e124, hx124_0, hx124_1⟩ := at_T110 HR0_1.out (ji22) p124 q124; cases e124; replace hx124_0 := (HB.out.cell (World.block_lt_of_cell? w _ hx124_0)).trans hx124_0; replace hx124_1 := (HB.out.cell (World.block_lt_of_cell? w _ hx124_1)).trans hx124_1; replace p124 := eq_true p124; replace q124 := eq_true q124))
                      go_ret
                      exact ⟨by first | rfl | (simp [errW_none, errW_some] <;> rfl) | (simp only [← hji22]; first | rfl | (simp [errW_none, errW_some] <;> rfl)) | (simp [*, errW_none, errW_some] <;> rfl), by repeat (first | (with_reducible first | exact HB.out | apply below_alloc | apply pw_below_drewN | apply below_drew1 | refine below_set ?_ GE118.out) | exact HB.out)⟩
                    · rw [if_neg c24] at H
                      exact absurd H (by simp)
                  · rw [if_neg c23] at H
                    exact absurd H (by simp)
              · replace c17 := Bool.eq_false_iff.mpr c17
                subst c17
                have H1 : (some false) = some r := by rw [if_neg (show ¬ (false = true) by decide)] at H; exact H
                clear H
                have H := H1
                clear H1
                obtain rfl := Option.some.inj H
                have hcz28_0 : wc.cell? ⟨gb118, 0, none⟩ = some (.int .i64 a0_0) := (blk_cell BK118.out 0).trans rfl
                have hcz28_1 : wc.cell? ⟨gb118, 1, none⟩ = some (.slice A0_1 l0_1.length c0_1) := (blk_cell BK118.out 1).trans rfl
                have hcz28_2 : wc.cell? ⟨gb118, 2, none⟩ = some (.slice A0_2 l0_2.length c0_2) := (blk_cell BK118.out 2).trans rfl
                have hcz28_3 : wc.cell? ⟨gb118, 3, none⟩ = some (.int .i64 a0_3) := (blk_cell BK118.out 3).trans rfl
                have hfz28_0 := blk_frozen BK118.out 0
                have hfz28_1 := blk_frozen BK118.out 1
                have hfz28_2 := blk_frozen BK118.out 2
                have hfz28_3 := blk_frozen BK118.out 3
                go_wp2_with (first | ((with_reducible refine gate_callee (f := 83) rfl ?_); refine goesL_ (some 29) rfl rfl Tryz.func83 (by kernel_rfl) rfl #[.int .i64 a0_3, .int .i64 1, .int .i64 1, .int .i64 0, .int .i64 0, .int .i64 0] rfl (by (try simp only [List.map_toArray, List.map_cons, List.map_nil]); first | done | rfl | (simp only [List.length_drop, List.length_take]; rfl)) ?_; (with_reducible refine (stamp_Make.calls kj1 a0_3 1 1 0 0 0 t121 t122 _ A14.out).mono ?_); rintro e w' ⟨rfl, ⟨nd, rfl⟩⟩; refine ⟨_, rfl, ?_⟩) | (go_at_call 84; (with_reducible refine (zone_mayYears.calls kj1 _ _ l0_2 false _ ?side1 ?side2 A16.out).mono ?_); (case side1 => repeat (first | exact (Kd.C_below HR0_2.out (by repeat (first | (with_reducible first | exact HB.out | apply below_alloc | apply pw_below_drewN | apply below_drew1 | refine below_set ?_ GE118.out) | exact HB.out))) | (with_reducible refine Kd.C_alloc ?_ _) | (with_reducible refine Kd.C_drewN ?_ _) | (with_reducible refine Kd.C_drew ?_))); (case side2 => exact HC0_2.out); rintro e w29 ⟨rfl, hb⟩; have n0_ := Aside0.mk (blk_below (g := gb118) (o := .cells #[.int .i64 a0_0, .slice A0_1 l0_1.length c0_1, .slice A0_2 l0_2.length c0_2, .int .i64 a0_3] 98 (0, 0)) (by (with_reducible repeat (first | refine blk_drewN ?_ _ | refine blk_drew ?_ | refine blk_alloc ?_ _)); exact BK118.out) hb); have n1_ := Aside0.mk (below_step (by repeat (first | (with_reducible first | exact HB.out | apply below_alloc | apply pw_below_drewN | apply below_drew1 | refine below_set ?_ GE118.out) | exact HB.out)) hb); clear BK118; clear HB; have BK118 := n0_; have HB := n1_; clear n0_ n1_; (try clear hb); (try clear hb2); (try clear hk); (try clear hi)))
                go_ret
                exact ⟨by first | rfl | (simp [errW_none, errW_some] <;> rfl) | (simp [*, errW_none, errW_some] <;> rfl), by repeat (first | (with_reducible first | exact HB.out | apply below_alloc | apply pw_below_drewN | apply below_drew1 | refine below_set ?_ GE118.out) | exact HB.out)⟩
            · rw [if_neg c15] at H
              have c15b0 : (t122 == 0) = false := beq_eq_false_iff_ne.mpr c15
              have c15b1 : (t122 != 0) = true := bne_iff_ne.mpr c15
              obtain rfl := Option.some.inj H
              have hcz30_0 : wc.cell? ⟨gb118, 0, none⟩ = some (.int .i64 a0_0) := (blk_cell BK118.out 0).trans rfl
              have hcz30_1 : wc.cell? ⟨gb118, 1, none⟩ = some (.slice A0_1 l0_1.length c0_1) := (blk_cell BK118.out 1).trans rfl
              have hcz30_2 : wc.cell? ⟨gb118, 2, none⟩ = some (.slice A0_2 l0_2.length c0_2) := (blk_cell BK118.out 2).trans rfl
              have hcz30_3 : wc.cell? ⟨gb118, 3, none⟩ = some (.int .i64 a0_3) := (blk_cell BK118.out 3).trans rfl
              have hfz30_0 := blk_frozen BK118.out 0
              have hfz30_1 := blk_frozen BK118.out 1
              have hfz30_2 := blk_frozen BK118.out 2
              have hfz30_3 := blk_frozen BK118.out 3
              go_wp2_with (first | ((with_reducible refine gate_callee (f := 83) rfl ?_); refine goesL_ (some 29) rfl rfl Tryz.func83 (by kernel_rfl) rfl #[.int .i64 a0_3, .int .i64 1, .int .i64 1, .int .i64 0, .int .i64 0, .int .i64 0] rfl (by (try simp only [List.map_toArray, List.map_cons, List.map_nil]); first | done | rfl | (simp only [List.length_drop, List.length_take]; rfl)) ?_; (with_reducible refine (stamp_Make.calls kj1 a0_3 1 1 0 0 0 t121 t122 _ A14.out).mono ?_); rintro e w' ⟨rfl, ⟨nd, rfl⟩⟩; refine ⟨_, rfl, ?_⟩))
              go_ret
              exact ⟨by first | rfl | (simp [errW_none, errW_some] <;> rfl) | (simp [*, errW_none, errW_some] <;> rfl), by repeat (first | (with_reducible first | exact HB.out | apply below_alloc | apply pw_below_drewN | apply below_drew1 | refine below_set ?_ GE118.out) | exact HB.out)⟩
          · rw [if_neg c13] at H
            have c13b0 : ((l0_2.length : Int) == 2) = false := beq_eq_false_iff_ne.mpr c13
            have c13b1 : ((l0_2.length : Int) != 2) = true := bne_iff_ne.mpr c13
            obtain rfl := Option.some.inj H
            have hcz31_0 : wc.cell? ⟨gb118, 0, none⟩ = some (.int .i64 a0_0) := (blk_cell BK118.out 0).trans rfl
            have hcz31_1 : wc.cell? ⟨gb118, 1, none⟩ = some (.slice A0_1 l0_1.length c0_1) := (blk_cell BK118.out 1).trans rfl
            have hcz31_2 : wc.cell? ⟨gb118, 2, none⟩ = some (.slice A0_2 l0_2.length c0_2) := (blk_cell BK118.out 2).trans rfl
            have hcz31_3 : wc.cell? ⟨gb118, 3, none⟩ = some (.int .i64 a0_3) := (blk_cell BK118.out 3).trans rfl
            have hfz31_0 := blk_frozen BK118.out 0
            have hfz31_1 := blk_frozen BK118.out 1
            have hfz31_2 := blk_frozen BK118.out 2
            have hfz31_3 := blk_frozen BK118.out 3
            go_wp2
            go_ret
            exact ⟨by first | rfl | (simp [errW_none, errW_some] <;> rfl) | (simp [*, errW_none, errW_some] <;> rfl), by repeat (first | (with_reducible first | exact HB.out | apply below_alloc | apply pw_below_drewN | apply below_drew1 | refine below_set ?_ GE118.out) | exact HB.out)⟩

/-! ### cal_year: function 58 -/
def cal_year.f (k : Nat) (a0 : Int) : Option (Int) := (stamp_Make.f k a0 1 1 0 0 0).bind fun bt125 => (some bt125.1)
theorem cal_year.mono : ∀ a0 k, LeO (cal_year.f k a0) (cal_year.f (k + 1) a0) := by
  intro a0 k
  unfold cal_year.f
  repeat' first
      | (with_reducible exact stamp_Make.mono _ _ _ _ _ _ _)
      | (with_reducible exact LeO.refl _)
      | (with_reducible exact LeO.none _)
      | (with_reducible refine LeO.ite ?_ ?_)
      | (with_reducible refine LeO.bind ?_ (fun _ => ?_))
      | exact stamp_Make.mono _ _ _ _ _ _ _
      | exact LeO.none _
      | refine LeO.ite ?_ ?_
      | refine LeO.bind ?_ (fun _ => ?_)
set_option maxHeartbeats 8000000 in
set_option maxRecDepth 100000 in
theorem cal_year.calls (k : Nat) (a0 : Int) (r : Int) (w : World) (h : cal_year.f k a0 = some r) :
    Calls Tryz.prog 58 #[.int .i64 a0] w fun e w' => e = .returned (.int .i64 r) ∧ Drawn0 w w' := by
  have H : ((stamp_Make.f k a0 1 1 0 0 0).bind fun bt125 => (some bt125.1)) = some r := h
  clear h
  replace H := Option.bind_eq_some_iff.mp H
  obtain ⟨⟨t125, t126⟩, A20, H⟩ := H
  replace H : (some t125) = some r := H
  have A2 := Aside0.mk A20
  clear A20
  obtain rfl := Option.some.inj H
  go_enter Tryz.func58, Tryz.ntmps58
  go_wp2_with (first | ((with_reducible refine gate_callee (f := 83) rfl ?_); refine goesL_ (some 7) rfl rfl Tryz.func83 (by kernel_rfl) rfl #[.int .i64 a0, .int .i64 1, .int .i64 1, .int .i64 0, .int .i64 0, .int .i64 0] rfl (by (try simp only [List.map_toArray, List.map_cons, List.map_nil]); first | done | rfl | (simp only [List.length_drop, List.length_take]; rfl)) ?_; (with_reducible refine (stamp_Make.calls k a0 1 1 0 0 0 t125 t126 _ A2.out).mono ?_); rintro e w' ⟨rfl, ⟨nd, rfl⟩⟩; refine ⟨_, rfl, ?_⟩))
  go_ret
  exact ⟨by first | rfl | (simp; done) | (simp [*]; done), by repeat (first | exact Drawn0.refl _ | apply Drawn0.step)⟩

end Go.Proofs.YtioaingenooelaaGreat.L
