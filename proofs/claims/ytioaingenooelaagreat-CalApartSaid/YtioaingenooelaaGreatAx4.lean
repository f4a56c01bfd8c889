import Derived.Test.YtioaingenooelaaGreatAx0
import Derived.Test.YtioaingenooelaaGreatAx3
namespace Go.Proofs.YtioaingenooelaaGreat.L
open Go.RowKit Go.Proofs.YtioaingenooelaaGreatW.PrintWords Go.Proofs.YtioaingenooelaaGreatW.PrintLast Go.Proofs.YtioaingenooelaaGreatW.PrintMore
attribute [local go_sem] max2_int min2_int max_two min_two max_three min_three max_four min_four   -- for this text's walks alone
set_option linter.unusedVariables false
set_option linter.unusedSimpArgs false

/-! ### vokref1_Length: function 112 -/
mutual
def vokref1_Length.j0 : Nat → Int → Int → Bool → Option (Int)
  | 0, _, _, _ => none
  | k + 1, x0, x5, x6 => if x6 = true then (some 31) else (if x5 = 4 then (vokref1_Length.j1 k x0 x5 (x5 == 4)) else (if x5 = 6 then (vokref1_Length.j1 k x0 x5 (x5 == 6)) else (if x5 = 9 then (vokref1_Length.j1 k x0 x5 (x5 == 9)) else (vokref1_Length.j1 k x0 x5 (x5 == 11)))))
def vokref1_Length.j1 : Nat → Int → Int → Bool → Option (Int)
  | 0, _, _, _ => none
  | k + 1, x0, x5, x14 => if x14 = true then (some 30) else (if x5 = 2 then ((vokref1_Leap.f x0).bind fun t136 => (if t136 = true then (some 29) else (some 28))) else (some 0))
end
def vokref1_Length.f (k : Nat) (a0 : Int) (a1 : Int) : Option (Int) := if a1 = 1 then (vokref1_Length.j0 k a0 a1 (a1 == 1)) else (if a1 = 3 then (vokref1_Length.j0 k a0 a1 (a1 == 3)) else (if a1 = 5 then (vokref1_Length.j0 k a0 a1 (a1 == 5)) else (if a1 = 7 then (vokref1_Length.j0 k a0 a1 (a1 == 7)) else (if a1 = 8 then (vokref1_Length.j0 k a0 a1 (a1 == 8)) else (if a1 = 10 then (vokref1_Length.j0 k a0 a1 (a1 == 10)) else (vokref1_Length.j0 k a0 a1 (a1 == 12)))))))
theorem vokref1_Length.mono_l : ∀ k, (∀ y0 y1 y2, LeO (vokref1_Length.j0 k y0 y1 y2) (vokref1_Length.j0 (k + 1) y0 y1 y2)) ∧ (∀ y0 y1 y2, LeO (vokref1_Length.j1 k y0 y1 y2) (vokref1_Length.j1 (k + 1) y0 y1 y2))
  | 0 => ⟨fun _ _ _ r h => by simp [vokref1_Length.j0] at h, fun _ _ _ r h => by simp [vokref1_Length.j1] at h⟩
  | k + 1 => by
    obtain ⟨ih0, ih1⟩ := vokref1_Length.mono_l k
    refine ⟨?_, ?_⟩
    · intro y0 y1 y2
      unfold vokref1_Length.j0
      repeat' first
      | (with_reducible exact ih0 _ _ _)
      | (with_reducible exact ih1 _ _ _)
      | (with_reducible exact LeO.refl _)
      | (with_reducible exact LeO.none _)
      | (with_reducible refine LeO.ite ?_ ?_)
      | (with_reducible refine LeO.bind ?_ (fun _ => ?_))
      | exact ih0 _ _ _
      | exact ih1 _ _ _
      | exact LeO.none _
      | refine LeO.ite ?_ ?_
      | refine LeO.bind ?_ (fun _ => ?_)
    · intro y0 y1 y2
      unfold vokref1_Length.j1
      repeat' first
      | (with_reducible exact ih0 _ _ _)
      | (with_reducible exact ih1 _ _ _)
      | (with_reducible exact LeO.refl _)
      | (with_reducible exact LeO.none _)
      | (with_reducible refine LeO.ite ?_ ?_)
      | (with_reducible refine LeO.bind ?_ (fun _ => ?_))
      | exact ih0 _ _ _
      | exact ih1 _ _ _
      | exact LeO.none _
      | refine LeO.ite ?_ ?_
      | refine LeO.bind ?_ (fun _ => ?_)
theorem vokref1_Length.mono : ∀ a0 a1 k, LeO (vokref1_Length.f k a0 a1) (vokref1_Length.f (k + 1) a0 a1) := by
  intro a0 a1 k
  obtain ⟨ih0, ih1⟩ := vokref1_Length.mono_l k
  unfold vokref1_Length.f
  repeat' first
      | (with_reducible exact ih0 _ _ _)
      | (with_reducible exact ih1 _ _ _)
      | (with_reducible exact LeO.refl _)
      | (with_reducible exact LeO.none _)
      | (with_reducible refine LeO.ite ?_ ?_)
      | (with_reducible refine LeO.bind ?_ (fun _ => ?_))
      | exact ih0 _ _ _
      | exact ih1 _ _ _
      | exact LeO.none _
      | refine LeO.ite ?_ ?_
      | refine LeO.bind ?_ (fun _ => ?_)
set_option maxHeartbeats 8000000 in
set_option maxRecDepth 100000 in
theorem vokref1_Length.calls (k : Nat) (a0 : Int) (a1 : Int) (r : Int) (w : World) (h : vokref1_Length.f k a0 a1 = some r) :
    Calls Tryz.prog 112 #[.int .i64 a0, .int .i64 a1] w fun e w' => e = .returned (.int .i64 r) ∧ Drawn0 w w' := by
  have H : (if a1 = 1 then (vokref1_Length.j0 k a0 a1 (a1 == 1)) else (if a1 = 3 then (vokref1_Length.j0 k a0 a1 (a1 == 3)) else (if a1 = 5 then (vokref1_Length.j0 k a0 a1 (a1 == 5)) else (if a1 = 7 then (vokref1_Length.j0 k a0 a1 (a1 == 7)) else (if a1 = 8 then (vokref1_Length.j0 k a0 a1 (a1 == 8)) else (if a1 = 10 then (vokref1_Length.j0 k a0 a1 (a1 == 10)) else (vokref1_Length.j0 k a0 a1 (a1 == 12)))))))) = some r := h
  clear h
  have HC3 := Aside0.mk H
  clear H
  go_enter Tryz.func112, Tryz.ntmps112
  go_upto_if 6 with (fail)
  go_cut [6] (fun v6 wc => ∃ (kq : Nat) (x6_2 : Bool), v6 = .bool x6_2 ∧ Aside0 (vokref1_Length.j0 kq a0 a1 x6_2 = some r) ∧ Aside0 (kq ≤ k) ∧ Drawn0 w wc)
  case first =>
    have H := HC3.out
    clear HC3
    by_cases c4 : a1 = 1
    · rw [if_pos c4] at H
      have c4b0 : (a1 == 1) = true := beq_iff_eq.mpr c4
      have c4b1 : (a1 != 1) = false := bne_eq_false_iff_eq.mpr c4
      clear c4
      (first | rw [c4b0] | (simp only [i64_w, i32_w]; rw [c4b0]) | skip)
      have H' := Aside0.mk H
      clear H
      go_wp2
      go_meet
      case rel => exact ⟨_, ((a1 == 1)), (by first | rfl | (simp; done) | (simp [*]; done)), H', ⟨by first | omega | exact Nat.le_refl _⟩, by repeat (first | exact Drawn0.refl _ | apply Drawn0.step)⟩
    · rw [if_neg c4] at H
      have c4b0 : (a1 == 1) = false := beq_eq_false_iff_ne.mpr c4
      have c4b1 : (a1 != 1) = true := bne_iff_ne.mpr c4
      (first | rw [c4b0] | (simp only [i64_w, i32_w]; rw [c4b0]) | skip)
      by_cases c5 : a1 = 3
      · rw [if_pos c5] at H
        have c5b0 : (a1 == 3) = true := beq_iff_eq.mpr c5
        have c5b1 : (a1 != 3) = false := bne_eq_false_iff_eq.mpr c5
        clear c5
        have H' := Aside0.mk H
        clear H
        go_wp2
        go_meet
        case rel => exact ⟨_, ((a1 == 3)), (by first | rfl | (simp; done) | (simp [*]; done)), H', ⟨by first | omega | exact Nat.le_refl _⟩, by repeat (first | exact Drawn0.refl _ | apply Drawn0.step)⟩
      · rw [if_neg c5] at H
        have c5b0 : (a1 == 3) = false := beq_eq_false_iff_ne.mpr c5
        have c5b1 : (a1 != 3) = true := bne_iff_ne.mpr c5
        by_cases c6 : a1 = 5
        · rw [if_pos c6] at H
          have c6b0 : (a1 == 5) = true := beq_iff_eq.mpr c6
          have c6b1 : (a1 != 5) = false := bne_eq_false_iff_eq.mpr c6
          clear c6
          have H' := Aside0.mk H
          clear H
          go_wp2
          go_meet
          case rel => exact ⟨_, ((a1 == 5)), (by first | rfl | (simp; done) | (simp [*]; done)), H', ⟨by first | omega | exact Nat.le_refl _⟩, by repeat (first | exact Drawn0.refl _ | apply Drawn0.step)⟩
        · rw [if_neg c6] at H
          have c6b0 : (a1 == 5) = false := beq_eq_false_iff_ne.mpr c6
          have c6b1 : (a1 != 5) = true := bne_iff_ne.mpr c6
          by_cases c7 : a1 = 7
          · rw [if_pos c7] at H
            have c7b0 : (a1 == 7) = true := beq_iff_eq.mpr c7
            have c7b1 : (a1 != 7) = false := bne_eq_false_iff_eq.mpr c7
            clear c7
            have H' := Aside0.mk H
            clear H
            go_wp2
            go_meet
            case rel => exact ⟨_, ((a1 == 7)), (by first | rfl | (simp; done) | (simp [*]; done)), H', ⟨by first | omega | exact Nat.le_refl _⟩, by repeat (first | exact Drawn0.refl _ | apply Drawn0.step)⟩
          · rw [if_neg c7] at H
            have c7b0 : (a1 == 7) = false := beq_eq_false_iff_ne.mpr c7
            have c7b1 : (a1 != 7) = true := bne_iff_ne.mpr c7
            by_cases c8 : a1 = 8
            · rw [if_pos c8] at H
              have c8b0 : (a1 == 8) = true := beq_iff_eq.mpr c8
              have c8b1 : (a1 != 8) = false := bne_eq_false_iff_eq.mpr c8
              clear c8
              have H' := Aside0.mk H
              clear H
              go_wp2
              go_meet
              case rel => exact ⟨_, ((a1 == 8)), (by first | rfl | (simp; done) | (simp [*]; done)), H', ⟨by first | omega | exact Nat.le_refl _⟩, by repeat (first | exact Drawn0.refl _ | apply Drawn0.step)⟩
            · rw [if_neg c8] at H
              have c8b0 : (a1 == 8) = false := beq_eq_false_iff_ne.mpr c8
              have c8b1 : (a1 != 8) = true := bne_iff_ne.mpr c8
              by_cases c9 : a1 = 10
              · rw [if_pos c9] at H
                have c9b0 : (a1 == 10) = true := beq_iff_eq.mpr c9
                have c9b1 : (a1 != 10) = false := bne_eq_false_iff_eq.mpr c9
                clear c9
                have H' := Aside0.mk H
                clear H
                go_wp2
                go_meet
                case rel => exact ⟨_, ((a1 == 10)), (by first | rfl | (simp; done) | (simp [*]; done)), H', ⟨by first | omega | exact Nat.le_refl _⟩, by repeat (first | exact Drawn0.refl _ | apply Drawn0.step)⟩
              · rw [if_neg c9] at H
                have c9b0 : (a1 == 10) = false := beq_eq_false_iff_ne.mpr c9
                have c9b1 : (a1 != 10) = true := bne_iff_ne.mpr c9
                have H' := Aside0.mk H
                clear H
                go_wp2
                go_meet
                case rel => exact ⟨_, ((a1 == 12)), (by first | rfl | (simp; done) | (simp [*]; done)), H', ⟨by first | omega | exact Nat.le_refl _⟩, by repeat (first | exact Drawn0.refl _ | apply Drawn0.step)⟩
  case rest =>
    clear HC3
    try clear c1
    try clear p2
    try clear c4
    try clear c4b0
    try clear c4b1
    try clear c5
    try clear c5b0
    try clear c5b1
    try clear c6
    try clear c6b0
    try clear c6b1
    try clear c7
    try clear c7b0
    try clear c7b1
    try clear c8
    try clear c8b0
    try clear c8b1
    try clear c9
    try clear c9b0
    try clear c9b1
    obtain ⟨kq, x6_2, rfl, HA, HJ2, ⟨mc2, rfl⟩⟩ := hcut
    cases kq with
    | zero => exact absurd HA.out (by simp [vokref1_Length.j0])
    | succ kj2 =>
      have H := HA.out
      clear HA
      simp only [vokref1_Length.j0] at H
      by_cases c10 : x6_2 = true
      · subst c10
        have H1 : (some 31) = some r := by rw [if_pos rfl] at H; exact H
        clear H
        have H := H1
        clear H1
        obtain rfl := Option.some.inj H
        go_wp2
        go_ret
        exact ⟨by first | rfl | (simp; done) | (simp [*]; done), by repeat (first | exact Drawn0.refl _ | apply Drawn0.step)⟩
      · replace c10 := Bool.eq_false_iff.mpr c10
        subst c10
        have H1 : (if a1 = 4 then (vokref1_Length.j1 kj2 a0 a1 (a1 == 4)) else (if a1 = 6 then (vokref1_Length.j1 kj2 a0 a1 (a1 == 6)) else (if a1 = 9 then (vokref1_Length.j1 kj2 a0 a1 (a1 == 9)) else (vokref1_Length.j1 kj2 a0 a1 (a1 == 11))))) = some r := by rw [if_neg (show ¬ (false = true) by decide)] at H; exact H
        clear H
        have H := H1
        clear H1
        have HC11 := Aside0.mk H
        clear H
        go_upto_if 14 with (fail)
        go_cut [14] (fun v14 wc => ∃ (kq : Nat) (x14_10 : Bool), v14 = .bool x14_10 ∧ Aside0 (vokref1_Length.j1 kq a0 a1 x14_10 = some r) ∧ Aside0 (kq ≤ kj2) ∧ Drawn0 w wc)
        case first =>
          have H := HC11.out
          clear HC11
          by_cases c12 : a1 = 4
          · rw [if_pos c12] at H
            have c12b0 : (a1 == 4) = true := beq_iff_eq.mpr c12
            have c12b1 : (a1 != 4) = false := bne_eq_false_iff_eq.mpr c12
            clear c12
            (first | rw [c12b0] | (simp only [i64_w, i32_w]; rw [c12b0]) | skip)
            have H' := Aside0.mk H
            clear H
            go_wp2
            go_meet
            case rel => exact ⟨_, ((a1 == 4)), (by first | rfl | (simp; done) | (simp [*]; done)), H', ⟨by have := HJ2.out; first | omega | exact Nat.le_refl _⟩, by repeat (first | exact Drawn0.refl _ | apply Drawn0.step)⟩
          · rw [if_neg c12] at H
            have c12b0 : (a1 == 4) = false := beq_eq_false_iff_ne.mpr c12
            have c12b1 : (a1 != 4) = true := bne_iff_ne.mpr c12
            (first | rw [c12b0] | (simp only [i64_w, i32_w]; rw [c12b0]) | skip)
            by_cases c13 : a1 = 6
            · rw [if_pos c13] at H
              have c13b0 : (a1 == 6) = true := beq_iff_eq.mpr c13
              have c13b1 : (a1 != 6) = false := bne_eq_false_iff_eq.mpr c13
              clear c13
              have H' := Aside0.mk H
              clear H
              go_wp2
              go_meet
              case rel => exact ⟨_, ((a1 == 6)), (by first | rfl | (simp; done) | (simp [*]; done)), H', ⟨by have := HJ2.out; first | omega | exact Nat.le_refl _⟩, by repeat (first | exact Drawn0.refl _ | apply Drawn0.step)⟩
            · rw [if_neg c13] at H
              have c13b0 : (a1 == 6) = false := beq_eq_false_iff_ne.mpr c13
              have c13b1 : (a1 != 6) = true := bne_iff_ne.mpr c13
              by_cases c14 : a1 = 9
              · rw [if_pos c14] at H
                have c14b0 : (a1 == 9) = true := beq_iff_eq.mpr c14
                have c14b1 : (a1 != 9) = false := bne_eq_false_iff_eq.mpr c14
                clear c14
                have H' := Aside0.mk H
                clear H
                go_wp2
                go_meet
                case rel => exact ⟨_, ((a1 == 9)), (by first | rfl | (simp; done) | (simp [*]; done)), H', ⟨by have := HJ2.out; first | omega | exact Nat.le_refl _⟩, by repeat (first | exact Drawn0.refl _ | apply Drawn0.step)⟩
              · rw [if_neg c14] at H
                have c14b0 : (a1 == 9) = false := beq_eq_false_iff_ne.mpr c14
                have c14b1 : (a1 != 9) = true := bne_iff_ne.mpr c14
                have H' := Aside0.mk H
                clear H
                go_wp2
                go_meet
                case rel => exact ⟨_, ((a1 == 11)), (by first | rfl | (simp; done) | (simp [*]; done)), H', ⟨by have := HJ2.out; first | omega | exact Nat.le_refl _⟩, by repeat (first | exact Drawn0.refl _ | apply Drawn0.step)⟩
        case rest =>
          clear HC11
          try clear c1
          try clear c2
          try clear p2
          try clear c4
          try clear c4b0
          try clear c4b1
          try clear c5
          try clear c5b0
          try clear c5b1
          try clear c6
          try clear c6b0
          try clear c6b1
          try clear c7
          try clear c7b0
          try clear c7b1
          try clear c8
          try clear c8b0
          try clear c8b1
          try clear c9
          try clear c9b0
          try clear c9b1
          try clear c10
          try clear c11
          try clear c12
          try clear c12b0
          try clear c12b1
          try clear c13
          try clear c13b0
          try clear c13b1
          try clear c14
          try clear c14b0
          try clear c14b1
          try clear p2
          obtain ⟨kq, x14_10, rfl, HA, HJ10, ⟨mc10, rfl⟩⟩ := hcut
          cases kq with
          | zero => exact absurd HA.out (by simp [vokref1_Length.j1])
          | succ kj10 =>
            have H := HA.out
            clear HA
            simp only [vokref1_Length.j1] at H
            by_cases c15 : x14_10 = true
            · subst c15
              have H1 : (some 30) = some r := by rw [if_pos rfl] at H; exact H
              clear H
              have H := H1
              clear H1
              obtain rfl := Option.some.inj H
              go_wp2
              go_ret
              exact ⟨by first | rfl | (simp; done) | (simp [*]; done), by repeat (first | exact Drawn0.refl _ | apply Drawn0.step)⟩
            · replace c15 := Bool.eq_false_iff.mpr c15
              subst c15
              have H1 : (if a1 = 2 then ((vokref1_Leap.f a0).bind fun t136 => (if t136 = true then (some 29) else (some 28))) else (some 0)) = some r := by rw [if_neg (show ¬ (false = true) by decide)] at H; exact H
              clear H
              have H := H1
              clear H1
              by_cases c16 : a1 = 2
              · rw [if_pos c16] at H
                have c16b0 : (a1 == 2) = true := beq_iff_eq.mpr c16
                have c16b1 : (a1 != 2) = false := bne_eq_false_iff_eq.mpr c16
                clear c16
                replace H := Option.bind_eq_some_iff.mp H
                obtain ⟨t136, A170, H⟩ := H
                replace H : (if t136 = true then (some 29) else (some 28)) = some r := H
                have A17 := Aside0.mk A170
                clear A170
                by_cases c18 : t136 = true
                · subst c18
                  have H1 : (some 29) = some r := by rw [if_pos rfl] at H; exact H
                  clear H
                  have H := H1
                  clear H1
                  obtain rfl := Option.some.inj H
                  go_wp2_with (first | ((with_reducible refine gate_callee (f := 133) rfl ?_); refine goesL_ (some 22) rfl rfl Tryz.func133 (by kernel_rfl) rfl #[.int .i64 a0] rfl (by (try simp only [List.map_toArray, List.map_cons, List.map_nil]); first | done | rfl | (simp only [List.length_drop, List.length_take]; rfl)) ?_; (with_reducible refine (vokref1_Leap.calls a0 true _ A17.out).mono ?_); rintro e w' ⟨rfl, ⟨nd, rfl⟩⟩; refine ⟨_, rfl, ?_⟩))
                  go_ret
                  exact ⟨by first | rfl | (simp; done) | (simp [*]; done), by repeat (first | exact Drawn0.refl _ | apply Drawn0.step)⟩
                · replace c18 := Bool.eq_false_iff.mpr c18
                  subst c18
                  have H1 : (some 28) = some r := by rw [if_neg (show ¬ (false = true) by decide)] at H; exact H
                  clear H
                  have H := H1
                  clear H1
                  obtain rfl := Option.some.inj H
                  go_wp2_with (first | ((with_reducible refine gate_callee (f := 133) rfl ?_); refine goesL_ (some 22) rfl rfl Tryz.func133 (by kernel_rfl) rfl #[.int .i64 a0] rfl (by (try simp only [List.map_toArray, List.map_cons, List.map_nil]); first | done | rfl | (simp only [List.length_drop, List.length_take]; rfl)) ?_; (with_reducible refine (vokref1_Leap.calls a0 false _ A17.out).mono ?_); rintro e w' ⟨rfl, ⟨nd, rfl⟩⟩; refine ⟨_, rfl, ?_⟩))
                  go_ret
                  exact ⟨by first | rfl | (simp; done) | (simp [*]; done), by repeat (first | exact Drawn0.refl _ | apply Drawn0.step)⟩
              · rw [if_neg c16] at H
                have c16b0 : (a1 == 2) = false := beq_eq_false_iff_ne.mpr c16
                have c16b1 : (a1 != 2) = true := bne_iff_ne.mpr c16
                obtain rfl := Option.some.inj H
                go_wp2
                go_ret
                exact ⟨by first | rfl | (simp; done) | (simp [*]; done), by repeat (first | exact Drawn0.refl _ | apply Drawn0.step)⟩

/-! ### vokref1_Valid: function 111 -/
def vokref1_Valid.f (k : Nat) (a0 : Int) (a1 : Int) (a2 : Int) : Option (Bool) := if a0 ≥ 1 then (if a0 ≤ 9999 then (if a2 ≥ 1 then ((vokref1_Length.f k a0 a1).bind fun t137 => (some (decide (a2 ≤ t137)))) else (some false)) else (some false)) else (some false)
theorem vokref1_Valid.mono : ∀ a0 a1 a2 k, LeO (vokref1_Valid.f k a0 a1 a2) (vokref1_Valid.f (k + 1) a0 a1 a2) := by
  intro a0 a1 a2 k
  unfold vokref1_Valid.f
  repeat' first
      | (with_reducible exact vokref1_Length.mono _ _ _)
      | (with_reducible exact LeO.refl _)
      | (with_reducible exact LeO.none _)
      | (with_reducible refine LeO.ite ?_ ?_)
      | (with_reducible refine LeO.bind ?_ (fun _ => ?_))
      | exact vokref1_Length.mono _ _ _
      | exact LeO.none _
      | refine LeO.ite ?_ ?_
      | refine LeO.bind ?_ (fun _ => ?_)
set_option maxHeartbeats 8000000 in
set_option maxRecDepth 100000 in
theorem vokref1_Valid.calls (k : Nat) (a0 : Int) (a1 : Int) (a2 : Int) (r : Bool) (w : World) (h : vokref1_Valid.f k a0 a1 a2 = some r) :
    Calls Tryz.prog 111 #[.int .i64 a0, .int .i64 a1, .int .i64 a2] w fun e w' => e = .returned (.bool r) ∧ Drawn0 w w' := by
  have H : (if a0 ≥ 1 then (if a0 ≤ 9999 then (if a2 ≥ 1 then ((vokref1_Length.f k a0 a1).bind fun t137 => (some (decide (a2 ≤ t137)))) else (some false)) else (some false)) else (some false)) = some r := h
  clear h
  by_cases c4 : a0 ≥ 1
  · rw [if_pos c4] at H
    have c4b0 : decide (1 ≤ a0) = true := decide_eq_true c4
    clear c4
    by_cases c5 : a0 ≤ 9999
    · rw [if_pos c5] at H
      have c5b0 : decide (a0 ≤ 9999) = true := decide_eq_true c5
      clear c5
      by_cases c6 : a2 ≥ 1
      · rw [if_pos c6] at H
        have c6b0 : decide (1 ≤ a2) = true := decide_eq_true c6
        clear c6
        replace H := Option.bind_eq_some_iff.mp H
        obtain ⟨t137, A70, H⟩ := H
        replace H : (some (decide (a2 ≤ t137))) = some r := H
        have A7 := Aside0.mk A70
        clear A70
        obtain rfl := Option.some.inj H
        go_enter Tryz.func111, Tryz.ntmps111
        go_wp2_with (first | (go_at_call 112; (with_reducible refine (vokref1_Length.calls k a0 a1 t137 _ A7.out).mono ?_); rintro e w' ⟨rfl, ⟨nd, rfl⟩⟩))
        go_ret
        exact ⟨by first | rfl | (simp; done) | (simp [*]; done), by repeat (first | exact Drawn0.refl _ | apply Drawn0.step)⟩
      · rw [if_neg c6] at H
        have c6b0 : decide (1 ≤ a2) = false := decide_eq_false c6
        clear c6
        obtain rfl := Option.some.inj H
        go_enter Tryz.func111, Tryz.ntmps111
        go_wp2
        go_ret
        exact ⟨by first | rfl | (simp; done) | (simp [*]; done), by repeat (first | exact Drawn0.refl _ | apply Drawn0.step)⟩
    · rw [if_neg c5] at H
      have c5b0 : decide (a0 ≤ 9999) = false := decide_eq_false c5
      clear c5
      obtain rfl := Option.some.inj H
      go_enter Tryz.func111, Tryz.ntmps111
      go_wp2
      go_ret
      exact ⟨by first | rfl | (simp; done) | (simp [*]; done), by repeat (first | exact Drawn0.refl _ | apply Drawn0.step)⟩
  · rw [if_neg c4] at H
    have c4b0 : decide (1 ≤ a0) = false := decide_eq_false c4
    clear c4
    obtain rfl := Option.some.inj H
    go_enter Tryz.func111, Tryz.ntmps111
    go_wp2
    go_ret
    exact ⟨by first | rfl | (simp; done) | (simp [*]; done), by repeat (first | exact Drawn0.refl _ | apply Drawn0.step)⟩

/-! ### vokref1_Days: function 85 -/
def vokref1_Days.l0 : Nat → Int → Int → Int → Int → Option (Int × Int)
  | 0, _, _, _, _ => none
  | k + 1, x0, x1, x8, x9 => if x9 < x1 then ((vokref1_Length.f k x0 x9).bind fun t140 => (vokref1_Days.l0 k x0 x1 (wrap64 (x8 + t140)) (wrap64 (x9 + 1)))) else (some (x8, 0))
def vokref1_Days.f (k : Nat) (a0 : Int) (a1 : Int) (a2 : Int) : Option (Int × Int) := (vokref1_Valid.f k a0 a1 a2).bind fun t138 => (if t138 = true then ((vokref1_first.f a0).bind fun t139 => (vokref1_Days.l0 k a0 a1 (wrap64 ((wrap64 (t139 + a2)) - 1)) 1)) else (some (0, 1)))
theorem vokref1_Days.mono_l : ∀ k, (∀ y0 y1 y2 y3, LeO (vokref1_Days.l0 k y0 y1 y2 y3) (vokref1_Days.l0 (k + 1) y0 y1 y2 y3))
  | 0 => fun _ _ _ _ r h => by simp [vokref1_Days.l0] at h
  | k + 1 => by
    have ih0 := vokref1_Days.mono_l k
    · intro y0 y1 y2 y3
      unfold vokref1_Days.l0
      repeat' first
      | (with_reducible exact ih0 _ _ _ _)
      | (with_reducible exact vokref1_Length.mono _ _ _)
      | (with_reducible exact vokref1_Valid.mono _ _ _ _)
      | (with_reducible exact LeO.refl _)
      | (with_reducible exact LeO.none _)
      | (with_reducible refine LeO.ite ?_ ?_)
      | (with_reducible refine LeO.bind ?_ (fun _ => ?_))
      | exact ih0 _ _ _ _
      | exact vokref1_Length.mono _ _ _
      | exact vokref1_Valid.mono _ _ _ _
      | exact LeO.none _
      | refine LeO.ite ?_ ?_
      | refine LeO.bind ?_ (fun _ => ?_)
theorem vokref1_Days.mono : ∀ a0 a1 a2 k, LeO (vokref1_Days.f k a0 a1 a2) (vokref1_Days.f (k + 1) a0 a1 a2) := by
  intro a0 a1 a2 k
  have ih0 := vokref1_Days.mono_l k
  unfold vokref1_Days.f
  repeat' first
      | (with_reducible exact ih0 _ _ _ _)
      | (with_reducible exact vokref1_Length.mono _ _ _)
      | (with_reducible exact vokref1_Valid.mono _ _ _ _)
      | (with_reducible exact LeO.refl _)
      | (with_reducible exact LeO.none _)
      | (with_reducible refine LeO.ite ?_ ?_)
      | (with_reducible refine LeO.bind ?_ (fun _ => ?_))
      | exact ih0 _ _ _ _
      | exact vokref1_Length.mono _ _ _
      | exact vokref1_Valid.mono _ _ _ _
      | exact LeO.none _
      | refine LeO.ite ?_ ?_
      | refine LeO.bind ?_ (fun _ => ?_)
set_option maxHeartbeats 8000000 in
set_option maxRecDepth 100000 in
theorem vokref1_Days.calls (k : Nat) (a0 : Int) (a1 : Int) (a2 : Int) (r1 : Int) (r2 : Int) (w : World) (h : vokref1_Days.f k a0 a1 a2 = some (r1, r2)) :
    Calls Tryz.prog 85 #[.int .i64 a0, .int .i64 a1, .int .i64 a2] w fun e w' => e = .returned (.tuple #[.int .i64 r1, .int .i64 r2]) ∧ Drawn0 w w' := by
  have H : ((vokref1_Valid.f k a0 a1 a2).bind fun t138 => (if t138 = true then ((vokref1_first.f a0).bind fun t139 => (vokref1_Days.l0 k a0 a1 (wrap64 ((wrap64 (t139 + a2)) - 1)) 1)) else (some (0, 1)))) = some (r1, r2) := h
  clear h
  replace H := Option.bind_eq_some_iff.mp H
  obtain ⟨t138, A40, H⟩ := H
  replace H : (if t138 = true then ((vokref1_first.f a0).bind fun t139 => (vokref1_Days.l0 k a0 a1 (wrap64 ((wrap64 (t139 + a2)) - 1)) 1)) else (some (0, 1))) = some (r1, r2) := H
  have A4 := Aside0.mk A40
  clear A40
  by_cases c5 : t138 = true
  · subst c5
    have H1 : ((vokref1_first.f a0).bind fun t139 => (vokref1_Days.l0 k a0 a1 (wrap64 ((wrap64 (t139 + a2)) - 1)) 1)) = some (r1, r2) := by rw [if_pos rfl] at H; exact H
    clear H
    have H := H1
    clear H1
    replace H := Option.bind_eq_some_iff.mp H
    obtain ⟨t139, A60, H⟩ := H
    replace H : (vokref1_Days.l0 k a0 a1 (wrap64 ((wrap64 (t139 + a2)) - 1)) 1) = some (r1, r2) := H
    have A6 := Aside0.mk A60
    clear A60
    have H' := Aside0.mk H
    clear H
    go_enter Tryz.func85, Tryz.ntmps85
    go_wp2_with (first | ((with_reducible refine gate_callee (f := 111) rfl ?_); refine goesL_ (some 13) rfl rfl Tryz.func111 (by kernel_rfl) rfl #[.int .i64 a0, .int .i64 a1, .int .i64 a2] rfl (by (try simp only [List.map_toArray, List.map_cons, List.map_nil]); first | done | rfl | (simp only [List.length_drop, List.length_take]; rfl)) ?_; (with_reducible refine (vokref1_Valid.calls k a0 a1 a2 true _ A4.out).mono ?_); rintro e w' ⟨rfl, ⟨nd, rfl⟩⟩; refine ⟨_, rfl, ?_⟩) | ((with_reducible refine gate_callee (f := 106) rfl ?_); refine goesL_ (some 16) rfl rfl Tryz.func106 (by kernel_rfl) rfl #[.int .i64 a0] rfl (by (try simp only [List.map_toArray, List.map_cons, List.map_nil]); first | done | rfl | (simp only [List.length_drop, List.length_take]; rfl)) ?_; (with_reducible refine (vokref1_first.calls a0 t139 _ A6.out).mono ?_); rintro e w' ⟨rfl, ⟨nd, rfl⟩⟩; refine ⟨_, rfl, ?_⟩))
    go_loopg [8, 9] k (fun kq v8 v9 w' => ∃ (x8_1 : Int) (x9_1 : Int), v8 = .int .i64 x8_1 ∧ v9 = .int .i64 x9_1 ∧ Aside0 (vokref1_Days.l0 kq a0 a1 x8_1 x9_1 = some (r1, r2)) ∧ Aside0 (kq ≤ k) ∧ Drawn0 w w')
    case atStart => exact ⟨(wrap64 ((wrap64 (t139 + a2)) - 1)), (1), (by first | rfl | (simp; done) | (simp [*]; done)), (by first | rfl | (simp; done) | (simp [*]; done)), H', ⟨Nat.le_refl _⟩, by repeat (first | exact Drawn0.refl _ | apply Drawn0.step)⟩
    case round =>
      clear H'
      try clear c1
      try clear p2
      try clear c5
      try clear p6
      obtain ⟨x8_1, x9_1, rfl, rfl, HA, HK1, ⟨m1, rfl⟩⟩ := hrel
      cases gk with
      | zero => exact absurd HA.out (by simp [vokref1_Days.l0])
      | succ k1 =>
        have H := HA.out
        clear HA
        simp only [vokref1_Days.l0] at H
        by_cases c7 : x9_1 < a1
        · rw [if_pos c7] at H
          have c7b0 : decide (x9_1 < a1) = true := decide_eq_true c7
          clear c7
          replace H := Option.bind_eq_some_iff.mp H
          obtain ⟨t140, A80, H⟩ := H
          replace H : (vokref1_Days.l0 k1 a0 a1 (wrap64 (x8_1 + t140)) (wrap64 (x9_1 + 1))) = some (r1, r2) := H
          have A8 := Aside0.mk A80
          clear A80
          have H' := Aside0.mk H
          clear H
          go_wp2_with (first | ((with_reducible refine gate_callee (f := 112) rfl ?_); refine goesL_ (some 28) rfl rfl Tryz.func112 (by kernel_rfl) rfl #[.int .i64 a0, .int .i64 x9_1] rfl (by (try simp only [List.map_toArray, List.map_cons, List.map_nil]); first | done | rfl | (simp only [List.length_drop, List.length_take]; rfl)) ?_; (with_reducible refine (vokref1_Length.calls k1 a0 x9_1 t140 _ A8.out).mono ?_); rintro e w' ⟨rfl, ⟨nd, rfl⟩⟩; refine ⟨_, rfl, ?_⟩))
          go_roundg k1
          case measure => have := HK1.out; omega
          case rel => exact ⟨(wrap64 (x8_1 + t140)), (wrap64 (x9_1 + 1)), (by first | rfl | (simp; done) | (simp [*]; done)), (by first | rfl | (simp; done) | (simp [*]; done)), H', ⟨by have := HK1.out; omega⟩, by repeat (first | exact Drawn0.refl _ | apply Drawn0.step)⟩
        · rw [if_neg c7] at H
          have c7b0 : decide (x9_1 < a1) = false := decide_eq_false c7
          clear c7
          simp only [Option.some.injEq, Prod.mk.injEq] at H
          obtain ⟨rfl, rfl⟩ := H
          go_wp2
          go_ret2
          exact ⟨by first | rfl | (simp; done) | (simp [*]; done), by repeat (first | exact Drawn0.refl _ | apply Drawn0.step)⟩
  · replace c5 := Bool.eq_false_iff.mpr c5
    subst c5
    have H1 : (some (0, 1)) = some (r1, r2) := by rw [if_neg (show ¬ (false = true) by decide)] at H; exact H
    clear H
    have H := H1
    clear H1
    simp only [Option.some.injEq, Prod.mk.injEq] at H
    obtain ⟨rfl, rfl⟩ := H
    go_enter Tryz.func85, Tryz.ntmps85
    go_wp2_with (first | ((with_reducible refine gate_callee (f := 111) rfl ?_); refine goesL_ (some 13) rfl rfl Tryz.func111 (by kernel_rfl) rfl #[.int .i64 a0, .int .i64 a1, .int .i64 a2] rfl (by (try simp only [List.map_toArray, List.map_cons, List.map_nil]); first | done | rfl | (simp only [List.length_drop, List.length_take]; rfl)) ?_; (with_reducible refine (vokref1_Valid.calls k a0 a1 a2 false _ A4.out).mono ?_); rintro e w' ⟨rfl, ⟨nd, rfl⟩⟩; refine ⟨_, rfl, ?_⟩))
    go_ret2
    exact ⟨by first | rfl | (simp; done) | (simp [*]; done), by repeat (first | exact Drawn0.refl _ | apply Drawn0.step)⟩

/-! ### vokref1_Make: function 61 -/
def vokref1_Make.f (k : Nat) (a0 : Int) (a1 : Int) (a2 : Int) (a3 : Int) (a4 : Int) (a5 : Int) : Option (Int × Int) := (vokref1_Days.f k a0 a1 a2).bind fun bt141 => (if bt141.2 = 0 then (if a3 < 0 then (some (0, 1)) else (if a3 > 23 then (some (0, 1)) else (if a4 < 0 then (some (0, 1)) else (if a4 > 59 then (some (0, 1)) else (if a5 < 0 then (some (0, 1)) else (if a5 > 59 then (some (0, 1)) else (some (wrap64 ((wrap64 ((wrap64 ((wrap64 (bt141.1 * 86400)) + (wrap64 (a3 * 3600)))) + (wrap64 (a4 * 60)))) + a5), 0)))))))) else (some (0, 1)))
theorem vokref1_Make.mono : ∀ a0 a1 a2 a3 a4 a5 k, LeO (vokref1_Make.f k a0 a1 a2 a3 a4 a5) (vokref1_Make.f (k + 1) a0 a1 a2 a3 a4 a5) := by
  intro a0 a1 a2 a3 a4 a5 k
  unfold vokref1_Make.f
  repeat' first
      | (with_reducible exact vokref1_Days.mono _ _ _ _)
      | (with_reducible exact LeO.refl _)
      | (with_reducible exact LeO.none _)
      | (with_reducible refine LeO.ite ?_ ?_)
      | (with_reducible refine LeO.bind ?_ (fun _ => ?_))
      | exact vokref1_Days.mono _ _ _ _
      | exact LeO.none _
      | refine LeO.ite ?_ ?_
      | refine LeO.bind ?_ (fun _ => ?_)
set_option maxHeartbeats 8000000 in
set_option maxRecDepth 100000 in
theorem vokref1_Make.calls (k : Nat) (a0 : Int) (a1 : Int) (a2 : Int) (a3 : Int) (a4 : Int) (a5 : Int) (r1 : Int) (r2 : Int) (w : World) (h : vokref1_Make.f k a0 a1 a2 a3 a4 a5 = some (r1, r2)) :
    Calls Tryz.prog 61 #[.int .i64 a0, .int .i64 a1, .int .i64 a2, .int .i64 a3, .int .i64 a4, .int .i64 a5] w fun e w' => e = .returned (.tuple #[.int .i64 r1, .int .i64 r2]) ∧ Drawn0 w w' := by
  have H : ((vokref1_Days.f k a0 a1 a2).bind fun bt141 => (if bt141.2 = 0 then (if a3 < 0 then (some (0, 1)) else (if a3 > 23 then (some (0, 1)) else (if a4 < 0 then (some (0, 1)) else (if a4 > 59 then (some (0, 1)) else (if a5 < 0 then (some (0, 1)) else (if a5 > 59 then (some (0, 1)) else (some (wrap64 ((wrap64 ((wrap64 ((wrap64 (bt141.1 * 86400)) + (wrap64 (a3 * 3600)))) + (wrap64 (a4 * 60)))) + a5), 0)))))))) else (some (0, 1)))) = some (r1, r2) := h
  clear h
  replace H := Option.bind_eq_some_iff.mp H
  obtain ⟨⟨t141, t142⟩, A70, H⟩ := H
  replace H : (if t142 = 0 then (if a3 < 0 then (some (0, 1)) else (if a3 > 23 then (some (0, 1)) else (if a4 < 0 then (some (0, 1)) else (if a4 > 59 then (some (0, 1)) else (if a5 < 0 then (some (0, 1)) else (if a5 > 59 then (some (0, 1)) else (some (wrap64 ((wrap64 ((wrap64 ((wrap64 (t141 * 86400)) + (wrap64 (a3 * 3600)))) + (wrap64 (a4 * 60)))) + a5), 0)))))))) else (some (0, 1))) = some (r1, r2) := H
  have A7 := Aside0.mk A70
  clear A70
  by_cases c8 : t142 = 0
  · rw [if_pos c8] at H
    have c8b0 : (t142 == 0) = true := beq_iff_eq.mpr c8
    have c8b1 : (t142 != 0) = false := bne_eq_false_iff_eq.mpr c8
    clear c8
    by_cases c9 : a3 < 0
    · rw [if_pos c9] at H
      have c9b0 : decide (a3 < 0) = true := decide_eq_true c9
      clear c9
      simp only [Option.some.injEq, Prod.mk.injEq] at H
      obtain ⟨rfl, rfl⟩ := H
      go_enter Tryz.func61, Tryz.ntmps61
      go_wp2_with (first | ((with_reducible refine gate_callee (f := 85) rfl ?_); refine goesL_ (some 20) rfl rfl Tryz.func85 (by kernel_rfl) rfl #[.int .i64 a0, .int .i64 a1, .int .i64 a2] rfl (by (try simp only [List.map_toArray, List.map_cons, List.map_nil]); first | done | rfl | (simp only [List.length_drop, List.length_take]; rfl)) ?_; (with_reducible refine (vokref1_Days.calls k a0 a1 a2 t141 t142 _ A7.out).mono ?_); rintro e w' ⟨rfl, ⟨nd, rfl⟩⟩; refine ⟨_, rfl, ?_⟩))
      go_ret2
      exact ⟨by first | rfl | (simp; done) | (simp [*]; done), by repeat (first | exact Drawn0.refl _ | apply Drawn0.step)⟩
    · rw [if_neg c9] at H
      have c9b0 : decide (a3 < 0) = false := decide_eq_false c9
      clear c9
      by_cases c10 : a3 > 23
      · rw [if_pos c10] at H
        have c10b0 : decide (23 < a3) = true := decide_eq_true c10
        clear c10
        simp only [Option.some.injEq, Prod.mk.injEq] at H
        obtain ⟨rfl, rfl⟩ := H
        go_enter Tryz.func61, Tryz.ntmps61
        go_wp2_with (first | ((with_reducible refine gate_callee (f := 85) rfl ?_); refine goesL_ (some 20) rfl rfl Tryz.func85 (by kernel_rfl) rfl #[.int .i64 a0, .int .i64 a1, .int .i64 a2] rfl (by (try simp only [List.map_toArray, List.map_cons, List.map_nil]); first | done | rfl | (simp only [List.length_drop, List.length_take]; rfl)) ?_; (with_reducible refine (vokref1_Days.calls k a0 a1 a2 t141 t142 _ A7.out).mono ?_); rintro e w' ⟨rfl, ⟨nd, rfl⟩⟩; refine ⟨_, rfl, ?_⟩))
        go_ret2
        exact ⟨by first | rfl | (simp; done) | (simp [*]; done), by repeat (first | exact Drawn0.refl _ | apply Drawn0.step)⟩
      · rw [if_neg c10] at H
        have c10b0 : decide (23 < a3) = false := decide_eq_false c10
        clear c10
        by_cases c11 : a4 < 0
        · rw [if_pos c11] at H
          have c11b0 : decide (a4 < 0) = true := decide_eq_true c11
          clear c11
          simp only [Option.some.injEq, Prod.mk.injEq] at H
          obtain ⟨rfl, rfl⟩ := H
          go_enter Tryz.func61, Tryz.ntmps61
          go_wp2_with (first | ((with_reducible refine gate_callee (f := 85) rfl ?_); refine goesL_ (some 20) rfl rfl Tryz.func85 (by kernel_rfl) rfl #[.int .i64 a0, .int .i64 a1, .int .i64 a2] rfl (by (try simp only [List.map_toArray, List.map_cons, List.map_nil]); first | done | rfl | (simp only [List.length_drop, List.length_take]; rfl)) ?_; (with_reducible refine (vokref1_Days.calls k a0 a1 a2 t141 t142 _ A7.out).mono ?_); rintro e w' ⟨rfl, ⟨nd, rfl⟩⟩; refine ⟨_, rfl, ?_⟩))
          go_ret2
          exact ⟨by first | rfl | (simp; done) | (simp [*]; done), by repeat (first | exact Drawn0.refl _ | apply Drawn0.step)⟩
        · rw [if_neg c11] at H
          have c11b0 : decide (a4 < 0) = false := decide_eq_false c11
          clear c11
          by_cases c12 : a4 > 59
          · rw [if_pos c12] at H
            have c12b0 : decide (59 < a4) = true := decide_eq_true c12
            clear c12
            simp only [Option.some.injEq, Prod.mk.injEq] at H
            obtain ⟨rfl, rfl⟩ := H
            go_enter Tryz.func61, Tryz.ntmps61
            go_wp2_with (first | ((with_reducible refine gate_callee (f := 85) rfl ?_); refine goesL_ (some 20) rfl rfl Tryz.func85 (by kernel_rfl) rfl #[.int .i64 a0, .int .i64 a1, .int .i64 a2] rfl (by (try simp only [List.map_toArray, List.map_cons, List.map_nil]); first | done | rfl | (simp only [List.length_drop, List.length_take]; rfl)) ?_; (with_reducible refine (vokref1_Days.calls k a0 a1 a2 t141 t142 _ A7.out).mono ?_); rintro e w' ⟨rfl, ⟨nd, rfl⟩⟩; refine ⟨_, rfl, ?_⟩))
            go_ret2
            exact ⟨by first | rfl | (simp; done) | (simp [*]; done), by repeat (first | exact Drawn0.refl _ | apply Drawn0.step)⟩
          · rw [if_neg c12] at H
            have c12b0 : decide (59 < a4) = false := decide_eq_false c12
            clear c12
            by_cases c13 : a5 < 0
            · rw [if_pos c13] at H
              have c13b0 : decide (a5 < 0) = true := decide_eq_true c13
              clear c13
              simp only [Option.some.injEq, Prod.mk.injEq] at H
              obtain ⟨rfl, rfl⟩ := H
              go_enter Tryz.func61, Tryz.ntmps61
              go_wp2_with (first | ((with_reducible refine gate_callee (f := 85) rfl ?_); refine goesL_ (some 20) rfl rfl Tryz.func85 (by kernel_rfl) rfl #[.int .i64 a0, .int .i64 a1, .int .i64 a2] rfl (by (try simp only [List.map_toArray, List.map_cons, List.map_nil]); first | done | rfl | (simp only [List.length_drop, List.length_take]; rfl)) ?_; (with_reducible refine (vokref1_Days.calls k a0 a1 a2 t141 t142 _ A7.out).mono ?_); rintro e w' ⟨rfl, ⟨nd, rfl⟩⟩; refine ⟨_, rfl, ?_⟩))
              go_ret2
              exact ⟨by first | rfl | (simp; done) | (simp [*]; done), by repeat (first | exact Drawn0.refl _ | apply Drawn0.step)⟩
            · rw [if_neg c13] at H
              have c13b0 : decide (a5 < 0) = false := decide_eq_false c13
              clear c13
              by_cases c14 : a5 > 59
              · rw [if_pos c14] at H
                have c14b0 : decide (59 < a5) = true := decide_eq_true c14
                clear c14
                simp only [Option.some.injEq, Prod.mk.injEq] at H
                obtain ⟨rfl, rfl⟩ := H
                go_enter Tryz.func61, Tryz.ntmps61
                go_wp2_with (first | ((with_reducible refine gate_callee (f := 85) rfl ?_); refine goesL_ (some 20) rfl rfl Tryz.func85 (by kernel_rfl) rfl #[.int .i64 a0, .int .i64 a1, .int .i64 a2] rfl (by (try simp only [List.map_toArray, List.map_cons, List.map_nil]); first | done | rfl | (simp only [List.length_drop, List.length_take]; rfl)) ?_; (with_reducible refine (vokref1_Days.calls k a0 a1 a2 t141 t142 _ A7.out).mono ?_); rintro e w' ⟨rfl, ⟨nd, rfl⟩⟩; refine ⟨_, rfl, ?_⟩))
                go_ret2
                exact ⟨by first | rfl | (simp; done) | (simp [*]; done), by repeat (first | exact Drawn0.refl _ | apply Drawn0.step)⟩
              · rw [if_neg c14] at H
                have c14b0 : decide (59 < a5) = false := decide_eq_false c14
                clear c14
                simp only [Option.some.injEq, Prod.mk.injEq] at H
                obtain ⟨rfl, rfl⟩ := H
                go_enter Tryz.func61, Tryz.ntmps61
                go_wp2_with (first | ((with_reducible refine gate_callee (f := 85) rfl ?_); refine goesL_ (some 20) rfl rfl Tryz.func85 (by kernel_rfl) rfl #[.int .i64 a0, .int .i64 a1, .int .i64 a2] rfl (by (try simp only [List.map_toArray, List.map_cons, List.map_nil]); first | done | rfl | (simp only [List.length_drop, List.length_take]; rfl)) ?_; (with_reducible refine (vokref1_Days.calls k a0 a1 a2 t141 t142 _ A7.out).mono ?_); rintro e w' ⟨rfl, ⟨nd, rfl⟩⟩; refine ⟨_, rfl, ?_⟩))
                go_ret2
                exact ⟨by first | rfl | (simp; done) | (simp [*]; done), by repeat (first | exact Drawn0.refl _ | apply Drawn0.step)⟩
  · rw [if_neg c8] at H
    have c8b0 : (t142 == 0) = false := beq_eq_false_iff_ne.mpr c8
    have c8b1 : (t142 != 0) = true := bne_iff_ne.mpr c8
    simp only [Option.some.injEq, Prod.mk.injEq] at H
    obtain ⟨rfl, rfl⟩ := H
    go_enter Tryz.func61, Tryz.ntmps61
    go_wp2_with (first | ((with_reducible refine gate_callee (f := 85) rfl ?_); refine goesL_ (some 20) rfl rfl Tryz.func85 (by kernel_rfl) rfl #[.int .i64 a0, .int .i64 a1, .int .i64 a2] rfl (by (try simp only [List.map_toArray, List.map_cons, List.map_nil]); first | done | rfl | (simp only [List.length_drop, List.length_take]; rfl)) ?_; (with_reducible refine (vokref1_Days.calls k a0 a1 a2 t141 t142 _ A7.out).mono ?_); rintro e w' ⟨rfl, ⟨nd, rfl⟩⟩; refine ⟨_, rfl, ?_⟩))
    go_ret2
    exact ⟨by first | rfl | (simp; done) | (simp [*]; done), by repeat (first | exact Drawn0.refl _ | apply Drawn0.step)⟩

/-! ### vokref25_at: function 62 -/
def vokref25_at.f (l0 : List Int) (a1 : Int) : Option (Int) := if a1 < (l0.length : Int) then (if 0 ≤ a1 then (some (wrap64 (rd l0 a1))) else (none)) else (some 0)
set_option maxHeartbeats 8000000 in
set_option maxRecDepth 100000 in
theorem vokref25_at.calls (A0 : Option Addr) (c0 : Nat) (l0 : List Int) (a1 : Int) (r : Int) (w : World) (hr0 : Kd.C (Kd.int .u8) w A0 l0.length l0) (hc0 : l0.length ≤ c0) (h : vokref25_at.f l0 a1 = some r) :
    Calls Tryz.prog 62 #[.slice A0 l0.length c0, .int .i64 a1] w fun e w' => e = .returned (.int .i64 r) ∧ Drawn0 w w' := by
  have HR0 := Aside0.mk hr0
  have HC0 := Aside0.mk hc0
  clear hr0 hc0
  have H : (if a1 < (l0.length : Int) then (if 0 ≤ a1 then (some (wrap64 (rd l0 a1))) else (none)) else (some 0)) = some r := h
  clear h
  by_cases c3 : a1 < (l0.length : Int)
  · rw [if_pos c3] at H
    have c3b0 : decide (a1 < (l0.length : Int)) = true := decide_eq_true c3
    clear c3
    by_cases c4 : 0 ≤ a1
    · rw [if_pos c4] at H
      have c4b0 : decide (0 ≤ a1) = true := decide_eq_true c4
      clear c4
      obtain rfl := Option.some.inj H
      have p143 : 0 ≤ (a1 : Int) := of_decide_eq_true (by first | (with_reducible assumption) | assumption)
      have q143 : a1 < (l0.length : Int) := of_decide_eq_true (by first | (with_reducible assumption) | assumption)
      obtain ⟨ad143, e143, hx143_0⟩ := Kd.at_int HR0.out a1 p143 q143
      cases e143
      replace p143 := eq_true p143
      replace q143 := eq_true q143
      go_enter Tryz.func62, Tryz.ntmps62
      go_wp2
      go_ret
      exact ⟨by first | rfl | (simp; done) | (simp [*]; done), by repeat (first | exact Drawn0.refl _ | apply Drawn0.step)⟩
    · rw [if_neg c4] at H
      exact absurd H (by simp)
  · rw [if_neg c3] at H
    have c3b0 : decide (a1 < (l0.length : Int)) = false := decide_eq_false c3
    clear c3
    obtain rfl := Option.some.inj H
    go_enter Tryz.func62, Tryz.ntmps62
    go_wp2
    go_ret
    exact ⟨by first | rfl | (simp; done) | (simp [*]; done), by repeat (first | exact Drawn0.refl _ | apply Drawn0.step)⟩

/-! ### vokref25_Opts: function 36 -/
def vokref25_Opts.f (k : Nat) (l0 : List Int) : Option (Int × Int × (List (S98)) × Int × Int × Int × Int × Int × Int × Int × Int) := (vokref1_Make.f k 2026 1 1 0 0 0).bind fun bt145 => ((vokref25_at.f l0 0).bind fun t153 => ((vokref25_at.f l0 1).bind fun t154 => ((vokref25_at.f l0 2).bind fun t155 => ((vokref25_at.f l0 3).bind fun t156 => (some (wrap64 (1 + (Int.tmod t153 3)), 4, (([(⟨0, ([] : List (S110)), ([] : List (S113)), 0⟩ : S98), (⟨3600, ([] : List (S110)), (([(⟨3, 5, 6, 3600, 7200⟩ : S113), (⟨10, 5, 6, 3600, 3600⟩ : S113)] : List (S113))), 2000⟩ : S98)] : List (S98))), bt145.1, wrap64 (bt145.1 + 5184000), wrap64 (2 + (Int.tmod t154 4)), wrap64 (2 + (Int.tmod t155 4)), wrap64 (2 + (Int.tmod t156 4)), 4, 20000, 200))))))
theorem vokref25_Opts.mono : ∀ a0 k, LeO (vokref25_Opts.f k a0) (vokref25_Opts.f (k + 1) a0) := by
  intro a0 k
  unfold vokref25_Opts.f
  repeat' first
      | (with_reducible exact vokref1_Make.mono _ _ _ _ _ _ _)
      | (with_reducible exact LeO.refl _)
      | (with_reducible exact LeO.none _)
      | (with_reducible refine LeO.ite ?_ ?_)
      | (with_reducible refine LeO.bind ?_ (fun _ => ?_))
      | exact vokref1_Make.mono _ _ _ _ _ _ _
      | exact LeO.none _
      | refine LeO.ite ?_ ?_
      | refine LeO.bind ?_ (fun _ => ?_)
set_option maxHeartbeats 8000000 in
set_option maxRecDepth 100000 in
theorem vokref25_Opts.calls (k : Nat) (A0 : Option Addr) (c0 : Nat) (l0 : List Int) (r1 : Int) (r2 : Int) (r3 : List (S98)) (r4 : Int) (r5 : Int) (r6 : Int) (r7 : Int) (r8 : Int) (r9 : Int) (r10 : Int) (r11 : Int) (w : World) (hr0 : Kd.C (Kd.int .u8) w A0 l0.length l0) (hc0 : l0.length ≤ c0) (h : vokref25_Opts.f k l0 = some (r1, r2, r3, r4, r5, r6, r7, r8, r9, r10, r11)) :
    Calls Tryz.prog 36 #[.slice A0 l0.length c0] w fun e w' => ∃ v2_ : Value, e = .returned (.agg #[.int .i64 r1, .int .i64 r2, v2_, .int .i64 r4, .int .i64 r5, .int .i64 r6, .int .i64 r7, .int .i64 r8, .int .i64 r9, .int .i64 r10, .int .i64 r11]) ∧ Kd.N k98 98 w' w.heap.size (fun k_ => (w.heap.size ≤ k_)) v2_ r3 ∧ Below w.heap.size w w' := by
  have hu81 := Tryz.underlying81
  have hu98 := Tryz.underlying98
  have hu113 := Tryz.underlying113
  have hu54 := Tryz.underlying54
  have hu79 := Tryz.underlying79
  have HR0 := Aside0.mk hr0
  have HC0 := Aside0.mk hc0
  clear hr0 hc0
  have HB := Aside0.mk (Below.refl w.heap.size w)
  have H : ((vokref1_Make.f k 2026 1 1 0 0 0).bind fun bt145 => ((vokref25_at.f l0 0).bind fun t153 => ((vokref25_at.f l0 1).bind fun t154 => ((vokref25_at.f l0 2).bind fun t155 => ((vokref25_at.f l0 3).bind fun t156 => (some (wrap64 (1 + (Int.tmod t153 3)), 4, (([(⟨0, ([] : List (S110)), ([] : List (S113)), 0⟩ : S98), (⟨3600, ([] : List (S110)), (([(⟨3, 5, 6, 3600, 7200⟩ : S113), (⟨10, 5, 6, 3600, 3600⟩ : S113)] : List (S113))), 2000⟩ : S98)] : List (S98))), bt145.1, wrap64 (bt145.1 + 5184000), wrap64 (2 + (Int.tmod t154 4)), wrap64 (2 + (Int.tmod t155 4)), wrap64 (2 + (Int.tmod t156 4)), 4, 20000, 200))))))) = some (r1, r2, r3, r4, r5, r6, r7, r8, r9, r10, r11) := h
  clear h
  replace H := Option.bind_eq_some_iff.mp H
  obtain ⟨⟨t145, t146⟩, A20, H⟩ := H
  replace H : ((vokref25_at.f l0 0).bind fun t153 => ((vokref25_at.f l0 1).bind fun t154 => ((vokref25_at.f l0 2).bind fun t155 => ((vokref25_at.f l0 3).bind fun t156 => (some (wrap64 (1 + (Int.tmod t153 3)), 4, (([(⟨0, ([] : List (S110)), ([] : List (S113)), 0⟩ : S98), (⟨3600, ([] : List (S110)), (([(⟨3, 5, 6, 3600, 7200⟩ : S113), (⟨10, 5, 6, 3600, 3600⟩ : S113)] : List (S113))), 2000⟩ : S98)] : List (S98))), t145, wrap64 (t145 + 5184000), wrap64 (2 + (Int.tmod t154 4)), wrap64 (2 + (Int.tmod t155 4)), wrap64 (2 + (Int.tmod t156 4)), 4, 20000, 200)))))) = some (r1, r2, r3, r4, r5, r6, r7, r8, r9, r10, r11) := H
  have A2 := Aside0.mk A20
  clear A20
  obtain ⟨y147, hy147⟩ : ∃ y_ : List (S113), y_ = (([(⟨3, 5, 6, 3600, 7200⟩ : S113), (⟨10, 5, 6, 3600, 3600⟩ : S113)] : List (S113))) := ⟨_, rfl⟩
  replace H : ((vokref25_at.f l0 0).bind fun t153 => ((vokref25_at.f l0 1).bind fun t154 => ((vokref25_at.f l0 2).bind fun t155 => ((vokref25_at.f l0 3).bind fun t156 => (some (wrap64 (1 + (Int.tmod t153 3)), 4, (([(⟨0, ([] : List (S110)), ([] : List (S113)), 0⟩ : S98), (⟨3600, ([] : List (S110)), y147, 2000⟩ : S98)] : List (S98))), t145, wrap64 (t145 + 5184000), wrap64 (2 + (Int.tmod t154 4)), wrap64 (2 + (Int.tmod t155 4)), wrap64 (2 + (Int.tmod t156 4)), 4, 20000, 200)))))) = some (r1, r2, r3, r4, r5, r6, r7, r8, r9, r10, r11) := by first | (rw [hy147]; with_reducible exact H) | (have H2_ := (Option.bind_some _ _).symm.trans H; rw [hy147]; with_reducible exact H2_) | (have H2_ := (Option.bind_some _ _).symm.trans H; with_reducible exact H2_) | with_reducible exact H | (rw [hy147]; exact H) | exact H
  have Ny147 := Aside0.mk hy147
  clear hy147
  obtain ⟨y150, hy150⟩ : ∃ y_ : List (S98), y_ = (([(⟨0, ([] : List (S110)), ([] : List (S113)), 0⟩ : S98), (⟨3600, ([] : List (S110)), y147, 2000⟩ : S98)] : List (S98))) := ⟨_, rfl⟩
  replace H : ((vokref25_at.f l0 0).bind fun t153 => ((vokref25_at.f l0 1).bind fun t154 => ((vokref25_at.f l0 2).bind fun t155 => ((vokref25_at.f l0 3).bind fun t156 => (some (wrap64 (1 + (Int.tmod t153 3)), 4, y150, t145, wrap64 (t145 + 5184000), wrap64 (2 + (Int.tmod t154 4)), wrap64 (2 + (Int.tmod t155 4)), wrap64 (2 + (Int.tmod t156 4)), 4, 20000, 200)))))) = some (r1, r2, r3, r4, r5, r6, r7, r8, r9, r10, r11) := by first | (rw [hy150]; with_reducible exact H) | (have H2_ := (Option.bind_some _ _).symm.trans H; rw [hy150]; with_reducible exact H2_) | (have H2_ := (Option.bind_some _ _).symm.trans H; with_reducible exact H2_) | with_reducible exact H | (rw [hy150]; exact H) | exact H
  have Ny150 := Aside0.mk hy150
  clear hy150
  replace H := Option.bind_eq_some_iff.mp H
  obtain ⟨t153, A30, H⟩ := H
  replace H : ((vokref25_at.f l0 1).bind fun t154 => ((vokref25_at.f l0 2).bind fun t155 => ((vokref25_at.f l0 3).bind fun t156 => (some (wrap64 (1 + (Int.tmod t153 3)), 4, y150, t145, wrap64 (t145 + 5184000), wrap64 (2 + (Int.tmod t154 4)), wrap64 (2 + (Int.tmod t155 4)), wrap64 (2 + (Int.tmod t156 4)), 4, 20000, 200))))) = some (r1, r2, r3, r4, r5, r6, r7, r8, r9, r10, r11) := H
  have A3 := Aside0.mk A30
  clear A30
  replace H := Option.bind_eq_some_iff.mp H
  obtain ⟨t154, A40, H⟩ := H
  replace H : ((vokref25_at.f l0 2).bind fun t155 => ((vokref25_at.f l0 3).bind fun t156 => (some (wrap64 (1 + (Int.tmod t153 3)), 4, y150, t145, wrap64 (t145 + 5184000), wrap64 (2 + (Int.tmod t154 4)), wrap64 (2 + (Int.tmod t155 4)), wrap64 (2 + (Int.tmod t156 4)), 4, 20000, 200)))) = some (r1, r2, r3, r4, r5, r6, r7, r8, r9, r10, r11) := H
  have A4 := Aside0.mk A40
  clear A40
  replace H := Option.bind_eq_some_iff.mp H
  obtain ⟨t155, A50, H⟩ := H
  replace H : ((vokref25_at.f l0 3).bind fun t156 => (some (wrap64 (1 + (Int.tmod t153 3)), 4, y150, t145, wrap64 (t145 + 5184000), wrap64 (2 + (Int.tmod t154 4)), wrap64 (2 + (Int.tmod t155 4)), wrap64 (2 + (Int.tmod t156 4)), 4, 20000, 200))) = some (r1, r2, r3, r4, r5, r6, r7, r8, r9, r10, r11) := H
  have A5 := Aside0.mk A50
  clear A50
  replace H := Option.bind_eq_some_iff.mp H
  obtain ⟨t156, A60, H⟩ := H
  replace H : (some (wrap64 (1 + (Int.tmod t153 3)), 4, y150, t145, wrap64 (t145 + 5184000), wrap64 (2 + (Int.tmod t154 4)), wrap64 (2 + (Int.tmod t155 4)), wrap64 (2 + (Int.tmod t156 4)), 4, 20000, 200)) = some (r1, r2, r3, r4, r5, r6, r7, r8, r9, r10, r11) := H
  have A6 := Aside0.mk A60
  clear A60
  simp only [Option.some.injEq, Prod.mk.injEq] at H
  obtain ⟨rfl, rfl, rfl, rfl, rfl, rfl, rfl, rfl, rfl, rfl, rfl⟩ := H
  go_enter Tryz.func36, Tryz.ntmps36
  go_wp2_with (first | ((with_reducible refine gate_dst (N := 2) rfl ?_); refine box_event ?hg (N := 2) ?hd (cs := #[.int .i64 0, .int .i64 0, .slice none 0 0, .int .i64 0, .int .i64 0, .int .i64 0, .int .i64 0, .int .i64 0, .int .i64 0, .int .i64 0, .int .i64 0]) (t := 81) ?hr ?_; (case hd => rfl); (case hg => rfl); (case hr => first | (go_simp; done) | (go_simp; rfl)); intro gb144 hg w7 hbox hb; have n0_ := Aside0.mk (below_step (by repeat (first | (with_reducible first | exact HB.out | apply below_alloc | apply pw_below_drewN | apply below_drew1) | exact HB.out)) hb); have n1_ := Aside0.mk (hbox); have n2_ := Aside0.mk ((by rw [hg]; exact (below_size (by repeat (first | (with_reducible first | exact HB.out | apply below_alloc | apply pw_below_drewN | apply below_drew1) | exact HB.out))) : w.heap.size ≤ gb144)); have n3_ := Aside0.mk ((by rw [hg]; exact (below_size (by repeat (first | (with_reducible first | exact HB.out | apply below_alloc | apply pw_below_drewN | apply below_drew1) | exact HB.out))) : w.heap.size ≤ gb144)); clear HB; have HB := n0_; have BK144 := n1_; have GW144 := n2_; have GE144 := n3_; clear n0_ n1_ n2_ n3_; clear hb hbox hg) | ((with_reducible refine gate_callee (f := 61) rfl ?_); refine goesL_ (some 7) rfl rfl Tryz.func61 (by kernel_rfl) rfl #[.int .i64 2026, .int .i64 1, .int .i64 1, .int .i64 0, .int .i64 0, .int .i64 0] rfl (by (try simp only [List.map_toArray, List.map_cons, List.map_nil]); first | done | rfl | (simp only [List.length_drop, List.length_take]; rfl)) ?_; (with_reducible refine (vokref1_Make.calls k 2026 1 1 0 0 0 t145 t146 _ A2.out).mono ?_); rintro e w' ⟨rfl, ⟨nd, rfl⟩⟩; refine ⟨_, rfl, ?_⟩; (try (rw [drewN_self w7]; generalize hq_ : World.drewN w7 _ = w7; have n0_ : Aside0 (w7.heap[gb144]? = some (.cells #[.int .i64 0, .int .i64 0, .slice none 0 0, .int .i64 0, .int .i64 0, .int .i64 0, .int .i64 0, .int .i64 0, .int .i64 0, .int .i64 0, .int .i64 0] 81 (0, 0))) := ⟨by rw [← hq_]; exact (by (with_reducible repeat (first | refine blk_drewN ?_ _ | refine blk_drew ?_ | refine blk_alloc ?_ _)); exact BK144.out)⟩; have n1_ : Aside0 (Below w.heap.size w w7) := ⟨by rw [← hq_]; exact (by repeat (first | (with_reducible first | exact HB.out | apply below_alloc | apply pw_below_drewN | apply below_drew1 | refine below_set ?_ GE144.out) | exact HB.out))⟩; clear BK144 HB hq_; have BK144 := n0_; have HB := n1_; clear n0_ n1_))) | ((with_reducible refine gate_dst (N := 13) rfl ?_); refine Kd.R_lit k113 _ 113 ?hg (N := 13) ?hd (xs := ([(⟨3, 5, 6, 3600, 7200⟩ : S113), (⟨10, 5, 6, 3600, 3600⟩ : S113)] : List (S113))) (inner := [.int .i64 3, .int .i64 5, .int .i64 6, .int .i64 3600, .int .i64 7200, .int .i64 10, .int .i64 5, .int .i64 6, .int .i64 3600, .int .i64 3600]) (ok := fun _ => True) (okp := fun _ => True) ?hr ?hp (fun _ hk => hk) trivial (Below.refl _ _) (Nat.le_refl _) (by simp) ?_; (case hd => rfl); (case hg => rfl); (case hr => first | (go_simp; done) | (go_simp; rfl)); (case hp => exact (Reps.c5 (show Kd.M k113 _ _ _ (⟨3, 5, 6, 3600, 7200⟩ : S113) [.int .i64 3, .int .i64 5, .int .i64 6, .int .i64 3600, .int .i64 7200] from (k113_mkM _ _ _ (⟨3, 5, 6, 3600, 7200⟩ : S113) )) (Reps.c5 (show Kd.M k113 _ _ _ (⟨10, 5, 6, 3600, 3600⟩ : S113) [.int .i64 10, .int .i64 5, .int .i64 6, .int .i64 3600, .int .i64 3600] from (k113_mkM _ _ _ (⟨10, 5, 6, 3600, 3600⟩ : S113) )) (Reps.none _ _)))); intro v148 w8 ho9 hb hg_ hnew_; clear hg_ hnew_; (first | rw [← Ny147.out] at ho9 | (simp only [Int.reduceToNat] at ho9; rw [← Ny147.out] at ho9)); have n0_ := Aside0.mk (Kd.R_lower (Kd.R_newM (M := fun k_ => (w.heap.size ≤ k_)) ho9 (below_size (by repeat (first | (with_reducible first | exact HB.out | apply below_alloc | apply pw_below_drewN | apply below_drew1 | refine below_set ?_ GE144.out) | exact HB.out))) (fun k_ h_ => h_)) (below_size (by repeat (first | (with_reducible first | exact HB.out | apply below_alloc | apply pw_below_drewN | apply below_drew1 | refine below_set ?_ GE144.out) | exact HB.out)))); have n1_ := Aside0.mk (blk_below (g := gb144) (o := .cells #[.int .i64 0, .int .i64 0, .slice none 0 0, .int .i64 0, .int .i64 0, .int .i64 0, .int .i64 0, .int .i64 0, .int .i64 0, .int .i64 0, .int .i64 0] 81 (0, 0)) (by (with_reducible repeat (first | refine blk_drewN ?_ _ | refine blk_drew ?_ | refine blk_alloc ?_ _)); exact BK144.out) hb); have n2_ := Aside0.mk (below_step (by repeat (first | (with_reducible first | exact HB.out | apply below_alloc | apply pw_below_drewN | apply below_drew1 | refine below_set ?_ GE144.out) | exact HB.out)) hb); clear BK144; clear HB; have HO149 := n0_; have BK144 := n1_; have HB := n2_; clear n0_ n1_ n2_; clear hb ho9; obtain ⟨Ao10, co10, eo10⟩ := Kd.R_slice HO149.out; subst eo10) | ((with_reducible refine gate_dst (N := 15) rfl ?_); refine Kd.N_lit k98 _ 98 ?hg (N' := 15) ?hd (xs := ([(⟨0, ([] : List (S110)), ([] : List (S113)), 0⟩ : S98), (⟨3600, ([] : List (S110)), y147, 2000⟩ : S98)] : List (S98))) (inner := [.int .i64 0, .slice none 0 0, .slice none 0 0, .int .i64 0, .int .i64 3600, .slice none 0 0, .slice Ao10 y147.length co10, .int .i64 2000]) (ok := (fun k_ => (w.heap.size ≤ k_) ∧ k_ ≠ gb144)) (okp := (fun k_ => (w.heap.size ≤ k_) ∧ k_ ≠ gb144)) ?hr ?hp (fun _ hk => hk) ((show ∀ k_, w8.heap.size ≤ k_ → (fun k_ => (w.heap.size ≤ k_) ∧ k_ ≠ gb144) k_ from fun k_ hk => ⟨(Nat.le_trans (below_size (by repeat (first | (with_reducible first | exact HB.out | apply below_alloc | apply pw_below_drewN | apply below_drew1 | refine below_set ?_ GE144.out) | exact HB.out))) hk), Kd.freshB (g := gb144) (o := .cells #[.int .i64 0, .int .i64 0, .slice none 0 0, .int .i64 0, .int .i64 0, .int .i64 0, .int .i64 0, .int .i64 0, .int .i64 0, .int .i64 0, .int .i64 0] 81 (0, 0)) (by (with_reducible repeat (first | refine blk_drewN ?_ _ | refine blk_drew ?_ | refine blk_alloc ?_ _)); exact BK144.out) k_ hk⟩) _ (Nat.le_refl _)) (Below.refl _ _) (Nat.le_refl _) (by simp) ?_; (case hd => rfl); (case hg => rfl); (case hr => first | (go_simp; done) | (go_simp; rfl)); (case hp => exact (Reps.c4 (show Kd.FK k98 _ _ (⟨0, ([] : List (S110)), ([] : List (S113)), 0⟩ : S98) [.int .i64 0, .slice none 0 0, .slice none 0 0, .int .i64 0] from (k98_mkF _ _ (⟨0, ([] : List (S110)), ([] : List (S113)), 0⟩ : S98) (Nat.le_refl _) (Kd.F_nil _ _ _) (Nat.le_refl _) (Kd.F_nil _ _ _))) (Reps.c4 (show Kd.FK k98 _ _ (⟨3600, ([] : List (S110)), y147, 2000⟩ : S98) [.int .i64 3600, .slice none 0 0, .slice Ao10 y147.length co10, .int .i64 2000] from (k98_mkF _ _ (⟨3600, ([] : List (S110)), y147, 2000⟩ : S98) (Nat.le_refl _) (Kd.F_nil _ _ _) (Kd.R_reads' (Kd.R_mono (ok' := (fun k_ => (w.heap.size ≤ k_) ∧ k_ ≠ gb144)) (Kd.R_types (HO149.out) BK144.out (by decide)) (fun k_ hk => ⟨hk.1.1, hk.2⟩))).2.1 (Kd.R_F (Kd.R_mono (ok' := (fun k_ => (w.heap.size ≤ k_) ∧ k_ ≠ gb144)) (Kd.R_types (HO149.out) BK144.out (by decide)) (fun k_ hk => ⟨hk.1.1, hk.2⟩))))) (Reps.none _ _)))); intro v151 w11 ho12 hb hg_ hnew_; clear hg_ hnew_; (first | rw [← Ny150.out] at ho12 | (simp only [Int.reduceToNat] at ho12; rw [← Ny150.out] at ho12)); have n0_ := Aside0.mk (Kd.N_lower ho12 (below_size (by repeat (first | (with_reducible first | exact HB.out | apply below_alloc | apply pw_below_drewN | apply below_drew1 | refine below_set ?_ GE144.out) | exact HB.out)))); have n1_ := Aside0.mk (blk_below (g := gb144) (o := .cells #[.int .i64 0, .int .i64 0, .slice none 0 0, .int .i64 0, .int .i64 0, .int .i64 0, .int .i64 0, .int .i64 0, .int .i64 0, .int .i64 0, .int .i64 0] 81 (0, 0)) (by (with_reducible repeat (first | refine blk_drewN ?_ _ | refine blk_drew ?_ | refine blk_alloc ?_ _)); exact BK144.out) hb); have n2_ := Aside0.mk (below_step (by repeat (first | (with_reducible first | exact HB.out | apply below_alloc | apply pw_below_drewN | apply below_drew1 | refine below_set ?_ GE144.out) | exact HB.out)) hb); clear BK144; clear HB; clear HO149; have HO152 := n0_; have BK144 := n1_; have HB := n2_; clear n0_ n1_ n2_; clear hb ho12) | ((with_reducible refine gate_callee (f := 62) rfl ?_); refine goesL_ (some 17) rfl rfl Tryz.func62 (by kernel_rfl) rfl #[.slice A0 l0.length c0, .int .i64 0] rfl (by (try simp only [List.map_toArray, List.map_cons, List.map_nil]); first | done | rfl | (simp only [List.length_drop, List.length_take]; rfl)) ?_; (with_reducible refine (vokref25_at.calls _ _ l0 0 t153 _ ?side1 ?side2 A3.out).mono ?_); (case side1 => repeat (first | exact (Kd.C_below HR0.out HB.out) | (with_reducible refine Kd.C_alloc ?_ _) | (with_reducible refine Kd.C_drewN ?_ _) | (with_reducible refine Kd.C_drew ?_))); (case side2 => exact HC0.out); rintro e w' ⟨rfl, ⟨nd, rfl⟩⟩; refine ⟨_, rfl, ?_⟩; (try (rw [drewN_self w11]; generalize hq_ : World.drewN w11 _ = w11; have n0_ : Aside0 (Kd.N k98 98 w11 w.heap.size (fun k_ => (w.heap.size ≤ k_) ∧ k_ ≠ gb144) v151 y150) := ⟨by rw [← hq_]; exact (by (with_reducible repeat (first | apply Kd.N_alloc | apply Kd.N_drewN | apply Kd.N_drew)); exact HO152.out)⟩; have n1_ : Aside0 (w11.heap[gb144]? = some (.cells #[.int .i64 0, .int .i64 0, .slice none 0 0, .int .i64 0, .int .i64 0, .int .i64 0, .int .i64 0, .int .i64 0, .int .i64 0, .int .i64 0, .int .i64 0] 81 (0, 0))) := ⟨by rw [← hq_]; exact (by (with_reducible repeat (first | refine blk_drewN ?_ _ | refine blk_drew ?_ | refine blk_alloc ?_ _)); exact BK144.out)⟩; have n2_ : Aside0 (Below w.heap.size w w11) := ⟨by rw [← hq_]; exact (by repeat (first | (with_reducible first | exact HB.out | apply below_alloc | apply pw_below_drewN | apply below_drew1 | refine below_set ?_ GE144.out) | exact HB.out))⟩; clear HO152 BK144 HB hq_; have HO152 := n0_; have BK144 := n1_; have HB := n2_; clear n0_ n1_ n2_)); obtain ⟨Ao13, co13, eo13⟩ := Kd.N_slice HO152.out; subst eo13) | ((with_reducible refine gate_callee (f := 62) rfl ?_); refine goesL_ (some 26) rfl rfl Tryz.func62 (by kernel_rfl) rfl #[.slice A0 l0.length c0, .int .i64 1] rfl (by (try simp only [List.map_toArray, List.map_cons, List.map_nil]); first | done | rfl | (simp only [List.length_drop, List.length_take]; rfl)) ?_; (with_reducible refine (vokref25_at.calls _ _ l0 1 t154 _ ?side1 ?side2 A4.out).mono ?_); (case side1 => repeat (first | exact (Kd.C_below HR0.out HB.out) | (with_reducible refine Kd.C_alloc ?_ _) | (with_reducible refine Kd.C_drewN ?_ _) | (with_reducible refine Kd.C_drew ?_))); (case side2 => exact HC0.out); rintro e w' ⟨rfl, ⟨nd, rfl⟩⟩; refine ⟨_, rfl, ?_⟩; (try (rw [drewN_self w11]; generalize hq_ : World.drewN w11 _ = w11; have n0_ : Aside0 (Kd.N k98 98 w11 w.heap.size (fun k_ => (w.heap.size ≤ k_) ∧ k_ ≠ gb144) (.slice Ao13 y150.length co13) y150) := ⟨by rw [← hq_]; exact (by (with_reducible repeat (first | apply Kd.N_alloc | apply Kd.N_drewN | apply Kd.N_drew)); exact HO152.out)⟩; have n1_ : Aside0 (w11.heap[gb144]? = some (.cells #[.int .i64 0, .int .i64 0, .slice none 0 0, .int .i64 0, .int .i64 0, .int .i64 0, .int .i64 0, .int .i64 0, .int .i64 0, .int .i64 0, .int .i64 0] 81 (0, 0))) := ⟨by rw [← hq_]; exact (by (with_reducible repeat (first | refine blk_drewN ?_ _ | refine blk_drew ?_ | refine blk_alloc ?_ _)); exact BK144.out)⟩; have n2_ : Aside0 (Below w.heap.size w w11) := ⟨by rw [← hq_]; exact (by repeat (first | (with_reducible first | exact HB.out | apply below_alloc | apply pw_below_drewN | apply below_drew1 | refine below_set ?_ GE144.out) | exact HB.out))⟩; clear HO152 BK144 HB hq_; have HO152 := n0_; have BK144 := n1_; have HB := n2_; clear n0_ n1_ n2_))) | ((with_reducible refine gate_callee (f := 62) rfl ?_); refine goesL_ (some 30) rfl rfl Tryz.func62 (by kernel_rfl) rfl #[.slice A0 l0.length c0, .int .i64 2] rfl (by (try simp only [List.map_toArray, List.map_cons, List.map_nil]); first | done | rfl | (simp only [List.length_drop, List.length_take]; rfl)) ?_; (with_reducible refine (vokref25_at.calls _ _ l0 2 t155 _ ?side1 ?side2 A5.out).mono ?_); (case side1 => repeat (first | exact (Kd.C_below HR0.out HB.out) | (with_reducible refine Kd.C_alloc ?_ _) | (with_reducible refine Kd.C_drewN ?_ _) | (with_reducible refine Kd.C_drew ?_))); (case side2 => exact HC0.out); rintro e w' ⟨rfl, ⟨nd, rfl⟩⟩; refine ⟨_, rfl, ?_⟩; (try (rw [drewN_self w11]; generalize hq_ : World.drewN w11 _ = w11; have n0_ : Aside0 (Kd.N k98 98 w11 w.heap.size (fun k_ => (w.heap.size ≤ k_) ∧ k_ ≠ gb144) (.slice Ao13 y150.length co13) y150) := ⟨by rw [← hq_]; exact (by (with_reducible repeat (first | apply Kd.N_alloc | apply Kd.N_drewN | apply Kd.N_drew)); exact HO152.out)⟩; have n1_ : Aside0 (w11.heap[gb144]? = some (.cells #[.int .i64 0, .int .i64 0, .slice none 0 0, .int .i64 0, .int .i64 0, .int .i64 0, .int .i64 0, .int .i64 0, .int .i64 0, .int .i64 0, .int .i64 0] 81 (0, 0))) := ⟨by rw [← hq_]; exact (by (with_reducible repeat (first | refine blk_drewN ?_ _ | refine blk_drew ?_ | refine blk_alloc ?_ _)); exact BK144.out)⟩; have n2_ : Aside0 (Below w.heap.size w w11) := ⟨by rw [← hq_]; exact (by repeat (first | (with_reducible first | exact HB.out | apply below_alloc | apply pw_below_drewN | apply below_drew1 | refine below_set ?_ GE144.out) | exact HB.out))⟩; clear HO152 BK144 HB hq_; have HO152 := n0_; have BK144 := n1_; have HB := n2_; clear n0_ n1_ n2_))) | ((with_reducible refine gate_callee (f := 62) rfl ?_); refine goesL_ (some 34) rfl rfl Tryz.func62 (by kernel_rfl) rfl #[.slice A0 l0.length c0, .int .i64 3] rfl (by (try simp only [List.map_toArray, List.map_cons, List.map_nil]); first | done | rfl | (simp only [List.length_drop, List.length_take]; rfl)) ?_; (with_reducible refine (vokref25_at.calls _ _ l0 3 t156 _ ?side1 ?side2 A6.out).mono ?_); (case side1 => repeat (first | exact (Kd.C_below HR0.out HB.out) | (with_reducible refine Kd.C_alloc ?_ _) | (with_reducible refine Kd.C_drewN ?_ _) | (with_reducible refine Kd.C_drew ?_))); (case side2 => exact HC0.out); rintro e w' ⟨rfl, ⟨nd, rfl⟩⟩; refine ⟨_, rfl, ?_⟩; (try (rw [drewN_self w11]; generalize hq_ : World.drewN w11 _ = w11; have n0_ : Aside0 (Kd.N k98 98 w11 w.heap.size (fun k_ => (w.heap.size ≤ k_) ∧ k_ ≠ gb144) (.slice Ao13 y150.length co13) y150) := ⟨by rw [← hq_]; exact (by (with_reducible repeat (first | apply Kd.N_alloc | apply Kd.N_drewN | apply Kd.N_drew)); exact HO152.out)⟩; have n1_ : Aside0 (w11.heap[gb144]? = some (.cells #[.int .i64 0, .int .i64 0, .slice none 0 0, .int .i64 0, .int .i64 0, .int .i64 0, .int .i64 0, .int .i64 0, .int .i64 0, .int .i64 0, .int .i64 0] 81 (0, 0))) := ⟨by rw [← hq_]; exact (by (with_reducible repeat (first | refine blk_drewN ?_ _ | refine blk_drew ?_ | refine blk_alloc ?_ _)); exact BK144.out)⟩; have n2_ : Aside0 (Below w.heap.size w w11) := ⟨by rw [← hq_]; exact (by repeat (first | (with_reducible first | exact HB.out | apply below_alloc | apply pw_below_drewN | apply below_drew1 | refine below_set ?_ GE144.out) | exact HB.out))⟩; clear HO152 BK144 HB hq_; have HO152 := n0_; have BK144 := n1_; have HB := n2_; clear n0_ n1_ n2_)); have hcz14_0 : w11.cell? ⟨gb144, 0, none⟩ = some (.int .i64 0) := (blk_cell BK144.out 0).trans rfl; have hcz14_1 : w11.cell? ⟨gb144, 1, none⟩ = some (.int .i64 0) := (blk_cell BK144.out 1).trans rfl; have hcz14_2 : w11.cell? ⟨gb144, 2, none⟩ = some (.slice none 0 0) := (blk_cell BK144.out 2).trans rfl; have hcz14_3 : w11.cell? ⟨gb144, 3, none⟩ = some (.int .i64 0) := (blk_cell BK144.out 3).trans rfl; have hcz14_4 : w11.cell? ⟨gb144, 4, none⟩ = some (.int .i64 0) := (blk_cell BK144.out 4).trans rfl; have hcz14_5 : w11.cell? ⟨gb144, 5, none⟩ = some (.int .i64 0) := (blk_cell BK144.out 5).trans rfl; have hcz14_6 : w11.cell? ⟨gb144, 6, none⟩ = some (.int .i64 0) := (blk_cell BK144.out 6).trans rfl; have hcz14_7 : w11.cell? ⟨gb144, 7, none⟩ = some (.int .i64 0) := (blk_cell BK144.out 7).trans rfl; have hcz14_8 : w11.cell? ⟨gb144, 8, none⟩ = some (.int .i64 0) := (blk_cell BK144.out 8).trans rfl; have hcz14_9 : w11.cell? ⟨gb144, 9, none⟩ = some (.int .i64 0) := (blk_cell BK144.out 9).trans rfl; have hcz14_10 : w11.cell? ⟨gb144, 10, none⟩ = some (.int .i64 0) := (blk_cell BK144.out 10).trans rfl; have hfz14_0 := blk_frozen BK144.out 0; have hfz14_1 := blk_frozen BK144.out 1; have hfz14_2 := blk_frozen BK144.out 2; have hfz14_3 := blk_frozen BK144.out 3; have hfz14_4 := blk_frozen BK144.out 4; have hfz14_5 := blk_frozen BK144.out 5; have hfz14_6 := blk_frozen BK144.out 6; have hfz14_7 := blk_frozen BK144.out 7; have hfz14_8 := blk_frozen BK144.out 8; have hfz14_9 := blk_frozen BK144.out 9; have hfz14_10 := blk_frozen BK144.out 10))
  refine bodyPost_ret (results_cell_row rfl _ _ gb144 81 #[.int .i64 (wrap64 (1 + (Int.tmod t153 3))), .int .i64 4, .slice Ao13 y150.length co13, .int .i64 t145, .int .i64 (wrap64 (t145 + 5184000)), .int .i64 (wrap64 (2 + (Int.tmod t154 4))), .int .i64 (wrap64 (2 + (Int.tmod t155 4))), .int .i64 (wrap64 (2 + (Int.tmod t156 4))), .int .i64 4, .int .i64 20000, .int .i64 200] (0, 0) _ rfl (by (with_reducible repeat (first | refine blk_drewN ?_ _ | refine blk_drew ?_ | refine blk_alloc ?_ _)); refine blk_put (cs := #[.int .i64 (wrap64 (1 + (Int.tmod t153 3))), .int .i64 4, .slice Ao13 y150.length co13, .int .i64 t145, .int .i64 (wrap64 (t145 + 5184000)), .int .i64 (wrap64 (2 + (Int.tmod t154 4))), .int .i64 (wrap64 (2 + (Int.tmod t155 4))), .int .i64 (wrap64 (2 + (Int.tmod t156 4))), .int .i64 4, .int .i64 20000, .int .i64 0]) ?_ 10 _ rfl; (with_reducible repeat (first | refine blk_drewN ?_ _ | refine blk_drew ?_ | refine blk_alloc ?_ _)); refine blk_put (cs := #[.int .i64 (wrap64 (1 + (Int.tmod t153 3))), .int .i64 4, .slice Ao13 y150.length co13, .int .i64 t145, .int .i64 (wrap64 (t145 + 5184000)), .int .i64 (wrap64 (2 + (Int.tmod t154 4))), .int .i64 (wrap64 (2 + (Int.tmod t155 4))), .int .i64 (wrap64 (2 + (Int.tmod t156 4))), .int .i64 4, .int .i64 0, .int .i64 0]) ?_ 9 _ rfl; (with_reducible repeat (first | refine blk_drewN ?_ _ | refine blk_drew ?_ | refine blk_alloc ?_ _)); refine blk_put (cs := #[.int .i64 (wrap64 (1 + (Int.tmod t153 3))), .int .i64 4, .slice Ao13 y150.length co13, .int .i64 t145, .int .i64 (wrap64 (t145 + 5184000)), .int .i64 (wrap64 (2 + (Int.tmod t154 4))), .int .i64 (wrap64 (2 + (Int.tmod t155 4))), .int .i64 (wrap64 (2 + (Int.tmod t156 4))), .int .i64 0, .int .i64 0, .int .i64 0]) ?_ 8 _ rfl; (with_reducible repeat (first | refine blk_drewN ?_ _ | refine blk_drew ?_ | refine blk_alloc ?_ _)); refine blk_put (cs := #[.int .i64 (wrap64 (1 + (Int.tmod t153 3))), .int .i64 4, .slice Ao13 y150.length co13, .int .i64 t145, .int .i64 (wrap64 (t145 + 5184000)), .int .i64 (wrap64 (2 + (Int.tmod t154 4))), .int .i64 (wrap64 (2 + (Int.tmod t155 4))), .int .i64 0, .int .i64 0, .int .i64 0, .int .i64 0]) ?_ 7 _ rfl; (with_reducible repeat (first | refine blk_drewN ?_ _ | refine blk_drew ?_ | refine blk_alloc ?_ _)); refine blk_put (cs := #[.int .i64 (wrap64 (1 + (Int.tmod t153 3))), .int .i64 4, .slice Ao13 y150.length co13, .int .i64 t145, .int .i64 (wrap64 (t145 + 5184000)), .int .i64 (wrap64 (2 + (Int.tmod t154 4))), .int .i64 0, .int .i64 0, .int .i64 0, .int .i64 0, .int .i64 0]) ?_ 6 _ rfl; (with_reducible repeat (first | refine blk_drewN ?_ _ | refine blk_drew ?_ | refine blk_alloc ?_ _)); refine blk_put (cs := #[.int .i64 (wrap64 (1 + (Int.tmod t153 3))), .int .i64 4, .slice Ao13 y150.length co13, .int .i64 t145, .int .i64 (wrap64 (t145 + 5184000)), .int .i64 0, .int .i64 0, .int .i64 0, .int .i64 0, .int .i64 0, .int .i64 0]) ?_ 5 _ rfl; (with_reducible repeat (first | refine blk_drewN ?_ _ | refine blk_drew ?_ | refine blk_alloc ?_ _)); refine blk_put (cs := #[.int .i64 (wrap64 (1 + (Int.tmod t153 3))), .int .i64 4, .slice Ao13 y150.length co13, .int .i64 t145, .int .i64 0, .int .i64 0, .int .i64 0, .int .i64 0, .int .i64 0, .int .i64 0, .int .i64 0]) ?_ 4 _ rfl; (with_reducible repeat (first | refine blk_drewN ?_ _ | refine blk_drew ?_ | refine blk_alloc ?_ _)); refine blk_put (cs := #[.int .i64 (wrap64 (1 + (Int.tmod t153 3))), .int .i64 4, .slice Ao13 y150.length co13, .int .i64 0, .int .i64 0, .int .i64 0, .int .i64 0, .int .i64 0, .int .i64 0, .int .i64 0, .int .i64 0]) ?_ 3 _ rfl; (with_reducible repeat (first | refine blk_drewN ?_ _ | refine blk_drew ?_ | refine blk_alloc ?_ _)); refine blk_put (cs := #[.int .i64 (wrap64 (1 + (Int.tmod t153 3))), .int .i64 4, .slice none 0 0, .int .i64 0, .int .i64 0, .int .i64 0, .int .i64 0, .int .i64 0, .int .i64 0, .int .i64 0, .int .i64 0]) ?_ 2 _ rfl; (with_reducible repeat (first | refine blk_drewN ?_ _ | refine blk_drew ?_ | refine blk_alloc ?_ _)); refine blk_put (cs := #[.int .i64 (wrap64 (1 + (Int.tmod t153 3))), .int .i64 0, .slice none 0 0, .int .i64 0, .int .i64 0, .int .i64 0, .int .i64 0, .int .i64 0, .int .i64 0, .int .i64 0, .int .i64 0]) ?_ 1 _ rfl; (with_reducible repeat (first | refine blk_drewN ?_ _ | refine blk_drew ?_ | refine blk_alloc ?_ _)); refine blk_put (cs := #[.int .i64 0, .int .i64 0, .slice none 0 0, .int .i64 0, .int .i64 0, .int .i64 0, .int .i64 0, .int .i64 0, .int .i64 0, .int .i64 0, .int .i64 0]) ?_ 0 _ rfl; (with_reducible repeat (first | refine blk_drewN ?_ _ | refine blk_drew ?_ | refine blk_alloc ?_ _)); exact BK144.out) Tryz.underlying81 rfl (by kernel_rfl)) rfl ?_
  exact ⟨_, by first | rfl | (simp [errW_none, errW_some] <;> rfl) | (simp [*, errW_none, errW_some] <;> rfl), by (with_reducible repeat (first | apply Kd.N_alloc | apply Kd.N_drewN | apply Kd.N_drew)); exact Kd.N_mono (Kd.N_far (p := ⟨gb144, 10, none⟩) (Kd.N_far (p := ⟨gb144, 9, none⟩) (Kd.N_far (p := ⟨gb144, 8, none⟩) (Kd.N_far (p := ⟨gb144, 7, none⟩) (Kd.N_far (p := ⟨gb144, 6, none⟩) (Kd.N_far (p := ⟨gb144, 5, none⟩) (Kd.N_far (p := ⟨gb144, 4, none⟩) (Kd.N_far (p := ⟨gb144, 3, none⟩) (Kd.N_far (p := ⟨gb144, 2, none⟩) (Kd.N_far (p := ⟨gb144, 1, none⟩) (Kd.N_far (p := ⟨gb144, 0, none⟩) (Kd.N_mono HO152.out (fun k_ hk => (⟨hk, hk.2⟩ : _ ∧ k_ ≠ gb144))) (fun _ hk => hk.2) (.int .i64 (wrap64 (1 + (Int.tmod t153 3))))) (fun _ hk => hk.2) (.int .i64 4)) (fun _ hk => hk.2) (.slice Ao13 y150.length co13)) (fun _ hk => hk.2) (.int .i64 t145)) (fun _ hk => hk.2) (.int .i64 (wrap64 (t145 + 5184000)))) (fun _ hk => hk.2) (.int .i64 (wrap64 (2 + (Int.tmod t154 4))))) (fun _ hk => hk.2) (.int .i64 (wrap64 (2 + (Int.tmod t155 4))))) (fun _ hk => hk.2) (.int .i64 (wrap64 (2 + (Int.tmod t156 4))))) (fun _ hk => hk.2) (.int .i64 4)) (fun _ hk => hk.2) (.int .i64 20000)) (fun _ hk => hk.2) (.int .i64 200)) (fun _ hk => hk.1.1), by repeat (first | (with_reducible first | exact HB.out | apply below_alloc | apply pw_below_drewN | apply below_drew1 | refine below_set ?_ GE144.out) | exact HB.out)⟩

end Go.Proofs.YtioaingenooelaaGreat.L
