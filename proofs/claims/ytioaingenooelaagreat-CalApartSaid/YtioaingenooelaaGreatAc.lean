/-
  voklaw17.CalApart: for every options, node, list of operations, transaction, users and spans the law returns true, and what came in reads behind the call as it did ahead of it.
  No condition is added.
-/
import Derived.Test.YtioaingenooelaaGreatAa
import Derived.Test.YtioaingenooelaaGreatAb
import Derived.Test.YtioaingenooelaaGreatAx0
import Derived.Deep.Slices
import Derived.Deep.Fields
import Derived.ChangeSame
import Derived.Lib.SmallJoins
import Derived.Deep.RegionLaw
import Derived.Test.YtioaingenooelaaGreatAx
import Derived.ProofKit
import Derived.OpenShut
import Derived.SizedLaws
import Derived.Test.YtioaingenooelaaGreatRows
import Derived.WalkKit
import Derived.ShutString
import Derived.ChangeOld
import Derived.Below
set_option linter.unusedVariables false
set_option linter.unusedSimpArgs false
/-
  Rows as the printed texts read them and as the walks here read them: one from the other. Arguments opened.
-/
namespace Go.Proofs.YtioaingenooelaaGreat.Kds
open Go.RowKit Go.Proofs.YtioaingenooelaaGreatW.PrintWords Go.Proofs.YtioaingenooelaaGreat.Wd Go.Proofs.YtioaingenooelaaGreat.L
open Go.ChangeShapes Go.WideShapes Go.Deep

/-! ### Rows -/
theorem reads_of {α : Type} {d : Kd α} {w : World} {A : Option Addr} {n : Nat} {l : List α} (enc : α → List Value) (he : ∀ x cs, d.K w x cs → cs = enc x) (h : d.C w A n l) : Rd w d.sz A n (l.flatMap enc) := by
  obtain ⟨h1, h2, h3⟩ := h
  have hlen : ∀ (m : List α), (∀ x ∈ m, (enc x).length = d.sz) → (m.flatMap enc).length = m.length * d.sz := by
    intro m
    induction m with
    | nil => intro _; simp
    | cons x m ih => intro hx; rw [List.flatMap_cons, List.length_append, hx x (by simp), ih (fun y hy => hx y (by simp [hy])), List.length_cons, Nat.add_mul]; omega
  rcases Nat.eq_zero_or_pos n with h0 | h0
  · subst h0
    rw [List.eq_nil_of_length_eq_zero h1]
    exact Rd.none_
  · obtain ⟨ad, rfl, hc⟩ := h3 h0
    have hsz : ∀ x ∈ l, (enc x).length = d.sz := by
      intro x hx
      obtain ⟨j, hj, rfl⟩ := List.getElem_of_mem hx
      obtain ⟨c, c1, c2, _⟩ := hc j _ (List.getElem?_eq_getElem hj)
      rw [← he _ _ c2]
      exact c1
    refine ⟨by rw [hlen l hsz, h1], fun j u hu => ⟨ad, rfl, ?_⟩⟩
    have hjl : j < l.length * d.sz := by
      have := (List.getElem?_eq_some_iff.1 hu).1
      rw [hlen l hsz] at this
      exact this
    have hs0 : 0 < d.sz := by
      rcases Nat.eq_zero_or_pos d.sz with hz | hz
      · rw [hz] at hjl; simp at hjl
      · exact hz
    have hk : j / d.sz < l.length := (Nat.div_lt_iff_lt_mul hs0).2 hjl
    obtain ⟨c, c1, c2, c3⟩ := hc (j / d.sz) _ (List.getElem?_eq_getElem hk)
    have e := he _ _ c2
    have hflat : ∀ (m : List α) (i k : Nat) (x : α), (∀ y ∈ m, (enc y).length = d.sz) → m[i]? = some x → k < d.sz → (m.flatMap enc)[i * d.sz + k]? = (enc x)[k]? := by
      intro m
      induction m with
      | nil => intro i k x _ hx; simp at hx
      | cons y m ih =>
        intro i k x hy hx hk
        cases i with
        | zero =>
          have : y = x := by simpa using hx
          subst this
          rw [List.flatMap_cons, Nat.zero_mul, Nat.zero_add, List.getElem?_append_left (by rw [hy y (by simp)]; exact hk)]
        | succ i =>
          rw [List.flatMap_cons, List.getElem?_append_right (by rw [hy y (by simp), Nat.add_mul]; omega), hy y (by simp)]
          rw [show (i + 1) * d.sz + k - d.sz = i * d.sz + k from by rw [Nat.add_mul]; omega]
          exact ih i k x (fun z hz => hy z (by simp [hz])) (by simpa using hx) hk
    have hm := Nat.mod_lt j hs0
    have h4 := hflat l (j / d.sz) (j % d.sz) _ hsz (List.getElem?_eq_getElem hk) hm
    rw [Nat.div_add_mod'] at h4
    rw [hu, ← e] at h4
    have h5 := c3 (j % d.sz) u h4.symm
    rw [Nat.div_add_mod'] at h5
    exact h5
theorem of_reads {α : Type} {d : Kd α} {w : World} {A : Option Addr} {n : Nat} {l : List α} (enc : α → List Value) (he : ∀ x, d.K w x (enc x)) (h : Rd w d.sz A n (l.flatMap enc)) (hn : l.length = n) (hb : n ≤ 9223372036854775807) (hz : 0 < d.sz) : d.C w A n l := by
  refine ⟨hn, hb, fun h0 => ?_⟩
  have hsz : ∀ x, (enc x).length = d.sz := fun x => d.K_len (he x)
  have hflat : ∀ (m : List α) (i k : Nat) (x : α), m[i]? = some x → k < d.sz → (m.flatMap enc)[i * d.sz + k]? = (enc x)[k]? := by
    intro m
    induction m with
    | nil => intro i k x hx; simp at hx
    | cons y m ih =>
      intro i k x hx hk
      cases i with
      | zero =>
        have : y = x := by simpa using hx
        subst this
        rw [List.flatMap_cons, Nat.zero_mul, Nat.zero_add, List.getElem?_append_left (by rw [hsz y]; exact hk)]
      | succ i =>
        rw [List.flatMap_cons, List.getElem?_append_right (by rw [hsz y, Nat.add_mul]; omega), hsz y]
        rw [show (i + 1) * d.sz + k - d.sz = i * d.sz + k from by rw [Nat.add_mul]; omega]
        exact ih i k x (by simpa using hx) hk
  have hl0 : 0 < l.length := by omega
  obtain ⟨x, hx⟩ : ∃ x, l[0]? = some x := ⟨_, List.getElem?_eq_getElem hl0⟩
  have h1 := hflat l 0 0 x hx hz
  obtain ⟨u, hu⟩ : ∃ u, (enc x)[0]? = some u := ⟨_, List.getElem?_eq_getElem (by rw [hsz x]; exact hz)⟩
  obtain ⟨ad, rfl, _⟩ := h.2 _ u (h1.trans hu)
  refine ⟨ad, rfl, fun j p hj => ⟨enc p, hsz p, he p, fun i u hu => ?_⟩⟩
  have hi : i < d.sz := by have := (List.getElem?_eq_some_iff.1 hu).1; rw [hsz p] at this; exact this
  obtain ⟨ad', e, hc⟩ := h.2 _ u ((hflat l j i p hj hi).trans hu)
  injection e with e
  subst e
  exact hc
end Go.Proofs.YtioaingenooelaaGreat.Kds
/-
  slices.Clone of shifts and of yearly shifts, from whatever row; rows of the call's own as the printed kinds read them.
-/
namespace Go.Proofs.YtioaingenooelaaGreat.Clones
open Go.RowKit Go.Proofs.YtioaingenooelaaGreatW.PrintWords Go.Proofs.YtioaingenooelaaGreat.Wd Go.Proofs.YtioaingenooelaaGreat.L Go.Proofs.YtioaingenooelaaGreat.Kds
theorem infoS : (Tryz.prog.info? 110).map (fun i => (i.zero, i.size, i.bytes)) = some (some (.agg #[.int .i64 0, .int .i64 0]), 2, 16) := by kernel_rfl
theorem infoY : (Tryz.prog.info? 113).map (fun i => (i.zero, i.size, i.bytes)) = some (some (.agg #[.int .i64 0, .int .i64 0, .int .i64 0, .int .i64 0, .int .i64 0]), 5, 40) := by kernel_rfl
theorem rd_none_nil {w : World} {k n : Nat} {xs : List Value} (h : Rd w k none n xs) : xs = [] := by
  cases xs with
  | nil => rfl
  | cons x r =>
    obtain ⟨ad, e, _⟩ := h.2 0 x rfl
    cases e
set_option maxHeartbeats 4000000 in
set_option maxRecDepth 100000 in
theorem cloneShift_some (n : Nat) (xs : List Value) (a : Addr) (c : Nat) (w : World) (hr : Rd w 2 (some a) n xs) (h1 : ∀ u ∈ xs, u.oneCell' = true) (hl : n ≤ 1000000000) :
    Calls Tryz.prog 59 #[.slice (some a) n c] w fun e w' => ∃ v', e = .returned v' ∧ w'.ownsRow w.heap.size 110 2 v' n xs ∧ Below w.heap.size w w' := by
  obtain ⟨i0, hi, hz0, hz1, hz2⟩ := info_parts infoS
  have q22 : ∀ (w : World) (a : Option Addr) (n c n' c' : Nat), (binOp .eql 95 (.slice a n c) (.slice none n' c')).run Tryz.prog w = .ok (.bool a.isNone) w := fun w a n c n' c' => Lib.run_eql_slice_nil w _ _ a n c n' c' Tryz.cloneShift.t22
  have Hi := As.mk hi
  have Hz0 := As.mk hz0
  have Hz1 := As.mk hz1
  have Hz2 := As.mk hz2
  have HR := As.mk hr
  have H1 := As.mk h1
  clear hi hz0 hz1 hz2 hr h1
  go_enter Tryz.func59, Tryz.ntmps59
  go_wp2_with (at_builtin; refine wpList_append_own _ rfl _ _ 95 rfl w.heap.size 110 i0 (.agg #[.int .i64 0, .int .i64 0]) 2 16 Tryz.underlying95 Hi.out Hz0.out Hz1.out Hz2.out rfl (by decide) _ _ _ rfl (World.ownsRow_made w #[] 0 (Nat.le_refl _) (Nat.zero_le _) (by simp)) a n c xs rfl ?qc1 ?qc2 ?qc3 ?qc4 ?qc5 ?qc6 ?_)
  case qc1 => exact HR.out.1
  case qc2 =>
    intro j u hj
    obtain ⟨ad, e, hc⟩ := HR.out.2 j u hj
    injection e with e
    subst e
    exact Lib.cell?_alloc_some _ hc
  case qc3 => exact H1.out
  case qc4 => rw [Nat.zero_add]; unfold maxLen; omega
  case qc5 => rw [Nat.zero_add]; omega
  case qc6 => simp
  intro v' w1 hown hgrow hnil
  go_wp2
  go_ret
  refine ⟨v', rfl, by simpa using hown, ?_⟩
  exact ((Below.refl _ w).alloc (Nat.le_refl _) _).grown hgrow (by simp) (by intro k hk; simp [Value.ownBlock] at hk; omega)
theorem cloneShift_calls (n : Nat) (xs : List Value) (A : Option Addr) (c : Nat) (w : World) (hr : Rd w 2 A n xs) (h1 : ∀ u ∈ xs, u.oneCell' = true) (hl : n ≤ 1000000000) :
    Calls Tryz.prog 59 #[.slice A n c] w fun e w' => ∃ v', e = .returned v' ∧ w'.ownsRow w.heap.size 110 2 v' n xs ∧ Below w.heap.size w w' := by
  cases A with
  | some a => exact cloneShift_some n xs a c w hr h1 hl
  | none =>
    have h0 := rd_none_nil hr
    subst h0
    have hn : n = 0 := by have := hr.1; simp at this; omega
    subst hn
    refine (AnyE.slices_Clone_nil Tryz.cloneShift 0 c w).mono ?_
    rintro e w' ⟨rfl, rfl⟩
    exact ⟨_, rfl, World.ownsRow_nil _ _ _ _, Below.refl _ _⟩
set_option maxHeartbeats 4000000 in
set_option maxRecDepth 100000 in
theorem cloneYearly_some (n : Nat) (xs : List Value) (a : Addr) (c : Nat) (w : World) (hr : Rd w 5 (some a) n xs) (h1 : ∀ u ∈ xs, u.oneCell' = true) (hl : n ≤ 1000000000) :
    Calls Tryz.prog 60 #[.slice (some a) n c] w fun e w' => ∃ v', e = .returned v' ∧ w'.ownsRow w.heap.size 113 5 v' n xs ∧ Below w.heap.size w w' := by
  obtain ⟨i0, hi, hz0, hz1, hz2⟩ := info_parts infoY
  have q22 : ∀ (w : World) (a : Option Addr) (n c n' c' : Nat), (binOp .eql 96 (.slice a n c) (.slice none n' c')).run Tryz.prog w = .ok (.bool a.isNone) w := fun w a n c n' c' => Lib.run_eql_slice_nil w _ _ a n c n' c' Tryz.cloneYearly.t22
  have Hi := As.mk hi
  have Hz0 := As.mk hz0
  have Hz1 := As.mk hz1
  have Hz2 := As.mk hz2
  have HR := As.mk hr
  have H1 := As.mk h1
  clear hi hz0 hz1 hz2 hr h1
  go_enter Tryz.func60, Tryz.ntmps60
  go_wp2_with (at_builtin; refine wpList_append_own _ rfl _ _ 96 rfl w.heap.size 113 i0 (.agg #[.int .i64 0, .int .i64 0, .int .i64 0, .int .i64 0, .int .i64 0]) 5 40 Tryz.underlying96 Hi.out Hz0.out Hz1.out Hz2.out rfl (by decide) _ _ _ rfl (World.ownsRow_made w #[] 0 (Nat.le_refl _) (Nat.zero_le _) (by simp)) a n c xs rfl ?qc1 ?qc2 ?qc3 ?qc4 ?qc5 ?qc6 ?_)
  case qc1 => exact HR.out.1
  case qc2 =>
    intro j u hj
    obtain ⟨ad, e, hc⟩ := HR.out.2 j u hj
    injection e with e
    subst e
    exact Lib.cell?_alloc_some _ hc
  case qc3 => exact H1.out
  case qc4 => rw [Nat.zero_add]; unfold maxLen; omega
  case qc5 => rw [Nat.zero_add]; omega
  case qc6 => simp
  intro v' w1 hown hgrow hnil
  go_wp2
  go_ret
  refine ⟨v', rfl, by simpa using hown, ?_⟩
  exact ((Below.refl _ w).alloc (Nat.le_refl _) _).grown hgrow (by simp) (by intro k hk; simp [Value.ownBlock] at hk; omega)
theorem cloneYearly_calls (n : Nat) (xs : List Value) (A : Option Addr) (c : Nat) (w : World) (hr : Rd w 5 A n xs) (h1 : ∀ u ∈ xs, u.oneCell' = true) (hl : n ≤ 1000000000) :
    Calls Tryz.prog 60 #[.slice A n c] w fun e w' => ∃ v', e = .returned v' ∧ w'.ownsRow w.heap.size 113 5 v' n xs ∧ Below w.heap.size w w' := by
  cases A with
  | some a => exact cloneYearly_some n xs a c w hr h1 hl
  | none =>
    have h0 := rd_none_nil hr
    subst h0
    have hn : n = 0 := by have := hr.1; simp at this; omega
    subst hn
    refine (AnyE.slices_Clone_nil Tryz.cloneYearly 0 c w).mono ?_
    rintro e w' ⟨rfl, rfl⟩
    exact ⟨_, rfl, World.ownsRow_nil _ _ _ _, Below.refl _ _⟩

/-! ### The kinds' cells -/
def eShift (x : S110) : List Value := [.int .i64 x.f0, .int .i64 x.f1]
def eYearly (x : S113) : List Value := [.int .i64 x.f0, .int .i64 x.f1, .int .i64 x.f2, .int .i64 x.f3, .int .i64 x.f4]
def eSpan (x : S36) : List Value := [.int .i64 x.f0, .int .i64 x.f1]
theorem kShift (w : World) (x : S110) : k110.K w x (eShift x) := ⟨[_], [_], rfl, rfl, rfl⟩
theorem kSpan (w : World) (x : S36) : k36.K w x (eSpan x) := ⟨[_], [_], rfl, rfl, rfl⟩
theorem kYearly (w : World) (x : S113) : k113.K w x (eYearly x) := ⟨[_], _, rfl, rfl, [_], _, rfl, rfl, [_], _, rfl, rfl, [_], [_], rfl, rfl, rfl⟩
theorem rd_shift {w : World} {A : Option Addr} {n : Nat} {l : List S110} (h : k110.C w A n l) : Rd w 2 A n (l.flatMap eShift) := reads_of (d := k110) eShift (fun _ _ h => k110_open h) h
theorem rd_yearly {w : World} {A : Option Addr} {n : Nat} {l : List S113} (h : k113.C w A n l) : Rd w 5 A n (l.flatMap eYearly) := reads_of (d := k113) eYearly (fun _ _ h => k113_open h) h
theorem rd_span {w : World} {A : Option Addr} {n : Nat} {l : List S36} (h : k36.C w A n l) : Rd w 2 A n (l.flatMap eSpan) := reads_of (d := k36) eSpan (fun _ _ h => k36_open h) h
theorem shift_rd {w : World} {A : Option Addr} {n : Nat} {l : List S110} (h : Rd w 2 A n (l.flatMap eShift)) (hn : l.length = n) (hb : n ≤ 9223372036854775807) : k110.C w A n l := of_reads eShift (kShift w) h hn hb (by decide)
theorem yearly_rd {w : World} {A : Option Addr} {n : Nat} {l : List S113} (h : Rd w 5 A n (l.flatMap eYearly)) (hn : l.length = n) (hb : n ≤ 9223372036854775807) : k113.C w A n l := of_reads eYearly (kYearly w) h hn hb (by decide)
theorem span_rd {w : World} {A : Option Addr} {n : Nat} {l : List S36} (h : Rd w 2 A n (l.flatMap eSpan)) (hn : l.length = n) (hb : n ≤ 9223372036854775807) : k36.C w A n l := of_reads eSpan (kSpan w) h hn hb (by decide)
theorem eShift_one (l : List S110) : ∀ u ∈ l.flatMap eShift, u.oneCell' = true := by
  intro u hu
  obtain ⟨x, _, hx⟩ := List.mem_flatMap.1 hu
  simp [eShift] at hx
  rcases hx with rfl | rfl <;> rfl
theorem eYearly_one (l : List S113) : ∀ u ∈ l.flatMap eYearly, u.oneCell' = true := by
  intro u hu
  obtain ⟨x, _, hx⟩ := List.mem_flatMap.1 hu
  simp [eYearly] at hx
  rcases hx with rfl | rfl | rfl | rfl | rfl <;> rfl
/-- Spans as pairs. -/
def toP (x : S36) : Int × Int := (x.f0, x.f1)
def ofP (x : Int × Int) : S36 := ⟨x.1, x.2⟩
theorem fl2_toP (l : List S36) : fl2 (l.map toP) = l.flatMap eSpan := by
  unfold fl2
  rw [List.flatMap_map]
  rfl
theorem flat_ofP (l : List (Int × Int)) : (l.map ofP).flatMap eSpan = fl2 l := by
  unfold fl2
  rw [List.flatMap_map]
  rfl
theorem flat1 (l : List Int) : l.flatMap (fun x => [Value.int .i64 x]) = fl1 l := by unfold fl1; induction l <;> simp_all
theorem rd_int {w : World} {A : Option Addr} {n : Nat} {l : List Int} (h : (Kd.int .i64).C w A n l) : Rd w 1 A n (fl1 l) := by
  have h1 := reads_of (d := Kd.int .i64) (fun x => [Value.int .i64 x]) (fun _ _ h => h) h
  rw [flat1] at h1
  exact h1
theorem int_rd {w : World} {A : Option Addr} {n : Nat} {l : List Int} (h : Rd w 1 A n (fl1 l)) (hn : l.length = n) (hb : n ≤ 9223372036854775807) : (Kd.int .i64).C w A n l := by
  exact of_reads (d := Kd.int .i64) (fun x => [Value.int .i64 x]) (fun _ => rfl) (by rw [flat1]; exact h) hn hb (by decide)
end Go.Proofs.YtioaingenooelaaGreat.Clones
/-
  cal.Copy (of options) walked.
-/
namespace Go.Proofs.YtioaingenooelaaGreat.OptsCopy
open Go.RowKit Go.Proofs.YtioaingenooelaaGreat.Wd Go.Proofs.YtioaingenooelaaGreat.L Go.Proofs.YtioaingenooelaaGreat.Kds Go.Proofs.YtioaingenooelaaGreat.Clones Go.Proofs.YtioaingenooelaaGreat.Settle
open Go.Proofs.YtioaingenooelaaGreatW.PrintWords (Kd)
theorem infoZ : (Tryz.prog.info? 98).map (fun i => (i.zero, i.size, i.bytes)) = some (some (.agg #[.int .i64 0, .slice none 0 0, .slice none 0 0, .int .i64 0]), 4, 64) := by kernel_rfl
abbrev Z := S98
abbrev kZ := k98
/-- The zones' inner rows are of a size. -/
def Few (zs : List Z) : Prop := ∀ z ∈ zs, z.f1.length ≤ 1000000000 ∧ z.f2.length ≤ 1000000000
theorem zone_open {w : World} {z : Z} {cs : List Value} (h : kZ.K w z cs) : ∃ A1 c1 A2 c2, cs = [.int .i64 z.f0, .slice A1 z.f1.length c1, .slice A2 z.f2.length c2, .int .i64 z.f3] ∧ z.f1.length ≤ c1 ∧ z.f2.length ≤ c2 ∧ k110.C w A1 z.f1.length z.f1 ∧ k113.C w A2 z.f2.length z.f2 := by
  obtain ⟨_, _, rfl, rfl, _, _, rfl, ⟨A1, c1, rfl, h1, h2⟩, _, _, rfl, ⟨A2, c2, rfl, h3, h4⟩, rfl⟩ := h
  exact ⟨A1, c1, A2, c2, rfl, h1, h3, h2, h4⟩
theorem zone_shut {w : World} {z : Z} {A1 A2 : Option Addr} {c1 c2 : Nat} (h1 : z.f1.length ≤ c1) (h2 : z.f2.length ≤ c2) (h3 : k110.C w A1 z.f1.length z.f1) (h4 : k113.C w A2 z.f2.length z.f2) : kZ.K w z [.int .i64 z.f0, .slice A1 z.f1.length c1, .slice A2 z.f2.length c2, .int .i64 z.f3] :=
  ⟨[_], _, rfl, rfl, [_], _, rfl, ⟨A1, c1, rfl, h1, h3⟩, [_], [_], rfl, ⟨A2, c2, rfl, h2, h4⟩, rfl⟩
theorem zone_at {w : World} {A : Option Addr} {n k : Nat} {zs : List Z} {z : Z} (h : kZ.C w A n zs) (hz : zs[k]? = some z) : ∃ ad A1 c1 A2 c2, A = some ad ∧ w.cell? (ad.add (k * 4)) = some (.int .i64 z.f0) ∧ w.cell? ⟨(ad.add (k * 4)).block, (ad.add (k * 4)).off + 1, none⟩ = some (.slice A1 z.f1.length c1) ∧ w.cell? ⟨(ad.add (k * 4)).block, (ad.add (k * 4)).off + 2, none⟩ = some (.slice A2 z.f2.length c2) ∧ w.cell? ⟨(ad.add (k * 4)).block, (ad.add (k * 4)).off + 3, none⟩ = some (.int .i64 z.f3) ∧
    Rd w 2 A1 z.f1.length (z.f1.flatMap eShift) ∧ Rd w 5 A2 z.f2.length (z.f2.flatMap eYearly) := by
  obtain ⟨h1, h2, h3⟩ := h
  have hk : k < zs.length := (List.getElem?_eq_some_iff.1 hz).1
  obtain ⟨ad, rfl, hc⟩ := h3 (by omega)
  obtain ⟨c, _, hK, hcell⟩ := hc k z hz
  obtain ⟨A1, c1, A2, c2, rfl, _, _, h4, h5⟩ := zone_open hK
  refine ⟨ad, A1, c1, A2, c2, rfl, hcell 0 _ rfl, ?_, ?_, ?_, rd_shift h4, rd_yearly h5⟩
  · rw [← Wd.add_field _ _ 1 (by omega)]; exact hcell 1 _ rfl
  · rw [← Wd.add_field _ _ 2 (by omega)]; exact hcell 2 _ rfl
  · rw [← Wd.add_field _ _ 3 (by omega)]; exact hcell 3 _ rfl
theorem reps_flat {α : Type} {R : α → List Value → Prop} {size : Nat} (enc : α → List Value) (he : ∀ x, R x (enc x)) (hk : ∀ x, (enc x).length = size) : ∀ l : List α, Go.Proofs.YtioaingenooelaaGreatW.PrintWords.Reps R size l (l.flatMap enc)
  | [] => ⟨by simp, fun j p h => by simp at h⟩
  | x :: l => by
    obtain ⟨h1, h2⟩ := reps_flat enc he hk l
    refine ⟨by rw [List.flatMap_cons, List.length_append, hk, h1, List.length_cons, Nat.add_mul]; omega, fun j p hj => ?_⟩
    cases j with
    | zero =>
      have e : x = p := by simpa using hj
      subst e
      rw [Nat.zero_mul, List.drop_zero, List.flatMap_cons, ← hk x, List.take_left]
      exact he x
    | succ j =>
      have h3 := h2 j p (by simpa using hj)
      rw [List.flatMap_cons, Nat.add_mul, Nat.one_mul, Nat.add_comm, ← hk x, ← List.drop_drop, List.drop_left, hk x]
      exact h3
theorem shift_R {w : World} {b b' : Nat} {ok : Nat → Prop} {v : Value} {l : List S110} (h : w.ownsRow b 110 2 v l.length (l.flatMap eShift)) (hb : b' ≤ b) (hok : ∀ k, v.ownBlock = some k → ok k) : k110.R 110 w b' ok v l :=
  ⟨hok, _, Wd.own_mono h hb, reps_flat eShift (fun x => ⟨[_], [_], rfl, rfl, rfl⟩) (fun _ => rfl) l⟩
theorem yearly_R {w : World} {b b' : Nat} {ok : Nat → Prop} {v : Value} {l : List S113} (h : w.ownsRow b 113 5 v l.length (l.flatMap eYearly)) (hb : b' ≤ b) (hok : ∀ k, v.ownBlock = some k → ok k) : k113.R 113 w b' ok v l :=
  ⟨hok, _, Wd.own_mono h hb, reps_flat eYearly (fun x => ⟨[_], _, rfl, rfl, [_], _, rfl, rfl, [_], _, rfl, rfl, [_], [_], rfl, rfl, rfl⟩) (fun _ => rfl) l⟩
theorem zone_M {w : World} {b : Nat} {ok : Nat → Prop} {z : Z} {v1 v2 : Value} (h1 : k110.R 110 w b ok v1 z.f1) (h2 : k113.R 113 w b ok v2 z.f2) : kZ.M w b ok z [.int .i64 z.f0, v1, v2, .int .i64 z.f3] :=
  ⟨[_], _, rfl, rfl, [_], _, rfl, ⟨v1, rfl, h1⟩, [_], [_], rfl, ⟨v2, rfl, h2⟩, rfl⟩
theorem R_C {w : World} {e base n c : Nat} {ok : Nat → Prop} {A : Option Addr} {zs : List Z} (h : kZ.R e w base ok (.slice A n c) zs) : kZ.C w A zs.length zs := by
  obtain ⟨A9, c9, e9, _, h9⟩ := Kd.R_reads h
  injection e9 with e1 _ _
  rw [e1]
  exact h9
set_option maxHeartbeats 8000000 in
set_option maxRecDepth 100000 in
theorem OptsCopy_calls (n0 n1 lo hi : Int) (A : Option Addr) (c : Nat) (zs : List Z) (w : World) (hC : kZ.C w A zs.length zs) (hl : zs.length ≤ 1000000000) (hf : Few zs) :
    Calls Tryz.prog 34 #[.agg #[.int .i64 n0, .int .i64 n1, .slice A zs.length c, .int .i64 lo, .int .i64 hi]] w fun e w' => ∃ A' c', e = .returned (.agg #[.int .i64 n0, .int .i64 n1, .slice A' zs.length c', .int .i64 lo, .int .i64 hi]) ∧ zs.length ≤ c' ∧ kZ.C w' A' zs.length zs ∧ Below w.heap.size w w' := by
  obtain ⟨i0, hiZ, hz0, hz1, hz2⟩ := info_parts infoZ
  have HC := As.mk hC
  have Hf := As.mk hf
  clear hC hf
  have Hi := As.mk hiZ
  have Hz0 := As.mk hz0
  have Hz1 := As.mk hz1
  have Hz2 := As.mk hz2
  clear hiZ hz0 hz1 hz2
  go_enter Tryz.func34, Tryz.ntmps34
  go_wp2
  obtain ⟨W, hW⟩ : ∃ W, W = (w.alloc (.cells #[.int .i64 n0, .int .i64 n1, .slice A zs.length c, .int .i64 lo, .int .i64 hi] 30)).alloc (.cells #[.int .i64 0, .int .i64 0, .slice none 0 0, .int .i64 0, .int .i64 0] 30) := ⟨_, rfl⟩
  rw [← hW]
  have hbW : Below w.heap.size w W := by rw [hW]; exact below_allocS (below_allocS (Below.refl _ _) _) _
  have hz : W.heap.size = w.heap.size + 2 := by rw [hW]; simp
  have p0 : W.heap[w.heap.size]? = some (.cells #[.int .i64 n0, .int .i64 n1, .slice A zs.length c, .int .i64 lo, .int .i64 hi] 30 (0, 0)) := heap_prev w _ _ (by rw [hW])
  have p1 : W.heap[w.heap.size + 1]? = some (.cells #[.int .i64 0, .int .i64 0, .slice none 0 0, .int .i64 0, .int .i64 0] 30 (0, 0)) := heap_last2 w _ _ (by rw [hW])
  have HC2 := As.mk (Kd.C_below HC.out hbW)
  have HbW := As.mk hbW
  have Hz := As.mk hz
  have P0 := As.mk p0
  have P1 := As.mk p1
  clear hW hbW hz p0 p1
  go_loopw [3, 9] (fun v i wr => ∃ (k : Nat), k ≤ zs.length ∧ i = .int .i64 k ∧ As (kZ.R 98 wr W.heap.size (fun j => W.heap.size ≤ j) v (zs.take k)) ∧ As (Below W.heap.size W wr)) (fun _ i _ => zs.length - (intOf i).toNat)
  case atStart => exact ⟨0, Nat.zero_le _, rfl, ⟨Kd.R_nil _ _ _ _ _⟩, ⟨Below.refl _ _⟩⟩
  case round =>
    obtain ⟨k, hk, rfl, HR, Hb⟩ := hrel
    by_cases hlt : k < zs.length
    · obtain ⟨z, hz0⟩ : ∃ z, zs[k]? = some z := ⟨_, List.getElem?_eq_getElem hlt⟩
      obtain ⟨ad, A1, c1, A2, c2, rfl, g0, g1, g2, g3, hr1, hr2⟩ := zone_at (Kd.C_below HC2.out Hb.out) hz0
      have hfz := Hf.out z (List.mem_of_getElem? hz0)
      have HR1 := As.mk hr1
      have HR2 := As.mk hr2
      have Hfz := As.mk hfz
      have Hz0' := As.mk hz0
      clear hr1 hr2 hfz hz0
      go_wp2_with fail
      obtain ⟨W5, hW5⟩ : ∃ W5, W5 = wr.alloc (.cells #[.int .i64 z.f0, .slice A1 z.f1.length c1, .slice A2 z.f2.length c2, .int .i64 z.f3] 98) := ⟨_, rfl⟩
      rw [← hW5]
      have hb5 : Below wr.heap.size wr W5 := by rw [hW5]; exact below_allocS (Below.refl _ _) _
      have hz5 : W5.heap.size = wr.heap.size + 1 := by rw [hW5]; simp
      have hblk : W5.heap[wr.heap.size]? = some (.cells #[.int .i64 z.f0, .slice A1 z.f1.length c1, .slice A2 z.f2.length c2, .int .i64 z.f3] 98 (0, 0)) := by rw [hW5]; exact heap_alloc_new wr _
      have q1 : W5.cell? ⟨wr.heap.size, 1, none⟩ = some (.slice A1 z.f1.length c1) := cell_of_row W5 _ 1 _ _ (0, 0) hblk
      have q2 : W5.cell? ⟨wr.heap.size, 2, none⟩ = some (.slice A2 z.f2.length c2) := cell_of_row W5 _ 2 _ _ (0, 0) hblk
      have hfr : ∀ i, W5.frozen? ⟨wr.heap.size, i, none⟩ = false := by intro i; unfold World.frozen?; rw [hblk]; simp
      have r1 := hfr 1
      have r2 := hfr 2
      have hlt5 : wr.heap.size < W5.heap.size := by omega
      have HS := As.mk (fun W' (hW' : Below W5.heap.size W5 W') => cloneShift_calls z.f1.length (z.f1.flatMap eShift) A1 c1 W' (Rd.belowS (Rd.belowS HR1.out hb5) hW') (eShift_one _) Hfz.out.1)
      have HY := As.mk (fun W' (hW' : Below W5.heap.size W5 W') => cloneYearly_calls z.f2.length (z.f2.flatMap eYearly) A2 c2 W' (Rd.belowS (Rd.belowS HR2.out hb5) hW') (eYearly_one _) Hfz.out.2)
      have Hfr := As.mk hfr
      have Hblk := As.mk hblk
      have Hb5 := As.mk hb5
      have hbr := Below.refl W5.heap.size W5
      clear hW5 hfr hblk hb5 g0 g1 g2 g3
      go_region_law (first
        | (go_simp; go_at_call 59
           refine (HS.out _ (by repeat' (first | assumption | refine below_drew ?_ | refine below_drewN ?_ _))).mono ?_
           rintro e w6 ⟨v1, rfl, hown1, hb6⟩
           obtain ⟨A3, c3, rfl, hc3, _⟩ := Wd.own_form hown1
           have hb56 : Below W5.heap.size W5 w6 := below_then (by repeat' (first | assumption | refine below_drew ?_ | refine below_drewN ?_ _)) hb6
           have q2' := (hb56.cell (p := ⟨wr.heap.size, 2, none⟩) hlt5).trans q2)
        | (go_simp; go_at_call 60
           refine (HY.out _ (by repeat' (first | assumption | refine below_drew ?_ | refine below_drewN ?_ _))).mono ?_
           rintro e w7 ⟨v2, rfl, hown2, hb7⟩
           obtain ⟨A4, c4, rfl, hc4, _⟩ := Wd.own_form hown2
           have hb57 : Below W5.heap.size W5 w7 := below_then (by repeat' (first | assumption | refine below_drew ?_ | refine below_drewN ?_ _)) hb7
           have q1'' := (hb57.cell (p := ⟨wr.heap.size, 1, none⟩) hlt5).trans q1
           have q2'' := (hb57.cell (p := ⟨wr.heap.size, 2, none⟩) hlt5).trans q2
           have r1'' := (hb57.frozen (p := ⟨wr.heap.size, 1, none⟩) hlt5).trans r1
           have r2'' := (hb57.frozen (p := ⟨wr.heap.size, 2, none⟩) hlt5).trans r2))
      all_goals
        have hblk7 := (hb57.block _ hlt5).trans Hblk.out
        have hs1 := Copy.heap_setCell_self w7 wr.heap.size 1 (.slice A3 z.f1.length c3) _ _ _ hblk7
        have hs2 := Copy.heap_setCell_self _ wr.heap.size 2 (.slice A4 z.f2.length c4) _ _ _ hs1
        obtain ⟨W8, hW8⟩ : ∃ W8, W8 = (w7.setCell ⟨wr.heap.size, 1, none⟩ (.slice A3 z.f1.length c3)).setCell ⟨wr.heap.size, 2, none⟩ (.slice A4 z.f2.length c4) := ⟨_, rfl⟩
        rw [← hW8] at hs2 ⊢
        have hst : ∀ j, j ≠ wr.heap.size → W8.heap[j]? = w7.heap[j]? := by
          intro j hj
          rw [hW8, Below.heap_setCell _ _ _ j hj, Below.heap_setCell _ _ _ j hj]
        have b8 : W8.heap[wr.heap.size]? = some (.cells #[.int .i64 z.f0, .slice A3 z.f1.length c3, .slice A4 z.f2.length c4, .int .i64 z.f3] 98 (0, 0)) := hs2
        have e0 : W8.cell? ⟨wr.heap.size, 0, none⟩ = some (.int .i64 z.f0) := cell_of_row W8 _ 0 _ _ (0, 0) b8
        have e1 : W8.cell? ⟨wr.heap.size, 1, none⟩ = some (.slice A3 z.f1.length c3) := cell_of_row W8 _ 1 _ _ (0, 0) b8
        have e2 : W8.cell? ⟨wr.heap.size, 2, none⟩ = some (.slice A4 z.f2.length c4) := cell_of_row W8 _ 2 _ _ (0, 0) b8
        have e3 : W8.cell? ⟨wr.heap.size, 3, none⟩ = some (.int .i64 z.f3) := cell_of_row W8 _ 3 _ _ (0, 0) b8
        have hs6 : W5.heap.size ≤ w6.heap.size := hb56.size
        have ho1 : W8.ownsRow W5.heap.size 110 2 (.slice A3 z.f1.length c3) z.f1.length (z.f1.flatMap eShift) :=
          Wd.own_move (Wd.own_below hown1 hb7) fun j hj => hst j (by have h := (hown1.lt j hj).1; have h' : W5.heap.size ≤ j := h; omega)
        have ho2 : W8.ownsRow w6.heap.size 113 5 (.slice A4 z.f2.length c4) z.f2.length (z.f2.flatMap eYearly) :=
          Wd.own_move hown2 fun j hj => hst j (by have h := (hown2.lt j hj).1; omega)
        have hWr : W.heap.size ≤ wr.heap.size := Hb.out.size
        have hM : kZ.M W8 W.heap.size (fun j => wr.heap.size < j) z [.int .i64 z.f0, .slice A3 z.f1.length c3, .slice A4 z.f2.length c4, .int .i64 z.f3] :=
          zone_M (shift_R ho1 (by omega) fun j hj => by have := (ho1.lt j hj).1; omega) (yearly_R ho2 (by omega) fun j hj => by have := (ho2.lt j hj).1; omega)
        have hold : ∀ j, j < wr.heap.size → W8.heap[j]? = wr.heap[j]? := fun j hj => (hst j (by omega)).trans ((hb57.block j (by omega)).trans (Hb5.out.block j hj))
        have hO : kZ.R 98 W8 W.heap.size (fun j => W.heap.size ≤ j) u3 (zs.take k) := Kd.R_step HR.out fun j _ hj => hold j hj
        have hB8 : Below W.heap.size W W8 := by rw [hW8]; exact ((below_then Hb.out (below_then Hb5.out hb57)).setCell hWr _).setCell hWr _
        have hokp : ∀ j, wr.heap.size < j → W.heap.size ≤ j ∧ some j ≠ u3.ownBlock := fun j hj => ⟨by omega, fun e => by
          obtain ⟨inner, ho⟩ := Kd.R_own HR.out
          have := (ho.lt j e.symm).2
          omega⟩
        have hlen : (zs.take k).length = k := by rw [List.length_take]; omega
        have HM := As.mk hM
        have HO := As.mk hO
        have HB8 := As.mk hB8
        have Hokp := As.mk hokp
        have Hlen := As.mk hlen
        have Hsz8 := As.mk hB8.size
        have Htk : As (zs.take (k + 1) = zs.take k ++ [z]) := ⟨by
          obtain ⟨hk1, hk2⟩ := List.getElem?_eq_some_iff.1 Hz0'.out
          rw [List.take_succ_eq_append_getElem hk1, hk2]⟩
        clear hM hO hB8 hokp hlen hold hst hs1 hs2 hW8 b8 ho1 ho2 hblk7 hown1 hown2 hb6 hb7 hb56 hb57 q1 q2 q2' q1'' q2'' r1 r2 r1'' r2'' hbr hs6
        go_wp2_with (at_builtin; refine Kd.R_append kZ (w0 := W) W.heap.size rfl (.tmp 21) (.tmp 23) 28 98 (.agg #[.int .i64 0, .slice none 0 0, .slice none 0 0, .int .i64 0]) 64 rfl Tryz.underlying28 infoZ rfl (by decide) (by decide) _ (zs.take k) z [.int .i64 z.f0, .slice A3 z.f1.length c3, .slice A4 z.f2.length c4, .int .i64 z.f3] (fun j => W.heap.size ≤ j) (fun j => wr.heap.size < j) rfl rfl HM.out Hokp.out (fun j hj => Nat.le_trans Hsz8.out hj) HO.out HB8.out Hsz8.out (by rw [Hlen.out]; omega) ?_)
        intro v9 w9 hR9 hb9 _ _
        have HR9 := As.mk hR9
        have Hb9 := As.mk hb9
        clear hR9 hb9
        go_wp2
        go_roundw
        case rel => exact ⟨k + 1, by omega, by go_num, ⟨by rw [Htk.out]; exact HR9.out⟩, Hb9⟩
        case measure => simp [intOf]; omega
    · obtain rfl : k = zs.length := by omega
      have hR := HR.out
      rw [List.take_length] at hR
      obtain ⟨A', c', rfl, hc', _⟩ := Kd.R_reads hR
      have HRx := As.mk hR
      have hzW := Hz.out
      have b0 := (Hb.out.block _ (by omega : w.heap.size < W.heap.size)).trans P0.out
      have b1 := (Hb.out.block _ (by omega : w.heap.size + 1 < W.heap.size)).trans P1.out
      have x0 : wr.cell? ⟨w.heap.size, 0, none⟩ = some (.int .i64 n0) := cell_of_row wr _ 0 _ _ (0, 0) b0
      have x1 : wr.cell? ⟨w.heap.size, 1, none⟩ = some (.int .i64 n1) := cell_of_row wr _ 1 _ _ (0, 0) b0
      have x2' : wr.cell? ⟨w.heap.size, 2, none⟩ = some (.slice A zs.length c) := cell_of_row wr _ 2 _ _ (0, 0) b0
      have x3 : wr.cell? ⟨w.heap.size, 3, none⟩ = some (.int .i64 lo) := cell_of_row wr _ 3 _ _ (0, 0) b0
      have x4 : wr.cell? ⟨w.heap.size, 4, none⟩ = some (.int .i64 hi) := cell_of_row wr _ 4 _ _ (0, 0) b0
      have y0 : wr.cell? ⟨w.heap.size + 1, 0, none⟩ = some (.int .i64 0) := cell_of_row wr _ 0 _ _ (0, 0) b1
      have y1 : wr.cell? ⟨w.heap.size + 1, 1, none⟩ = some (.int .i64 0) := cell_of_row wr _ 1 _ _ (0, 0) b1
      have y2 : wr.cell? ⟨w.heap.size + 1, 2, none⟩ = some (.slice none 0 0) := cell_of_row wr _ 2 _ _ (0, 0) b1
      have y3 : wr.cell? ⟨w.heap.size + 1, 3, none⟩ = some (.int .i64 0) := cell_of_row wr _ 3 _ _ (0, 0) b1
      have y4 : wr.cell? ⟨w.heap.size + 1, 4, none⟩ = some (.int .i64 0) := cell_of_row wr _ 4 _ _ (0, 0) b1
      have fr0 : ∀ i, wr.frozen? ⟨w.heap.size, i, none⟩ = false := by intro i; unfold World.frozen?; rw [b0]; simp
      have fr1 : ∀ i, wr.frozen? ⟨w.heap.size + 1, i, none⟩ = false := by intro i; unfold World.frozen?; rw [b1]; simp
      have f02 := fr0 2
      have f10 := fr1 0
      have f11 := fr1 1
      have f12 := fr1 2
      have f13 := fr1 3
      have f14 := fr1 4
      have hlw : w.heap.size + 1 < wr.heap.size := by have := Hb.out.size; omega
      have Hfar0 : As (∀ j, W.heap.size ≤ j → j ≠ w.heap.size) := ⟨fun j hj => by omega⟩
      have Hfar1 : As (∀ j, W.heap.size ≤ j → j ≠ w.heap.size + 1) := ⟨fun j hj => by omega⟩
      clear hR b0 b1 fr0 fr1
      go_wp2
      refine bodyPost_ret (v := .agg #[.int .i64 n0, .int .i64 n1, .slice A' zs.length c', .int .i64 lo, .int .i64 hi]) (by simp [results, Tryz.results34, go_sem, hlw, y0, y1, y2, y3, y4]) rfl ⟨A', c', rfl, hc', ?_, ?_⟩
      · exact R_C (Kd.R_far (p := ⟨w.heap.size + 1, 4, none⟩) (Kd.R_far (p := ⟨w.heap.size + 1, 3, none⟩) (Kd.R_far (p := ⟨w.heap.size + 1, 2, none⟩) (Kd.R_far (p := ⟨w.heap.size + 1, 1, none⟩) (Kd.R_far (p := ⟨w.heap.size + 1, 0, none⟩) (Kd.R_far (p := ⟨w.heap.size, 2, none⟩) HRx.out Hfar0.out (.slice A' zs.length c')) Hfar1.out (.int .i64 n0)) Hfar1.out (.int .i64 n1)) Hfar1.out (.slice A' zs.length c')) Hfar1.out (.int .i64 lo)) Hfar1.out (.int .i64 hi))
      · exact ((((((HbW.out.trans (Hb.out.mono HbW.out.size)).setCell (Nat.le_refl _) _).setCell (Nat.le_succ _) _).setCell (Nat.le_succ _) _).setCell (Nat.le_succ _) _).setCell (Nat.le_succ _) _).setCell (Nat.le_succ _) _
end Go.Proofs.YtioaingenooelaaGreat.OptsCopy
/-
  cal.New, cal.Home walked.
-/
namespace Go.Proofs.YtioaingenooelaaGreat.CalNew
open Go.RowKit Go.Proofs.YtioaingenooelaaGreat.Wd Go.Proofs.YtioaingenooelaaGreat.Pure Go.Proofs.YtioaingenooelaaGreat.Sorted Go.Proofs.YtioaingenooelaaGreat.Search Go.Proofs.YtioaingenooelaaGreat.Norm Go.Proofs.YtioaingenooelaaGreat.Meets Go.Proofs.YtioaingenooelaaGreat.SetW Go.Proofs.YtioaingenooelaaGreat.Edit Go.Proofs.YtioaingenooelaaGreat.AddW Go.Proofs.YtioaingenooelaaGreat.CalRep Go.Proofs.YtioaingenooelaaGreat.CalOps Go.Proofs.YtioaingenooelaaGreat.CalAsk Go.Proofs.YtioaingenooelaaGreat.Ints Go.Proofs.YtioaingenooelaaGreat.Check Go.Proofs.YtioaingenooelaaGreat.Neat Go.Proofs.YtioaingenooelaaGreat.Reserve Go.Proofs.YtioaingenooelaaGreat.Settle Go.Proofs.YtioaingenooelaaGreat.Copy Go.Proofs.YtioaingenooelaaGreat.CopyW
open Go.Proofs.YtioaingenooelaaGreat.L (cal_Home.f cal_Home.calls cal_May.f cal_May.calls)
open Go.Proofs.YtioaingenooelaaGreat.OptsCopy (Z kZ)
open Go.Proofs.YtioaingenooelaaGreatW.PrintWords (Kd)

/-! ### Which users live here -/
def isHome (n0 node : Int) (u : Nat) : Bool := Int.tmod (u : Int) n0 == node
def newSt (n0 node : Int) (n : Nat) : St := (List.range n).map fun u => if isHome n0 node u then some ([], []) else none
theorem newSt_len (n0 node : Int) (n : Nat) : (newSt n0 node n).length = n := by unfold newSt; simp
theorem newSt_yes (n0 node : Int) (n k : Nat) (hk : k < n) (h : isHome n0 node k = true) : (newSt n0 node n).take (k + 1) = (newSt n0 node n).take k ++ [some ([], [])] := by
  unfold newSt
  rw [← List.map_take, ← List.map_take, List.take_range, List.take_range, Nat.min_eq_left (by omega), Nat.min_eq_left (by omega), List.range_succ, List.map_append, List.map_singleton, if_pos h]
theorem newSt_no (n0 node : Int) (n k : Nat) (hk : k < n) (h : isHome n0 node k = false) : (newSt n0 node n).take (k + 1) = (newSt n0 node n).take k ++ [none] := by
  unfold newSt
  rw [← List.map_take, ← List.map_take, List.take_range, List.take_range, Nat.min_eq_left (by omega), Nat.min_eq_left (by omega), List.range_succ, List.map_append, List.map_singleton, if_neg (by rw [h]; decide)]
theorem home_f (n0 n1 lo hi : Int) (zs : List Z) (u : Nat) (h0 : 1 ≤ n0) (hu : (u : Int) < n1) : cal_Home.f n0 n1 zs lo hi (u : Int) = some (Int.tmod (u : Int) n0) := by
  unfold cal_Home.f
  rw [if_neg (by omega), if_neg (by omega), if_neg (by omega), if_neg (by omega)]

/-- No calendar. -/
def NoCal (w : World) (e : Ending) (w' : World) : Prop := e = .returned (.tuple #[.pointer none, .int .i64 1]) ∧ Below w.heap.size w w'
set_option maxHeartbeats 4000000 in
set_option maxRecDepth 100000 in
theorem New_no (k : Nat) (r : Bool) (n0 n1 lo hi node : Int) (A : Option Addr) (c : Nat) (zs : List Z) (w : World) (hC : kZ.C w A zs.length zs) (hc : zs.length ≤ c) (hm : cal_May.f k n0 n1 zs lo hi = some r) (hno : (!r || (decide (node < 0) || decide (node ≥ n0))) = true) :
    Calls Tryz.prog 7 #[.agg #[.int .i64 n0, .int .i64 n1, .slice A zs.length c, .int .i64 lo, .int .i64 hi], .int .i64 node] w (NoCal w) := by
  have hcon := fun (W : World) (hW : Below w.heap.size w W) => cal_May.calls k n0 n1 A c zs lo hi r W (Kd.C_below hC hW) hc hm
  have Hcon := As.mk hcon
  clear hcon hC hm
  cases r with
  | false =>
    clear hno
    go_enter Tryz.func7, Tryz.ntmps7
    go_wp2_with fail
    refine (Hcon.out _ (below_allocS (Below.refl _ _) _)).mono ?_
    rintro e w1 ⟨rfl, hb⟩
    go_wp2
    go_ret2
    exact ⟨rfl, below_then (below_allocS (Below.refl _ _) _) hb⟩
  | true =>
    by_cases h1 : node < 0
    · clear hno
      go_enter Tryz.func7, Tryz.ntmps7
      go_wp2_with fail
      refine (Hcon.out _ (below_allocS (Below.refl _ _) _)).mono ?_
      rintro e w1 ⟨rfl, hb⟩
      go_wp2
      go_ret2
      exact ⟨rfl, below_then (below_allocS (Below.refl _ _) _) hb⟩
    · have h2 : n0 ≤ node := by
        have d1 : decide (node < 0) = false := decide_eq_false h1
        rw [d1] at hno
        simpa using hno
      clear hno
      go_enter Tryz.func7, Tryz.ntmps7
      go_wp2_with fail
      refine (Hcon.out _ (below_allocS (Below.refl _ _) _)).mono ?_
      rintro e w1 ⟨rfl, hb⟩
      have q0 : w1.cell? ⟨w.heap.size, 0, none⟩ = some (.int .i64 n0) := (hb.cell (p := ⟨w.heap.size, 0, none⟩) (by simp)).trans (by simp [go_sem])
      go_wp2
      go_ret2
      exact ⟨rfl, below_then (below_allocS (Below.refl _ _) _) hb⟩
theorem cal_fresh2 {W : World} {c ub : Nat} (hd : List Value) (n : Nat) (h6 : hd.length = 6) (hn : 0 < n) (h1 : W.heap[c]? = some (.cells (hd ++ [Value.slice (some ⟨ub, 0, none⟩) n n]).toArray 72 (0, 0))) (h0 : W.heap[ub]? = some (.cells (List.replicate n (Value.pointer none)).toArray 73 (0, 0))) :
    CalAt W c ub hd (List.replicate n none) := by
  refine ⟨h6, by simpa using hn, ?_, ?_, ?_, ?_⟩
  · rw [h1, List.length_replicate]
  · rw [h0, List.map_replicate]
    rfl
  · intro i u hu
    rw [List.getElem?_replicate] at hu
    split at hu <;> cases hu
  · intro i j u u' _ hu
    rw [List.getElem?_replicate] at hu
    split at hu <;> cases hu
theorem NewSet_calls (w : World) : Calls Tryz.prog 35 #[] w fun e w' => ∃ g, e = .returned (.pointer (some ⟨g, 0, none⟩)) ∧ SetAt w' g (.slice none 0 0) [] ∧ w.heap.size ≤ g ∧ Below w.heap.size w w' := by
  refine (New_calls w).mono ?_
  rintro e w' ⟨rfl, rfl⟩
  exact ⟨_, rfl, ⟨heap_alloc_new w _, World.ownsRow_nil _ _ _ _⟩, Nat.le_refl _, below_allocS (Below.refl _ _) _⟩
/-- Nothing that was there has turned. -/
def Bw (w W : World) : Prop := Below w.heap.size w W
/-- A calendar with no spans. -/
def NewCal (n0 n1 lo hi node : Int) (zs : List Z) (w : World) (e : Ending) (w' : World) : Prop :=
  ∃ (c ub : Nat) (us : List (Option UserRep)) (A : Option Addr) (zc : Nat), e = .returned (.tuple #[.pointer (some ⟨c, 0, none⟩), .int .i64 0]) ∧ CalAt w' c ub [.int .i64 n0, .int .i64 n1, .slice A zs.length zc, .int .i64 lo, .int .i64 hi, .int .i64 node] us ∧ abs us = newSt n0 node n1.toNat ∧ w.heap.size ≤ c ∧ w.heap.size ≤ ub ∧ (∀ k, fp us k → w.heap.size ≤ k) ∧ Below w.heap.size w w'
set_option maxHeartbeats 16000000 in
set_option maxRecDepth 100000 in
theorem New_yes (k : Nat) (n0 lo hi node : Int) (n : Nat) (A : Option Addr) (c : Nat) (zs : List Z) (w : World) (hC : kZ.C w A zs.length zs) (hc : zs.length ≤ c) (hm : cal_May.f k n0 (n : Int) zs lo hi = some true) (hn0 : 1 ≤ n0) (hn : 0 < n) (hn2 : n ≤ 1000000) (h1 : 0 ≤ node) (h2 : node < n0) (hz : zs.length ≤ 1000000000) (hf : OptsCopy.Few zs) :
    Calls Tryz.prog 7 #[.agg #[.int .i64 n0, .int .i64 (n : Int), .slice A zs.length c, .int .i64 lo, .int .i64 hi], .int .i64 node] w (NewCal n0 (n : Int) lo hi node zs w) := by
  have hcon := fun (W : World) (hW : Below w.heap.size w W) => cal_May.calls k n0 (n : Int) A c zs lo hi true W (Kd.C_below hC hW) hc hm
  have hoc := fun (W : World) (hW : Below w.heap.size w W) => OptsCopy.OptsCopy_calls n0 (n : Int) lo hi A c zs W (Kd.C_below hC hW) hz hf
  have hmk := make_users n (by omega)
  have hho := fun (W : World) (hW : Below w.heap.size w W) (u : Nat) (hu : u < n) => cal_Home.calls n0 (n : Int) A c zs lo hi (u : Int) (Int.tmod (u : Int) n0) W (Kd.C_below hC hW) hc (home_f n0 (n : Int) lo hi zs u hn0 (by omega))
  have Hcon := As.mk hcon
  have Hoc := As.mk hoc
  have Hho := As.mk hho
  clear hcon hC hm hoc hho
  go_enter Tryz.func7, Tryz.ntmps7
  go_wp2_with fail
  refine (Hcon.out _ (below_allocS (Below.refl _ _) _)).mono ?_
  rintro e w1 ⟨rfl, hb⟩
  have hbx : w1.heap[w.heap.size]? = some (.cells #[.int .i64 n0, .int .i64 (n : Int), .slice A zs.length c, .int .i64 lo, .int .i64 hi] 30 (0, 0)) := (hb.block w.heap.size (by simp)).trans (heap_alloc_new w _)
  have q0 : w1.cell? ⟨w.heap.size, 0, none⟩ = some (.int .i64 n0) := cell_of_row w1 _ 0 _ _ (0, 0) hbx
  have q1 : w1.cell? ⟨w.heap.size, 1, none⟩ = some (.int .i64 (n : Int)) := cell_of_row w1 _ 1 _ _ (0, 0) hbx
  have q2 : w1.cell? ⟨w.heap.size, 2, none⟩ = some (.slice A zs.length c) := cell_of_row w1 _ 2 _ _ (0, 0) hbx
  have q3 : w1.cell? ⟨w.heap.size, 3, none⟩ = some (.int .i64 lo) := cell_of_row w1 _ 3 _ _ (0, 0) hbx
  have q4 : w1.cell? ⟨w.heap.size, 4, none⟩ = some (.int .i64 hi) := cell_of_row w1 _ 4 _ _ (0, 0) hbx
  have hcl : w.heap.size < w1.heap.size := (Array.getElem?_eq_some_iff.1 hbx).1
  have hw1 : Below w.heap.size w w1 := below_then (below_allocS (Below.refl _ _) _) hb
  have hB := Below.refl w1.heap.size w1
  have HS : As (∀ w', Below w1.heap.size w1 w' → w'.cell? ⟨w.heap.size, 0, none⟩ = some (.int .i64 n0) ∧ w'.cell? ⟨w.heap.size, 1, none⟩ = some (.int .i64 (n : Int)) ∧ w'.cell? ⟨w.heap.size, 2, none⟩ = some (.slice A zs.length c) ∧ w'.cell? ⟨w.heap.size, 3, none⟩ = some (.int .i64 lo) ∧ w'.cell? ⟨w.heap.size, 4, none⟩ = some (.int .i64 hi) ∧ Below w1.heap.size w1 w') := ⟨fun w' hb => ⟨(hb.cell (p := ⟨w.heap.size, 0, none⟩) hcl).trans q0, (hb.cell (p := ⟨w.heap.size, 1, none⟩) hcl).trans q1, (hb.cell (p := ⟨w.heap.size, 2, none⟩) hcl).trans q2, (hb.cell (p := ⟨w.heap.size, 3, none⟩) hcl).trans q3, (hb.cell (p := ⟨w.heap.size, 4, none⟩) hcl).trans q4, hb⟩⟩
  have Hw1 := As.mk hw1
  have Hbx := As.mk hbx
  have d1 : decide (node < 0) = false := decide_eq_false (by omega)
  have d2 : decide (n0 ≤ node) = false := decide_eq_false (by omega)
  clear hb hbx hw1
  go_wp2
  go_region_held3 (fun w' => w'.cell? ⟨w.heap.size, 0, none⟩ = some (.int .i64 n0) ∧ w'.cell? ⟨w.heap.size, 1, none⟩ = some (.int .i64 (n : Int)) ∧ w'.cell? ⟨w.heap.size, 2, none⟩ = some (.slice A zs.length c) ∧ w'.cell? ⟨w.heap.size, 3, none⟩ = some (.int .i64 lo) ∧ w'.cell? ⟨w.heap.size, 4, none⟩ = some (.int .i64 hi) ∧ Below w1.heap.size w1 w') ((refine HS.out _ ?_; (repeat' (first | assumption | exact Below.refl _ _ | refine below_drew ?_ | refine below_drewN ?_ _ | refine below_allocS ?_ _))))
    (first
      | (go_at_call 34
         refine (Hoc.out _ (below_then Hw1.out (by (repeat' (first | assumption | exact Below.refl _ _ | refine below_drew ?_ | refine below_drewN ?_ _ | refine below_allocS ?_ _))))).mono ?_
         rintro e w2 ⟨A', zc, rfl, hzc, hCz, hb2⟩
         have hb12 : Below w1.heap.size w1 w2 := below_then (by (repeat' (first | assumption | exact Below.refl _ _ | refine below_drew ?_ | refine below_drewN ?_ _ | refine below_allocS ?_ _))) hb2))
  all_goals rename_i hHeld
  all_goals
    first
      | (have h0 := heap_alloc_new w2 (.cells (Array.replicate n (Value.pointer none)) 73)
         have hc0 := cal_fresh2 (W := (w2.alloc (.cells (Array.replicate n (Value.pointer none)) 73)).alloc (.cells #[.int .i64 n0, .int .i64 (n : Int), .slice A' zs.length zc, .int .i64 lo, .int .i64 hi, .int .i64 node, .slice (some ⟨w2.heap.size, 0, none⟩) n n] 72)) (c := w2.heap.size + 1) (ub := w2.heap.size) [.int .i64 n0, .int .i64 (n : Int), .slice A' zs.length zc, .int .i64 lo, .int .i64 hi, .int .i64 node] n rfl hn (heap_last2 w2 _ _ rfl) (by rw [heap_prev w2 _ _ rfl, List.toArray_replicate])
         have hge : w1.heap.size ≤ w2.heap.size := hb12.size
         have hfin : Below w1.heap.size w1 ((w2.alloc (.cells (Array.replicate n (Value.pointer none)) 73)).alloc (.cells #[.int .i64 n0, .int .i64 (n : Int), .slice A' zs.length zc, .int .i64 lo, .int .i64 hi, .int .i64 node, .slice (some ⟨w2.heap.size, 0, none⟩) n n] 72)) := below_allocS (below_allocS hb12 _) _
         refine wp_abs (fun W => CalAt W (w2.heap.size + 1) w2.heap.size [.int .i64 n0, .int .i64 (n : Int), .slice A' zs.length zc, .int .i64 lo, .int .i64 hi, .int .i64 node] (List.replicate n none) ∧ Bw w1 W) ⟨hc0, hfin⟩ ?_
         obtain ⟨cN, hcN⟩ : ∃ x, x = w2.heap.size + 1 := ⟨_, rfl⟩
         obtain ⟨uN, huN⟩ : ∃ x, x = w2.heap.size := ⟨_, rfl⟩
         have hcle : w1.heap.size ≤ cN := by omega
         have hule : w1.heap.size ≤ uN := by omega
         have hne : cN ≠ uN := by omega
         rw [← hcN, ← huN]
         clear hcN huN h0 hc0 hge hfin hb12 hb2 hHeld)
      | (have hge : w1.heap.size < w2.heap.size := by have := hb2.size; simp at this; omega
         have hu0 : w2.heap[w1.heap.size]? = some (.cells (Array.replicate n (Value.pointer none)) 73 (0, 0)) := (hb2.block w1.heap.size (by simp)).trans (heap_alloc_new w1 _)
         have hc0 := cal_fresh2 (W := w2.alloc (.cells #[.int .i64 n0, .int .i64 (n : Int), .slice A' zs.length zc, .int .i64 lo, .int .i64 hi, .int .i64 node, .slice (some ⟨w1.heap.size, 0, none⟩) n n] 72)) (c := w2.heap.size) (ub := w1.heap.size) [.int .i64 n0, .int .i64 (n : Int), .slice A' zs.length zc, .int .i64 lo, .int .i64 hi, .int .i64 node] n rfl hn (heap_alloc_new w2 _) (by rw [Below.heap_alloc w2 _ _ hge, hu0, List.toArray_replicate])
         have hfin : Below w1.heap.size w1 (w2.alloc (.cells #[.int .i64 n0, .int .i64 (n : Int), .slice A' zs.length zc, .int .i64 lo, .int .i64 hi, .int .i64 node, .slice (some ⟨w1.heap.size, 0, none⟩) n n] 72)) := below_allocS hb12 _
         refine wp_abs (fun W => CalAt W w2.heap.size w1.heap.size [.int .i64 n0, .int .i64 (n : Int), .slice A' zs.length zc, .int .i64 lo, .int .i64 hi, .int .i64 node] (List.replicate n none) ∧ Bw w1 W) ⟨hc0, hfin⟩ ?_
         obtain ⟨cN, hcN⟩ : ∃ x, x = w2.heap.size := ⟨_, rfl⟩
         obtain ⟨uN, huN⟩ : ∃ x, x = w1.heap.size := ⟨_, rfl⟩
         have hcle : w1.heap.size ≤ cN := by omega
         have hule : w1.heap.size ≤ uN := by omega
         have hne : cN ≠ uN := by omega
         rw [← hcN, ← huN]
         clear hcN huN hc0 hge hfin hb12 hb2 hHeld hu0)
  all_goals
    rintro W1 ⟨hc1, hb1⟩
    have Hb1 : As (Below w.heap.size w W1) := ⟨below_then Hw1.out hb1⟩
    have hbox1 := (Below.block hb1 w.heap.size hcl).trans Hbx.out
    have Hbox1 := As.mk hbox1
    have Hc1 := As.mk hc1
    have hu6 := users_cell hc1
    rw [List.length_replicate] at hu6
    have Hcle : As (w.heap.size ≤ cN) := ⟨by have := Hw1.out.size; omega⟩
    have Hule : As (w.heap.size ≤ uN) := ⟨by have := Hw1.out.size; omega⟩
    have Hne := As.mk hne
    have HbxU : As (w.heap.size < cN ∧ w.heap.size < uN) := ⟨by omega⟩
    clear hc1 hb1 hbox1 q0 q1 q2 q3 q4 HS hB hcle hule hne
    go_wp2
    go_loopw [34] (fun i wr => ∃ (k : Nat) (us1 : List (Option UserRep)), k ≤ n ∧ i = .int .i64 k ∧ As (CalAt wr cN uN [.int .i64 n0, .int .i64 (n : Int), .slice A' zs.length zc, .int .i64 lo, .int .i64 hi, .int .i64 node] us1) ∧ As (abs us1 = (newSt n0 node n).take k ++ List.replicate (n - k) none) ∧ As (∀ j, fp us1 j → w.heap.size ≤ j) ∧ As (Below w.heap.size w wr) ∧ As (wr.heap[w.heap.size]? = some (.cells #[.int .i64 n0, .int .i64 (n : Int), .slice A zs.length c, .int .i64 lo, .int .i64 hi] 30 (0, 0)))) (fun i _ => n - (intOf i).toNat)
    case atStart => exact ⟨0, _, Nat.zero_le _, rfl, Hc1, ⟨by simp [abs]⟩, ⟨fun j ⟨a, b, hab, _⟩ => by rw [List.getElem?_replicate] at hab; split at hab <;> cases hab⟩, Hb1, Hbox1⟩
    case round =>
      obtain ⟨k, us1, hk, rfl, H1, Ha, Hnew, Hb, Hbx1⟩ := hrel
      by_cases hlt : k < n
      · have p0 : wr.cell? ⟨w.heap.size, 0, none⟩ = some (.int .i64 n0) := cell_of_row wr _ 0 _ _ (0, 0) Hbx1.out
        have p1 : wr.cell? ⟨w.heap.size, 1, none⟩ = some (.int .i64 (n : Int)) := cell_of_row wr _ 1 _ _ (0, 0) Hbx1.out
        have p2 : wr.cell? ⟨w.heap.size, 2, none⟩ = some (.slice A zs.length c) := cell_of_row wr _ 2 _ _ (0, 0) Hbx1.out
        have p3 : wr.cell? ⟨w.heap.size, 3, none⟩ = some (.int .i64 lo) := cell_of_row wr _ 3 _ _ (0, 0) Hbx1.out
        have p4 : wr.cell? ⟨w.heap.size, 4, none⟩ = some (.int .i64 hi) := cell_of_row wr _ 4 _ _ (0, 0) Hbx1.out
        have hho := fun W (hW : Below w.heap.size w W) => Hho.out W hW k hlt
        obtain ⟨m, hm⟩ : ∃ m, m = Int.tmod (k : Int) n0 := ⟨_, rfl⟩
        rw [← hm] at hho
        have Hh := As.mk hho
        have hk1 : us1.length = n := by
          have h2 := congrArg List.length Ha.out
          rw [abs_len, List.length_append, List.length_take, newSt_len, List.length_replicate] at h2
          omega
        cases hiq : isHome n0 node k with
        | false =>
          have hmn : (m == node) = false := by rw [hm]; exact hiq
          have Hn : As (abs us1 = (newSt n0 node n).take (k + 1) ++ List.replicate (n - (k + 1)) none) := ⟨by
            rw [Ha.out, newSt_no n0 node n k hlt hiq, List.append_assoc, show n - k = (n - (k + 1)) + 1 from by omega, List.replicate_succ]
            rfl⟩
          clear hm hho hiq
          go_wp2_with fail
          refine (Hh.out _ Hb.out).mono ?_
          rintro e w3 ⟨rfl, hd⟩
          have hd' : Below wr.heap.size wr w3 := hd
          go_wp2
          go_roundw
          case rel => exact ⟨k + 1, us1, by omega, by go_num, ⟨H1.out.below hd'⟩, Hn, Hnew, ⟨below_then Hb.out hd'⟩, ⟨(hd'.block _ (World.block_lt_of_cell? wr _ p0)).trans Hbx1.out⟩⟩
          case measure => simp [intOf]; omega
        | true =>
          have hmn : (m == node) = true := by rw [hm]; exact hiq
          clear hm hho
          have hn6 := users_cell H1.out
          rw [hk1] at hn6
          have hnone : us1[k]? = some none := by
            have h2 : (abs us1)[k]? = some none := by
              rw [Ha.out, List.getElem?_append_right (by rw [List.length_take, newSt_len]; omega), List.getElem?_replicate]
              rw [if_pos (by rw [List.length_take, newSt_len]; omega)]
            rw [abs_at] at h2
            cases hq : us1[k]? with
            | none => rw [hq] at h2; cases h2
            | some oo => rw [hq] at h2; cases oo with
              | none => rfl
              | some _ => cases h2
          have Hnone := As.mk hnone
          have Hiq := As.mk hiq
          have Hk1 := As.mk hk1
          clear hnone hiq hk1
          go_wp2_with fail
          refine (Hh.out _ Hb.out).mono ?_
          rintro e w3 ⟨rfl, hd⟩
          have hd' : Below wr.heap.size wr w3 := hd
          have Hd := As.mk hd'
          have H3 := As.mk (H1.out.below hd')
          have hn63 := users_cell H3.out
          rw [Hk1.out] at hn63
          have hcn := at_cell H3.out Hnone.out
          simp only [ptrOf] at hcn
          have hfzn : w3.frozen? ⟨uN, k, none⟩ = false := by unfold World.frozen?; rw [H3.out.arr]; simp
          have hbr := Below.refl w3.heap.size w3
          have hl2 := World.block_lt_of_cell? w3 _ hn63
          have hl3 := World.block_lt_of_cell? w3 _ hcn
          have HS : As (∀ w', Below w3.heap.size w3 w' → w'.cell? ⟨cN, 6, none⟩ = some (.slice (some ⟨uN, 0, none⟩) n n)) := ⟨fun w' hb => (hb.cell (p := ⟨cN, 6, none⟩) hl2).trans hn63⟩
          have HS2 : As (∀ (W : World) (v : Value), Below w3.heap.size w3 W → (W.setCell ⟨uN, k, none⟩ v).cell? ⟨cN, 6, none⟩ = some (.slice (some ⟨uN, 0, none⟩) n n)) := ⟨fun W v hb => (World.cell?_of_block (Below.heap_setCell W _ v cN Hne.out)).trans (HS.out W hb)⟩
          have HS3 : As (∀ (W : World) (v : Value) (o : Obj), Below w3.heap.size w3 W → ((W.setCell ⟨uN, k, none⟩ v).alloc o).cell? ⟨cN, 6, none⟩ = some (.slice (some ⟨uN, 0, none⟩) n n)) := ⟨fun W v o hb => (World.cell?_alloc_lt _ o _ (World.block_lt_of_cell? _ _ (HS2.out W v hb))).trans (HS2.out W v hb)⟩
          have HT : As (∀ W, Below w3.heap.size w3 W → W.cell? ⟨uN, k, none⟩ = some (.pointer none) ∧ W.frozen? ⟨uN, k, none⟩ = false) := ⟨fun W hb => ⟨(hb.cell (p := ⟨uN, k, none⟩) hl3).trans hcn, (hb.frozen (p := ⟨uN, k, none⟩) hl3).trans hfzn⟩⟩
          clear hn6 hn63 hcn hfzn hl2 hd hd' p0 p1 p2 p3 p4
          go_wp2
          go_region_held3 (fun w' => w'.cell? ⟨cN, 6, none⟩ = some (.slice (some ⟨uN, 0, none⟩) n n)) ((first | (refine HS3.out _ _ _ ?_; (repeat' (first | assumption | exact Below.refl _ _ | refine below_drew ?_ | refine below_drewN ?_ _ | refine below_allocS ?_ _)); done) | (refine HS2.out _ _ ?_; (repeat' (first | assumption | exact Below.refl _ _ | refine below_drew ?_ | refine below_drewN ?_ _ | refine below_allocS ?_ _)); done) | (refine HS.out _ ?_; (repeat' (first | assumption | exact Below.refl _ _ | refine below_drew ?_ | refine below_drewN ?_ _ | refine below_allocS ?_ _)); done)))
            (first
              | (go_at_call 35
                 have hbA2 := hbA
                 refine (NewSet_calls _).mono ?_
                 rintro e w5 ⟨g2, rfl, hS2, hg2, hb2⟩
                 have hb2' := below_then hbA2 hb2
                 obtain ⟨t1, t2⟩ := HT.out _ hb2'
                 have t3 : uN < w5.heap.size := World.block_lt_of_cell? w5 _ t1)
              | (go_at_call 35
                 refine (NewSet_calls _).mono ?_
                 rintro e w4 ⟨g1, rfl, hS1, hg1, hb1⟩
                 have hbA : Below w3.heap.size w3 w4 := below_then (below_drew hbr) hb1))
          rename_i hHeld9
          clear hHeld9
          have hl1 : w4.heap.size ≤ w5.heap.size := hb2.size
          have hl0 : w3.heap.size ≤ w4.heap.size := hbA.size
          have hg1' : w3.heap.size ≤ g1 := hg1
          have hlt1 : g1 < w4.heap.size := hS1.lt
          have hown1 : ∀ j, ofSet g1 (.slice none 0 0) j → w3.heap.size ≤ j ∧ j < w4.heap.size := fun j hj => by
            rcases hj with rfl | hj
            · exact ⟨hg1', hlt1⟩
            · simp [Value.ownBlock] at hj
          have hown2 : ∀ j, ofSet g2 (.slice none 0 0) j → w4.heap.size ≤ j := fun j hj => by
            rcases hj with rfl | hj
            · exact hg2
            · simp [Value.ownBlock] at hj
          have hput := CalAt.put (W6 := ((w5.setCell ⟨uN, k, none⟩ (.pointer (some ⟨w5.heap.size, 0, none⟩))).alloc (.cells #[.pointer (some ⟨g1, 0, none⟩), .pointer (some ⟨g2, 0, none⟩)] 77))) (w5 := w5.alloc (.cells #[.pointer (some ⟨g1, 0, none⟩), .pointer (some ⟨g2, 0, none⟩)] 77)) (u' := ⟨w5.heap.size, ⟨g1, .slice none 0 0, []⟩, ⟨g2, .slice none 0 0, []⟩⟩) H3.out Hnone.out (below_allocS hb2' _) (heap_alloc_new w5 _)
            (SetAt.below (SetAt.below hS1 hb2) (below_allocS (Below.refl _ _) _)) (SetAt.below hS2 (below_allocS (Below.refl _ _) _)) (fun j hj hj' => by have h1 := hown1 j hj; have h2 := hown2 j hj'; omega) (fun j hj => set_alloc w5 _ _ _ _ j hj) (set_alloc_self w5 _ _ _ _ _ _ _ ((hb2'.block _ H3.out.ub_lt).trans H3.out.arr)) (fun j hj => by
              rcases hj with hj | hj
              · exact (hown1 j hj).1
              · exact Nat.le_trans hl0 (hown2 j hj)) hb2'.size
          have hbw3 : Below w.heap.size w w3 := below_then Hb.out Hd.out
          have hbig : Below w.heap.size w ((w5.setCell ⟨uN, k, none⟩ (.pointer (some ⟨w5.heap.size, 0, none⟩))).alloc (.cells #[.pointer (some ⟨g1, 0, none⟩), .pointer (some ⟨g2, 0, none⟩)] 77)) :=
            below_allocS (Below.setCell (below_then hbw3 hb2') Hule.out _) _
          have hfp := fp_put (us := us1) (i := k) (u' := ⟨w5.heap.size, ⟨g1, .slice none 0 0, []⟩, ⟨g2, .slice none 0 0, []⟩⟩) Hnew.out (fun j hj => by
              have hw := hbw3.size
              rcases hj with hj | hj
              · exact Nat.le_trans hw (hown1 j hj).1
              · exact Nat.le_trans hw (Nat.le_trans hl0 (hown2 j hj)))
          have habs : abs (us1.set k (some ⟨w5.heap.size, ⟨g1, .slice none 0 0, []⟩, ⟨g2, .slice none 0 0, []⟩⟩)) = (newSt n0 node n).take (k + 1) ++ List.replicate (n - (k + 1)) none := by
            rw [abs_set, Ha.out, newSt_yes n0 node n k hlt Hiq.out]
            have hlk : ((newSt n0 node n).take k).length = k := by rw [List.length_take, newSt_len]; omega
            rw [List.set_append_right _ _ (by omega), hlk, Nat.sub_self, show n - k = (n - (k + 1)) + 1 from by omega, List.replicate_succ, List.set_cons_zero, List.append_assoc]
            rfl
          have hbox9 : ((w5.setCell ⟨uN, k, none⟩ (.pointer (some ⟨w5.heap.size, 0, none⟩))).alloc (.cells #[.pointer (some ⟨g1, 0, none⟩), .pointer (some ⟨g2, 0, none⟩)] 77)).heap[w.heap.size]? = some (.cells #[.int .i64 n0, .int .i64 (n : Int), .slice A zs.length c, .int .i64 lo, .int .i64 hi] 30 (0, 0)) := by
            have hlw : w.heap.size < w3.heap.size := by have := Hd.out.size; have := (Array.getElem?_eq_some_iff.1 Hbx1.out).1; omega
            have hlw5 : w.heap.size < w5.heap.size := by omega
            rw [set_alloc w5 _ _ _ _ _ (by have := HbxU.out.2; omega), Below.heap_alloc w5 _ _ hlw5, hb2'.block _ hlw, Hd.out.block _ (Array.getElem?_eq_some_iff.1 Hbx1.out).1]
            exact Hbx1.out
          have Hput := As.mk hput
          have Hbig := As.mk hbig
          have Hfp := As.mk hfp
          have Habs := As.mk habs
          have Hbox9 := As.mk hbox9
          clear hput hbig hfp habs hbox9 hown1 hown2 hS1 hS2 hg1 hg2 hb1 hb2 hl0 hl1 hbA hbA2 hb2' t1 t2 t3 hbr hbw3 hg1' hlt1 HS HS2 HS3 HT
          refine wp_abs (fun W => CalAt W cN uN [.int .i64 n0, .int .i64 (n : Int), .slice A' zs.length zc, .int .i64 lo, .int .i64 hi, .int .i64 node] (us1.set k (some ⟨w5.heap.size, ⟨g1, .slice none 0 0, []⟩, ⟨g2, .slice none 0 0, []⟩⟩)) ∧ Below w.heap.size w W ∧ W.heap[w.heap.size]? = some (.cells #[.int .i64 n0, .int .i64 (n : Int), .slice A zs.length c, .int .i64 lo, .int .i64 hi] 30 (0, 0))) ⟨Hput.out, Hbig.out, Hbox9.out⟩ ?_
          rintro W7 ⟨hc7, hb7, hx7⟩
          have Hc7 := As.mk hc7
          have Hb7 := As.mk hb7
          have Hx7 := As.mk hx7
          clear hc7 hb7 hx7
          go_wp2
          go_roundw
          case rel => exact ⟨k + 1, _, by omega, by go_num, Hc7, Habs, Hfp, Hb7, Hx7⟩
          case measure => simp [intOf]; omega
      · obtain rfl : k = n := by omega
        have hfin : abs us1 = newSt n0 node k := by rw [Ha.out, Nat.sub_self, List.take_of_length_le (by rw [newSt_len]; exact Nat.le_refl _)]; simp
        have Hfin := As.mk hfin
        clear hfin
        go_wp2
        go_ret2
        exact ⟨cN, uN, us1, A', zc, rfl, H1.out, by rw [Hfin.out, Int.toNat_natCast], Hcle.out, Hule.out, Hnew.out, Hb.out⟩
end Go.Proofs.YtioaingenooelaaGreat.CalNew
/-
  A calendar by its lists: each call's contract over that alone.
-/
namespace Go.Proofs.YtioaingenooelaaGreat.CalS
open Go.RowKit Go.Proofs.YtioaingenooelaaGreat.Wd Go.Proofs.YtioaingenooelaaGreat.Pure Go.Proofs.YtioaingenooelaaGreat.Sorted Go.Proofs.YtioaingenooelaaGreat.Search Go.Proofs.YtioaingenooelaaGreat.Norm Go.Proofs.YtioaingenooelaaGreat.Meets Go.Proofs.YtioaingenooelaaGreat.SetW Go.Proofs.YtioaingenooelaaGreat.Edit Go.Proofs.YtioaingenooelaaGreat.AddW Go.Proofs.YtioaingenooelaaGreat.CalRep Go.Proofs.YtioaingenooelaaGreat.CalOps Go.Proofs.YtioaingenooelaaGreat.CalAsk Go.Proofs.YtioaingenooelaaGreat.Ints Go.Proofs.YtioaingenooelaaGreat.Check Go.Proofs.YtioaingenooelaaGreat.Neat Go.Proofs.YtioaingenooelaaGreat.Reserve Go.Proofs.YtioaingenooelaaGreat.Settle Go.Proofs.YtioaingenooelaaGreat.Copy Go.Proofs.YtioaingenooelaaGreat.CopyW Go.Proofs.YtioaingenooelaaGreat.CalNew Go.Proofs.YtioaingenooelaaGreat.PlayP
open Go.Proofs.YtioaingenooelaaGreat.L (cal_Home.f cal_Home.calls cal_May.f cal_May.calls)
open Go.Proofs.YtioaingenooelaaGreat.OptsCopy (Z kZ)
open Go.Proofs.YtioaingenooelaaGreatW.PrintWords (Kd)

/-- At block c lies the calendar with these lists; the sets' blocks lie from B on and below T. -/
def CalS (B T : Nat) (w : World) (c : Nat) (hd : List Value) (st : St) : Prop :=
  ∃ (ub : Nat) (us : List (Option UserRep)), CalAt w c ub hd us ∧ abs us = st ∧ (∀ k, fp us k → B ≤ k ∧ k < T) ∧ T ≤ w.heap.size
theorem CalS.below {B T c : Nat} {w w' : World} {hd : List Value} {st : St} (h : CalS B T w c hd st) (hb : Below w.heap.size w w') : CalS B T w' c hd st := by
  obtain ⟨ub, us, h1, h2, h3, h4⟩ := h
  exact ⟨ub, us, h1.below hb, h2, h3, Nat.le_trans h4 hb.size⟩
theorem CalS.lift {B T c : Nat} {w : World} {hd : List Value} {st : St} (h : CalS B T w c hd st) : CalS B w.heap.size w c hd st := by
  obtain ⟨ub, us, h1, h2, h3, h4⟩ := h
  exact ⟨ub, us, h1, h2, fun k hk => ⟨(h3 k hk).1, h1.fp_lt hk⟩, Nat.le_refl _⟩
theorem upd_below {F : Nat → Prop} {w w' : World} {B : Nat} (h : Upd F w w') (hF : ∀ k, F k → B ≤ k) (hB : B ≤ w.heap.size) : Below B w w' :=
  ⟨h.os, h.tape, h.output, h.size, fun k hk => h.block k (by omega) fun hf => by have := hF k hf; omega⟩
/-- What a call that turns a calendar leaves. -/
def Turned (B : Nat) (v : Value) (c : Nat) (hd : List Value) (st : St) (w : World) (e : Ending) (w' : World) : Prop :=
  e = .returned v ∧ CalS B w'.heap.size w' c hd st ∧ Below B w w'
theorem turned_of {B T c ub : Nat} {w w' : World} {hd : List Value} {us us' : List (Option UserRep)} {st : St} (h3 : ∀ k, fp us k → B ≤ k ∧ k < T) (hB : B ≤ w.heap.size) (h : CalAt w' c ub hd us') (ha : abs us' = st) (hm : Mv w us w' us') : CalS B w'.heap.size w' c hd st ∧ Below B w w' :=
  ⟨⟨ub, us', h, ha, fun k hk => ⟨by rcases hm.own k hk with h5 | h5
                                    · exact (h3 k h5).1
                                    · omega, h.fp_lt hk⟩, Nat.le_refl _⟩, upd_below hm.upd (fun k hk => (h3 k hk).1) hB⟩
/-- A row that is none of the calendar's: it lies ahead of B, or from T on. -/
def Free (B T : Nat) (A : Option Addr) (xs : List Value) : Prop := xs ≠ [] → ∀ ad, A = some ad → ad.block < B ∨ T ≤ ad.block
theorem rising_of {us : List (Option UserRep)} {st : St} (h : abs us = st) (hg : GoodA st) : Rising us := by subst h; exact hg.rising
theorem len_us {us : List (Option UserRep)} {st : St} (h : abs us = st) : us.length = st.length := by rw [← h, abs_len]
section
variable {B T c : Nat} {w : World} {hd : List Value} {st : St}
theorem reserve_no (h : CalS B T w c hd st) (hl : st.length ≤ 1000000000000) (hf : FitsA 1000000000000 st) (hg : GoodA st) {A Q : Option Addr} {ca cq : Nat} {o but : Int} {l : List Int} {sp : List Span}
    (hr : Rd w 1 A l.length (fl1 l)) (hll : l.length ≤ 1000000000000) (hr2 : Rd w 2 Q sp.length (fl2 sp)) (hll2 : sp.length ≤ 1000000000000) (hno : ((checkA st l sp but).isSome || (decide (o < 1) || hasA st o)) = true) :
    Calls Tryz.prog 9 #[.pointer (some ⟨c, 0, none⟩), .int .i64 o, .slice A l.length ca, .slice Q sp.length cq, .int .i64 but] w (Tells (.bool false) w) := by
  obtain ⟨ub, us, h1, h2, h3, h4⟩ := h
  have hlu := len_us h2
  subst h2
  exact Reserve_no w c ub hd us A Q ca cq o l sp but h1 (by omega) hf.fits hg.rising hr hll hr2 hll2 hno
theorem reserve_yes (h : CalS B T w c hd st) (hB : B ≤ w.heap.size) (hl : st.length ≤ 1000000000000) {M : Nat} (hf : FitsA M st) (hg : GoodA st) {A Q : Option Addr} {ca cq : Nat} {o but : Int} {l : List Int} {sp : List Span}
    (hM : M + l.length * sp.length ≤ 500000000000) (hr : Rd w 1 A l.length (fl1 l)) (hll : l.length ≤ 500000000000) (hr2 : Rd w 2 Q sp.length (fl2 sp)) (hll2 : sp.length ≤ 500000000000) (hA : Free B T A (fl1 l)) (hQ : Free B T Q (fl2 sp))
    (hno : ((checkA st l sp but).isSome || (decide (o < 1) || hasA st o)) = false) :
    Calls Tryz.prog 9 #[.pointer (some ⟨c, 0, none⟩), .int .i64 o, .slice A l.length ca, .slice Q sp.length cq, .int .i64 but] w (Turned B (.bool true) c hd (resL st l sp o) w) := by
  obtain ⟨ub, us, h1, h2, h3, h4⟩ := h
  have hlu := len_us h2
  subst h2
  refine (Reserve_yes w c ub hd us A Q ca cq o l sp but M h1 (by omega) hf hg hM hr hll hr2 hll2 (fun hx ad e hfp => by have := hA hx ad e; have := h3 _ hfp; omega) (fun hx ad e hfp => by have := hQ hx ad e; have := h3 _ hfp; omega) hno).mono ?_
  rintro e w' ⟨rfl, us', ha, hb, _, hm⟩
  exact ⟨rfl, turned_of h3 hB ha hb hm⟩
theorem settle_c (h : CalS B T w c hd st) (hB : B ≤ w.heap.size) (hl : st.length ≤ 1000000000000) (hf : FitsA 100000000000 st) (hg : GoodA st) (o : Int) :
    Calls Tryz.prog 10 #[.pointer (some ⟨c, 0, none⟩), .int .i64 o] w (Turned B (.tuple #[]) c hd (settleA st o) w) := by
  obtain ⟨ub, us, h1, h2, h3, h4⟩ := h
  have hlu := len_us h2
  subst h2
  refine (Settle_calls w c ub hd us o h1 (by omega) hf hg).mono ?_
  rintro e w' ⟨rfl, us', ha, hb, _, hm⟩
  exact ⟨rfl, turned_of h3 hB ha hb hm⟩
theorem free_c (h : CalS B T w c hd st) (hB : B ≤ w.heap.size) (hl : st.length ≤ 1000000000000) (hf : FitsA 1000000000000 st) (o : Int) :
    Calls Tryz.prog 24 #[.pointer (some ⟨c, 0, none⟩), .int .i64 o] w (Turned B (.tuple #[]) c hd (freeA st o) w) := by
  obtain ⟨ub, us, h1, h2, h3, h4⟩ := h
  have hlu := len_us h2
  subst h2
  refine (Free_calls w c ub hd us o h1 (by omega) hf).mono ?_
  rintro e w' ⟨rfl, us', ha, hb, _, hm⟩
  exact ⟨rfl, turned_of h3 hB ha hb hm⟩
theorem remove_c (h : CalS B T w c hd st) (hB : B ≤ w.heap.size) (hl : st.length ≤ 1000000000000) (hf : FitsA 1000000000000 st) (o : Int) :
    Calls Tryz.prog 12 #[.pointer (some ⟨c, 0, none⟩), .int .i64 o] w (Turned B (.tuple #[]) c hd (removeA st o) w) := by
  obtain ⟨ub, us, h1, h2, h3, h4⟩ := h
  have hlu := len_us h2
  subst h2
  refine (CalRemove_calls w c ub hd us o h1 (by omega) hf).mono ?_
  rintro e w' ⟨rfl, us', ha, hb, _, hm⟩
  exact ⟨rfl, turned_of h3 hB ha hb hm⟩
theorem check_c (h : CalS B T w c hd st) (hl : st.length ≤ 1000000000000) (hf : FitsA 1000000000000 st) (hg : GoodA st) {A Q : Option Addr} {ca cq : Nat} {but : Int} {l : List Int} {sp : List Span}
    (hr : Rd w 1 A l.length (fl1 l)) (hll : l.length ≤ 1000000000000) (hr2 : Rd w 2 Q sp.length (fl2 sp)) (hll2 : sp.length ≤ 1000000000000) :
    Calls Tryz.prog 11 #[.pointer (some ⟨c, 0, none⟩), .slice A l.length ca, .slice Q sp.length cq, .int .i64 but] w (Tells (checkV (checkA st l sp but)) w) := by
  obtain ⟨ub, us, h1, h2, h3, h4⟩ := h
  have hlu := len_us h2
  subst h2
  exact Check_calls w c ub hd us A Q ca cq l sp but h1 (by omega) hf.fits hg.rising hr hll hr2 hll2
theorem getU_of {us : List (Option UserRep)} {n : Int} {p : List Tag × List Tag} (h : getA (abs us) n = some p) : ∃ u, getU us n = some u ∧ absU u = p := by
  rw [getA_abs] at h
  cases hq : getU us n with
  | none => rw [hq] at h; cases h
  | some u => rw [hq] at h; exact ⟨u, rfl, Option.some.inj h⟩
theorem getU_none {us : List (Option UserRep)} {n : Int} (h : getA (abs us) n = none) : getU us n = none := by
  rw [getA_abs] at h
  cases hq : getU us n with
  | none => rfl
  | some u => rw [hq] at h; cases h
theorem busy_yes (h : CalS B T w c hd st) (hl : st.length ≤ 1000000000000) (hf : FitsA 1000000000000 st) (n lo hi : Int) {p : List Tag × List Tag} (hp : getA st n = some p) :
    Calls Tryz.prog 13 #[.pointer (some ⟨c, 0, none⟩), .int .i64 n, .int .i64 lo, .int .i64 hi] w (SpansE (cutL p.1 lo hi) 0 w) := by
  obtain ⟨ub, us, h1, h2, h3, h4⟩ := h
  have hlu := len_us h2
  subst h2
  obtain ⟨u, hu, rfl⟩ := getU_of hp
  exact Busy_yes w c ub hd us n lo hi u h1 (by omega) hf.fits hu
theorem busy_no (h : CalS B T w c hd st) (hl : st.length ≤ 1000000000000) (n lo hi : Int) (hp : getA st n = none) :
    Calls Tryz.prog 13 #[.pointer (some ⟨c, 0, none⟩), .int .i64 n, .int .i64 lo, .int .i64 hi] w (SpansE [] 11 w) := by
  obtain ⟨ub, us, h1, h2, h3, h4⟩ := h
  have hlu := len_us h2
  subst h2
  exact Busy_no w c ub hd us n lo hi h1 (by omega) (getU_none hp)
theorem owners_yes (h : CalS B T w c hd st) (hl : st.length ≤ 1000000000000) (hf : FitsA 1000000000000 st) (n : Int) {p : List Tag × List Tag} (hp : getA st n = some p) :
    Calls Tryz.prog 14 #[.pointer (some ⟨c, 0, none⟩), .int .i64 n] w (Rows11 (ownersL p.1) (ownersL p.2) w) := by
  obtain ⟨ub, us, h1, h2, h3, h4⟩ := h
  have hlu := len_us h2
  subst h2
  obtain ⟨u, hu, rfl⟩ := getU_of hp
  exact Owners_yes w c ub hd us n u h1 (by omega) hf.fits hu
theorem owners_no (h : CalS B T w c hd st) (hl : st.length ≤ 1000000000000) (n : Int) (hp : getA st n = none) :
    Calls Tryz.prog 14 #[.pointer (some ⟨c, 0, none⟩), .int .i64 n] w (Rows11 [] [] w) := by
  obtain ⟨ub, us, h1, h2, h3, h4⟩ := h
  have hlu := len_us h2
  subst h2
  exact Owners_no w c ub hd us n h1 (by omega) (getU_none hp)
end
/-- A new calendar. -/
def NewS (n0 n1 lo hi node : Int) (zl : Nat) (w : World) (e : Ending) (w' : World) : Prop :=
  ∃ (c : Nat) (A : Option Addr) (zc : Nat), e = .returned (.tuple #[.pointer (some ⟨c, 0, none⟩), .int .i64 0]) ∧ CalS w.heap.size w'.heap.size w' c [.int .i64 n0, .int .i64 n1, .slice A zl zc, .int .i64 lo, .int .i64 hi, .int .i64 node] (newSt n0 node n1.toNat) ∧ w.heap.size ≤ c ∧ Below w.heap.size w w'
theorem new_yes (k : Nat) (n0 lo hi node : Int) (n : Nat) (A : Option Addr) (c : Nat) (zs : List Z) (w : World) (hC : kZ.C w A zs.length zs) (hc : zs.length ≤ c) (hm : cal_May.f k n0 (n : Int) zs lo hi = some true) (hn0 : 1 ≤ n0) (hn : 0 < n) (hn2 : n ≤ 1000000) (h1 : 0 ≤ node) (h2 : node < n0) (hz : zs.length ≤ 1000000000) (hf : OptsCopy.Few zs) :
    Calls Tryz.prog 7 #[.agg #[.int .i64 n0, .int .i64 (n : Int), .slice A zs.length c, .int .i64 lo, .int .i64 hi], .int .i64 node] w (NewS n0 (n : Int) lo hi node zs.length w) := by
  refine (New_yes k n0 lo hi node n A c zs w hC hc hm hn0 hn hn2 h1 h2 hz hf).mono ?_
  rintro e w' ⟨c', ub, us, A', zc, rfl, hcal, ha, hcc, _, hfp, hb⟩
  exact ⟨c', A', zc, rfl, ⟨ub, us, hcal, ha, fun k hk => ⟨hfp k hk, hcal.fp_lt hk⟩, Nat.le_refl _⟩, hcc, hb⟩
end Go.Proofs.YtioaingenooelaaGreat.CalS
/-
  voklaw17.one: the chapter's options.
-/
namespace Go.Proofs.YtioaingenooelaaGreat.One
open Go.RowKit Go.Proofs.YtioaingenooelaaGreatW.PrintWords Go.Proofs.YtioaingenooelaaGreat.Wd Go.Proofs.YtioaingenooelaaGreat.L Go.Proofs.YtioaingenooelaaGreat.Kds

def zones1 : List S98 := [⟨0, [], [], 0⟩, ⟨3600, [], [⟨3, 5, 6, 3600, 7200⟩, ⟨10, 5, 6, 3600, 3600⟩], 2000⟩]
theorem opts_nil : vokref25_Opts.f 20 [] = some (1, 4, zones1, 1767225600, 1772409600, 2, 2, 2, 4, 20000, 200) := by kernel_rfl
/-- What 'one' hands back. -/
def OneV (w : World) (e : Ending) (w' : World) : Prop := ∃ A c, e = .returned (.agg #[.int .i64 1, .int .i64 2, .slice A zones1.length c, .int .i64 1767225600, .int .i64 1772409600]) ∧ zones1.length ≤ c ∧ k98.C w' A zones1.length zones1 ∧ Below w.heap.size w w'
set_option maxHeartbeats 4000000 in
set_option maxRecDepth 100000 in
theorem one_calls (w : World) : Calls Tryz.prog 8 #[] w (OneV w) := by
  have hcon := fun (W : World) => vokref25_Opts.calls 20 none 0 [] 1 4 zones1 1767225600 1772409600 2 2 2 4 20000 200 W ⟨rfl, Nat.zero_le _, fun h => absurd h (by simp)⟩ (Nat.le_refl _) opts_nil
  have Hcon := As.mk hcon
  clear hcon
  go_enter Tryz.func8, Tryz.ntmps8
  go_wp2_with fail
  obtain ⟨W, hW⟩ : ∃ W, W = w.alloc (.cells #[.int .i64 0, .int .i64 0, .slice none 0 0, .int .i64 0, .int .i64 0] 30) := ⟨_, rfl⟩
  rw [← hW]
  have hbW : Below w.heap.size w W := by rw [hW]; exact below_allocS (Below.refl _ _) _
  have hz : W.heap.size = w.heap.size + 1 := by rw [hW]; simp
  have s0 : W.cell? ⟨w.heap.size, 0, none⟩ = some (.int .i64 0) := by rw [hW]; simp [go_sem]
  have s1 : W.cell? ⟨w.heap.size, 1, none⟩ = some (.int .i64 0) := by rw [hW]; simp [go_sem]
  have s2 : W.cell? ⟨w.heap.size, 2, none⟩ = some (.slice none 0 0) := by rw [hW]; simp [go_sem]
  have s3 : W.cell? ⟨w.heap.size, 3, none⟩ = some (.int .i64 0) := by rw [hW]; simp [go_sem]
  have s4 : W.cell? ⟨w.heap.size, 4, none⟩ = some (.int .i64 0) := by rw [hW]; simp [go_sem]
  have hf : ∀ i, W.frozen? ⟨w.heap.size, i, none⟩ = false := by intro i; rw [hW]; exact frozen_new _ _ _ _ rfl i
  have Hf := As.mk hf
  have HbW := As.mk hbW
  clear hW hf hbW
  refine (Hcon.out _).mono ?_
  rintro e w1 ⟨v, rfl, hN, hb⟩
  obtain ⟨A, c, rfl, hc, hC⟩ := Kd.N_reads hN
  have HN := As.mk hN
  have Hfar : As (∀ k, W.heap.size ≤ k → k ≠ w.heap.size) := ⟨fun k hk => by omega⟩
  have Hb := As.mk hb
  have hz1 : w.heap.size < w1.heap.size := by have := hb.size; omega
  have z0 := (hb.cell (World.block_lt_of_cell? W _ s0)).trans s0
  have z1 := (hb.cell (World.block_lt_of_cell? W _ s1)).trans s1
  have z2 := (hb.cell (World.block_lt_of_cell? W _ s2)).trans s2
  have z3 := (hb.cell (World.block_lt_of_cell? W _ s3)).trans s3
  have z4 := (hb.cell (World.block_lt_of_cell? W _ s4)).trans s4
  have f0 := (hb.frozen (World.block_lt_of_cell? W _ s0)).trans (Hf.out 0)
  have f1 := (hb.frozen (World.block_lt_of_cell? W _ s1)).trans (Hf.out 1)
  have f2 := (hb.frozen (World.block_lt_of_cell? W _ s2)).trans (Hf.out 2)
  have f3 := (hb.frozen (World.block_lt_of_cell? W _ s3)).trans (Hf.out 3)
  have f4 := (hb.frozen (World.block_lt_of_cell? W _ s4)).trans (Hf.out 4)
  have hfld : ∀ W', (Instr.field 81 (.agg #[.int .i64 1, .int .i64 4, .slice A zones1.length c, .int .i64 1767225600, .int .i64 1772409600, .int .i64 2, .int .i64 2, .int .i64 2, .int .i64 4, .int .i64 20000, .int .i64 200]) 0).run Tryz.prog W' = .ok (.agg #[.int .i64 1, .int .i64 4, .slice A zones1.length c, .int .i64 1767225600, .int .i64 1772409600]) W' := fun W' => by rfl
  clear hN hC hb
  go_wp2
  refine bodyPost_ret (v := .agg #[.int .i64 1, .int .i64 2, .slice A zones1.length c, .int .i64 1767225600, .int .i64 1772409600]) (by simp [results, Tryz.results8, go_sem, World.cell?_alloc_lt, hz1, z0, z1, z2, z3, z4]) rfl ⟨A, c, rfl, hc, ?_, ?_⟩
  · exact (Kd.N_reads' (Kd.N_alloc (Kd.N_far (p := ⟨w.heap.size, 4, none⟩) (Kd.N_far (p := ⟨w.heap.size, 3, none⟩) (Kd.N_far (p := ⟨w.heap.size, 2, none⟩) (Kd.N_far (p := ⟨w.heap.size, 1, none⟩) (Kd.N_far (p := ⟨w.heap.size, 0, none⟩) HN.out Hfar.out _) Hfar.out _) Hfar.out _) Hfar.out _) Hfar.out _) _)).2.2
  · exact below_allocS ((((((HbW.out.trans (Hb.out.mono HbW.out.size)).setCell (Nat.le_refl _) _).setCell (Nat.le_refl _) _).setCell (Nat.le_refl _) _).setCell (Nat.le_refl _) _).setCell (Nat.le_refl _) _) _
end Go.Proofs.YtioaingenooelaaGreat.One
/-
  vokref.Spans, Ints, Has at two lists: what they tell.
-/
namespace Go.Proofs.YtioaingenooelaaGreat.Same
open Go.RowKit Go.Proofs.YtioaingenooelaaGreat.Wd Go.Proofs.YtioaingenooelaaGreat.L Go.Proofs.YtioaingenooelaaGreat.Clones
open Go.Proofs.YtioaingenooelaaGreatW.PrintWords (Kd)

theorem spans_l0 (l : List S36) (hl : l.length ≤ 1000000000000) : ∀ (d i : Nat), i + d = l.length → vokref_Spans.l0 (d + 1) l l (i : Int) = some true
  | 0, i, h => by
    simp only [vokref_Spans.l0]
    rw [if_neg (by omega)]
  | d + 1, i, h => by
    have ih := spans_l0 l hl d (i + 1) (by omega)
    rw [vokref_Spans.l0]
    rw [if_pos (by omega), if_pos (by omega), if_pos (by omega), if_pos rfl, if_pos rfl]
    have e : wrap64 ((i : Int) + 1) = ((i + 1 : Nat) : Int) := by unfold wrap64; omega
    rw [e]
    exact ih
theorem spans_same (l : List S36) (hl : l.length ≤ 1000000000000) : vokref_Spans.f (l.length + 1) l l = some true := by
  unfold vokref_Spans.f
  rw [if_pos rfl]
  exact spans_l0 l hl l.length 0 (by omega)
/-- Two rows of the same spans. -/
theorem Spans_true (l : List (Int × Int)) (hl : l.length ≤ 1000000000000) (A B : Option Addr) (c d : Nat) (w : World) (h1 : Rd w 2 A l.length (fl2 l)) (hc : l.length ≤ c) (h2 : Rd w 2 B l.length (fl2 l)) (hd : l.length ≤ d) :
    Calls Tryz.prog 16 #[.slice A l.length c, .slice B l.length d] w fun e w' => e = .returned (.bool true) ∧ Below w.heap.size w w' := by
  have hm : (l.map ofP).length = l.length := List.length_map ..
  have g1 := span_rd (l := l.map ofP) (n := l.length) (by rw [flat_ofP]; exact h1) hm (by omega)
  have g2 := span_rd (l := l.map ofP) (n := l.length) (by rw [flat_ofP]; exact h2) hm (by omega)
  have h := vokref_Spans.calls (l.length + 1) A c (l.map ofP) B d (l.map ofP) true w (by rw [hm]; exact g1) (by rw [hm]; exact hc) (by rw [hm]; exact g2) (by rw [hm]; exact hd) (by rw [← hm]; exact spans_same _ (by omega))
  rw [hm] at h
  refine h.mono ?_
  rintro e w' ⟨rfl, hb⟩
  exact ⟨rfl, Go.Proofs.YtioaingenooelaaGreatW.PrintWords.Drawn0.below hb⟩
theorem ints_l0 (l : List Int) (hl : l.length ≤ 1000000000000) : ∀ (d i : Nat), i + d = l.length → vokref_Ints.l0 (d + 1) l l (i : Int) = some true
  | 0, i, h => by
    simp only [vokref_Ints.l0]
    rw [if_neg (by omega)]
  | d + 1, i, h => by
    have ih := ints_l0 l hl d (i + 1) (by omega)
    rw [vokref_Ints.l0]
    rw [if_pos (by omega), if_pos (by omega), if_pos (by omega), if_pos rfl]
    have e : wrap64 ((i : Int) + 1) = ((i + 1 : Nat) : Int) := by unfold wrap64; omega
    rw [e]
    exact ih
/-- Two rows of the same whole numbers. -/
theorem Ints_true (l : List Int) (hl : l.length ≤ 1000000000000) (A B : Option Addr) (c d : Nat) (w : World) (h1 : Rd w 1 A l.length (fl1 l)) (hc : l.length ≤ c) (h2 : Rd w 1 B l.length (fl1 l)) (hd : l.length ≤ d) :
    Calls Tryz.prog 30 #[.slice A l.length c, .slice B l.length d] w fun e w' => e = .returned (.bool true) ∧ Below w.heap.size w w' := by
  have h := vokref_Ints.calls (l.length + 1) A c l B d l true w (int_rd h1 rfl (by omega)) hc (int_rd h2 rfl (by omega)) hd (by unfold vokref_Ints.f; rw [if_pos rfl]; exact ints_l0 l hl l.length 0 (by omega))
  refine h.mono ?_
  rintro e w' ⟨rfl, hb⟩
  exact ⟨rfl, Go.Proofs.YtioaingenooelaaGreatW.PrintWords.Drawn0.below hb⟩
theorem has_l0 (l : List Int) (n : Int) (hl : l.length ≤ 1000000000000) : ∀ (d i : Nat), i + d = l.length → vokref_Has.l0 (d + 1) l n (i : Int) = some (decide (n ∈ l.drop i))
  | 0, i, h => by
    simp only [vokref_Has.l0]
    rw [if_neg (by omega), List.drop_eq_nil_of_le (by omega)]
    simp
  | d + 1, i, h => by
    have ih := has_l0 l n hl d (i + 1) (by omega)
    have hi : i < l.length := by omega
    have hr : Go.Proofs.YtioaingenooelaaGreatW.PrintWords.rd l (i : Int) = l[i] := by
      unfold Go.Proofs.YtioaingenooelaaGreatW.PrintWords.rd
      rw [Int.toNat_natCast, List.getD_eq_getElem?_getD, List.getElem?_eq_getElem hi]
      rfl
    rw [vokref_Has.l0, if_pos (by omega), if_pos (by omega), hr, List.drop_eq_getElem_cons hi]
    by_cases h1 : l[i] = n
    · rw [if_pos h1, ← h1, decide_eq_true List.mem_cons_self]
    · rw [if_neg h1]
      have e : wrap64 ((i : Int) + 1) = ((i + 1 : Nat) : Int) := by unfold wrap64; omega
      rw [e, ih]
      congr 1
      rw [decide_eq_decide, List.mem_cons]
      constructor
      · exact .inr
      · rintro (h2 | h2)
        · exact absurd h2.symm h1
        · exact h2
/-- Is a number in a row? -/
theorem Has_calls (l : List Int) (n : Int) (hl : l.length ≤ 1000000000000) (A : Option Addr) (c : Nat) (w : World) (h1 : Rd w 1 A l.length (fl1 l)) (hc : l.length ≤ c) :
    Calls Tryz.prog 31 #[.slice A l.length c, .int .i64 n] w fun e w' => e = .returned (.bool (decide (n ∈ l))) ∧ Below w.heap.size w w' := by
  have h := vokref_Has.calls (l.length + 1) A c l n (decide (n ∈ l)) w (int_rd h1 rfl (by omega)) hc (by unfold vokref_Has.f; exact has_l0 l n hl l.length 0 (by omega))
  refine h.mono ?_
  rintro e w' ⟨rfl, hb⟩
  exact ⟨rfl, Go.Proofs.YtioaingenooelaaGreatW.PrintWords.Drawn0.below hb⟩
end Go.Proofs.YtioaingenooelaaGreat.Same
/-
  voklaw17.first walked.
-/
namespace Go.Proofs.YtioaingenooelaaGreat.First
open Go.RowKit Go.Proofs.YtioaingenooelaaGreat.Wd Go.Proofs.YtioaingenooelaaGreat.Pure Go.Proofs.YtioaingenooelaaGreat.Meets Go.Proofs.YtioaingenooelaaGreat.CalOps Go.Proofs.YtioaingenooelaaGreat.CalAsk Go.Proofs.YtioaingenooelaaGreat.Check Go.Proofs.YtioaingenooelaaGreat.Reserve Go.Proofs.YtioaingenooelaaGreat.Settle Go.Proofs.YtioaingenooelaaGreat.CalNew Go.Proofs.YtioaingenooelaaGreat.ReplP Go.Proofs.YtioaingenooelaaGreat.FirstP Go.Proofs.YtioaingenooelaaGreat.CalS
open Go.Proofs.YtioaingenooelaaGreat.L (cal_May.f vokref_Spans.f vokref_Spans.calls)
open Go.Proofs.YtioaingenooelaaGreat.OptsCopy (Z kZ)
open Go.Proofs.YtioaingenooelaaGreatW.PrintWords (Kd)

theorem rd_blk {w : World} {b size n : Nat} {t : TypeId} {xs : List Value} {ar : Array Value} (h : w.heap[b]? = some (.cells ar t (0, 0))) (ha : ar = xs.toArray) (hl : xs.length = n * size) : Rd w size (some ⟨b, 0, none⟩) n xs :=
  ⟨hl, fun j u hu => ⟨_, rfl, by rw [add_plain, cell_of_row w b j _ _ (0, 0) h, ha]; simpa using hu⟩⟩
/-- A row of whole numbers and a row of one span, just made. -/
theorem lit2 (w2 : World) {ar : Array Value} (xs : List Int) (s : Span) (ha : ar = (fl1 xs).toArray) {W : World} (hW : W = (w2.alloc (.cells ar 3)).alloc (.cells #[.int .i64 s.1, .int .i64 s.2] 36)) :
    Rd W 1 (some ⟨w2.heap.size, 0, none⟩) xs.length (fl1 xs) ∧ Rd W 2 (some ⟨w2.heap.size + 1, 0, none⟩) [s].length (fl2 [s]) ∧ Below w2.heap.size w2 W := by
  subst hW
  refine ⟨rd_blk (heap_prev w2 _ _ rfl) ha (by rw [fl1_length, Nat.mul_one]), rd_blk (heap_last2 w2 _ _ rfl) rfl rfl, below_allocS (below_allocS (Below.refl _ _) _) _⟩
/-- A row of one span, just made. -/
theorem lit1 (w2 : World) (s : Span) {W : World} (hW : W = w2.alloc (.cells #[.int .i64 s.1, .int .i64 s.2] 36)) : Rd W 2 (some ⟨w2.heap.size, 0, none⟩) [s].length (fl2 [s]) ∧ Below w2.heap.size w2 W := by
  subst hW
  exact ⟨rd_blk (heap_alloc_new w2 _) rfl rfl, below_allocS (Below.refl _ _) _⟩
theorem free_new {B T : Nat} {b : Nat} {xs : List Value} (h : T ≤ b) : CalS.Free B T (some ⟨b, 0, none⟩) xs := fun _ ad e => by injection e with e; subst e; exact .inr h
theorem may_one : cal_May.f 40 1 ((2 : Nat) : Int) One.zones1 1767225600 1772409600 = some true := by kernel_rfl
theorem new_one : newSt 1 0 2 = S0 := by rfl
theorem few_one : OptsCopy.Few One.zones1 := by
  intro z hz
  simp [One.zones1] at hz
  rcases hz with rfl | rfl <;> exact ⟨by simp, by simp⟩
theorem spans59 : vokref_Spans.f 3 [⟨5, 9⟩] [⟨5, 9⟩] = some true := by kernel_rfl
def hdOne (A : Option Addr) (zc : Nat) : List Value := [.int .i64 1, .int .i64 2, .slice A One.zones1.length zc, .int .i64 1767225600, .int .i64 1772409600, .int .i64 0]
/-- The calendar of the chapter's options. -/
def OneCal (w : World) (e : Ending) (w' : World) : Prop := ∃ (c : Nat) (hd : List Value), e = .returned (.tuple #[.pointer (some ⟨c, 0, none⟩), .int .i64 0]) ∧ CalS w.heap.size w'.heap.size w' c hd S0 ∧ Below w.heap.size w w'
theorem newOne_calls (A : Option Addr) (c : Nat) (w : World) (hc : One.zones1.length ≤ c) (hC : kZ.C w A One.zones1.length One.zones1) :
    Calls Tryz.prog 7 #[.agg #[.int .i64 1, .int .i64 2, .slice A One.zones1.length c, .int .i64 1767225600, .int .i64 1772409600], .int .i64 0] w (OneCal w) := by
  refine (new_yes 40 1 1767225600 1772409600 0 2 A c One.zones1 w hC hc may_one (by omega) (by omega) (by omega) (by omega) (by omega) (by decide) few_one).mono ?_
  rintro e w' ⟨c', A', zc, rfl, h1, h2, h3⟩
  exact ⟨c', _, rfl, h1, h3⟩
theorem fits_S0 (M : Nat) : FitsA M S0 := fits_mono fits0 (Nat.zero_le _)
set_option maxHeartbeats 8000000 in
set_option maxRecDepth 100000 in
theorem first_calls (w : World) : Calls Tryz.prog 6 #[] w fun e w' => e = .returned (.bool true) ∧ Below w.heap.size w w' := by
  go_enter Tryz.func6, Tryz.ntmps6
  go_wp2_with fail
  refine (One.one_calls _).mono ?_
  rintro e w1 ⟨A, c, rfl, hc, hC, hb1⟩
  have HC := As.mk hC
  have Hb1 := As.mk hb1
  clear hC hb1
  go_wp2_with fail
  refine (newOne_calls A c _ hc HC.out).mono ?_
  rintro e w2 ⟨p, hd, rfl, hS2, hb2⟩
  have HS2 := As.mk hS2
  have Hb2 := As.mk hb2
  have Hle2 := As.mk hb2.size
  clear hS2 hb2
  go_wp2_with fail
  obtain ⟨W2, hW2⟩ : ∃ W, W = (w2.alloc (.cells #[.int .i64 0, .int .i64 1] 3)).alloc (.cells #[.int .i64 5, .int .i64 9] 36) := ⟨_, rfl⟩
  obtain ⟨r1, r2, bW2⟩ := lit2 w2 [0, 1] (5, 9) rfl hW2
  rw [← hW2]
  refine (reserve_yes (l := [0, 1]) (sp := [(5, 9)]) (but := 0) (M := 0) (HS2.out.below bW2) (Nat.le_trans Hle2.out bW2.size) (by decide) fits0 good0 (by decide) r1 (by decide) r2 (by decide) (free_new (Nat.le_refl _)) (free_new (Nat.le_succ _)) fmay1).mono ?_
  rintro e w3 ⟨rfl, hS3, hb3⟩
  have HS3 := As.mk hS3
  have Hb3 : As (Below w1.heap.size w1 w3) := ⟨(Hb2.out.trans (bW2.mono Hle2.out)).trans hb3⟩
  have Hle3 := As.mk Hb3.out.size
  clear hS3 hb3 r1 r2 bW2 hW2
  go_wp2_with fail
  obtain ⟨W3, hW3⟩ : ∃ W, W = (w3.alloc (.cells #[.int .i64 1] 3)).alloc (.cells #[.int .i64 8, .int .i64 12] 36) := ⟨_, rfl⟩
  obtain ⟨r1, r2, bW3⟩ := lit2 w3 [1] (8, 12) rfl hW3
  rw [← hW3]
  refine (reserve_no (l := [1]) (sp := [(8, 12)]) (but := 0) (HS3.out.below bW3) (by decide) (fits_mono ffits1 (by decide)) fgood1 r1 (by decide) r2 (by decide) fno).mono ?_
  rintro e w4 ⟨rfl, hb4⟩
  have HS4 := As.mk (HS3.out.below (below_then bW3 hb4))
  have Hb4 : As (Below w1.heap.size w1 w4) := ⟨Hb3.out.trans ((below_then bW3 hb4).mono Hle3.out)⟩
  have Hle4 := As.mk Hb4.out.size
  clear hb4 r1 r2 bW3 hW3
  go_wp2_with fail
  refine (settle_c HS4.out Hle4.out (by decide) (fits_mono ffits1 (by decide)) fgood1 17).mono ?_
  rintro e w5 ⟨rfl, hS5, hb5⟩
  have HS5 := As.mk hS5
  have Hb5 : As (Below w1.heap.size w1 w5) := ⟨Hb4.out.trans hb5⟩
  have Hle5 := As.mk Hb5.out.size
  clear hS5 hb5
  go_wp2_with fail
  refine (busy_yes HS5.out (by decide) (fits_mono ffits2 (by decide)) 0 0 100 (fat2 0 (.inl rfl))).mono ?_
  rintro e w6 ⟨v6, rfl, hown6, hb6⟩
  rw [show cutL ([((5, 9), 17)], ([] : List Tag)).1 0 100 = [(5, 9)] from fbusy] at hown6
  obtain ⟨A6, c6, rfl, hc6, _⟩ := own_form hown6
  have HS6 := As.mk (HS5.out.below hb6)
  have Hb6 : As (Below w1.heap.size w1 w6) := ⟨Hb5.out.trans (hb6.mono Hle5.out)⟩
  have Hle6 := As.mk Hb6.out.size
  have Hr6 := As.mk (Rd.of_own hown6)
  clear hown6 hb6
  go_wp2_with fail
  obtain ⟨W6, hW6⟩ : ∃ W, W = (w6.alloc (.cells #[.int .i64 0] 3)).alloc (.cells #[.int .i64 8, .int .i64 9] 36) := ⟨_, rfl⟩
  obtain ⟨r1, r2, bW6⟩ := lit2 w6 [0] (8, 9) rfl hW6
  rw [← hW6]
  have hck := fun ca cq => check_c (st := F2) (l := [0]) (sp := [(8, 9)]) (but := 17) (ca := ca) (cq := cq) (HS6.out.below bW6) (by decide) (fits_mono ffits2 (by decide)) fgood2 r1 (by decide) r2 (by decide)
  rw [fcheck] at hck
  simp only [checkV, tagV] at hck
  have Hck := As.mk hck
  clear hck
  refine (Hck.out 1 1).mono ?_
  rintro e w7 ⟨rfl, hb7⟩
  have Hr7 := As.mk (Hr6.out.belowS (below_then bW6 hb7))
  have Hb7 : As (Below w1.heap.size w1 w7) := ⟨Hb6.out.trans ((below_then bW6 hb7).mono Hle6.out)⟩
  have Hle7 := As.mk Hb7.out.size
  clear hb7 r1 r2 bW6 hW6
  go_wp2_with fail
  obtain ⟨W7, hW7⟩ : ∃ W, W = (w7.alloc (.cells #[.int .i64 0, .int .i64 0, .int .i64 0] 38)).alloc (.cells #[.int .i64 5, .int .i64 9] 36) := ⟨_, rfl⟩
  have bW7 : Below w7.heap.size w7 W7 := by rw [hW7]; exact below_allocS (below_allocS (Below.refl _ _) _) _
  have r7 : Rd W7 2 (some ⟨w7.heap.size + 1, 0, none⟩) [((5 : Int), (9 : Int))].length (fl2 [(5, 9)]) := rd_blk (heap_last2 w7 _ _ (congrArg World.heap hW7)) rfl rfl
  rw [← hW7]
  refine (Same.Spans_true [(5, 9)] (by decide) A6 (some ⟨w7.heap.size + 1, 0, none⟩) c6 1 W7 (Rd.belowS Hr7.out bW7) hc6 r7 (by decide)).mono ?_
  rintro e w8 ⟨rfl, hb8⟩
  have Hb8 : As (Below w.heap.size w w8) := ⟨below_then Hb1.out ((Hb7.out.trans ((below_then bW7 hb8).mono Hle7.out)))⟩
  clear hb8 bW7 r7 hW7
  go_wp2
  go_ret
  exact ⟨rfl, Hb8.out⟩
end Go.Proofs.YtioaingenooelaaGreat.First
/-
  Two calendars that share no set's block: the one turns, the other stands. A calendar copied. Calls on a calendar, one operation of a list.
-/
namespace Go.Proofs.YtioaingenooelaaGreat.PairC
open Go.RowKit Go.Proofs.YtioaingenooelaaGreat.Wd Go.Proofs.YtioaingenooelaaGreat.Pure Go.Proofs.YtioaingenooelaaGreat.SetW Go.Proofs.YtioaingenooelaaGreat.Edit Go.Proofs.YtioaingenooelaaGreat.CalRep Go.Proofs.YtioaingenooelaaGreat.CalOps Go.Proofs.YtioaingenooelaaGreat.Neat Go.Proofs.YtioaingenooelaaGreat.Check Go.Proofs.YtioaingenooelaaGreat.Reserve Go.Proofs.YtioaingenooelaaGreat.Settle Go.Proofs.YtioaingenooelaaGreat.CopyW Go.Proofs.YtioaingenooelaaGreat.PlayP Go.Proofs.YtioaingenooelaaGreat.CalS

/-- At c and at d lie calendars with these lists; they share no set's block. -/
def Two (B : Nat) (w : World) (c : Nat) (hd : List Value) (st : St) (d : Nat) (hd' : List Value) (st' : St) : Prop :=
  ∃ (ub : Nat) (us : List (Option UserRep)) (ub' : Nat) (us' : List (Option UserRep)), CalAt w c ub hd us ∧ abs us = st ∧ (∀ k, fp us k → B ≤ k) ∧ CalAt w d ub' hd' us' ∧ abs us' = st' ∧ (∀ k, fp us' k → B ≤ k) ∧ ∀ k, fp us k → ¬ fp us' k
section
variable {B c d : Nat} {w : World} {hd hd' : List Value} {st st' : St}
theorem Two.below {w' : World} (h : Two B w c hd st d hd' st') (hb : Below w.heap.size w w') : Two B w' c hd st d hd' st' := by
  obtain ⟨ub, us, ub', us', h1, h2, h3, h4, h5, h6, h7⟩ := h
  exact ⟨ub, us, ub', us', h1.below hb, h2, h3, h4.below hb, h5, h6, h7⟩
theorem Two.left (h : Two B w c hd st d hd' st') : CalS B w.heap.size w c hd st := by
  obtain ⟨ub, us, ub', us', h1, h2, h3, h4, h5, h6, h7⟩ := h
  exact ⟨ub, us, h1, h2, fun k hk => ⟨h3 k hk, h1.fp_lt hk⟩, Nat.le_refl _⟩
theorem Two.right (h : Two B w c hd st d hd' st') : CalS B w.heap.size w d hd' st' := by
  obtain ⟨ub, us, ub', us', h1, h2, h3, h4, h5, h6, h7⟩ := h
  exact ⟨ub', us', h4, h5, fun k hk => ⟨h6 k hk, h4.fp_lt hk⟩, Nat.le_refl _⟩
/-- A calendar stands where another's sets have turned. -/
theorem stands {us us' : List (Option UserRep)} {ub' : Nat} {w' : World} (h1 : ∀ k, fp us k → ∃ cs t, w.heap[k]? = some (.cells cs t (0, 0)) ∧ (t = 116 ∨ t = 38)) (h4 : CalAt w d ub' hd' us') (h7 : ∀ k, fp us k → ¬ fp us' k) (hU : Upd (fp us) w w') : CalAt w' d ub' hd' us' := by
  have hne : ∀ {j : Nat} {cs : Array Value} {T : TypeId}, w.heap[j]? = some (.cells cs T (0, 0)) → T ≠ 116 → T ≠ 38 → w'.heap[j]? = w.heap[j]? := fun {j cs T} hj t1 t2 =>
    hU.block j (Array.getElem?_eq_some_iff.1 hj).1 fun hk => typed_ne (h1 j hk) hj t1 t2 rfl
  exact h4.move (hne h4.cal (by decide) (by decide)) (hne h4.arr (by decide) (by decide)) (fun i u hu => hne (h4.user i u hu).1 (by decide) (by decide)) (fun k hk => hU.block k (h4.fp_lt hk) fun hk' => h7 k hk' hk)
/-- What a call leaves that turns the first of two. -/
def TurnedL (B : Nat) (v : Value) (c : Nat) (hd : List Value) (st : St) (d : Nat) (hd' : List Value) (st' : St) (w : World) (e : Ending) (w' : World) : Prop :=
  e = .returned v ∧ Two B w' c hd st d hd' st' ∧ Below B w w'
theorem reserve_left (h : Two B w c hd st d hd' st') (hB : B ≤ w.heap.size) (hl : st.length ≤ 1000000000000) {M : Nat} (hf : FitsA M st) (hg : GoodA st) {A Q : Option Addr} {ca cq : Nat} {o but : Int} {l : List Int} {sp : List Span}
    (hM : M + l.length * sp.length ≤ 500000000000) (hr : Rd w 1 A l.length (fl1 l)) (hll : l.length ≤ 500000000000) (hr2 : Rd w 2 Q sp.length (fl2 sp)) (hll2 : sp.length ≤ 500000000000) (hA : fl1 l ≠ [] → ∀ ad, A = some ad → ad.block < B) (hQ : fl2 sp ≠ [] → ∀ ad, Q = some ad → ad.block < B)
    (hno : ((checkA st l sp but).isSome || (decide (o < 1) || hasA st o)) = false) :
    Calls Tryz.prog 9 #[.pointer (some ⟨c, 0, none⟩), .int .i64 o, .slice A l.length ca, .slice Q sp.length cq, .int .i64 but] w (TurnedL B (.bool true) c hd (resL st l sp o) d hd' st' w) := by
  obtain ⟨ub, us, ub', us', h1, h2, h3, h4, h5, h6, h7⟩ := h
  have hlu := len_us h2
  subst h2
  refine (Reserve_yes w c ub hd us A Q ca cq o l sp but M h1 (by omega) hf hg hM hr hll hr2 hll2 (fun hx ad e hfp => by have := hA hx ad e; have := h3 _ hfp; omega) (fun hx ad e hfp => by have := hQ hx ad e; have := h3 _ hfp; omega) hno).mono ?_
  rintro e w' ⟨rfl, us1, ha, hb, _, hm⟩
  refine ⟨rfl, ⟨ub, us1, ub', us', ha, hb, ?_, stands (fun k hk => h1.typed hk) h4 h7 hm.upd, h5, h6, ?_⟩, upd_below hm.upd h3 hB⟩
  · intro k hk
    rcases hm.own k hk with h8 | h8
    · exact h3 k h8
    · omega
  · intro k hk hk'
    rcases hm.own k hk with h8 | h8
    · exact h7 k h8 hk'
    · have := h4.fp_lt hk'; omega
theorem free_left (h : Two B w c hd st d hd' st') (hB : B ≤ w.heap.size) (hl : st.length ≤ 1000000000000) (hf : FitsA 1000000000000 st) (o : Int) :
    Calls Tryz.prog 24 #[.pointer (some ⟨c, 0, none⟩), .int .i64 o] w (TurnedL B (.tuple #[]) c hd (freeA st o) d hd' st' w) := by
  obtain ⟨ub, us, ub', us', h1, h2, h3, h4, h5, h6, h7⟩ := h
  have hlu := len_us h2
  subst h2
  refine (Free_calls w c ub hd us o h1 (by omega) hf).mono ?_
  rintro e w' ⟨rfl, us1, ha, hb, _, hm⟩
  refine ⟨rfl, ⟨ub, us1, ub', us', ha, hb, ?_, stands (fun k hk => h1.typed hk) h4 h7 hm.upd, h5, h6, ?_⟩, upd_below hm.upd h3 hB⟩
  · intro k hk
    rcases hm.own k hk with h8 | h8
    · exact h3 k h8
    · omega
  · intro k hk hk'
    rcases hm.own k hk with h8 | h8
    · exact h7 k h8 hk'
    · have := h4.fp_lt hk'; omega
end
/-- A calendar copied. -/
theorem copy_two {B T : Nat} {w : World} {c : Nat} {n0 n1 lo hi nd : Int} {zA : Option Addr} {zl zc : Nat} {st : St} (h : CalS B T w c [.int .i64 n0, .int .i64 n1, .slice zA zl zc, .int .i64 lo, .int .i64 hi, .int .i64 nd] st) (hB : B ≤ w.heap.size) (hl : st.length ≤ 1000000000000) (hf : FitsA 100000000000 st) :
    Calls Tryz.prog 28 #[.pointer (some ⟨c, 0, none⟩)] w fun e w' => ∃ d, e = .returned (.pointer (some ⟨d, 0, none⟩)) ∧ Two B w' c [.int .i64 n0, .int .i64 n1, .slice zA zl zc, .int .i64 lo, .int .i64 hi, .int .i64 nd] st d [.int .i64 n0, .int .i64 n1, .slice zA zl zc, .int .i64 lo, .int .i64 hi, .int .i64 nd] st ∧ Below w.heap.size w w' := by
  obtain ⟨ub, us, h1, h2, h3, h4⟩ := h
  have hlu := len_us h2
  subst h2
  refine (CalCopy_calls w c ub n0 n1 lo hi nd zA zl zc us h1 (by omega) hf.fits).mono ?_
  rintro e w' ⟨c', ub', us', rfl, hc, ha, _, _, hnew, hb⟩
  refine ⟨c', rfl, ⟨ub, us, ub', us', h1.below hb, rfl, fun k hk => (h3 k hk).1, hc, ha, fun k hk => Nat.le_trans hB (hnew k hk), ?_⟩, hb⟩
  intro k hk hk'
  have := h1.fp_lt hk
  have := hnew k hk'
  omega

/-! ### Reserve, whatever it answers -/
theorem reserve_any {B T c : Nat} {w : World} {hd : List Value} {st : St} (h : CalS B T w c hd st) (hB : B ≤ w.heap.size) (hl : st.length ≤ 1000000000000) {M : Nat} (hf : FitsA M st) (hg : GoodA st) {A Q : Option Addr} {ca cq : Nat} {o but : Int} {l : List Int} {sp : List Span}
    (hM : M + l.length * sp.length ≤ 500000000000) (hr : Rd w 1 A l.length (fl1 l)) (hll : l.length ≤ 500000000000) (hr2 : Rd w 2 Q sp.length (fl2 sp)) (hll2 : sp.length ≤ 500000000000) (hA : fl1 l ≠ [] → ∀ ad, A = some ad → ad.block < B) (hQ : fl2 sp ≠ [] → ∀ ad, Q = some ad → ad.block < B) :
    Calls Tryz.prog 9 #[.pointer (some ⟨c, 0, none⟩), .int .i64 o, .slice A l.length ca, .slice Q sp.length cq, .int .i64 but] w (Turned B (.bool (takes st o l sp but)) c hd (resA st o l sp but) w) := by
  cases hno : ((checkA st l sp but).isSome || (decide (o < 1) || hasA st o)) with
  | false =>
    rw [resA_yes hno, show takes st o l sp but = true from by unfold takes; rw [hno]; rfl]
    exact reserve_yes h hB hl hf hg hM hr hll hr2 hll2 (fun hx ad e => .inl (hA hx ad e)) (fun hx ad e => .inl (hQ hx ad e)) hno
  | true =>
    rw [resA_no hno, show takes st o l sp but = false from by unfold takes; rw [hno]; rfl]
    refine (reserve_no h hl ?_ hg hr (by omega) hr2 (by omega) hno).mono ?_
    · exact fun k p hp => by have := hf k p hp; omega
    · rintro e w' ⟨rfl, hb⟩
      exact ⟨rfl, (h.below hb).lift, hb.mono hB⟩
end Go.Proofs.YtioaingenooelaaGreat.PairC
/-
  The printed functions answer: how many rounds serve, and what a yes tells. Nothing of the program is walked.
-/
namespace Go.Proofs.YtioaingenooelaaGreat.Tot
open Go.RowKit Go.Proofs.YtioaingenooelaaGreat.L
theorem wrap_nat (n : Nat) (h : n ≤ 1000000000000000) : wrap64 (n : Int) = (n : Int) := by unfold wrap64; omega
theorem wrap_succ (n : Nat) (h : n ≤ 1000000000000000) : wrap64 ((n : Int) + 1) = ((n + 1 : Nat) : Int) := by unfold wrap64; omega
theorem bind_tot {α β : Type} {x : Option α} {f : α → Option β} (hx : ∃ a, x = some a) (hf : ∀ a, x = some a → ∃ b, f a = some b) : ∃ b, x.bind f = some b := by
  obtain ⟨a, ha⟩ := hx
  obtain ⟨b, hb⟩ := hf a ha
  exact ⟨b, by rw [ha]; exact hb⟩
theorem ite_tot {α : Type} {c : Prop} [Decidable c] {x y : Option α} (hx : c → ∃ a, x = some a) (hy : ¬ c → ∃ a, y = some a) : ∃ a, (if c then x else y) = some a := by
  by_cases h : c
  · rw [if_pos h]; exact hx h
  · rw [if_neg h]; exact hy h
theorem some_tot {α : Type} (a : α) : ∃ b, some a = some b := ⟨a, rfl⟩

theorem offset_tot (n : Int) : ∃ r, zone_offset.f n = some r := by unfold zone_offset.f; exact ite_tot (fun _ => some_tot _) (fun _ => some_tot _)
theorem stampMay_tot (n : Int) : ∃ r, stamp_May.f n = some r := by unfold stamp_May.f; exact ite_tot (fun _ => some_tot _) (fun _ => some_tot _)
theorem leap_tot (n : Int) : ∃ r, civil_Leap.f n = some r := by unfold civil_Leap.f; exact ite_tot (fun _ => ite_tot (fun _ => some_tot _) (fun _ => some_tot _)) (fun _ => some_tot _)
theorem lengthj_tot (k : Nat) (y m : Int) (b : Bool) : ∃ r, civil_Length.j0 (k + 1) y m b = some r := by
  rw [civil_Length.j0]
  repeat' (first | exact some_tot _ | refine ite_tot (fun _ => ?_) (fun _ => ?_) | refine bind_tot (leap_tot _) (fun _ _ => ?_))
theorem length_tot (k : Nat) (y m : Int) : ∃ r, civil_Length.f (k + 1) y m = some r := by
  unfold civil_Length.f
  repeat' (first | exact lengthj_tot _ _ _ _ | refine ite_tot (fun _ => ?_) (fun _ => ?_))
theorem year_tot (n : Int) : ∃ r, civil_year.f n = some r := by unfold civil_year.f; exact ite_tot (fun _ => some_tot _) (fun _ => some_tot _)
theorem valid_tot (k : Nat) (y m d : Int) : ∃ r, civil_Valid.f (k + 1) y m d = some r := by
  unfold civil_Valid.f
  refine bind_tot (year_tot _) fun _ _ => ite_tot (fun _ => ite_tot (fun _ => bind_tot (length_tot _ _ _) fun _ _ => some_tot _) (fun _ => some_tot _)) (fun _ => some_tot _)
theorem number_tot (y m d : Int) : ∃ r, civil_number.f y m d = some r := by unfold civil_number.f; exact ite_tot (fun _ => some_tot _) (fun _ => some_tot _)
theorem days_tot (k : Nat) (y m d : Int) : ∃ r, civil_Days.f (k + 1) y m d = some r := by
  unfold civil_Days.f
  exact bind_tot (valid_tot _ _ _ _) fun _ _ => ite_tot (fun _ => bind_tot (number_tot _ _ _) fun _ _ => some_tot _) (fun _ => some_tot _)
theorem make_tot (k : Nat) (y mo d h mi s : Int) : ∃ r, stamp_Make.f (k + 1) y mo d h mi s = some r := by
  unfold stamp_Make.f
  refine bind_tot (days_tot _ _ _ _) fun _ _ => ?_
  repeat' (first | exact some_tot _ | refine ite_tot (fun _ => ?_) (fun _ => ?_))
theorem shifts_l0 (l : List S110) (hl : l.length ≤ 1000000) : ∀ (d i k : Nat), i + d = l.length → d < k → ∃ r, zone_mayShifts.l0 k l l (l.length : Int) (i : Int) = some r
  | d, i, 0, _, h => absurd h (by omega)
  | 0, i, k + 1, h, _ => by
    rw [zone_mayShifts.l0, if_neg (by omega)]
    exact some_tot _
  | d + 1, i, k + 1, h, hk => by
    have ih := shifts_l0 l hl d (i + 1) k (by omega) (by omega)
    rw [← wrap_succ i (by omega)] at ih
    rw [zone_mayShifts.l0, if_pos (by omega), if_pos (by omega), if_pos (by omega)]
    refine bind_tot (stampMay_tot _) fun _ _ => ite_tot (fun _ => bind_tot (offset_tot _) fun _ _ => ite_tot (fun _ => ite_tot (fun h0 => ?_) (fun _ => ih)) (fun _ => some_tot _)) (fun _ => some_tot _)
    have e : wrap64 ((i : Int) - 1) = (i : Int) - 1 := by unfold wrap64; omega
    rw [if_pos (by rw [e]; omega), if_pos (by rw [e]; omega)]
    exact ite_tot (fun _ => some_tot _) (fun _ => ih)
theorem shifts_tot (l : List S110) (hl : l.length ≤ 1000000) (k : Nat) (hk : l.length < k) : ∃ r, zone_mayShifts.f k l = some r := shifts_l0 l hl l.length 0 k (by omega) hk
theorem years_l0 (l : List S113) (hl : l.length = 2) : ∀ (d i k : Nat), i + d = l.length → d < k → ∃ r, zone_mayYears.l0 k l l (l.length : Int) (i : Int) = some r
  | d, i, 0, _, h => absurd h (by omega)
  | 0, i, k + 1, h, _ => by
    rw [zone_mayYears.l0, if_neg (by omega), if_pos (by omega), if_pos (by omega)]
    exact ite_tot (fun _ => some_tot _) (fun _ => some_tot _)
  | d + 1, i, k + 1, h, hk => by
    have ih := years_l0 l hl d (i + 1) k (by omega) (by omega)
    rw [← wrap_succ i (by omega)] at ih
    rw [zone_mayYears.l0, if_pos (by omega), if_pos (by omega), if_pos (by omega)]
    repeat' (first | exact some_tot _ | exact ih | refine ite_tot (fun _ => ?_) (fun _ => ?_) | refine bind_tot (offset_tot _) (fun _ _ => ?_))
theorem years_tot (l : List S113) (hl : l.length = 2) (k : Nat) (hk : 2 < k) : ∃ r, zone_mayYears.f k l = some r := years_l0 l hl l.length 0 k (by omega) (by omega)
theorem zonej_tot (k : Nat) (b : Bool) (base : Int) (s : List S110) (y : List S113) (from_ : Int) (hs : s.length ≤ 1000000) (hk : 3 < k) : ∃ r, zone_May.j0 k b base s y from_ = some r := by
  obtain ⟨k, rfl⟩ : ∃ m, k = m + 1 := ⟨k - 1, by omega⟩
  rw [zone_May.j0]
  refine ite_tot (fun _ => some_tot _) fun _ => ite_tot (fun _ => some_tot _) fun _ => ite_tot (fun h2 => ?_) fun _ => some_tot _
  obtain ⟨k, rfl⟩ : ∃ m, k = m + 1 := ⟨k - 1, by omega⟩
  refine bind_tot (make_tot _ _ _ _ _ _ _) fun _ _ => ite_tot (fun _ => bind_tot (years_tot y (by omega) _ (by omega)) fun _ _ => ite_tot (fun _ => ite_tot (fun _ => some_tot _) fun h0 => ?_) fun _ => some_tot _) fun _ => some_tot _
  have e : wrap64 ((s.length : Int) - 1) = (s.length : Int) - 1 := by unfold wrap64; omega
  rw [if_pos (by rw [e]; omega), if_pos (by rw [e]; omega)]
  exact some_tot _
theorem zone_tot (k : Nat) (base : Int) (s : List S110) (y : List S113) (from_ : Int) (hs : s.length ≤ 1000000) (hk : s.length + 4 < k) : ∃ r, zone_May.f k base s y from_ = some r := by
  unfold zone_May.f
  exact bind_tot (offset_tot _) fun _ _ => ite_tot (fun _ => bind_tot (shifts_tot s hs k (by omega)) fun _ _ => zonej_tot k _ base s y from_ hs (by omega)) fun _ => zonej_tot k _ base s y from_ hs (by omega)
theorem calyear_tot (k : Nat) (n : Int) : ∃ r, cal_year.f (k + 1) n = some r := by
  unfold cal_year.f
  exact bind_tot (make_tot _ _ _ _ _ _ _) fun _ _ => some_tot _
/-- Zones of a size. -/
def Sized (zs : List S98) : Prop := ∀ z ∈ zs, z.f1.length ≤ 400 ∧ z.f2.length ≤ 400
theorem may_l0 (zs : List S98) (hz : Sized zs) (hl : zs.length ≤ 30) (a b : Int) (c : List S98) (lo hi : Int) : ∀ (d i k : Nat), i + d = zs.length → d + 410 < k → ∃ r, cal_May.l0 k zs (zs.length : Int) (i : Int) a b c lo hi = some r
  | d, i, 0, _, h => absurd h (by omega)
  | 0, i, k + 1, h, hk => by
    obtain ⟨k, rfl⟩ : ∃ m, k = m + 1 := ⟨k - 1, by omega⟩
    rw [cal_May.l0, if_neg (by omega)]
    exact ite_tot (fun _ => bind_tot (calyear_tot _ _) fun _ _ => ite_tot (fun _ => ite_tot (fun _ => some_tot _) fun _ => some_tot _) fun _ => some_tot _) fun _ => some_tot _
  | d + 1, i, k + 1, h, hk => by
    have ih := may_l0 zs hz hl a b c lo hi d (i + 1) k (by omega) (by omega)
    rw [← wrap_succ i (by omega)] at ih
    rw [cal_May.l0, if_pos (by omega), if_pos (by omega), if_pos (by omega)]
    have hm : rd_T98 zs (i : Int) ∈ zs := by
      unfold rd_T98
      rw [Int.toNat_natCast, List.getD_eq_getElem?_getD, List.getElem?_eq_getElem (by omega)]
      exact List.getElem_mem _
    have hh := hz _ hm
    exact bind_tot (zone_tot k _ _ _ _ (by omega) (by omega)) fun _ _ => ite_tot (fun _ => ih) fun _ => some_tot _
theorem mayj_tot (k : Nat) (b : Bool) (n0 n1 : Int) (zs : List S98) (hz : Sized zs) (hl : zs.length ≤ 30) (lo hi : Int) (hk : 500 ≤ k) : ∃ r, cal_May.j0 k b n0 n1 zs lo hi = some r := by
  obtain ⟨k, rfl⟩ : ∃ m, k = m + 1 := ⟨k - 1, by omega⟩
  rw [cal_May.j0]
  exact ite_tot (fun _ => some_tot _) fun _ => may_l0 zs hz hl _ _ _ _ _ zs.length 0 k (by omega) (by omega)
theorem may_tot (n0 n1 : Int) (zs : List S98) (hz : Sized zs) (hl : zs.length ≤ 30) (lo hi : Int) : ∃ r, cal_May.f 500 n0 n1 zs lo hi = some r := by
  unfold cal_May.f
  repeat' (first | exact mayj_tot 500 _ _ _ zs hz hl _ _ (by omega) | refine ite_tot (fun _ => ?_) (fun _ => ?_))
/-- What a yes tells. -/
theorem mayj_false {k : Nat} {n0 n1 : Int} {zs : List S98} {lo hi : Int} (h : cal_May.j0 k true n0 n1 zs lo hi = some true) : False := by
  cases k with
  | zero => simp [cal_May.j0] at h
  | succ k => rw [cal_May.j0, if_pos rfl] at h; cases h
theorem may_yes {k : Nat} {n0 n1 : Int} {zs : List S98} {lo hi : Int} (h : cal_May.f k n0 n1 zs lo hi = some true) : 1 ≤ n0 ∧ n0 ≤ 16 ∧ 1 ≤ n1 ∧ n1 ≤ 64 ∧ 1 ≤ zs.length ∧ zs.length ≤ 16 := by
  unfold cal_May.f at h
  by_cases h1 : n0 < 1
  · rw [if_pos h1] at h; exact (mayj_false h).elim
  · rw [if_neg h1] at h
    by_cases h2 : n0 > 16
    · rw [if_pos h2] at h; exact (mayj_false h).elim
    · rw [if_neg h2] at h
      by_cases h3 : n1 < 1
      · rw [if_pos h3] at h; exact (mayj_false h).elim
      · rw [if_neg h3] at h
        by_cases h4 : n1 > 64
        · rw [if_pos h4] at h; exact (mayj_false h).elim
        · rw [if_neg h4] at h
          by_cases h5 : (zs.length : Int) < 1
          · rw [if_pos h5] at h; exact (mayj_false h).elim
          · rw [if_neg h5] at h
            by_cases h6 : (zs.length : Int) > 16
            · rw [decide_eq_true h6] at h; exact (mayj_false h).elim
            · omega

/-! ### FewZones, few -/
theorem fewzone (z : S98) : vokref_FewZone.f z.f0 z.f1 z.f2 z.f3 = some (decide (z.f1.length ≤ 400) && decide (z.f2.length ≤ 400)) := by
  unfold vokref_FewZone.f
  by_cases h : z.f1.length ≤ 400
  · rw [if_pos (by omega), decide_eq_true h, Bool.true_and]
    congr 1
    rw [decide_eq_decide]
    omega
  · rw [if_neg (by omega), decide_eq_false h, Bool.false_and]
/-- The first thirty zones are of a size. -/
def sizedB (zs : List S98) : Bool := zs.all fun z => decide (z.f1.length ≤ 400) && decide (z.f2.length ≤ 400)
theorem zones_l0 (zs : List S98) : ∀ (d i k : Nat), i + d = min zs.length 30 → 2 * d + 1 < k → voklaw9_FewZones.l0 k zs (i : Int) = some (sizedB ((zs.take 30).drop i) && decide (zs.length ≤ 30))
  | d, i, 0, _, h => absurd h (by omega)
  | d, i, 1, _, h => absurd h (by omega)
  | 0, i, k + 2, h, _ => by
    have hd : (zs.take 30).drop i = [] := List.drop_eq_nil_of_le (by rw [List.length_take]; omega)
    rw [hd]
    have hb : voklaw9_FewZones.j1 (k + 1) zs (i : Int) false = some (decide ((zs.length : Int) ≤ 30)) := by rw [voklaw9_FewZones.j1, if_neg (by simp)]
    have e : decide ((zs.length : Int) ≤ 30) = (sizedB [] && decide (zs.length ≤ 30)) := by
      show _ = (true && _)
      rw [Bool.true_and, decide_eq_decide]
      omega
    rw [← e, ← hb, voklaw9_FewZones.l0]
    by_cases hi : (i : Int) < (zs.length : Int)
    · rw [if_pos hi, decide_eq_false (by omega)]
    · rw [if_neg hi]
  | d + 1, i, k + 2, h, hk => by
    have ih := zones_l0 zs d (i + 1) k (by omega) (by omega)
    rw [← wrap_succ i (by omega)] at ih
    have hi : i < zs.length := by omega
    rw [voklaw9_FewZones.l0, if_pos (by omega), decide_eq_true (by omega), voklaw9_FewZones.j1, if_pos rfl, if_pos (by omega), if_pos (by omega)]
    have hr : rd_T98 zs (i : Int) = zs[i] := by
      unfold rd_T98
      rw [Int.toNat_natCast, List.getD_eq_getElem?_getD, List.getElem?_eq_getElem hi]
      rfl
    have hil : i < (zs.take 30).length := by rw [List.length_take]; omega
    rw [hr, fewzone, Option.bind_some, ih, List.drop_eq_getElem_cons hil, List.getElem_take]
    unfold sizedB
    rw [List.all_cons]
    cases hq : (decide (zs[i].f1.length ≤ 400) && decide (zs[i].f2.length ≤ 400)) with
    | true => rw [if_pos rfl, Bool.true_and]
    | false => rw [if_neg (by simp), Bool.false_and, Bool.false_and]
theorem zones_tot (zs : List S98) : voklaw9_FewZones.f 100 zs = some (sizedB (zs.take 30) && decide (zs.length ≤ 30)) := by
  have := zones_l0 zs (min zs.length 30) 0 100 (by omega) (by omega)
  exact this
theorem zones_yes {zs : List S98} (h : (sizedB (zs.take 30) && decide (zs.length ≤ 30)) = true) : Sized zs ∧ zs.length ≤ 30 := by
  rw [Bool.and_eq_true, decide_eq_true_eq] at h
  refine ⟨fun z hz => ?_, h.2⟩
  have h1 := h.1
  rw [List.take_of_length_le h.2] at h1
  unfold sizedB at h1
  rw [List.all_eq_true] at h1
  simpa using h1 z hz
abbrev OpS := S57
def SmallOp (x : OpS) : Prop := x.f3.length ≤ 1000 ∧ x.f4.length ≤ 1000
theorem rdop (l : List OpS) (i : Nat) (hi : i < l.length) : rd_T57 l (i : Int) = l[i] := by
  unfold rd_T57
  rw [Int.toNat_natCast, List.getD_eq_getElem?_getD, List.getElem?_eq_getElem hi]
  rfl
theorem mn_nat (a : Nat) : Go.Proofs.YtioaingenooelaaGreatW.PrintWords.mn (a : Int) 1001 = ((min a 1001 : Nat) : Int) := by unfold Go.Proofs.YtioaingenooelaaGreatW.PrintWords.mn; omega
theorem few_l0 (l : List OpS) : ∀ (d i k : Nat) (n : Nat), i + d = min l.length 100 → d < k → n ≤ 2002 * i → ∃ r, voklaw17_few.l0 k l (n : Int) (i : Int) = some r ∧ (r = true → l.length ≤ 100 ∧ n ≤ 1000 ∧ ∀ j (hj : j < l.length), i ≤ j → SmallOp l[j])
  | d, i, 0, n, _, h, _ => absurd h (by omega)
  | 0, i, k + 1, n, h, _, hn => by
    rw [voklaw17_few.l0]
    have fin : ∃ r, (if (l.length : Int) ≤ 100 then some (decide ((n : Int) ≤ 1000)) else some false) = some r ∧ (r = true → l.length ≤ 100 ∧ n ≤ 1000 ∧ ∀ j (hj : j < l.length), i ≤ j → SmallOp l[j]) := by
      by_cases hl : l.length ≤ 100
      · rw [if_pos (by omega)]
        exact ⟨_, rfl, fun hr => ⟨hl, by simp at hr; omega, fun j hj hij => by omega⟩⟩
      · rw [if_neg (by omega)]
        exact ⟨_, rfl, fun hr => by cases hr⟩
    by_cases h1 : (i : Int) < (l.length : Int)
    · rw [if_pos h1, if_neg (by omega)]; exact fin
    · rw [if_neg h1]; exact fin
  | d + 1, i, k + 1, n, h, hk, hn => by
    have hi : i < l.length := by omega
    rw [voklaw17_few.l0, if_pos (by omega), if_pos (by omega), if_pos (by omega), rdop l i hi, mn_nat, mn_nat]
    have e1 : wrap64 ((n : Int) + ((min l[i].f4.length 1001 : Nat) : Int)) = ((n + min l[i].f4.length 1001 : Nat) : Int) := by unfold wrap64; omega
    have e2 : wrap64 (((n + min l[i].f4.length 1001 : Nat) : Int) + ((min l[i].f3.length 1001 : Nat) : Int)) = ((n + min l[i].f4.length 1001 + min l[i].f3.length 1001 : Nat) : Int) := by unfold wrap64; omega
    rw [e1, e2, wrap_succ i (by omega)]
    obtain ⟨r, hr, hy⟩ := few_l0 l d (i + 1) k (n + min l[i].f4.length 1001 + min l[i].f3.length 1001) (by omega) (by omega) (by omega)
    refine ⟨r, hr, fun h1 => ?_⟩
    obtain ⟨g1, g2, g3⟩ := hy h1
    refine ⟨g1, by omega, fun j hj hij => ?_⟩
    rcases Nat.lt_or_eq_of_le hij with h2 | h2
    · exact g3 j hj h2
    · subst h2
      exact ⟨by omega, by omega⟩
theorem few_tot (l : List OpS) : ∃ r, voklaw17_few.f 200 l = some r ∧ (r = true → l.length ≤ 100 ∧ ∀ x ∈ l, SmallOp x) := by
  obtain ⟨r, hr, hy⟩ := few_l0 l (min l.length 100) 0 200 0 (by omega) (by omega) (by omega)
  refine ⟨r, hr, fun h => ?_⟩
  obtain ⟨h1, _, h3⟩ := hy h
  refine ⟨h1, fun x hx => ?_⟩
  obtain ⟨j, hj, rfl⟩ := List.getElem_of_mem hx
  exact h3 j hj (Nat.zero_le _)
end Go.Proofs.YtioaingenooelaaGreat.Tot
/-
  voklaw17.CalApart walked: arguments that are too many, and options without a calendar.
-/
namespace Go.Proofs.YtioaingenooelaaGreat.Apart0
open Go.RowKit Go.Proofs.YtioaingenooelaaGreat.Wd Go.Proofs.YtioaingenooelaaGreat.Pure Go.Proofs.YtioaingenooelaaGreat.SetW Go.Proofs.YtioaingenooelaaGreat.CalOps Go.Proofs.YtioaingenooelaaGreat.Check Go.Proofs.YtioaingenooelaaGreat.Reserve Go.Proofs.YtioaingenooelaaGreat.Settle Go.Proofs.YtioaingenooelaaGreat.CalNew Go.Proofs.YtioaingenooelaaGreat.CalS Go.Proofs.YtioaingenooelaaGreat.First Go.Proofs.YtioaingenooelaaGreat.L
open Go.Proofs.YtioaingenooelaaGreat.OptsCopy (Z kZ)
open Go.Proofs.YtioaingenooelaaGreat.Tot (OpS)
open Go.Proofs.YtioaingenooelaaGreatW.PrintWords (Kd)
abbrev kOp := k57
def Done (w : World) (e : Ending) (w' : World) : Prop := e = .returned (.bool true) ∧ Below w.heap.size w w'
/-- The options lie at this block. -/
def OptsAt (b : Nat) (n0 n1 lo hi : Int) (A : Option Addr) (n c : Nat) (w : World) : Prop :=
  w.cell? ⟨b, 0, none⟩ = some (.int .i64 n0) ∧ w.cell? ⟨b, 1, none⟩ = some (.int .i64 n1) ∧ w.cell? ⟨b, 2, none⟩ = some (.slice A n c) ∧ w.cell? ⟨b, 3, none⟩ = some (.int .i64 lo) ∧ w.cell? ⟨b, 4, none⟩ = some (.int .i64 hi)
theorem OptsAt.below {b B n c : Nat} {n0 n1 lo hi : Int} {A : Option Addr} {w w' : World} (h : OptsAt b n0 n1 lo hi A n c w) (hb : Below B w w') (hB : b < B) : OptsAt b n0 n1 lo hi A n c w' := by
  obtain ⟨h0, h1, h2, h3, h4⟩ := h
  exact ⟨(hb.cell (p := ⟨b, 0, none⟩) hB).trans h0, (hb.cell (p := ⟨b, 1, none⟩) hB).trans h1, (hb.cell (p := ⟨b, 2, none⟩) hB).trans h2, (hb.cell (p := ⟨b, 3, none⟩) hB).trans h3, (hb.cell (p := ⟨b, 4, none⟩) hB).trans h4⟩
/-- The options, just laid. -/
theorem opts_new {w W : World} {n0 n1 lo hi : Int} {A : Option Addr} {n c : Nat} (hW : W = w.alloc (.cells #[.int .i64 n0, .int .i64 n1, .slice A n c, .int .i64 lo, .int .i64 hi] 30)) : OptsAt w.heap.size n0 n1 lo hi A n c W ∧ Below w.heap.size w W ∧ w.heap.size < W.heap.size := by
  subst hW
  have h := heap_alloc_new w (.cells #[.int .i64 n0, .int .i64 n1, .slice A n c, .int .i64 lo, .int .i64 hi] 30)
  exact ⟨⟨cell_of_row _ _ 0 _ _ (0, 0) h, cell_of_row _ _ 1 _ _ (0, 0) h, cell_of_row _ _ 2 _ _ (0, 0) h, cell_of_row _ _ 3 _ _ (0, 0) h, cell_of_row _ _ 4 _ _ (0, 0) h⟩, below_allocS (Below.refl _ _) _, by simp⟩
theorem row_low {w : World} {size n : Nat} {A : Option Addr} {xs : List Value} (h : Rd w size A n xs) : xs ≠ [] → ∀ ad, A = some ad → ad.block < w.heap.size := by
  intro hne ad e
  obtain ⟨x, r, hx⟩ := List.exists_cons_of_ne_nil hne
  subst hx
  obtain ⟨ad', e', hc⟩ := h.2 0 x rfl
  rw [e] at e'
  have e2 := Option.some.inj e'
  subst e2
  have := World.block_lt_of_cell? w _ hc
  rw [block_of_add] at this
  exact this
/-- One operation of the list: where it lies, now and behind calls. -/
theorem op_at {w : World} {A : Option Addr} {n k : Nat} {l : List OpS} {x : OpS} (h : kOp.C w A n l) (hx : l[k]? = some x) : ∃ ad A3 c3 A4 c4, ∃ sp : List Span, A = some ad ∧ sp.length = x.f4.length ∧
    (∀ W, Below w.heap.size w W → W.cell? (ad.add (k * 5)) = some (.int .i64 x.f0) ∧ W.cell? ⟨(ad.add (k * 5)).block, (ad.add (k * 5)).off + 1, none⟩ = some (.int .i64 x.f1) ∧ W.cell? ⟨(ad.add (k * 5)).block, (ad.add (k * 5)).off + 3, none⟩ = some (.slice A3 x.f3.length c3) ∧ W.cell? ⟨(ad.add (k * 5)).block, (ad.add (k * 5)).off + 4, none⟩ = some (.slice A4 sp.length c4) ∧ Rd W 1 A3 x.f3.length (fl1 x.f3) ∧ Rd W 2 A4 sp.length (fl2 sp)) ∧
    (fl1 x.f3 ≠ [] → ∀ a, A3 = some a → a.block < w.heap.size) ∧ (fl2 sp ≠ [] → ∀ a, A4 = some a → a.block < w.heap.size) := by
  obtain ⟨h1, h2, h3⟩ := h
  have hk : k < l.length := (List.getElem?_eq_some_iff.1 hx).1
  obtain ⟨ad, rfl, hc⟩ := h3 (by omega)
  obtain ⟨c, _, hK, hcell⟩ := hc k x hx
  obtain ⟨A3, c3, A4, c4, rfl, _, h4, _, h5⟩ := k57_open hK
  have hl : (x.f4.map Clones.toP).length = x.f4.length := List.length_map ..
  have r3 := Clones.rd_int h4
  have r4 := Clones.rd_span h5
  rw [← Clones.fl2_toP, ← hl] at r4
  have move : ∀ {W : World} {q : Addr} {v : Value}, Below w.heap.size w W → w.cell? q = some v → W.cell? q = some v := fun {W q v} hb hq => (hb.cell (World.block_lt_of_cell? w _ hq)).trans hq
  have g1 := hcell 1 _ rfl
  have g3 := hcell 3 _ rfl
  have g4 := hcell 4 _ rfl
  rw [show kOp.sz = 5 from rfl, Wd.add_field _ _ 1 (by omega)] at g1
  rw [show kOp.sz = 5 from rfl, Wd.add_field _ _ 3 (by omega)] at g3
  rw [show kOp.sz = 5 from rfl, Wd.add_field _ _ 4 (by omega), ← hl] at g4
  exact ⟨ad, A3, c3, A4, c4, x.f4.map Clones.toP, rfl, hl, fun W hW => ⟨move hW (hcell 0 _ rfl), move hW g1, move hW g3, move hW g4, r3.belowS hW, r4.belowS hW⟩, row_low r3, row_low r4⟩
theorem good_new (n0 node : Int) (n : Nat) : GoodA (newSt n0 node n) := by
  intro k p hp
  unfold newSt at hp
  rw [List.getElem?_map] at hp
  cases hq : (List.range n)[k]? with
  | none => rw [hq] at hp; cases hp
  | some u =>
    rw [hq] at hp
    have e : (if isHome n0 node u then some (([] : List Tag), ([] : List Tag)) else none) = some p := Option.some.inj hp
    split at e
    · have e2 := Option.some.inj e
      rw [← e2]
      exact ⟨Neat.Neat.nil, Neat.Neat.nil⟩
    · cases e
theorem fits_new (n0 node : Int) (n : Nat) : PlayP.FitsS (0 * 1000000) (newSt n0 node n) := by
  intro k p hp
  unfold newSt at hp
  rw [List.getElem?_map] at hp
  cases hq : (List.range n)[k]? with
  | none => rw [hq] at hp; cases hp
  | some u =>
    rw [hq] at hp
    have e : (if isHome n0 node u then some (([] : List Tag), ([] : List Tag)) else none) = some p := Option.some.inj hp
    split at e
    · have e2 := Option.some.inj e
      rw [← e2]
      exact Nat.le_refl _
    · cases e
theorem turned_from {B c : Nat} {v : Value} {hd : List Value} {st : St} {wr W' : World} {e : Ending} {w' : World} (hb : Below wr.heap.size wr W') (hB : B ≤ wr.heap.size) (h : Turned B v c hd st W' e w') : Turned B v c hd st wr e w' := ⟨h.1, h.2.1, (hb.mono hB).trans h.2.2⟩
/-! ### What a calendar answers of a user, there or not -/
theorem cutL_le (L : List Tag) (lo hi : Int) : (cutL L lo hi).length ≤ L.length := by
  unfold cutL
  refine Nat.le_trans (norm_le _) ?_
  unfold cuts
  rw [List.length_map]
  exact Nat.le_refl _
theorem owners_le (L : List Tag) : (ownersL L).length ≤ L.length := by
  unfold ownersL
  refine Nat.le_trans (Uniq.uniq_len _) ?_
  rw [List.length_mergeSort]
  unfold ownOf
  rw [List.length_map]
  exact Nat.le_refl _
def busyL (st : St) (n lo hi : Int) : List Span := match getA st n with | some p => cutL p.1 lo hi | none => []
def own1 (st : St) (n : Int) : List Int := match getA st n with | some p => ownersL p.1 | none => []
def own2 (st : St) (n : Int) : List Int := match getA st n with | some p => ownersL p.2 | none => []
theorem getA_fits {st : St} {M : Nat} (hf : FitsA M st) {n : Int} {p : List Tag × List Tag} (h : getA st n = some p) : p.1.length ≤ M ∧ p.2.length ≤ M := hf _ p (getA_some h).2
theorem busyL_le {st : St} {M : Nat} (hf : FitsA M st) (n lo hi : Int) : (busyL st n lo hi).length ≤ M := by
  unfold busyL
  cases h : getA st n with
  | none => exact Nat.zero_le _
  | some p => exact Nat.le_trans (cutL_le _ _ _) (getA_fits hf h).1
theorem own1_le {st : St} {M : Nat} (hf : FitsA M st) (n : Int) : (own1 st n).length ≤ M := by
  unfold own1
  cases h : getA st n with
  | none => exact Nat.zero_le _
  | some p => exact Nat.le_trans (owners_le _) (getA_fits hf h).1
theorem own2_le {st : St} {M : Nat} (hf : FitsA M st) (n : Int) : (own2 st n).length ≤ M := by
  unfold own2
  cases h : getA st n with
  | none => exact Nat.zero_le _
  | some p => exact Nat.le_trans (owners_le _) (getA_fits hf h).2
section
variable {B T c : Nat} {w : World} {hd : List Value} {st : St}
theorem busy_any (h : CalS B T w c hd st) (hl : st.length ≤ 1000000000000) (hf : FitsA 1000000000000 st) (n lo hi : Int) : ∃ er : Int,
    Calls Tryz.prog 13 #[.pointer (some ⟨c, 0, none⟩), .int .i64 n, .int .i64 lo, .int .i64 hi] w (CalAsk.SpansE (busyL st n lo hi) er w) := by
  cases hp : getA st n with
  | some p => exact ⟨0, by have := busy_yes h hl hf n lo hi hp; unfold busyL; rw [hp]; exact this⟩
  | none => exact ⟨11, by have := busy_no h hl n lo hi hp; unfold busyL; rw [hp]; exact this⟩
theorem owners_any (h : CalS B T w c hd st) (hl : st.length ≤ 1000000000000) (hf : FitsA 1000000000000 st) (n : Int) :
    Calls Tryz.prog 14 #[.pointer (some ⟨c, 0, none⟩), .int .i64 n] w (CalAsk.Rows11 (own1 st n) (own2 st n) w) := by
  cases hp : getA st n with
  | some p => have := owners_yes h hl hf n hp; unfold own1 own2; rw [hp]; exact this
  | none => have := owners_no h hl n hp; unfold own1 own2; rw [hp]; exact this
end
theorem busyL_same {a b : St} {v lo hi : Int} (h : getA a v = getA b v) : busyL a v lo hi = busyL b v lo hi := by unfold busyL; rw [h]
theorem own2_same {a b : St} {v : Int} (h : getA a v = getA b v) : own2 a v = own2 b v := by unfold own2; rw [h]
theorem getA_new (n0 node : Int) (n m : Nat) (hm : m < n) : (getA (newSt n0 node n) (m : Int)).isSome = isHome n0 node m := by
  have h : (newSt n0 node n)[m]? = some (if isHome n0 node m then some (([] : List Tag), ([] : List Tag)) else none) := by
    unfold newSt
    rw [List.getElem?_map, List.getElem?_range hm]
    rfl
  unfold getA getU
  rw [if_neg (by omega), Int.toNat_natCast, h]
  cases isHome n0 node m <;> rfl
/-- Who has what was reserved and settled. -/
theorem settled_own {n0 node tx : Int} {n m : Nat} {st : St} {users : List Int} {spans : List Span} (hd : PlayP.Dom (newSt n0 node n) st) (hg : GoodA st) (ht : PlayP.takes st tx users spans 0 = true) (hm : m < n) :
    decide (tx ∈ own1 (settleA (resL st users spans tx) tx) (m : Int)) = (decide ((m : Int) ∈ users) && (isHome n0 node m && decide (0 < (norm spans).length))) ∧ decide (tx ∈ own2 (settleA (resL st users spans tx) tx) (m : Int)) = false := by
  have hdom := (hd.trans ((PlayP.dom_resL spans tx users st).trans (PlayP.dom_map (settleU tx) _))) (m : Int)
  rw [getA_new n0 node n m hm] at hdom
  cases hp : getA (settleA (resL st users spans tx) tx) (m : Int) with
  | none =>
    have hdom' : isHome n0 node m = false := by
      rw [← hdom]
      show (getA (settleA (resL st users spans tx) tx) (m : Int)).isSome = false
      rw [hp]
      rfl
    unfold own1 own2
    rw [hp, hdom']
    simp
  | some p =>
    have hdom' : isHome n0 node m = true := by
      rw [← hdom]
      show (getA (settleA (resL st users spans tx) tx) (m : Int)).isSome = true
      rw [hp]
      rfl
    obtain ⟨h1, h2⟩ := PlayP.res_settle hg ht (m : Int) p hp
    unfold own1 own2
    rw [hp, hdom']
    constructor
    · have e : (tx ∈ ownersL p.1) ↔ ((m : Int) ∈ users ∧ norm spans ≠ []) := (PlayP.mem_owners p.1 tx).trans h2
      show decide (tx ∈ ownersL p.1) = _
      rw [Bool.true_and, ← Bool.decide_and, decide_eq_decide, e, List.length_pos_iff]
    · refine decide_eq_false fun h => ?_
      rw [PlayP.mem_owners, h1] at h
      cases h
/-- Behind k operations. -/
structure Inv (w3 : World) (c : Nat) (hd : List Value) (st0 : St) (k : Nat) (wr : World) (st : St) : Prop where
  cal : CalS w3.heap.size wr.heap.size wr c hd st
  good : GoodA st
  fits : PlayP.FitsS (k * 1000000) st
  len : st.length = st0.length
  dom : PlayP.Dom st0 st
  below : Below w3.heap.size w3 wr
section
variable {w3 wr : World} {c k : Nat} {hd : List Value} {st0 st : St}
theorem Inv.skip (h : Inv w3 c hd st0 k wr st) : Inv w3 c hd st0 (k + 1) wr st := ⟨h.cal, h.good, h.fits.mono (by omega), h.len, h.dom, h.below⟩
theorem Inv.res (h : Inv w3 c hd st0 k wr st) {o : Int} {us : List Int} {sp : List Span} {v : Value} {e : Ending} {w' : World} (h1 : us.length ≤ 1000) (h2 : sp.length ≤ 1000) (ht : Turned w3.heap.size v c hd (PlayP.resA st o us sp 0) wr e w') : Inv w3 c hd st0 (k + 1) w' (PlayP.resA st o us sp 0) := by
  have hm : us.length * sp.length ≤ 1000 * 1000 := Nat.mul_le_mul h1 h2
  exact ⟨ht.2.1, PlayP.resA_good o us sp 0 h.good, (PlayP.resA_sum o us sp 0 h.fits).mono (by omega), (PlayP.resA_len st o us sp 0).trans h.len, h.dom.trans (PlayP.dom_resA st o us sp 0), h.below.trans ht.2.2⟩
theorem Inv.settle (h : Inv w3 c hd st0 k wr st) {o : Int} {v : Value} {e : Ending} {w' : World} (ht : Turned w3.heap.size v c hd (settleA st o) wr e w') : Inv w3 c hd st0 (k + 1) w' (settleA st o) :=
  ⟨ht.2.1, ReplP.good_settle o h.good, (PlayP.settle_sum o h.fits).mono (by omega), (List.length_map _).trans h.len, h.dom.trans (PlayP.dom_map _ _), h.below.trans ht.2.2⟩
theorem Inv.free (h : Inv w3 c hd st0 k wr st) {o : Int} {v : Value} {e : Ending} {w' : World} (ht : Turned w3.heap.size v c hd (freeA st o) wr e w') : Inv w3 c hd st0 (k + 1) w' (freeA st o) :=
  ⟨ht.2.1, ReplP.good_free o h.good, (PlayP.free_sum o h.fits).mono (by omega), (List.length_map _).trans h.len, h.dom.trans (PlayP.dom_map _ _), h.below.trans ht.2.2⟩
theorem Inv.remove (h : Inv w3 c hd st0 k wr st) {o : Int} {v : Value} {e : Ending} {w' : World} (ht : Turned w3.heap.size v c hd (removeA st o) wr e w') : Inv w3 c hd st0 (k + 1) w' (removeA st o) :=
  ⟨ht.2.1, ReplP.good_remove o h.good, (PlayP.remove_sum o h.fits).mono (by omega), (List.length_map _).trans h.len, h.dom.trans (PlayP.dom_map _ _), h.below.trans ht.2.2⟩
theorem Inv.fitsA (h : Inv w3 c hd st0 k wr st) (hk : k ≤ 100) {M : Nat} (hM : 100000000 ≤ M) : FitsA M st := (h.fits.mono (by omega)).fits
end
set_option maxHeartbeats 8000000 in
set_option maxRecDepth 100000 in
theorem far (n0 n1 lo hi node tx : Int) (A L U S : Option Addr) (ca cl cu cs : Nat) (zs : List Z) (l : List OpS) (un sn : Nat) (rz rf : Bool) (w : World)
    (hA : Kd.C kZ w A zs.length zs) (hca : zs.length ≤ ca) (hL : Kd.C kOp w L l.length l) (hcl : l.length ≤ cl) (fz : voklaw9_FewZones.f 100 zs = some rz) (ff : voklaw17_few.f 200 l = some rf)
    (hno : (rz && rf && decide (un ≤ 100) && decide (sn ≤ 100)) = false) :
    Calls Tryz.prog 5 #[.agg #[.int .i64 n0, .int .i64 n1, .slice A zs.length ca, .int .i64 lo, .int .i64 hi], .int .i64 node, .slice L l.length cl, .int .i64 tx, .slice U un cu, .slice S sn cs] w (Done w) := by
  have HA := As.mk hA
  have HL := As.mk hL
  have Ff := As.mk ff
  have hc : rz = false ∨ (rz = true ∧ rf = false) ∨ (rz = true ∧ rf = true ∧ decide ((100 : Int) < (un : Int)) = true) ∨ (rz = true ∧ rf = true ∧ decide ((100 : Int) < (un : Int)) = false ∧ decide ((100 : Int) < (sn : Int)) = true) := by
    cases rz <;> cases rf <;> simp at hno ⊢
    omega
  clear hno hA hL ff
  have Fz := As.mk fz
  clear fz
  rcases hc with rfl | ⟨rfl, rfl⟩ | ⟨rfl, rfl, d1⟩ | ⟨rfl, rfl, d1, d2⟩
  all_goals
    go_enter Tryz.func5, Tryz.ntmps5
    go_wp2_with fail
    obtain ⟨W0, hW0⟩ : ∃ W, W = w.alloc (.cells #[.int .i64 n0, .int .i64 n1, .slice A zs.length ca, .int .i64 lo, .int .i64 hi] 30) := ⟨_, rfl⟩
    rw [← hW0]
    obtain ⟨o0, b0, s0⟩ := opts_new hW0
    have HO := As.mk o0
    have Hb0 := As.mk b0
    have Hs0 := As.mk s0
    clear hW0 o0 b0 s0
    refine (first_calls _).mono ?_
    rintro e w1 ⟨rfl, hb1⟩
    have Hb1 := As.mk (below_then Hb0.out hb1)
    obtain ⟨q0, q1, q2, q3, q4⟩ := OptsAt.below HO.out hb1 Hs0.out
    clear hb1
    go_wp2_with fail
    refine (voklaw9_FewZones.calls 100 A ca zs _ w1 (Kd.C_below HA.out Hb1.out) hca Fz.out).mono ?_
    rintro e w2 ⟨rfl, hb2⟩
    have Hb2 := As.mk (below_then Hb1.out hb2)
    clear hb2
    go_wp2_with fail
    try
      refine (voklaw17_few.calls 200 L cl l _ w2 (Kd.C_below HL.out Hb2.out) hcl Ff.out).mono ?_
      rintro e w2' ⟨rfl, hb3⟩
      replace Hb2 := As.mk (below_then Hb2.out hb3)
      clear hb3
      go_wp2_with fail
    refine (first_calls _).mono ?_
    rintro e w4 ⟨rfl, hb4⟩
    have Hb4 := As.mk (below_then Hb2.out hb4)
    clear hb4
    go_wp2
    go_ret
    exact ⟨rfl, Hb4.out⟩
set_option maxHeartbeats 8000000 in
set_option maxRecDepth 100000 in
theorem none_there (n0 n1 lo hi node tx : Int) (A L U S : Option Addr) (ca cl cu cs : Nat) (zs : List Z) (l : List OpS) (un sn : Nat) (w : World)
    (hA : Kd.C kZ w A zs.length zs) (hca : zs.length ≤ ca) (hL : Kd.C kOp w L l.length l) (hcl : l.length ≤ cl) (fz : voklaw9_FewZones.f 100 zs = some true) (ff : voklaw17_few.f 200 l = some true)
    (h1 : un ≤ 100) (h2 : sn ≤ 100) (k : Nat) (r : Bool) (hm : cal_May.f k n0 n1 zs lo hi = some r) (hno : (!r || (decide (node < 0) || decide (node ≥ n0))) = true) :
    Calls Tryz.prog 5 #[.agg #[.int .i64 n0, .int .i64 n1, .slice A zs.length ca, .int .i64 lo, .int .i64 hi], .int .i64 node, .slice L l.length cl, .int .i64 tx, .slice U un cu, .slice S sn cs] w (Done w) := by
  have HA := As.mk hA
  have HL := As.mk hL
  have Ff := As.mk ff
  have Fz := As.mk fz
  have Hm := As.mk hm
  have Hno := As.mk hno
  have d1 : decide ((100 : Int) < (un : Int)) = false := decide_eq_false (by omega)
  have d2 : decide ((100 : Int) < (sn : Int)) = false := decide_eq_false (by omega)
  clear hno hA hL ff fz hm h1 h2
  go_enter Tryz.func5, Tryz.ntmps5
  go_wp2_with fail
  obtain ⟨W0, hW0⟩ : ∃ W, W = w.alloc (.cells #[.int .i64 n0, .int .i64 n1, .slice A zs.length ca, .int .i64 lo, .int .i64 hi] 30) := ⟨_, rfl⟩
  rw [← hW0]
  obtain ⟨o0, b0, s0⟩ := opts_new hW0
  have HO := As.mk o0
  have Hb0 := As.mk b0
  have Hs0 := As.mk s0
  clear hW0 o0 b0 s0
  refine (first_calls _).mono ?_
  rintro e w1 ⟨rfl, hb1⟩
  have Hb1 := As.mk (below_then Hb0.out hb1)
  have HO1 := As.mk (OptsAt.below HO.out hb1 Hs0.out)
  have Hs1 := As.mk (Nat.lt_of_lt_of_le Hs0.out hb1.size)
  obtain ⟨q0, q1, q2, q3, q4⟩ := HO1.out
  clear hb1
  go_wp2_with fail
  refine (voklaw9_FewZones.calls 100 A ca zs _ w1 (Kd.C_below HA.out Hb1.out) hca Fz.out).mono ?_
  rintro e w2 ⟨rfl, hb2⟩
  have Hb2 := As.mk (below_then Hb1.out hb2)
  have HO2 := As.mk (OptsAt.below HO1.out hb2 Hs1.out)
  have Hs2 := As.mk (Nat.lt_of_lt_of_le Hs1.out hb2.size)
  clear hb2 q0 q1 q2 q3 q4
  go_wp2_with fail
  refine (voklaw17_few.calls 200 L cl l _ w2 (Kd.C_below HL.out Hb2.out) hcl Ff.out).mono ?_
  rintro e w3 ⟨rfl, hb3⟩
  have Hb3 := As.mk (below_then Hb2.out hb3)
  obtain ⟨q0, q1, q2, q3, q4⟩ := OptsAt.below HO2.out hb3 Hs2.out
  clear hb3
  go_wp2_with fail
  refine (New_no k r n0 n1 lo hi node A ca zs w3 (Kd.C_below HA.out Hb3.out) hca Hm.out Hno.out).mono ?_
  rintro e w4 ⟨rfl, hb4⟩
  have Hb4 := As.mk (below_then Hb3.out hb4)
  clear hb4
  go_wp2_with fail
  refine (first_calls _).mono ?_
  rintro e w5 ⟨rfl, hb5⟩
  have Hb5 := As.mk (below_then Hb4.out hb5)
  clear hb5
  go_wp2
  go_ret
  exact ⟨rfl, Hb5.out⟩
end Go.Proofs.YtioaingenooelaaGreat.Apart0
/-
  voklaw17.CalApart walked: a calendar is there.
-/
namespace Go.Proofs.YtioaingenooelaaGreat.ApartW
open Go.RowKit Go.Proofs.YtioaingenooelaaGreat.Wd Go.Proofs.YtioaingenooelaaGreat.Pure Go.Proofs.YtioaingenooelaaGreat.SetW Go.Proofs.YtioaingenooelaaGreat.CalOps Go.Proofs.YtioaingenooelaaGreat.CalAsk Go.Proofs.YtioaingenooelaaGreat.Check Go.Proofs.YtioaingenooelaaGreat.Neat Go.Proofs.YtioaingenooelaaGreat.Reserve Go.Proofs.YtioaingenooelaaGreat.Settle Go.Proofs.YtioaingenooelaaGreat.CalNew Go.Proofs.YtioaingenooelaaGreat.PlayP Go.Proofs.YtioaingenooelaaGreat.ReplP Go.Proofs.YtioaingenooelaaGreat.CalS Go.Proofs.YtioaingenooelaaGreat.PairC Go.Proofs.YtioaingenooelaaGreat.First Go.Proofs.YtioaingenooelaaGreat.Apart0 Go.Proofs.YtioaingenooelaaGreat.L
open Go.Proofs.YtioaingenooelaaGreat.OptsCopy (Z kZ)
open Go.Proofs.YtioaingenooelaaGreat.Tot (OpS SmallOp)
open Go.Proofs.YtioaingenooelaaGreatW.PrintWords (Kd)
set_option maxHeartbeats 16000000 in
set_option maxRecDepth 100000 in
theorem there (n0 lo hi node tx : Int) (n : Nat) (A L U S : Option Addr) (ca cl cu cs : Nat) (zs : List Z) (l : List OpS) (users : List Int) (spans : List Span) (w : World)
    (hA : Kd.C kZ w A zs.length zs) (hca : zs.length ≤ ca) (hL : Kd.C kOp w L l.length l) (hcl : l.length ≤ cl) (fz : voklaw9_FewZones.f 100 zs = some true) (ff : voklaw17_few.f 200 l = some true)
    (hU : Rd w 1 U users.length (fl1 users)) (hcu : users.length ≤ cu) (hS : Rd w 2 S spans.length (fl2 spans)) (hcs : spans.length ≤ cs) (h1 : users.length ≤ 100) (h2 : spans.length ≤ 100)
    (k : Nat) (hm : cal_May.f k n0 (n : Int) zs lo hi = some true) (hn0 : 1 ≤ n0) (hn : 0 < n) (hn2 : n ≤ 64) (hz : zs.length ≤ 16) (hf : OptsCopy.Few zs) (hnd : 0 ≤ node) (hnd2 : node < n0)
    (hll : l.length ≤ 100) (hsm : ∀ x ∈ l, SmallOp x) :
    Calls Tryz.prog 5 #[.agg #[.int .i64 n0, .int .i64 (n : Int), .slice A zs.length ca, .int .i64 lo, .int .i64 hi], .int .i64 node, .slice L l.length cl, .int .i64 tx, .slice U users.length cu, .slice S spans.length cs] w (Done w) := by
  have HA := As.mk hA
  have HL := As.mk hL
  have HU := As.mk hU
  have HS := As.mk hS
  have Ff := As.mk ff
  have Fz := As.mk fz
  have Hm := As.mk hm
  have Hf := As.mk hf
  have Hsm := As.mk hsm
  have d1 : decide ((100 : Int) < (users.length : Int)) = false := decide_eq_false (by omega)
  have d2 : decide ((100 : Int) < (spans.length : Int)) = false := decide_eq_false (by omega)
  clear hA hL ff fz hm hU hS hf hsm
  go_enter Tryz.func5, Tryz.ntmps5
  go_wp2_with fail
  obtain ⟨W0, hW0⟩ : ∃ W, W = w.alloc (.cells #[.int .i64 n0, .int .i64 (n : Int), .slice A zs.length ca, .int .i64 lo, .int .i64 hi] 30) := ⟨_, rfl⟩
  rw [← hW0]
  obtain ⟨o0, b0, s0⟩ := opts_new hW0
  have HO := As.mk o0
  have Hb0 := As.mk b0
  have Hs0 := As.mk s0
  clear hW0 o0 b0 s0
  refine (first_calls _).mono ?_
  rintro e w1 ⟨rfl, hb1⟩
  have Hb1 := As.mk (below_then Hb0.out hb1)
  have HO1 := As.mk (OptsAt.below HO.out hb1 Hs0.out)
  have Hs1 := As.mk (Nat.lt_of_lt_of_le Hs0.out hb1.size)
  obtain ⟨q0, q1, q2, q3, q4⟩ := HO1.out
  clear hb1
  go_wp2_with fail
  refine (voklaw9_FewZones.calls 100 A ca zs _ w1 (Kd.C_below HA.out Hb1.out) hca Fz.out).mono ?_
  rintro e w2 ⟨rfl, hb2⟩
  have Hb2 := As.mk (below_then Hb1.out hb2)
  have HO2 := As.mk (OptsAt.below HO1.out hb2 Hs1.out)
  have Hs2 := As.mk (Nat.lt_of_lt_of_le Hs1.out hb2.size)
  clear hb2 q0 q1 q2 q3 q4
  go_wp2_with fail
  refine (voklaw17_few.calls 200 L cl l _ w2 (Kd.C_below HL.out Hb2.out) hcl Ff.out).mono ?_
  rintro e w3 ⟨rfl, hb3⟩
  have Hb3 := As.mk (below_then Hb2.out hb3)
  have HO3 := As.mk (OptsAt.below HO2.out hb3 Hs2.out)
  have Hs3 := As.mk (Nat.lt_of_lt_of_le Hs2.out hb3.size)
  obtain ⟨q0, q1, q2, q3, q4⟩ := HO3.out
  clear hb3
  go_wp2_with fail
  refine (new_yes k n0 lo hi node n A ca zs w3 (Kd.C_below HA.out Hb3.out) hca Hm.out hn0 hn (by omega) hnd hnd2 (by omega) Hf.out).mono ?_
  rintro e w4 ⟨c, A4, c4, rfl, hS4, hc4, hb4⟩
  have HS4 := As.mk hS4
  have Hc4 := As.mk hc4
  have Hb4 := As.mk hb4
  have HO4 := As.mk (OptsAt.below HO3.out hb4 Hs3.out)
  clear hS4 hc4 hb4 q0 q1 q2 q3 q4
  go_wp2_with fail
  have Hb34 := As.mk (below_then Hb3.out Hb4.out)
  have Hlen : As ((newSt n0 node n).length = n) := ⟨newSt_len n0 node n⟩
  have Fu : As (∀ {A3 : Option Addr} {xs : List Value}, (xs ≠ [] → ∀ a, A3 = some a → a.block < w.heap.size) → xs ≠ [] → ∀ a, A3 = some a → a.block < w3.heap.size) := ⟨fun h hx a e => Nat.lt_of_lt_of_le (h hx a e) Hb3.out.size⟩
  obtain ⟨hd, hhd⟩ : ∃ hd : List Value, hd = [.int .i64 n0, .int .i64 (n : Int), .slice A4 zs.length c4, .int .i64 lo, .int .i64 hi, .int .i64 node] := ⟨_, rfl⟩
  have Hhd := As.mk hhd
  rw [← hhd] at HS4
  clear hhd
  go_loopw [15] (fun i wr => ∃ (j : Nat) (st : St), j ≤ l.length ∧ i = .int .i64 j ∧ As (Inv w3 c hd (newSt n0 node n) j wr st)) (fun i _ => l.length - (intOf i).toNat)
  case atStart => exact ⟨0, newSt n0 node n, Nat.zero_le _, rfl, ⟨⟨HS4.out, good_new n0 node n, fits_new n0 node n, rfl, Dom.refl _, Hb4.out⟩⟩⟩
  case round =>
    obtain ⟨j, st, hj, rfl, HI⟩ := hrel
    by_cases hlt : j < l.length
    · obtain ⟨x, hx0⟩ : ∃ x, l[j]? = some x := ⟨_, List.getElem?_eq_getElem hlt⟩
      obtain ⟨ad, A3, c3, A5, c5, sp, rfl, hspl, hcell, f3, f5⟩ := op_at HL.out hx0
      have Hx := Hsm.out x (List.mem_of_getElem? hx0)
      obtain ⟨hx3, hx4⟩ := Hx
      obtain ⟨g0, g1, g3, g4, r3, r4⟩ := hcell wr (below_then Hb3.out HI.out.below)
      have Hle := As.mk HI.out.below.size
      have F3 := As.mk (Fu.out f3)
      have F5 := As.mk (Fu.out f5)
      have R3 := As.mk r3
      have R4 := As.mk r4
      have Hst := As.mk (HI.out.len.trans Hlen.out)
      have hs4 : sp.length ≤ 1000 := by omega
      have Hmul := As.mk (Nat.mul_le_mul hx3 hs4)
      clear hcell f3 f5 hx0 r3 r4 hspl hx4
      by_cases k0 : x.f0 = 0
      · have HC : As (∀ W', Below wr.heap.size wr W' → Calls Tryz.prog 9 #[.pointer (some ⟨c, 0, none⟩), .int .i64 x.f1, .slice A3 x.f3.length c3, .slice A5 sp.length c5, .int .i64 0] W' (Turned w3.heap.size (.bool (takes st x.f1 x.f3 sp 0)) c hd (resA st x.f1 x.f3 sp 0) wr)) :=
          ⟨fun W' hW' => (reserve_any (B := w3.heap.size) (T := wr.heap.size) (M := 100000000) (HI.out.cal.below hW') (Nat.le_trans Hle.out hW'.size) (by rw [Hst.out]; omega) (HI.out.fitsA (by omega) (Nat.le_refl _)) HI.out.good (by have := Hmul.out; omega) (R3.out.belowS hW') (by omega) (R4.out.belowS hW') (by omega) F3.out F5.out).mono fun _ _ h => turned_from hW' Hle.out h⟩
        go_wp2_with fail
        have hbr := Below.refl wr.heap.size wr
        go_region_law (
          go_simp; go_at_call 9
          refine (HC.out _ (by repeat' (first | assumption | refine below_drew ?_ | refine below_drewN ?_ _))).mono ?_
          rintro e w5 hT
          have HT := As.mk hT
          have he := hT.1
          clear hT
          subst he)
        all_goals
          have HI2 := As.mk (HI.out.res hx3 hs4 HT.out)
          clear HT HC hbr
          go_wp2
          go_roundw
          case rel => exact ⟨j + 1, _, by omega, by go_num, HI2⟩
          case measure => simp [intOf]; omega
      by_cases k1 : x.f0 = 1
      · go_wp2_with fail
        refine (settle_c HI.out.cal Hle.out (by rw [Hst.out]; omega) (HI.out.fitsA (by omega) (by decide)) HI.out.good _).mono ?_
        rintro e w5 hT
        have HT := As.mk hT
        have he := hT.1
        subst he
        have HI2 := As.mk (HI.out.settle HT.out)
        clear HT hT
        go_wp2
        go_roundw
        case rel => exact ⟨j + 1, _, by omega, by go_num, HI2⟩
        case measure => simp [intOf]; omega
      by_cases k2 : x.f0 = 2
      · go_wp2_with fail
        refine (free_c HI.out.cal Hle.out (by rw [Hst.out]; omega) (HI.out.fitsA (by omega) (by decide)) _).mono ?_
        rintro e w5 hT
        have HT := As.mk hT
        have he := hT.1
        subst he
        have HI2 := As.mk (HI.out.free HT.out)
        clear HT hT
        go_wp2
        go_roundw
        case rel => exact ⟨j + 1, _, by omega, by go_num, HI2⟩
        case measure => simp [intOf]; omega
      by_cases k3 : x.f0 = 3
      · go_wp2_with fail
        refine (remove_c HI.out.cal Hle.out (by rw [Hst.out]; omega) (HI.out.fitsA (by omega) (by decide)) _).mono ?_
        rintro e w5 hT
        have HT := As.mk hT
        have he := hT.1
        subst he
        have HI2 := As.mk (HI.out.remove HT.out)
        clear HT hT
        go_wp2
        go_roundw
        case rel => exact ⟨j + 1, _, by omega, by go_num, HI2⟩
        case measure => simp [intOf]; omega
      · have HI2 := As.mk HI.out.skip
        go_wp2
        go_roundw
        case rel => exact ⟨j + 1, _, by omega, by go_num, HI2⟩
        case measure => simp [intOf]; omega
    · have HI' := HI.out
      have Hle := As.mk HI'.below.size
      have Hst := As.mk (HI'.len.trans Hlen.out)
      have Hg := As.mk HI'.good
      have Hf2 : As (∀ M, 100000000 ≤ M → FitsA M st) := ⟨fun M hM => HI'.fitsA (by omega) hM⟩
      have HcS : As (CalS w3.heap.size wr.heap.size wr c [.int .i64 n0, .int .i64 (n : Int), .slice A4 zs.length c4, .int .i64 lo, .int .i64 hi, .int .i64 node] st) := ⟨by rw [← Hhd.out]; exact HI'.cal⟩
      clear HI'
      go_wp2_with fail
      refine (copy_two HcS.out Hle.out (by rw [Hst.out]; omega) (Hf2.out _ (by decide))).mono ?_
      rintro e w5 ⟨d, rfl, hT5, hb5⟩
      rw [← Hhd.out] at hT5
      have HT5 := As.mk hT5
      have Hb5 : As (Below w3.heap.size w3 w5) := ⟨HI.out.below.trans (hb5.mono Hle.out)⟩
      have Hle5 := As.mk Hb5.out.size
      have Hw5 := As.mk (below_then Hb3.out Hb5.out)
      clear hT5 hb5 HcS
      go_wp2_with fail
      have hck := check_c (ca := cu) (cq := cs) (l := users) (sp := spans) (but := 0) HT5.out.left (by rw [Hst.out]; omega) (Hf2.out _ (by decide)) Hg.out (HU.out.belowS Hw5.out) (by omega) (HS.out.belowS Hw5.out) (by omega)
      have hval : ∃ t v : Value, checkV (checkA st users spans 0) = .tuple #[t, v, .bool (checkA st users spans 0).isSome] ∧ (∃ x y z : Int, t = .agg #[.int .i64 x, .int .i64 y, .int .i64 z]) := by
        cases hq : checkA st users spans 0 with
        | none => exact ⟨_, _, rfl, _, _, _, rfl⟩
        | some t => exact ⟨_, _, rfl, _, _, _, rfl⟩
      obtain ⟨tv, uv, hv, x1, x2, x3, rfl⟩ := hval
      rw [hv] at hck
      have Hck := As.mk hck
      clear hck hv
      obtain ⟨g, hg⟩ : ∃ g, g = (checkA st users spans 0).isSome := ⟨_, rfl⟩
      rw [← hg] at Hck
      have HG := As.mk hg
      clear hg
      refine Hck.out.mono ?_
      rintro e w6 ⟨rfl, hb6⟩
      have HT6 := As.mk (HT5.out.below hb6)
      have Hb6 : As (Below w3.heap.size w3 w6) := ⟨below_then Hb5.out hb6⟩
      clear hb6 Hck HT5
      cases hok : takes st tx users spans 0 with
      | true =>
        have htx := (takes_tx hok).1
        have hg0 : g = false := by
          rw [HG.out]
          unfold takes at hok
          simp only [Bool.not_eq_true', Bool.or_eq_false_iff] at hok
          exact hok.1
        have hno : ((checkA st users spans 0).isSome || (decide (tx < 1) || hasA st tx)) = false := by
          unfold takes at hok
          simpa using hok
        have Hok := As.mk hok
        have Hno := As.mk hno
        have dtx : decide (tx < 1) = false := decide_eq_false (by omega)
        clear hok hno htx
        subst hg0
        go_wp2_with fail
        obtain ⟨W6, hW6⟩ : ∃ W, W = w6.alloc (.cells #[.int .i64 x1, .int .i64 x2, .int .i64 x3] 38) := ⟨_, rfl⟩
        have bW6 : Below w6.heap.size w6 W6 := by rw [hW6]; exact below_allocS (Below.refl _ _) _
        rw [← hW6]
        have HFU := As.mk (Fu.out (row_low HU.out))
        have HFS := As.mk (Fu.out (row_low HS.out))
        have HTW := As.mk (HT6.out.below bW6)
        have HbW : As (Below w3.heap.size w3 W6) := ⟨below_then Hb6.out bW6⟩
        have HwW := As.mk (below_then Hb3.out HbW.out)
        have Hmul := As.mk (Nat.mul_le_mul h1 h2)
        clear bW6 hW6
        refine (reserve_left (M := 100000000) HTW.out HbW.out.size (by rw [Hst.out]; omega) (Hf2.out _ (Nat.le_refl _)) Hg.out (by have := Hmul.out; omega) (HU.out.belowS HwW.out) (by omega) (HS.out.belowS HwW.out) (by omega) HFU.out HFS.out Hno.out).mono ?_
        rintro e w7 ⟨rfl, hT7, hb7⟩
        have HT7 := As.mk hT7
        have Hb7 : As (Below w3.heap.size w3 w7) := ⟨HbW.out.trans hb7⟩
        clear hT7 hb7 HTW HT6
        have HfR : As (FitsA 200000000 (resL st users spans tx)) := ⟨fun k p hp => by have := (resL_inv spans tx users st 100000000 Hg.out (Hf2.out _ (Nat.le_refl _))).2.1 k p hp; have := Hmul.out; omega⟩
        have HlR : As ((resL st users spans tx).length = n) := ⟨(resL_inv spans tx users st 100000000 Hg.out (Hf2.out _ (Nat.le_refl _))).2.2.trans Hst.out⟩
        go_wp2_with fail
        refine (free_left HT7.out Hb7.out.size (by rw [HlR.out]; omega) (fun k p hp => by have := HfR.out k p hp; omega) tx).mono ?_
        rintro e w8 ⟨rfl, hT8, hb8⟩
        have HfF : As (FitsA 200000000 (freeA (resL st users spans tx) tx)) := ⟨fits_free tx HfR.out⟩
        have HlF : As ((freeA (resL st users spans tx) tx).length = n) := ⟨(List.length_map _).trans HlR.out⟩
        have Hsame : As (∀ v, getA (freeA (resL st users spans tx) tx) v = getA st v) := ⟨fun v => res_free Hg.out Hok.out v⟩
        have HO5 : As (∀ W, Below w3.heap.size w3 W → W.cell? ⟨w.heap.size, 1, none⟩ = some (.int .i64 (n : Int))) := ⟨fun W hW => (OptsAt.below HO3.out hW Hs3.out).2.1⟩
        have HO7 : As (∀ W, Below w3.heap.size w3 W → OptsAt w.heap.size n0 (n : Int) lo hi A zs.length ca W) := ⟨fun W hW => OptsAt.below HO3.out hW Hs3.out⟩
        obtain ⟨sF, hsF⟩ : ∃ sF, sF = freeA (resL st users spans tx) tx := ⟨_, rfl⟩
        rw [← hsF] at HfF HlF Hsame hT8
        have HT8 := As.mk hT8
        have Hb8 : As (Below w3.heap.size w3 w8) := ⟨Hb7.out.trans hb8⟩
        clear hT8 hb8 HT7 hsF
        go_wp2_with fail
        go_loopw [21] (fun i wr => ∃ m : Nat, m ≤ n ∧ i = .int .i64 m ∧ As (Two w3.heap.size wr c hd sF d hd st) ∧ As (Below w3.heap.size w3 wr)) (fun i _ => n - (intOf i).toNat)
        case atStart => exact ⟨0, Nat.zero_le _, rfl, HT8, Hb8⟩
        case round =>
          obtain ⟨m, hm, rfl, HTm, Hbm⟩ := hrel
          have q1 := HO5.out _ Hbm.out
          by_cases hlt : m < n
          · go_wp2_with fail
            obtain ⟨er, hb⟩ := busy_any HTm.out.left (by rw [HlF.out]; omega) (fun k p hp => by have := HfF.out k p hp; omega) (m : Int) 0 100
            have HB := As.mk hb
            clear hb
            refine HB.out.mono ?_
            rintro e w9 ⟨v9, rfl, hown9, hb9⟩
            obtain ⟨A9, c9, rfl, hc9, _⟩ := own_form hown9
            obtain ⟨bl, hbl⟩ : ∃ bl, bl = busyL sF (m : Int) 0 100 := ⟨_, rfl⟩
            have Hbl : As (busyL st (m : Int) 0 100 = bl) := ⟨by rw [hbl]; exact (busyL_same (Hsame.out _)).symm⟩
            have hbll : bl.length ≤ 200000000 := by rw [hbl]; exact busyL_le HfF.out _ _ _
            rw [← hbl] at hown9 hc9 ⊢
            have Hr9 := As.mk (Rd.of_own hown9)
            have HT9 := As.mk (HTm.out.below hb9)
            have Hb9 : As (Below w3.heap.size w3 w9) := ⟨below_then Hbm.out hb9⟩
            clear hown9 hb9 HB hbl
            go_wp2_with fail
            obtain ⟨er2, hb⟩ := busy_any HT9.out.right (by rw [Hst.out]; omega) (Hf2.out _ (by decide)) (m : Int) 0 100
            rw [Hbl.out] at hb
            have HB := As.mk hb
            clear hb
            refine HB.out.mono ?_
            rintro e w10 ⟨v10, rfl, hown10, hb10⟩
            obtain ⟨A10, c10, rfl, hc10, _⟩ := own_form hown10
            have Hr10 := As.mk (Rd.of_own hown10)
            have Hr9' := As.mk (Hr9.out.belowS hb10)
            have HT10 := As.mk (HT9.out.below hb10)
            have Hb10 : As (Below w3.heap.size w3 w10) := ⟨below_then Hb9.out hb10⟩
            clear hown10 hb10 HB HT9 Hr9
            go_wp2_with fail
            have how := owners_any HT10.out.left (by rw [HlF.out]; omega) (fun k p hp => by have := HfF.out k p hp; omega) (m : Int)
            have HW := As.mk how
            clear how
            refine HW.out.mono ?_
            rintro e w11 ⟨v11, u11, rfl, hv11, hu11, hb11⟩
            obtain ⟨A11, c11, rfl, _, _⟩ := own_form hv11
            obtain ⟨B11, d11, rfl, hd11, _⟩ := own_form hu11
            obtain ⟨ol, hol⟩ : ∃ ol, ol = own2 sF (m : Int) := ⟨_, rfl⟩
            have Hol : As (own2 st (m : Int) = ol) := ⟨by rw [hol]; exact (own2_same (Hsame.out _)).symm⟩
            have holl : ol.length ≤ 200000000 := by rw [hol]; exact own2_le HfF.out _
            rw [← hol] at hu11 hd11 ⊢
            have Hu11 := As.mk (Rd.of_own hu11)
            have Hr9 := As.mk (Hr9'.out.belowS hb11)
            have Hr10' := As.mk (Hr10.out.belowS hb11)
            have HT11 := As.mk (HT10.out.below hb11)
            have Hb11 : As (Below w3.heap.size w3 w11) := ⟨below_then Hb10.out hb11⟩
            clear hv11 hu11 hb11 HW HT10 Hr10 Hr9' hol
            go_wp2_with fail
            have how := owners_any HT11.out.right (by rw [Hst.out]; omega) (Hf2.out _ (by decide)) (m : Int)
            rw [Hol.out] at how
            have HW := As.mk how
            clear how
            refine HW.out.mono ?_
            rintro e w12 ⟨v12, u12', rfl, hv12, hu12, hb12⟩
            obtain ⟨A12, c12, rfl, _, _⟩ := own_form hv12
            obtain ⟨B12, d12, rfl, hd12, _⟩ := own_form hu12
            have Hu12 := As.mk (Rd.of_own hu12)
            have Hu11' := As.mk (Hu11.out.belowS hb12)
            have Hr9' := As.mk (Hr9.out.belowS hb12)
            have Hr10 := As.mk (Hr10'.out.belowS hb12)
            have HT12 := As.mk (HT11.out.below hb12)
            have Hb12 : As (Below w3.heap.size w3 w12) := ⟨below_then Hb11.out hb12⟩
            clear hv12 hu12 hb12 HW HT11 Hr10' Hr9 Hu11
            go_wp2_with fail
            refine (Same.Spans_true bl (by omega) A9 A10 c9 c10 _ Hr9'.out hc9 Hr10.out hc10).mono ?_
            rintro e w13 ⟨rfl, hb13⟩
            have Hu12' := As.mk (Hu12.out.belowS hb13)
            have Hu11 := As.mk (Hu11'.out.belowS hb13)
            have HT13 := As.mk (HT12.out.below hb13)
            have Hb13 : As (Below w3.heap.size w3 w13) := ⟨below_then Hb12.out hb13⟩
            clear hb13 HT12 Hr9' Hr10 Hu11' Hu12
            go_wp2_with fail
            refine (Same.Ints_true ol (by omega) B11 B12 d11 d12 _ Hu11.out hd11 Hu12'.out hd12).mono ?_
            rintro e w14 ⟨rfl, hb14⟩
            have HT14 := As.mk (HT13.out.below hb14)
            have Hb14 : As (Below w3.heap.size w3 w14) := ⟨below_then Hb13.out hb14⟩
            clear hb14 HT13 Hu11 Hu12'
            go_wp2
            go_roundw
            case rel => exact ⟨m + 1, by omega, by go_num, HT14, Hb14⟩
            case measure => simp [intOf]; omega
          · go_wp2_with fail
            have HwM := As.mk (below_then Hb3.out Hbm.out)
            refine (reserve_yes (B := w3.heap.size) (M := 100000000) HTm.out.right Hbm.out.size (by rw [Hst.out]; omega) (Hf2.out _ (Nat.le_refl _)) Hg.out (by have := Hmul.out; omega) (HU.out.belowS HwM.out) (by omega) (HS.out.belowS HwM.out) (by omega) (fun hx a e => .inl (HFU.out hx a e)) (fun hx a e => .inl (HFS.out hx a e)) Hno.out).mono ?_
            rintro e w9 ⟨rfl, hS9, hb9⟩
            have HS9 := As.mk hS9
            have Hb9 : As (Below w3.heap.size w3 w9) := ⟨Hbm.out.trans hb9⟩
            clear hS9 hb9 q1 HTm
            go_wp2_with fail
            refine (settle_c HS9.out Hb9.out.size (by rw [HlR.out]; omega) (fun k p hp => by have := HfR.out k p hp; omega) (resL_inv spans tx users st 100000000 Hg.out (Hf2.out _ (Nat.le_refl _))).1 tx).mono ?_
            rintro e w10 ⟨rfl, hS10, hb10⟩
            have HlD : As ((settleA (resL st users spans tx) tx).length = n) := ⟨(List.length_map _).trans HlR.out⟩
            have HfD : As (FitsA 1000000000 (settleA (resL st users spans tx) tx)) := ⟨fun k p hp => by have := fits_settle tx HfR.out k p hp; omega⟩
            have HD : As (∀ u : Nat, u < n → decide (tx ∈ own1 (settleA (resL st users spans tx) tx) (u : Int)) = (decide ((u : Int) ∈ users) && (isHome n0 node u && decide (0 < (norm spans).length))) ∧ decide (tx ∈ own2 (settleA (resL st users spans tx) tx) (u : Int)) = false) := ⟨fun u hu => settled_own HI.out.dom Hg.out Hok.out hu⟩
            obtain ⟨sD, hsD⟩ : ∃ sD, sD = settleA (resL st users spans tx) tx := ⟨_, rfl⟩
            rw [← hsD] at HlD HfD HD hS10
            have HS10 := As.mk hS10
            have Hb10 : As (Below w3.heap.size w3 w10) := ⟨Hb9.out.trans hb10⟩
            have Hw10 := As.mk (below_then Hb3.out Hb10.out)
            clear hS10 hb10 hsD HS9
            go_wp2_with fail
            refine (RefNorm.RefNorm_calls S cs spans _ (HS.out.belowS Hw10.out) (by omega)).mono ?_
            rintro e w11 ⟨v11, rfl, hown11, hb11⟩
            obtain ⟨A11, c11, rfl, hc11, _⟩ := own_form hown11
            have hnl : (norm spans).length ≤ 100 := Nat.le_trans (norm_le _) h2
            obtain ⟨nn, hnn⟩ : ∃ nn, nn = norm spans := ⟨_, rfl⟩
            rw [← hnn] at HD hnl ⊢
            have HS11 := As.mk (HS10.out.below hb11)
            have Hb11 : As (Below w3.heap.size w3 w11) := ⟨below_then Hb10.out hb11⟩
            clear hown11 hc11 hb11 HS10 hnn
            go_wp2_with fail
            go_loopw [31] (fun i wr => ∃ m : Nat, m ≤ n ∧ i = .int .i64 m ∧ As (CalS w3.heap.size wr.heap.size wr d hd sD) ∧ As (Below w3.heap.size w3 wr)) (fun i _ => n - (intOf i).toNat)
            case atStart => exact ⟨0, Nat.zero_le _, rfl, ⟨HS11.out.lift⟩, Hb11⟩
            case round =>
              obtain ⟨m, hm, rfl, HSm, Hbm⟩ := hrel
              have q1 := HO5.out _ Hbm.out
              by_cases hlt : m < n
              · go_wp2_with fail
                have how := owners_any HSm.out (by rw [HlD.out]; omega) (fun k p hp => by have := HfD.out k p hp; omega) (m : Int)
                have HW := As.mk how
                clear how
                refine HW.out.mono ?_
                rintro e w12 ⟨v12, u12', rfl, hv12, hu12, hb12⟩
                obtain ⟨A12, c12, rfl, hc12, _⟩ := own_form hv12
                obtain ⟨B12, d12, rfl, hd12, _⟩ := own_form hu12
                have hD := HD.out m hlt
                have hl1 : (own1 sD (m : Int)).length ≤ 1000000000 := own1_le HfD.out _
                have hl2 : (own2 sD (m : Int)).length ≤ 1000000000 := own2_le HfD.out _
                obtain ⟨ol1, hol1⟩ : ∃ ol, ol = own1 sD (m : Int) := ⟨_, rfl⟩
                obtain ⟨ol2, hol2⟩ : ∃ ol, ol = own2 sD (m : Int) := ⟨_, rfl⟩
                rw [← hol1] at hv12 hc12 hD hl1 ⊢
                rw [← hol2] at hu12 hd12 hD hl2 ⊢
                have HD1 := As.mk hD.1
                have HD2 := As.mk hD.2
                have Hv12 := As.mk (Rd.of_own hv12)
                have Hu12 := As.mk (Rd.of_own hu12)
                have HS12 := As.mk (HSm.out.below hb12)
                have Hb12 : As (Below w3.heap.size w3 w12) := ⟨below_then Hbm.out hb12⟩
                have Hw12 := As.mk (below_then Hb3.out Hb12.out)
                clear hv12 hu12 hb12 HW HSm hol1 hol2 hD q1
                go_wp2_with fail
                have hHas := Same.Has_calls users (m : Int) (by omega) U cu w12 (HU.out.belowS Hw12.out) hcu
                obtain ⟨b1, hb1⟩ : ∃ b1, b1 = decide ((m : Int) ∈ users) := ⟨_, rfl⟩
                rw [← hb1] at hHas HD1
                have HH := As.mk hHas
                clear hHas hb1
                refine HH.out.mono ?_
                rintro e w13 ⟨rfl, hb13⟩
                have Hb13 := As.mk hb13
                clear hb13 HH
                cases b1 with
                | false =>
                  go_wp2_with fail
                  have h := Same.Has_calls ol1 tx (by omega) A12 c12 w13 (Hv12.out.belowS Hb13.out) hc12
                  rw [show decide (tx ∈ ol1) = false from by rw [HD1.out]; rfl] at h
                  have HH := As.mk h
                  clear h
                  refine HH.out.mono ?_
                  rintro e w15 ⟨rfl, hb15⟩
                  have Hb15 := As.mk (below_then Hb13.out hb15)
                  clear hb15 HH
                  go_wp2_with fail
                  have h := Same.Has_calls ol2 tx (by omega) B12 d12 w15 (Hu12.out.belowS Hb15.out) hd12
                  rw [HD2.out] at h
                  have HH := As.mk h
                  clear h
                  refine HH.out.mono ?_
                  rintro e w16 ⟨rfl, hb16⟩
                  have Hb16 := As.mk (below_then Hb15.out hb16)
                  have HS16 := As.mk (HS12.out.below Hb16.out).lift
                  have Hb3' : As (Below w3.heap.size w3 w16) := ⟨below_then Hb12.out Hb16.out⟩
                  clear hb16 HH
                  go_wp2
                  go_roundw
                  case rel => exact ⟨m + 1, by omega, by go_num, HS16, Hb3'⟩
                  case measure => simp [intOf]; omega
                | true =>
                  obtain ⟨q0, q1, q2, q3, q4⟩ := HO7.out w13 (below_then Hb12.out Hb13.out)
                  have hhome := cal_Home.calls n0 (n : Int) A ca zs lo hi (m : Int) (Int.tmod (m : Int) n0) w13 (Kd.C_below HA.out (below_then Hw12.out Hb13.out)) hca (home_f n0 (n : Int) lo hi zs m hn0 (by omega))
                  obtain ⟨hr, hhr⟩ : ∃ hr, hr = Int.tmod (m : Int) n0 := ⟨_, rfl⟩
                  have HK : As (isHome n0 node m = (hr == node)) := ⟨by rw [hhr]; rfl⟩
                  rw [← hhr] at hhome
                  rw [HK.out] at HD1
                  clear hhr HK
                  have HM := As.mk hhome
                  clear hhome
                  go_wp2_with fail
                  refine HM.out.mono ?_
                  rintro e w14 ⟨rfl, hb14⟩
                  have Hb14 := As.mk (below_then Hb13.out hb14)
                  clear hb14 HM q0 q1 q2 q3 q4
                  by_cases k2 : hr = node
                  · rw [beq_iff_eq.2 k2] at HD1
                    by_cases k3 : 0 < nn.length
                    · have dz : decide ((0 : Int) < (nn.length : Int)) = true := decide_eq_true (by omega)
                      rw [decide_eq_true k3] at HD1
                      go_wp2_with fail
                      have h := Same.Has_calls ol1 tx (by omega) A12 c12 w14 (Hv12.out.belowS Hb14.out) hc12
                      rw [show decide (tx ∈ ol1) = true from by rw [HD1.out]; rfl] at h
                      have HH := As.mk h
                      clear h
                      refine HH.out.mono ?_
                      rintro e w15 ⟨rfl, hb15⟩
                      have Hb15 := As.mk (below_then Hb14.out hb15)
                      clear hb15 HH
                      go_wp2_with fail
                      have h := Same.Has_calls ol2 tx (by omega) B12 d12 w15 (Hu12.out.belowS Hb15.out) hd12
                      rw [HD2.out] at h
                      have HH := As.mk h
                      clear h
                      refine HH.out.mono ?_
                      rintro e w16 ⟨rfl, hb16⟩
                      have Hb16 := As.mk (below_then Hb15.out hb16)
                      have HS16 := As.mk (HS12.out.below Hb16.out).lift
                      have Hb3' : As (Below w3.heap.size w3 w16) := ⟨below_then Hb12.out Hb16.out⟩
                      clear hb16 HH
                      go_wp2
                      go_roundw
                      case rel => exact ⟨m + 1, by omega, by go_num, HS16, Hb3'⟩
                      case measure => simp [intOf]; omega
                    · have dz : decide ((0 : Int) < (nn.length : Int)) = false := decide_eq_false (by omega)
                      rw [decide_eq_false k3] at HD1
                      go_wp2_with fail
                      have h := Same.Has_calls ol1 tx (by omega) A12 c12 w14 (Hv12.out.belowS Hb14.out) hc12
                      rw [show decide (tx ∈ ol1) = false from by rw [HD1.out]; rfl] at h
                      have HH := As.mk h
                      clear h
                      refine HH.out.mono ?_
                      rintro e w15 ⟨rfl, hb15⟩
                      have Hb15 := As.mk (below_then Hb14.out hb15)
                      clear hb15 HH
                      go_wp2_with fail
                      have h := Same.Has_calls ol2 tx (by omega) B12 d12 w15 (Hu12.out.belowS Hb15.out) hd12
                      rw [HD2.out] at h
                      have HH := As.mk h
                      clear h
                      refine HH.out.mono ?_
                      rintro e w16 ⟨rfl, hb16⟩
                      have Hb16 := As.mk (below_then Hb15.out hb16)
                      have HS16 := As.mk (HS12.out.below Hb16.out).lift
                      have Hb3' : As (Below w3.heap.size w3 w16) := ⟨below_then Hb12.out Hb16.out⟩
                      clear hb16 HH
                      go_wp2
                      go_roundw
                      case rel => exact ⟨m + 1, by omega, by go_num, HS16, Hb3'⟩
                      case measure => simp [intOf]; omega
                  · rw [beq_false_of_ne k2] at HD1
                    go_wp2_with fail
                    have h := Same.Has_calls ol1 tx (by omega) A12 c12 w14 (Hv12.out.belowS Hb14.out) hc12
                    rw [show decide (tx ∈ ol1) = false from by rw [HD1.out]; rfl] at h
                    have HH := As.mk h
                    clear h
                    refine HH.out.mono ?_
                    rintro e w15 ⟨rfl, hb15⟩
                    have Hb15 := As.mk (below_then Hb14.out hb15)
                    clear hb15 HH
                    go_wp2_with fail
                    have h := Same.Has_calls ol2 tx (by omega) B12 d12 w15 (Hu12.out.belowS Hb15.out) hd12
                    rw [HD2.out] at h
                    have HH := As.mk h
                    clear h
                    refine HH.out.mono ?_
                    rintro e w16 ⟨rfl, hb16⟩
                    have Hb16 := As.mk (below_then Hb15.out hb16)
                    have HS16 := As.mk (HS12.out.below Hb16.out).lift
                    have Hb3' : As (Below w3.heap.size w3 w16) := ⟨below_then Hb12.out Hb16.out⟩
                    clear hb16 HH
                    go_wp2
                    go_roundw
                    case rel => exact ⟨m + 1, by omega, by go_num, HS16, Hb3'⟩
                    case measure => simp [intOf]; omega
              · go_wp2_with fail
                refine (first_calls _).mono ?_
                rintro e w12 ⟨rfl, hb12⟩
                have hfin := below_then (below_then Hb3.out Hbm.out) hb12
                clear hb12
                go_wp2
                go_ret
                exact ⟨rfl, hfin⟩
      | false =>
        have hno : ((checkA st users spans 0).isSome || (decide (tx < 1) || hasA st tx)) = true := by
          unfold takes at hok
          cases hb : ((checkA st users spans 0).isSome || (decide (tx < 1) || hasA st tx)) with
          | true => rfl
          | false => rw [hb] at hok; cases hok
        have Hno := As.mk hno
        clear hok hno
        go_wp2_with fail
        obtain ⟨W6, hW6⟩ : ∃ W, W = w6.alloc (.cells #[.int .i64 x1, .int .i64 x2, .int .i64 x3] 38) := ⟨_, rfl⟩
        have bW6 : Below w6.heap.size w6 W6 := by rw [hW6]; exact below_allocS (Below.refl _ _) _
        rw [← hW6]
        have HTW := As.mk (HT6.out.below bW6)
        have HbW : As (Below w3.heap.size w3 W6) := ⟨below_then Hb6.out bW6⟩
        have HwW := As.mk (below_then Hb3.out HbW.out)
        clear bW6 hW6
        refine (reserve_no HTW.out.left (by rw [Hst.out]; omega) (Hf2.out _ (by decide)) Hg.out (HU.out.belowS HwW.out) (by omega) (HS.out.belowS HwW.out) (by omega) Hno.out).mono ?_
        rintro e w7 ⟨rfl, hb7⟩
        have HT7 := As.mk (HTW.out.below hb7)
        have Hb7 : As (Below w3.heap.size w3 w7) := ⟨below_then HbW.out hb7⟩
        clear hb7 HTW HT6
        go_wp2_with fail
        refine (free_left HT7.out Hb7.out.size (by rw [Hst.out]; omega) (Hf2.out _ (by decide)) tx).mono ?_
        rintro e w8 ⟨rfl, hT8, hb8⟩
        have HT8 := As.mk hT8
        have Hb8 : As (Below w3.heap.size w3 w8) := ⟨Hb7.out.trans hb8⟩
        have HO5 : As (∀ W, Below w3.heap.size w3 W → W.cell? ⟨w.heap.size, 1, none⟩ = some (.int .i64 (n : Int))) := ⟨fun W hW => (OptsAt.below HO3.out hW Hs3.out).2.1⟩
        clear hT8 hb8 HT7
        go_wp2_with fail
        go_loopw [21] (fun i wr => i = .int .i64 0 ∧ wr = w8) (fun _ _ => 0)
        case atStart => exact ⟨rfl, rfl⟩
        case round =>
          obtain ⟨rfl, rfl⟩ := hrel
          have q1 := HO5.out _ Hb8.out
          go_wp2_with fail
          refine (settle_c HT8.out.right Hb8.out.size (by rw [Hst.out]; omega) (Hf2.out _ (by decide)) Hg.out tx).mono ?_
          rintro e w9 ⟨rfl, hS9, hb9⟩
          have Hb9 : As (Below w3.heap.size w3 w9) := ⟨Hb8.out.trans hb9⟩
          have Hw9 := As.mk (below_then Hb3.out Hb9.out)
          clear hS9 hb9 q1
          go_wp2_with fail
          refine (RefNorm.RefNorm_calls S cs spans _ (HS.out.belowS Hw9.out) (by omega)).mono ?_
          rintro e w11 ⟨v11, rfl, hown11, hb11⟩
          have Hb11 : As (Below w3.heap.size w3 w11) := ⟨below_then Hb9.out hb11⟩
          clear hown11 hb11
          go_wp2_with fail
          go_loopw [31] (fun i wr => i = .int .i64 0 ∧ wr = w11) (fun _ _ => 0)
          case atStart => exact ⟨rfl, rfl⟩
          case round =>
            obtain ⟨rfl, rfl⟩ := hrel
            have q1 := HO5.out _ Hb11.out
            go_wp2_with fail
            refine (first_calls _).mono ?_
            rintro e w12 ⟨rfl, hb12⟩
            have hfin := below_then (below_then Hb3.out Hb11.out) hb12
            clear hb12
            go_wp2
            go_ret
            exact ⟨rfl, hfin⟩
end Go.Proofs.YtioaingenooelaaGreat.ApartW
/-
  Arguments opened to rows of the printed texts' kinds.
-/
namespace Go.Proofs.YtioaingenooelaaGreat.Opens
open Go.RowKit Go.Proofs.YtioaingenooelaaGreatW.PrintWords Go.Proofs.YtioaingenooelaaGreat.Wd Go.Proofs.YtioaingenooelaaGreat.L Go.Proofs.YtioaingenooelaaGreat.Kds
open Go.ChangeShapes Go.WideShapes Go.Deep

section
variable {H : Type} {enc : TypeId × Value → H} {P : Program} {w : World} {base : Nat} {spare : Nat → Bool} {held : Bool}
/-- What reads as a datum of this type is of this kind. -/
def Opens {α : Type} (enc : TypeId × Value → H) (P : Program) (w : World) (base : Nat) (spare : Nat → Bool) (held : Bool) (t : TypeId) (d : Kd α) : Prop :=
  ∀ (fuel : Nat) (cs : List Value) (x : DataW H × List MemPlace), DataW.trod enc P w base spare held fuel t cs = some x → ∃ v, d.K w v cs
theorem opens_int {t : TypeId} {k : IntKind} (ht : P.underlying t = some (.int k)) : Opens enc P w base spare held t (Kd.int k) := by
  intro fuel cs x h
  obtain ⟨n, rfl, _, _⟩ := DataW.trod_int ht h
  exact ⟨n, rfl⟩
theorem list_of {α : Type} (p : Nat → α → Prop) : ∀ n : Nat, (∀ i, i < n → ∃ v, p i v) → ∃ l : List α, l.length = n ∧ ∀ (i : Nat) (v : α), l[i]? = some v → p i v
  | 0, _ => ⟨[], rfl, fun i v h => by simp at h⟩
  | n + 1, h => by
    obtain ⟨l, hl, hp⟩ := list_of p n fun i hi => h i (by omega)
    obtain ⟨v, hv⟩ := h n (by omega)
    refine ⟨l ++ [v], by simp [hl], fun i u hu => ?_⟩
    rcases Nat.lt_or_ge i n with hi | hi
    · rw [List.getElem?_append_left (by omega)] at hu
      exact hp i u hu
    · rw [List.getElem?_append_right (by omega)] at hu
      have : i - l.length = 0 := by
        rcases Nat.eq_zero_or_pos (i - l.length) with h0 | h0
        · exact h0
        · rw [List.getElem?_eq_none (by simp; omega)] at hu; cases hu
      rw [this] at hu
      have e : v = u := by simpa using hu
      subst e
      have : i = n := by omega
      subst this
      exact hv
theorem opens_slice {α : Type} {d : Kd α} {t e : TypeId} (ht : P.underlying t = some (.slice e)) (hd : Opens enc P w base spare held e d) (hsz : P.cellsOf e = d.sz) : Opens enc P w base spare held t (Kd.slice e d) := by
  intro fuel cs x h
  rcases open_slice ht h with ⟨rfl, _⟩ | ⟨a, len, cap, m, n, D, Pl, rfl, hb, hl, hm, hmm, _, hx⟩
  · exact ⟨[], none, 0, rfl, Nat.le_refl _, rfl, Nat.zero_le _, fun h => absurd h (by simp)⟩
  · have hlm : len ≤ m := by rw [hmm]; split <;> omega
    obtain ⟨l, hll, hp⟩ := list_of (fun i v => ∃ c : List Value, c.length = d.sz ∧ d.K w v c ∧ ∀ (j : Nat) (u : Value), c[j]? = some u → w.cell? (a.add (i * d.sz + j)) = some u) len (fun i hi => by
      obtain ⟨cs', h1, h2⟩ := hx i (by omega)
      obtain ⟨v, hv⟩ := hd n cs' _ h2
      obtain ⟨_, hcl, hat⟩ := World.cells?_some h1
      rw [hsz] at hcl hat h1
      refine ⟨v, cs', hcl, hv, fun j u hu => ?_⟩
      have hj : j < d.sz := by have := (List.getElem?_eq_some_iff.1 hu).1; omega
      have h3 := hat j hj
      rw [hu, add_of_add] at h3
      exact h3)
    refine ⟨l, some a, cap, by rw [hll], by omega, rfl, ?_, fun _ => ⟨a, rfl, hp⟩⟩
    unfold maxLen at hm
    omega
theorem opens_pair {α β : Type} {a : Kd α} {b : Kd β} {cs : List Value} (s : Nat) (ha : ∃ v, a.K w v (cs.take s)) (hb : ∃ v, b.K w v (cs.drop s)) : ∃ v, (Kd.pair a b).K w v cs := by
  obtain ⟨x, hx⟩ := ha
  obtain ⟨y, hy⟩ := hb
  exact ⟨(x, y), _, _, (List.take_append_drop s cs).symm, hx, hy⟩
theorem opens_iso {α β : Type} {d : Kd α} {f : β → α} {cs : List Value} (hf : ∀ v, ∃ x, f x = v) (h : ∃ v, d.K w v cs) : ∃ x, (Kd.iso d f).K w x cs := by
  obtain ⟨v, hv⟩ := h
  obtain ⟨x, rfl⟩ := hf v
  exact ⟨x, hv⟩
theorem last_field {cs : List Value} {o s : Nat} (h : cs.length = o + s) : (cs.drop o).take s = cs.drop o := List.take_of_length_le (by rw [List.length_drop]; omega)
theorem field_of {α : Type} {d : Kd α} {fs : Array Field} {n : Nat} {cs : List Value} {xs : List (DataW H × List MemPlace)} (hf : ∀ (i : Nat) (f : Field), fs[i]? = some f → DataW.trod enc P w base spare held n f.type ((cs.drop f.offset).take (P.cellsOf f.type)) = xs[i]?) (hl : xs.length = fs.size)
    (i : Nat) (f : Field) (hi : fs[i]? = some f) (hd : Opens enc P w base spare held f.type d) (hsz : P.cellsOf f.type = d.sz) : ∃ v, d.K w v ((cs.drop f.offset).take d.sz) := by
  have h := hf i f hi
  have hil : i < xs.length := by have := (Array.getElem?_eq_some_iff.1 hi).1; omega
  rw [List.getElem?_eq_getElem hil, hsz] at h
  exact hd n _ _ h
end
section
variable {H : Type} {enc : TypeId × Value → H} {w : World} {base : Nat} {spare : Nat → Bool} {held : Bool}
theorem opens_i64 : Opens enc Tryz.prog w base spare held 3 (Kd.int .i64) := opens_int Tryz.underlying3
theorem opens_span : Opens enc Tryz.prog w base spare held 36 k36 := by
  intro fuel cs x h
  obtain ⟨xs, n, _, _, hcl, hxl, hf⟩ := DataW.trod_struct Tryz.underlying36 h
  have hc : cs.length = 2 := hcl.trans (by kernel_rfl)
  refine opens_iso (fun v => ⟨⟨v.1, v.2⟩, rfl⟩) (opens_pair 1 (field_of hf hxl 0 _ rfl opens_i64 (by kernel_rfl)) ?_)
  rw [← last_field (s := 1) hc]
  exact field_of hf hxl 1 _ rfl opens_i64 (by kernel_rfl)
theorem opens_shift : Opens enc Tryz.prog w base spare held 110 k110 := by
  intro fuel cs x h
  obtain ⟨xs, n, _, _, hcl, hxl, hf⟩ := DataW.trod_struct Tryz.underlying110 h
  have hc : cs.length = 2 := hcl.trans (by kernel_rfl)
  refine opens_iso (fun v => ⟨⟨v.1, v.2⟩, rfl⟩) (opens_pair 1 (field_of hf hxl 0 _ rfl opens_i64 (by kernel_rfl)) ?_)
  rw [← last_field (s := 1) hc]
  exact field_of hf hxl 1 _ rfl opens_i64 (by kernel_rfl)
theorem opens_yearly : Opens enc Tryz.prog w base spare held 113 k113 := by
  intro fuel cs x h
  obtain ⟨xs, n, _, _, hcl, hxl, hf⟩ := DataW.trod_struct Tryz.underlying113 h
  have hc : cs.length = 5 := hcl.trans (by kernel_rfl)
  refine opens_iso (fun v => ⟨⟨v.1, v.2.1, v.2.2.1, v.2.2.2.1, v.2.2.2.2⟩, rfl⟩) (opens_pair 1 (field_of hf hxl 0 _ rfl opens_i64 (by kernel_rfl)) (opens_pair 1 (field_of hf hxl 1 _ rfl opens_i64 (by kernel_rfl)) ?_))
  rw [List.drop_drop]
  refine opens_pair 1 (field_of hf hxl 2 _ rfl opens_i64 (by kernel_rfl)) ?_
  rw [List.drop_drop]
  refine opens_pair 1 (field_of hf hxl 3 _ rfl opens_i64 (by kernel_rfl)) ?_
  rw [List.drop_drop, ← last_field (o := 4) (s := 1) hc]
  exact field_of hf hxl 4 _ rfl opens_i64 (by kernel_rfl)
theorem opens_zone : Opens enc Tryz.prog w base spare held 98 k98 := by
  intro fuel cs x h
  obtain ⟨xs, n, _, _, hcl, hxl, hf⟩ := DataW.trod_struct Tryz.underlying98 h
  have hc : cs.length = 4 := hcl.trans (by kernel_rfl)
  refine opens_iso (fun v => ⟨⟨v.1, v.2.1, v.2.2.1, v.2.2.2⟩, rfl⟩) (opens_pair 1 (field_of hf hxl 0 _ rfl opens_i64 (by kernel_rfl)) (opens_pair 1 (field_of hf hxl 1 _ rfl (opens_slice Tryz.underlying95 opens_shift (by kernel_rfl)) (by kernel_rfl)) ?_))
  rw [List.drop_drop]
  refine opens_pair 1 (field_of hf hxl 2 _ rfl (opens_slice Tryz.underlying96 opens_yearly (by kernel_rfl)) (by kernel_rfl)) ?_
  rw [List.drop_drop, ← last_field (o := 3) (s := 1) hc]
  exact field_of hf hxl 3 _ rfl opens_i64 (by kernel_rfl)
end
end Go.Proofs.YtioaingenooelaaGreat.Opens
/-
  Arguments opened: options, operations, whole numbers.
-/
namespace Go.Proofs.YtioaingenooelaaGreat.Opens
open Go.RowKit Go.Proofs.YtioaingenooelaaGreatW.PrintWords Go.Proofs.YtioaingenooelaaGreat.Wd Go.Proofs.YtioaingenooelaaGreat.L Go.Proofs.YtioaingenooelaaGreat.Kds
open Go.ChangeShapes Go.WideShapes Go.Deep
open Go.Proofs.YtioaingenooelaaGreat.OptsCopy (Z kZ)
section
variable {H : Type} {enc : TypeId × Value → H} {w : World} {base : Nat} {spare : Nat → Bool} {held : Bool}
theorem opens_op : Opens enc Tryz.prog w base spare held 57 k57 := by
  intro fuel cs x h
  obtain ⟨xs, n, _, _, hcl, hxl, hf⟩ := DataW.trod_struct Tryz.underlying57 h
  have hc : cs.length = 5 := hcl.trans (by kernel_rfl)
  refine opens_iso (fun v => ⟨⟨v.1, v.2.1, v.2.2.1, v.2.2.2.1, v.2.2.2.2⟩, rfl⟩) (opens_pair 1 (field_of hf hxl 0 _ rfl opens_i64 (by kernel_rfl)) (opens_pair 1 (field_of hf hxl 1 _ rfl opens_i64 (by kernel_rfl)) ?_))
  rw [List.drop_drop]
  refine opens_pair 1 (field_of hf hxl 2 _ rfl opens_i64 (by kernel_rfl)) ?_
  rw [List.drop_drop]
  refine opens_pair 1 (field_of hf hxl 3 _ rfl (opens_slice Tryz.underlying33 opens_i64 (by kernel_rfl)) (by kernel_rfl)) ?_
  rw [List.drop_drop, ← last_field (o := 4) (s := 1) hc]
  exact field_of hf hxl 4 _ rfl (opens_slice Tryz.underlying22 opens_span (by kernel_rfl)) (by kernel_rfl)
def kOpts : Kd (Int × Int × List Z × Int × Int) := Kd.pair (Kd.int .i64) (Kd.pair (Kd.int .i64) (Kd.pair (Kd.slice 98 kZ) (Kd.pair (Kd.int .i64) (Kd.int .i64))))
theorem opens_opts : Opens enc Tryz.prog w base spare held 30 kOpts := by
  intro fuel cs x h
  obtain ⟨xs, n, _, _, hcl, hxl, hf⟩ := DataW.trod_struct Tryz.underlying30 h
  have hc : cs.length = 5 := hcl.trans (by kernel_rfl)
  refine opens_pair 1 (field_of hf hxl 0 _ rfl opens_i64 (by kernel_rfl)) (opens_pair 1 (field_of hf hxl 1 _ rfl opens_i64 (by kernel_rfl)) ?_)
  rw [List.drop_drop]
  refine opens_pair 1 (field_of hf hxl 2 _ rfl (opens_slice Tryz.underlying28 opens_zone (by kernel_rfl)) (by kernel_rfl)) ?_
  rw [List.drop_drop]
  refine opens_pair 1 (field_of hf hxl 3 _ rfl opens_i64 (by kernel_rfl)) ?_
  rw [List.drop_drop, ← last_field (o := 4) (s := 1) hc]
  exact field_of hf hxl 4 _ rfl opens_i64 (by kernel_rfl)
theorem opts_open {v : Int × Int × List Z × Int × Int} {cs : List Value} (h : kOpts.K w v cs) : ∃ A c, cs = [.int .i64 v.1, .int .i64 v.2.1, .slice A v.2.2.1.length c, .int .i64 v.2.2.2.1, .int .i64 v.2.2.2.2] ∧ v.2.2.1.length ≤ c ∧ Kd.C kZ w A v.2.2.1.length v.2.2.1 := by
  obtain ⟨_, _, rfl, rfl, ⟨_, _, rfl, rfl, ⟨_, _, rfl, ⟨A, c, rfl, h1, h2⟩, ⟨_, _, rfl, rfl, rfl⟩⟩⟩⟩ := h
  exact ⟨A, c, rfl, h1, h2⟩
set_option maxRecDepth 100000 in
/-- Options that came in. -/
theorem opts_arg {r : Reach} {b0 : Nat} {v : Value} {d : DataW H} {p : List MemPlace} (hv : Value.okWide Tryz.prog w r b0 30 v) (h : DataW.Trod enc Tryz.prog w base spare held 30 v d p) :
    ∃ (n0 n1 lo hi : Int) (zs : List Z) (A : Option Addr) (c : Nat), v = .agg #[.int .i64 n0, .int .i64 n1, .slice A zs.length c, .int .i64 lo, .int .i64 hi] ∧ zs.length ≤ c ∧ Kd.C kZ w A zs.length zs := by
  obtain ⟨cs, rfl, hsz⟩ := okWide_struct Tryz.underlying30 hv
  obtain ⟨fuel, hf⟩ := h
  obtain ⟨v, hk⟩ := opens_opts fuel _ _ hf
  obtain ⟨A, c, e, h1, h2⟩ := opts_open hk
  refine ⟨v.1, v.2.1, v.2.2.2.1, v.2.2.2.2, v.2.2.1, A, c, ?_, h1, h2⟩
  have e' : cs.toList = [.int .i64 v.1, .int .i64 v.2.1, .slice A v.2.2.1.length c, .int .i64 v.2.2.2.1, .int .i64 v.2.2.2.2] := by simpa [Value.cells] using e
  rw [← Array.toArray_toList (xs := cs), e']
/-- Operations that came in. -/
theorem ops_arg {A : Option Addr} {n c : Nat} {d : DataW H} {p : List MemPlace} (h : DataW.Trod enc Tryz.prog w base spare held 48 (.slice A n c) d p) :
    ∃ l : List S57, n = l.length ∧ l.length ≤ c ∧ Kd.C k57 w A l.length l := by
  obtain ⟨fuel, hf⟩ := h
  obtain ⟨l, A', c', e, hc, hC⟩ := opens_slice Tryz.underlying48 opens_op (by kernel_rfl) fuel _ _ hf
  have e' : (Value.slice A n c) = .slice A' l.length c' := by simpa [Value.cells] using e
  injection e' with e1 e2 e3
  subst e1 e2 e3
  exact ⟨l, rfl, hc, hC⟩
/-- Whole numbers that came in. -/
theorem ints_arg {A : Option Addr} {n c : Nat} {d : DataW H} {p : List MemPlace} (h : DataW.Trod enc Tryz.prog w base spare held 33 (.slice A n c) d p) :
    ∃ l : List Int, n = l.length ∧ l.length ≤ c ∧ Rd w 1 A l.length (fl1 l) := by
  obtain ⟨fuel, hf⟩ := h
  obtain ⟨l, A', c', e, hc, hC⟩ := opens_slice Tryz.underlying33 opens_i64 (by kernel_rfl) fuel _ _ hf
  have e' : (Value.slice A n c) = .slice A' l.length c' := by simpa [Value.cells] using e
  injection e' with e1 e2 e3
  subst e1 e2 e3
  exact ⟨l, rfl, hc, Clones.rd_int hC⟩
end
end Go.Proofs.YtioaingenooelaaGreat.Opens
namespace Go.Proofs.YtioaingenooelaaGreat.LawApart
open Go.ChangeShapes Go.WideShapes Go.ChangeAt Go.RowKit
open Go.Proofs.YtioaingenooelaaGreat.Wd Go.Proofs.YtioaingenooelaaGreat.L Go.Proofs.YtioaingenooelaaGreat.Opens
open Go.Proofs.YtioaingenooelaaGreat.OptsCopy (Z kZ)
open Go.Proofs.YtioaingenooelaaGreat.Tot (OpS)
open Go.Proofs.YtioaingenooelaaGreatW.PrintWords (Kd)
open Go.Proofs.YtioaingenooelaaGreat.Apart0 (kOp Done)
theorem apart_calls (n0 n1 lo hi node tx : Int) (A L U S : Option Addr) (ca cl cu cs : Nat) (zs : List Z) (l : List OpS) (users : List Int) (spans : List (Int × Int)) (w : World)
    (hA : Kd.C kZ w A zs.length zs) (hca : zs.length ≤ ca) (hL : Kd.C kOp w L l.length l) (hcl : l.length ≤ cl) (hU : Rd w 1 U users.length (fl1 users)) (hcu : users.length ≤ cu) (hS : Rd w 2 S spans.length (fl2 spans)) (hcs : spans.length ≤ cs) :
    Calls Tryz.prog 5 #[.agg #[.int .i64 n0, .int .i64 n1, .slice A zs.length ca, .int .i64 lo, .int .i64 hi], .int .i64 node, .slice L l.length cl, .int .i64 tx, .slice U users.length cu, .slice S spans.length cs] w (Done w) := by
  have hz := Tot.zones_tot zs
  obtain ⟨rz, hrz⟩ : ∃ rz, rz = (Tot.sizedB (zs.take 30) && decide (zs.length ≤ 30)) := ⟨_, rfl⟩
  rw [← hrz] at hz
  obtain ⟨rf, hf, hy⟩ := Tot.few_tot l
  cases hno : (rz && rf && decide (users.length ≤ 100) && decide (spans.length ≤ 100)) with
  | false => exact Apart0.far n0 n1 lo hi node tx A L U S ca cl cu cs zs l users.length spans.length rz rf w hA hca hL hcl hz hf hno
  | true =>
    rw [Bool.and_eq_true, Bool.and_eq_true, Bool.and_eq_true, decide_eq_true_eq, decide_eq_true_eq] at hno
    obtain ⟨⟨⟨rfl, rfl⟩, hu⟩, hs⟩ := hno
    obtain ⟨hsz, h30⟩ := Tot.zones_yes hrz.symm
    obtain ⟨hll, hsm⟩ := hy rfl
    obtain ⟨r, hm⟩ := Tot.may_tot n0 n1 zs hsz h30 lo hi
    cases hno : (!r || (decide (node < 0) || decide (node ≥ n0))) with
    | true => exact Apart0.none_there n0 n1 lo hi node tx A L U S ca cl cu cs zs l users.length spans.length w hA hca hL hcl hz hf hu hs 500 r hm hno
    | false =>
      rw [Bool.or_eq_false_iff, Bool.or_eq_false_iff, Bool.not_eq_false', decide_eq_false_iff_not, decide_eq_false_iff_not] at hno
      obtain ⟨rfl, hn1, hn2⟩ := hno
      obtain ⟨g1, g2, g3, g4, g5, g6⟩ := Tot.may_yes hm
      obtain ⟨n, rfl⟩ : ∃ n : Nat, n1 = (n : Int) := ⟨n1.toNat, by omega⟩
      exact ApartW.there n0 lo hi node tx n A L U S ca cl cu cs zs l users spans w hA hca hL hcl hz hf hU hcu hS hcs hu hs 500 hm g1 (by omega) (by omega) g6 (fun z hz => by have := hsz z hz; constructor <;> omega) (by omega) (by omega) hll hsm
theorem own : ownKnob Tryz.prog.godebug = none := by kernel_rfl
theorem laidOut : laidOutB Tryz.prog = true := by kernel_rfl
/-- A list of spans that came in. -/
theorem span_arg {H : Type} {enc : TypeId × Value → H} {W : World} {base : Nat} {spare : Nat → Bool} {held : Bool} {A : Option Addr} {n c : Nat} {d : DataW H} {p : List MemPlace} (h : DataW.Trod enc Tryz.prog W base spare held 22 (.slice A n c) d p) :
    ∃ l : List (Int × Int), n = l.length ∧ l.length ≤ c ∧ Rd W 2 A l.length (fl2 l) := by
  obtain ⟨fuel, hf⟩ := h
  obtain ⟨l, A', c', e, hc, hC⟩ := Opens.opens_slice Tryz.underlying22 Opens.opens_span (by kernel_rfl) fuel _ _ hf
  have e' : (Value.slice A n c) = .slice A' l.length c' := by simpa [Value.cells] using e
  injection e' with e1 e2 e3
  subst e1 e2 e3
  have hr := Clones.rd_span hC
  rw [← Clones.fl2_toP] at hr
  have hl : (l.map Clones.toP).length = l.length := List.length_map ..
  exact ⟨l.map Clones.toP, hl.symm, by rw [hl]; exact hc, by rw [hl]; exact hr⟩
set_option maxRecDepth 100000 in
theorem lifted (os : Os) (started : os.Started) (H : Type) (enc : TypeId × Value → H) :
    ReturnsInHanded {} Tryz.checked os 5 .any (Rows.calApartSpec.pre6 enc Tryz.prog Tryz.f5 Rows.calApartRow.domain false) (Rows.calApartSpec.post enc Tryz.prog Tryz.f5 false true false false) := by
  refine returnsInHanded_of_change_sized (C := Tryz.checked) own started (by kernel_rfl) Tryz.func5
    (ChangeSpec.witness6 (enc := enc) (C := Tryz.checked) false ⟨#[], #[.agg #[.int .i64 0, .int .i64 0, .slice none 0 0, .int .i64 0, .int .i64 0], .int .i64 0, .slice none 0 0, .int .i64 0, .slice none 0 0, .slice none 0 0], []⟩ 8 (by kernel_rfl) (by kernel_rfl) (by kernel_rfl) (by kernel_rfl)) ?_
  intro W base args ds gs before hval0 hW hcnd hsz0 _
  have hval : ∀ (j : Nat) t v, Tryz.f5.params[j]? = some t → args[j]? = some v → Value.okWide Tryz.prog W .any base t v := hval0
  have hW' := hW
  obtain ⟨p, q, hA0, hV, rfl, hfz, hnd⟩ := hW
  have hA : DataW.TrodAll enc Tryz.prog W 0 (fun _ => true) true Tryz.f5.params.toList args.toList ds p := hA0
  rw [Tryz.params5] at hA hval
  obtain ⟨v0, vs0, d0, ds0, p0, q0, hargs, rfl, rfl, h0, r0⟩ := trodAll_cons hA
  obtain ⟨v1, vs1, d1, ds1, p1, q1, rfl, rfl, rfl, h1, r1⟩ := trodAll_cons r0
  obtain ⟨v2, vs2, d2, ds2, p2, q2, rfl, rfl, rfl, h2, r2⟩ := trodAll_cons r1
  obtain ⟨v3, vs3, d3, ds3, p3, q3, rfl, rfl, rfl, h3, r3⟩ := trodAll_cons r2
  obtain ⟨v4, vs4, d4, ds4, p4, q4, rfl, rfl, rfl, h4, r4⟩ := trodAll_cons r3
  obtain ⟨v5, vs5, d5, ds5, p5, q5, rfl, rfl, rfl, h5, r5⟩ := trodAll_cons r4
  obtain ⟨rfl, rfl, rfl⟩ := trodAll_nil r5
  obtain rfl : args = #[v0, v1, v2, v3, v4, v5] := by cases args; simp_all
  obtain ⟨rfl, rfl⟩ := trodVars_none hV
  have k0 := h0
  have lt0 : ∀ x ∈ p0, x.block < W.heap.size := by obtain ⟨m, hm⟩ := k0; exact DataW.trod_lt m _ _ _ hm
  obtain ⟨n0, n1, lo, hi, zs, A, ca, rfl, hca, hAz⟩ := opts_arg (hval 0 30 v0 rfl rfl) h0
  obtain ⟨node, rfl, rfl, rfl, w1⟩ := open_int Tryz.underlying3 (hval 1 3 v1 rfl rfl) h1
  obtain ⟨a2, len2, cap2, rfl⟩ := okWide_slice Tryz.underlying48 (hval 2 48 v2 rfl rfl)
  have k2 := h2
  have lt2 : ∀ x ∈ p2, x.block < W.heap.size := by obtain ⟨m, hm⟩ := k2; exact DataW.trod_lt m _ _ _ hm
  obtain ⟨l, rfl, hcl, hL⟩ := ops_arg h2
  obtain ⟨tx, rfl, rfl, rfl, w3⟩ := open_int Tryz.underlying3 (hval 3 3 v3 rfl rfl) h3
  obtain ⟨a4, len4, cap4, rfl⟩ := okWide_slice Tryz.underlying33 (hval 4 33 v4 rfl rfl)
  have k4 := h4
  have lt4 : ∀ x ∈ p4, x.block < W.heap.size := by obtain ⟨m, hm⟩ := k4; exact DataW.trod_lt m _ _ _ hm
  obtain ⟨users, rfl, hcu, hU⟩ := ints_arg h4
  obtain ⟨a5, len5, cap5, rfl⟩ := okWide_slice Tryz.underlying22 (hval 5 22 v5 rfl rfl)
  have k5 := h5
  have lt5 : ∀ x ∈ p5, x.block < W.heap.size := by obtain ⟨m, hm⟩ := k5; exact DataW.trod_lt m _ _ _ hm
  obtain ⟨spans, rfl, hcs, hS⟩ := span_arg h5
  clear hA0 hval0 hsz0
  refine (apart_calls n0 n1 lo hi node tx A a2 a4 a5 ca cap2 cap4 cap5 zs l users spans W hAz hca hL hcl hU hcu hS hcs).mono fun e W' ⟨he, bel⟩ => ?_
  subst he
  exact ⟨_, rfl, _, _, _, [], _, [], hW', trodAll_mk1 (shut_bool Tryz.underlying4 _),
    trodAll_cons_mk (Below.trod laidOut (by kernel_rfl) (of_decide_eq_true (by kernel_rfl)) k0 bel lt0) (trodAll_cons_mk (shut_int Tryz.underlying3 w1) (trodAll_cons_mk (Below.trod laidOut (by kernel_rfl) (of_decide_eq_true (by kernel_rfl)) k2 bel lt2) (trodAll_cons_mk (shut_int Tryz.underlying3 w3) (trodAll_cons_mk (Below.trod laidOut (by kernel_rfl) (of_decide_eq_true (by kernel_rfl)) k4 bel lt4) (trodAll_cons_mk (Below.trod laidOut (by kernel_rfl) (of_decide_eq_true (by kernel_rfl)) k5 bel lt5) trodAll_mk0))))), rfl, bel.frame _, fun h => by cases h⟩
theorem over : Rows.calApartRow.holds Tryz.pinned (OpenSpec.ofChange Rows.calApartSpec) :=
  OpenClaim.holds_of_wide 5 Tryz.f5 rfl rfl rfl rfl rfl rfl rfl ⟨rfl, rfl, rfl, rfl, rfl⟩ rfl rfl rfl rfl rfl (by kernel_rfl) Tryz.func5 (by kernel_rfl)
    (of_decide_eq_true (by kernel_rfl)) (by unfold Func.isWrapper; first | (rw [if_pos (by decide +kernel)]; kernel_rfl) | (rw [if_neg (by decide +kernel)]; exact ⟨rfl, rfl⟩))
    (fun os started H enc _ => lifted os started H enc)
theorem proved : Rows.CalApartSaid := over
end Go.Proofs.YtioaingenooelaaGreat.LawApart
namespace Go.Proofs.YtioaingenooelaaGreat
/-- The law holds. -/
theorem calApart_holds : Rows.CalApartSaid := LawApart.proved
end Go.Proofs.YtioaingenooelaaGreat
