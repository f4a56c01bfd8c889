/-
  Lemmas and walks for the proof in YtioaingenooelaaGreatAc.
-/
import Derived.Test.YtioaingenooelaaGreatProg
import Derived.Below
import Derived.Deep.Draws
import Derived.Deep.AppendLies
import Derived.Maps.AppendAt
import Derived.OwnWalk
import Derived.Laws.BytesArg
import Derived.Laws.MakeOwn
import Derived.Laws.OwnMore
import Derived.Deep.OwnRows
import Derived.Tactics
import Derived.Laws.Slices
import Derived.WalkKit
import Derived.KernelRfl
import Derived.RowKit3
import Derived.Deep.LoopGhost
import Derived.Deep.QuietTactic
import Derived.BigQuiet
import Derived.WideLaws
import Derived.Deep.DeepCutAuto
import Derived.Deep.CutBlock
import Derived.Deep.RegionHeld3
import Derived.Laws.Rows
import Derived.WalkSpells
import Derived.WalkLawsBesides
import Derived.Outline
import Derived.Lib.Hide
import Derived.Shelf.SlSortCmp.NoneTotal
import Derived.Ground.SlsfProg
import Derived.Shelf.SlicesQ.IndexFunc
import Derived.Ground.SlgfProg
import Derived.Shelf.SlicesE.Clone
import Derived.Ground.SlgnProg
import Derived.Shelf.Sort.Plain
import Derived.Shelf.Slices.In.SortNone
import Derived.Ground.Names2Prog
import Derived.Shelf.Slices.CompactI
import Derived.Shelf.Slices.Cells
import Derived.Shelf.Small.Bits
import Derived.Shelf.Small.Wraps
import Derived.Shelf.Strconv.Itoa0
import Derived.Shelf.Slices.Clone
import Derived.Shelf.Slices.SearchI
import Derived.Laws.Bits64
import Derived.Lib.SlicesCompact
import Derived.Lib.SlBy
import Derived.Deep.RegionLaw
set_option linter.unusedVariables false
set_option linter.unusedSimpArgs false
/-
  Words for memory: a slice that reads as a list of cells, rows of pairs and triples of numbers, a set's block. Nothing of the program.
-/
namespace Go.Proofs.YtioaingenooelaaGreat.Wd
open Go.RowKit

/-- A fact kept from the walk. -/
structure As (p : Prop) : Prop where mk :: (out : p)
theorem block_of_add (a : Addr) (n : Nat) : (a.add n).block = a.block := by unfold Addr.add; split <;> rfl
theorem add_of_add (a : Addr) (i j : Nat) : (a.add i).add j = a.add (i + j) := by
  unfold Addr.add
  by_cases hi : i = 0 <;> by_cases hj : j = 0 <;> simp [hi, hj, Nat.add_assoc]
theorem add_field (ad : Addr) (m j : Nat) (hj : 0 < j) : ad.add (m + j) = ⟨(ad.add m).block, (ad.add m).off + j, none⟩ := by
  unfold Addr.add
  by_cases hm : m = 0
  · subst hm; rw [if_neg (by omega)]; simp
  · rw [if_neg (by omega), if_neg hm]; simp [Nat.add_assoc]

/-- The slice value with address A and n elements of 'size' cells each reads as the cells xs. -/
def Rd (w : World) (size : Nat) (A : Option Addr) (n : Nat) (xs : List Value) : Prop :=
  xs.length = n * size ∧ ∀ j u, xs[j]? = some u → ∃ ad, A = some ad ∧ w.cell? (ad.add j) = some u

section
variable {w w' : World} {size n : Nat} {A : Option Addr} {xs : List Value}
theorem Rd.nil_ : Rd w size none 0 [] := ⟨by simp, fun j u h => by simp at h⟩
theorem Rd.none_ : Rd w size A 0 [] := ⟨by simp, fun j u h => by simp at h⟩
theorem Rd.keep (h : Rd w size A n xs) (hk : ∀ p : Addr, p.block < w.heap.size → w'.cell? p = w.cell? p) : Rd w' size A n xs :=
  ⟨h.1, fun j u hu => by
    obtain ⟨ad, e, hc⟩ := h.2 j u hu
    exact ⟨ad, e, (hk _ (World.block_lt_of_cell? w _ hc)).trans hc⟩⟩
theorem Rd.below {B : Nat} (h : Rd w size A n xs) (hb : Below B w w') (hB : w.heap.size ≤ B) : Rd w' size A n xs := h.keep fun _ hp => hb.cell (Nat.lt_of_lt_of_le hp hB)
theorem Rd.belowS (h : Rd w size A n xs) (hb : Below w.heap.size w w') : Rd w' size A n xs := h.below hb (Nat.le_refl _)
theorem Rd.drewN (h : Rd w size A n xs) (k : Nat) : Rd (w.drewN k) size A n xs := h
theorem Rd.alloc (h : Rd w size A n xs) (o : Obj) : Rd (w.alloc o) size A n xs := h.keep fun p hp => World.cell?_alloc_lt w o p hp
/-- Only the row's own block matters. -/
theorem Rd.move (h : Rd w size A n xs) (hk : ∀ ad, A = some ad → w'.heap[ad.block]? = w.heap[ad.block]?) : Rd w' size A n xs :=
  ⟨h.1, fun j u hu => by
    obtain ⟨ad, e, hc⟩ := h.2 j u hu
    exact ⟨ad, e, (World.cell?_of_block (w := w) (w' := w') (by rw [block_of_add]; exact hk ad e)).trans hc⟩⟩
theorem Rd.of_own {base : Nat} {e : TypeId} {c : Nat} (h : w.ownsRow base e size (.slice A n c) n xs) : Rd w size A n xs := by
  refine ⟨h.1, fun j u hu => ?_⟩
  have hn : 0 < n := by
    rcases Nat.eq_zero_or_pos n with h0 | h0
    · have hl := h.1
      subst h0
      simp only [Nat.zero_mul] at hl
      rw [List.eq_nil_of_length_eq_zero hl] at hu
      simp at hu
    · exact h0
  obtain ⟨g, cap, hv, _, hlt⟩ := h.form hn
  have hA : A = some ⟨g, 0, none⟩ := by injection hv
  subst hA
  exact ⟨_, rfl, h.cells (g := g) rfl j u hu⟩
theorem Rd.take_ (h : Rd w size A n xs) {k : Nat} (hk : k ≤ n) : Rd w size A k (xs.take (k * size)) := by
  refine ⟨by rw [List.length_take, h.1]; exact Nat.min_eq_left (Nat.mul_le_mul_right _ hk), fun j u hu => h.2 j u ?_⟩
  rw [List.getElem?_take] at hu
  split at hu
  · exact hu
  · cases hu
end

/-- An own row's value is a slice. -/
theorem own_form {w : World} {base n : Nat} {e : TypeId} {size : Nat} {v : Value} {xs : List Value} (h : w.ownsRow base e size v n xs) : ∃ A c, v = .slice A n c ∧ n ≤ c ∧ c ≤ maxLen := by
  rcases h.2 with ⟨rfl, rfl⟩ | ⟨g, cap, cur, rfl, _, _, hn, hm, _⟩
  · exact ⟨none, 0, rfl, Nat.le_refl _, by unfold maxLen; omega⟩
  · exact ⟨_, cap, rfl, hn, hm⟩
theorem own_mono {w : World} {base base' n : Nat} {e : TypeId} {size : Nat} {v : Value} {xs : List Value} (h : w.ownsRow base e size v n xs) (hb : base' ≤ base) : w.ownsRow base' e size v n xs := by
  obtain ⟨h1, h2⟩ := h
  refine ⟨h1, ?_⟩
  rcases h2 with h2 | ⟨g, cap, cur, hv, hg, r⟩
  · exact .inl h2
  · exact .inr ⟨g, cap, cur, hv, Nat.le_trans hb hg, r⟩
theorem own_move {w w1 : World} {base : Nat} {e : TypeId} {size n : Nat} {v : Value} {xs : List Value} (h : w.ownsRow base e size v n xs) (hm : ∀ k, v.ownBlock = some k → w1.heap[k]? = w.heap[k]?) : w1.ownsRow base e size v n xs := by
  obtain ⟨h1, h2⟩ := h
  refine ⟨h1, ?_⟩
  rcases h2 with h2 | ⟨g, cap, cur, rfl, hg, hh, r⟩
  · exact .inl h2
  · exact .inr ⟨g, cap, cur, rfl, hg, (hm g (by simp [Value.ownBlock])).trans hh, r⟩
theorem own_below {w w1 : World} {base : Nat} {e : TypeId} {size n : Nat} {v : Value} {xs : List Value} (h : w.ownsRow base e size v n xs) (hb : Below w.heap.size w w1) : w1.ownsRow base e size v n xs :=
  own_move h fun k hk => hb.block k (h.lt k hk).2
theorem own_drewN {w : World} {base : Nat} {e : TypeId} {size n : Nat} {v : Value} {xs : List Value} (h : w.ownsRow base e size v n xs) (m : Nat) : (w.drewN m).ownsRow base e size v n xs := h

/-! ### Below, in steps -/
theorem below_drewN {B : Nat} {a w : World} (h : Below B a w) (n : Nat) : Below B a (w.drewN n) := ⟨h.os, h.tape, h.output, h.size, h.block⟩
theorem below_allocS {a w : World} (h : Below a.heap.size a w) (o : Obj) : Below a.heap.size a (w.alloc o) := h.alloc h.size o
theorem below_then {a w w2 : World} (h : Below a.heap.size a w) (k : Below w.heap.size w w2) : Below a.heap.size a w2 := h.trans (k.mono h.size)

/-! ### Rows of pairs and triples of whole numbers -/
def e2 (x : Int × Int) : List Value := [.int .i64 x.1, .int .i64 x.2]
def e3 (x : (Int × Int) × Int) : List Value := [.int .i64 x.1.1, .int .i64 x.1.2, .int .i64 x.2]
def fl2 (l : List (Int × Int)) : List Value := l.flatMap e2
def fl3 (l : List ((Int × Int) × Int)) : List Value := l.flatMap e3
def fl1 (l : List Int) : List Value := l.map (.int .i64)
theorem fl2_length (l : List (Int × Int)) : (fl2 l).length = l.length * 2 := by
  induction l with
  | nil => rfl
  | cons x l ih => simp [fl2, e2] at ih ⊢; omega
theorem fl3_length (l : List ((Int × Int) × Int)) : (fl3 l).length = l.length * 3 := by
  induction l with
  | nil => rfl
  | cons x l ih => simp [fl3, e3] at ih ⊢; omega
theorem fl1_length (l : List Int) : (fl1 l).length = l.length := by simp [fl1]
theorem fl2_append (l m : List (Int × Int)) : fl2 (l ++ m) = fl2 l ++ fl2 m := by simp [fl2]
theorem fl3_append (l m : List ((Int × Int) × Int)) : fl3 (l ++ m) = fl3 l ++ fl3 m := by simp [fl3]
theorem fl1_append (l m : List Int) : fl1 (l ++ m) = fl1 l ++ fl1 m := by simp [fl1]
theorem fl2_one (x : Int × Int) : fl2 [x] = e2 x := by simp [fl2]
theorem fl3_one (x : (Int × Int) × Int) : fl3 [x] = e3 x := by simp [fl3]
theorem fl2_cons (x : Int × Int) (l : List (Int × Int)) : fl2 (x :: l) = .int .i64 x.1 :: .int .i64 x.2 :: fl2 l := rfl
theorem fl3_cons (x : (Int × Int) × Int) (l : List ((Int × Int) × Int)) : fl3 (x :: l) = .int .i64 x.1.1 :: .int .i64 x.1.2 :: .int .i64 x.2 :: fl3 l := rfl
theorem fl2_at (l : List (Int × Int)) (k : Nat) (x : Int × Int) (h : l[k]? = some x) : (fl2 l)[k * 2]? = some (.int .i64 x.1) ∧ (fl2 l)[k * 2 + 1]? = some (.int .i64 x.2) := by
  induction l generalizing k with
  | nil => simp at h
  | cons y l ih =>
    cases k with
    | zero => simp at h; subst h; exact ⟨rfl, rfl⟩
    | succ k =>
      have h' := ih k (by simpa using h)
      rw [fl2_cons, show (k + 1) * 2 = k * 2 + 1 + 1 from by omega]
      simpa using h'
theorem fl3_at (l : List ((Int × Int) × Int)) (k : Nat) (x : (Int × Int) × Int) (h : l[k]? = some x) : (fl3 l)[k * 3]? = some (.int .i64 x.1.1) ∧ (fl3 l)[k * 3 + 1]? = some (.int .i64 x.1.2) ∧ (fl3 l)[k * 3 + 2]? = some (.int .i64 x.2) := by
  induction l generalizing k with
  | nil => simp at h
  | cons y l ih =>
    cases k with
    | zero => simp at h; subst h; exact ⟨rfl, rfl, rfl⟩
    | succ k =>
      have h' := ih k (by simpa using h)
      rw [fl3_cons, show (k + 1) * 3 = k * 3 + 1 + 1 + 1 from by omega]
      simpa using h'
theorem fl1_at (l : List Int) (k : Nat) (x : Int) (h : l[k]? = some x) : (fl1 l)[k]? = some (.int .i64 x) := by simp [fl1, h]
theorem Rd.at2 {w : World} {A : Option Addr} {n : Nat} {l : List (Int × Int)} (h : Rd w 2 A n (fl2 l)) {k : Nat} {x : Int × Int} (hx : l[k]? = some x) :
    ∃ ad, A = some ad ∧ w.cell? (ad.add (k * 2)) = some (.int .i64 x.1) ∧ w.cell? ⟨(ad.add (k * 2)).block, (ad.add (k * 2)).off + 1, none⟩ = some (.int .i64 x.2) := by
  obtain ⟨h1, h2⟩ := fl2_at l k x hx
  obtain ⟨ad, rfl, hc⟩ := h.2 _ _ h1
  obtain ⟨ad', e, hc'⟩ := h.2 _ _ h2
  injection e with e
  subst e
  exact ⟨_, rfl, hc, by rw [← add_field _ _ 1 (by omega)]; exact hc'⟩
theorem Rd.at3 {w : World} {A : Option Addr} {n : Nat} {l : List ((Int × Int) × Int)} (h : Rd w 3 A n (fl3 l)) {k : Nat} {x : (Int × Int) × Int} (hx : l[k]? = some x) :
    ∃ ad, A = some ad ∧ w.cell? (ad.add (k * 3)) = some (.int .i64 x.1.1) ∧ w.cell? ⟨(ad.add (k * 3)).block, (ad.add (k * 3)).off + 1, none⟩ = some (.int .i64 x.1.2) ∧ w.cell? ⟨(ad.add (k * 3)).block, (ad.add (k * 3)).off + 2, none⟩ = some (.int .i64 x.2) := by
  obtain ⟨h1, h2, h3⟩ := fl3_at l k x hx
  obtain ⟨ad, rfl, hc⟩ := h.2 _ _ h1
  obtain ⟨ad', e, hc'⟩ := h.2 _ _ h2
  injection e with e
  subst e
  obtain ⟨ad', e, hc''⟩ := h.2 _ _ h3
  injection e with e
  subst e
  exact ⟨_, rfl, hc, by rw [← add_field _ _ 1 (by omega)]; exact hc', by rw [← add_field _ _ 2 (by omega)]; exact hc''⟩
theorem Rd.at1 {w : World} {A : Option Addr} {n : Nat} {l : List Int} (h : Rd w 1 A n (fl1 l)) {k : Nat} {x : Int} (hx : l[k]? = some x) :
    ∃ ad, A = some ad ∧ w.cell? (ad.add k) = some (.int .i64 x) := h.2 _ _ (fl1_at l k x hx)
theorem e2_one (x : Int × Int) : ∀ u ∈ e2 x, u.oneCell' = true := by intro u hu; simp [e2] at hu; rcases hu with rfl | rfl <;> rfl
theorem e3_one (x : (Int × Int) × Int) : ∀ u ∈ e3 x, u.oneCell' = true := by intro u hu; simp [e3] at hu; rcases hu with rfl | rfl | rfl <;> rfl
theorem max2_i (k k' : IntKind) (x y : Int) : Builtin.max2 (.int k x) (.int k' y) = pure (.int k (max x y)) := by
  simp only [Builtin.max2, gt_iff_lt]
  congr 2
  split <;> omega
theorem min2_i (k k' : IntKind) (x y : Int) : Builtin.min2 (.int k x) (.int k' y) = pure (.int k (min x y)) := by
  simp only [Builtin.min2]
  congr 2
  split <;> omega
theorem max_i (ats : Array TypeId) (ty : TypeId) (a b : Value) : Builtin.max_ ats ty #[a, b] = (Builtin.max2 a b >>= fun s => pure s) := by simp only [Builtin.max_, List.foldlM_cons, List.foldlM_nil]
theorem min_i (ats : Array TypeId) (ty : TypeId) (a b : Value) : Builtin.min_ ats ty #[a, b] = (Builtin.min2 a b >>= fun s => pure s) := by simp only [Builtin.min_, List.foldlM_cons, List.foldlM_nil]
theorem add_plain (g j : Nat) : (⟨g, 0, none⟩ : Addr).add j = ⟨g, j, none⟩ := by unfold Addr.add; split <;> simp_all
theorem frozen_new (W : World) (cs : Array Value) (t : TypeId) (g : Nat) (hg : W.heap.size = g) (i : Nat) : (W.alloc (.cells cs t)).frozen? ⟨g, i, none⟩ = false := by
  subst hg
  have h : (W.alloc (.cells cs t)).heap[W.heap.size]? = some (.cells cs t (0, 0)) := heap_alloc_new W _
  generalize W.alloc (.cells cs t) = W1 at h
  simp [World.frozen?, h]
theorem snoc_of {α : Type} (l : List α) : l = [] ∨ ∃ m x, l = m ++ [x] := by
  rcases Classical.em (l = []) with h | h
  · exact .inl h
  · exact .inr ⟨l.dropLast, l.getLast h, (List.dropLast_concat_getLast h).symm⟩
theorem cell_new2 (W : World) (x : Int × Int) (t : TypeId) (g : Nat) (hg : W.heap.size = g) (j : Nat) (u : Value) (hu : (e2 x)[j]? = some u) : (W.alloc (.cells #[.int .i64 x.1, .int .i64 x.2] t)).cell? ((⟨g, 0, none⟩ : Addr).add j) = some u := by
  subst hg
  match j with
  | 0 => simp [e2] at hu; subst hu; simp [World.cell?_alloc_new, Addr.add]
  | 1 => simp [e2] at hu; subst hu; simp [World.cell?_alloc_new, Addr.add]
  | j + 2 => simp [e2] at hu
theorem cell_new3 (W : World) (x : (Int × Int) × Int) (t : TypeId) (g : Nat) (hg : W.heap.size = g) (j : Nat) (u : Value) (hu : (e3 x)[j]? = some u) : (W.alloc (.cells #[.int .i64 x.1.1, .int .i64 x.1.2, .int .i64 x.2] t)).cell? ((⟨g, 0, none⟩ : Addr).add j) = some u := by
  subst hg
  match j with
  | 0 => simp [e3] at hu; subst hu; simp [World.cell?_alloc_new, Addr.add]
  | 1 => simp [e3] at hu; subst hu; simp [World.cell?_alloc_new, Addr.add]
  | 2 => simp [e3] at hu; subst hu; simp [World.cell?_alloc_new, Addr.add]
  | j + 3 => simp [e3] at hu
theorem cell_new1 (W : World) (x : Int) (t : TypeId) (g : Nat) (hg : W.heap.size = g) (j : Nat) (u : Value) (hu : ([.int .i64 x] : List Value)[j]? = some u) : (W.alloc (.cells #[.int .i64 x] t)).cell? ((⟨g, 0, none⟩ : Addr).add j) = some u := by
  subst hg
  match j with
  | 0 => simp at hu; subst hu; simp [World.cell?_alloc_new, Addr.add]
  | j + 1 => simp at hu
end Go.Proofs.YtioaingenooelaaGreat.Wd
/-
  Plain lists: what Norm, a set and a calendar come to. Nothing of the program.
-/
namespace Go.Proofs.YtioaingenooelaaGreat.Pure

/-! ### Spans in order, and together -/
abbrev Span := Int × Int
abbrev Tag := Span × Int
def full (s : Span) : Bool := decide (s.1 < s.2)
def joinStep (out : List Span) (s : Span) : List Span :=
  match out.getLast? with
  | some t => if s.1 ≤ t.2 then out.dropLast ++ [(t.1, max t.2 s.2)] else out ++ [s]
  | none => [s]
def join (l : List Span) : List Span := l.foldl joinStep []

theorem join_snoc (l : List Span) (s : Span) : join (l ++ [s]) = joinStep (join l) s := by simp [join]
theorem joinStep_len (out : List Span) (s : Span) : (joinStep out s).length ≤ out.length + 1 := by
  unfold joinStep
  split
  · split
    · simp
    · simp
  · simp
theorem join_le (l : List Span) : (join l).length ≤ l.length := by
  suffices h : ∀ (l out : List Span), (l.foldl joinStep out).length ≤ out.length + l.length by simpa [join] using h l []
  intro l
  induction l with
  | nil => intro out; simp
  | cons x l ih => intro out; have := ih (joinStep out x); have := joinStep_len out x; simp only [List.foldl_cons, List.length_cons]; omega
theorem join_take_le (l : List Span) (k : Nat) : (join (l.take k)).length ≤ k := Nat.le_trans (join_le _) (List.length_take_le _ _)
theorem joinStep_nil (s : Span) : joinStep [] s = [s] := rfl
theorem joinStep_join {out : List Span} {t s : Span} (h : out.getLast? = some t) (hs : s.1 ≤ t.2) : joinStep out s = out.dropLast ++ [(t.1, max t.2 s.2)] := by simp [joinStep, h, hs]
theorem joinStep_new {out : List Span} {t s : Span} (h : out.getLast? = some t) (hs : ¬ s.1 ≤ t.2) : joinStep out s = out ++ [s] := by simp [joinStep, h, hs]

/-! ### Norm: one list, whichever way the sort lays equals -/
def leLo (x y : Span) : Bool := decide (x.1 ≤ y.1)
def norm (l : List Span) : List Span := join ((l.filter full).mergeSort leLo)
theorem full_iff (s : Span) : full s = true ↔ s.1 < s.2 := by simp [full]
theorem joinStep_swap (out : List Span) (x y : Span) (hx : x.1 < x.2) (hy : y.1 < y.2) (h : x.1 = y.1) : joinStep (joinStep out x) y = joinStep (joinStep out y) x := by
  unfold joinStep
  cases hl : out.getLast? with
  | none =>
    simp only [List.getLast?_singleton]
    rw [if_pos (by omega), if_pos (by omega)]
    simp [h, Int.max_comm]
  | some t =>
    by_cases c : x.1 ≤ t.2
    · have c' : y.1 ≤ t.2 := by omega
      simp only [if_pos c, if_pos c', List.getLast?_concat]
      rw [if_pos (by omega), if_pos (by omega)]
      simp only [List.dropLast_concat]
      rw [show max (max t.2 x.2) y.2 = max (max t.2 y.2) x.2 from by omega]
    · have c' : ¬ y.1 ≤ t.2 := by omega
      simp only [if_neg c, if_neg c', List.getLast?_concat]
      rw [if_pos (by omega), if_pos (by omega)]
      simp only [List.dropLast_concat]
      rw [h, Int.max_comm]
theorem join_move (x : Span) (hx : x.1 < x.2) : ∀ (p out : List Span), (∀ y ∈ p, y.1 = x.1 ∧ y.1 < y.2) → (p ++ [x]).foldl joinStep out = (x :: p).foldl joinStep out
  | [], out, _ => rfl
  | y :: p, out, h => by
    have hy := h y (by simp)
    rw [List.cons_append, List.foldl_cons, join_move x hx p _ (fun z hz => h z (by simp [hz]))]
    simp only [List.foldl_cons]
    rw [joinStep_swap out y x hy.2 hx hy.1]
theorem join_unique : ∀ (l1 l2 out : List Span), l1.Perm l2 → l1.Pairwise (fun x y => x.1 ≤ y.1) → l2.Pairwise (fun x y => x.1 ≤ y.1) → (∀ x ∈ l1, x.1 < x.2) → l1.foldl joinStep out = l2.foldl joinStep out
  | [], l2, out, hp, _, _, _ => by rw [List.nil_perm.1 hp]
  | x :: t, l2, out, hp, h1, h2, hf => by
    have hx : x ∈ l2 := hp.subset (by simp)
    obtain ⟨p, q, rfl⟩ := List.append_of_mem hx
    rw [List.pairwise_append] at h2
    obtain ⟨hpp, hxq, hpx⟩ := h2
    have hkey : ∀ y ∈ p, y.1 = x.1 ∧ y.1 < y.2 := by
      intro y hy
      have hm : y ∈ x :: t := hp.symm.subset (by simp [hy])
      have a := hpx y hy x (by simp)
      have b : x.1 ≤ y.1 := by
        rcases List.mem_cons.1 hm with rfl | hm
        · exact Int.le_refl _
        · exact List.rel_of_pairwise_cons h1 hm
      exact ⟨by omega, hf y hm⟩
    have hxf := hf x (by simp)
    have e : (p ++ x :: q).foldl joinStep out = (p ++ q).foldl joinStep (joinStep out x) := by
      rw [show p ++ x :: q = (p ++ [x]) ++ q from by simp, List.foldl_append, join_move x hxf p out hkey, List.foldl_cons, List.foldl_append]
    rw [e, List.foldl_cons]
    have hp' : t.Perm (p ++ q) := (List.perm_cons x).1 (hp.trans List.perm_middle)
    refine join_unique t (p ++ q) _ hp' (List.Pairwise.of_cons h1) ?_ (fun y hy => hf y (by simp [hy]))
    rw [List.pairwise_append]
    exact ⟨hpp, List.Pairwise.of_cons hxq, fun a ha b hb => hpx a ha b (by simp [hb])⟩
theorem leLo_sorted (l : List Span) : (l.mergeSort leLo).Pairwise (fun x y => x.1 ≤ y.1) := by
  have h := List.pairwise_mergeSort (le := leLo) (fun a b c h1 h2 => by simp [leLo] at *; omega) (fun a b => by simp [leLo]; omega) l
  exact h.imp (fun h => by simpa [leLo] using h)
theorem norm_of (l l2 : List Span) (hp : l2.Perm (l.filter full)) (hs : l2.Pairwise (fun x y => x.1 ≤ y.1)) : join l2 = norm l := by
  unfold norm join
  refine join_unique l2 _ [] (hp.trans (List.mergeSort_perm _ _).symm) hs (leLo_sorted _) ?_
  intro x hx
  have := hp.subset hx
  simp [full] at this
  exact this.2

theorem norm_le (l : List Span) : (norm l).length ≤ l.length := by
  unfold norm
  refine Nat.le_trans (join_le _) ?_
  rw [List.length_mergeSort]
  exact List.length_filter_le _ _
/-! ### What a set tells -/
def hasL (L : List Tag) (o : Int) : Bool := L.any fun t => t.2 == o
def ofL (L : List Tag) (o : Int) : List Span := (L.filter fun t => t.2 == o).map (·.1)
theorem ofL_le (L : List Tag) (o : Int) (k : Nat) : (ofL (L.take k) o).length ≤ k := by
  unfold ofL
  rw [List.length_map]
  exact Nat.le_trans (List.length_filter_le _ _) (List.length_take_le _ _)
theorem ofL_yes (L : List Tag) (o : Int) (k : Nat) (t : Tag) (h : L[k]? = some t) (ho : t.2 = o) : ofL (L.take (k + 1)) o = ofL (L.take k) o ++ [t.1] := by
  obtain ⟨hk, rfl⟩ := List.getElem?_eq_some_iff.1 h
  unfold ofL
  rw [List.take_succ_eq_append_getElem hk, List.filter_append, List.map_append]
  simp [ho]
theorem ofL_no (L : List Tag) (o : Int) (k : Nat) (t : Tag) (h : L[k]? = some t) (ho : t.2 ≠ o) : ofL (L.take (k + 1)) o = ofL (L.take k) o := by
  obtain ⟨hk, rfl⟩ := List.getElem?_eq_some_iff.1 h
  unfold ofL
  rw [List.take_succ_eq_append_getElem hk, List.filter_append, List.map_append]
  simp [ho]
def cuts (L : List Tag) (lo hi : Int) : List Span := L.map fun t => (max t.1.1 lo, min t.1.2 hi)
def cutL (L : List Tag) (lo hi : Int) : List Span := norm (cuts L lo hi)
theorem cuts_yes (L : List Tag) (lo hi : Int) (k : Nat) (t : Tag) (h : L[k]? = some t) : cuts (L.take (k + 1)) lo hi = cuts (L.take k) lo hi ++ [(max t.1.1 lo, min t.1.2 hi)] := by
  obtain ⟨hk, rfl⟩ := List.getElem?_eq_some_iff.1 h
  unfold cuts
  rw [List.take_succ_eq_append_getElem hk, List.map_append]
  rfl
theorem cuts_len (L : List Tag) (lo hi : Int) : (cuts L lo hi).length = L.length := by simp [cuts]
/-- The spans' owners, one by one. -/
def ownOf (L : List Tag) : List Int := L.map (·.2)
theorem ownOf_len (L : List Tag) : (ownOf L).length = L.length := by simp [ownOf]
theorem ownOf_yes (L : List Tag) (k : Nat) (t : Tag) (h : L[k]? = some t) : ownOf (L.take (k + 1)) = ownOf (L.take k) ++ [t.2] := by
  obtain ⟨hk, rfl⟩ := List.getElem?_eq_some_iff.1 h
  unfold ownOf
  rw [List.take_succ_eq_append_getElem hk, List.map_append]
  rfl
end Go.Proofs.YtioaingenooelaaGreat.Pure
/-
  DERIVED: THE SHELF's CONTRACTS AT THIS DUMP, IN PLAIN WORDS (tools/lay-plain.mjs out of 'TryzOwn.lean', which tools/lay-shelf.mjs wrote): THE SAME DECLARATIONS UNDER THE SAME NAMES: 'import', 'namespace', 'open', 'def', 'theorem' AND NOTHING ELSE: no command of the shelf's: FOR A HAND-IN. Each laying: the table of numbers ('.._ren') and one theorem, a field a fact of the dump's own or the kernel's comparison; each contract: ONE APPLICATION.
-/
namespace Go.Proofs
open Go.Shelf
def Tryz.sortSpan_ren : Go.Shelf.Ren := ⟨fun | 6 => 88 | 15 => 71 | 14 => 113 | 28 => 102 | 29 => 103 | 20 => 134 | 21 => 135 | 22 => 136 | 23 => 137 | 24 => 138 | 25 => 139 | 26 => 140 | 27 => 141 | 46 => 148 | 47 => 125 | 48 => 126 | 49 => 149 | 50 => 150 | 57 => 153 | n => n, fun | 22 => 22 | 24 => 36 | 25 => 136 | 3 => 3 | 39 => 127 | 0 => 0 | 53 => 150 | 55 => 152 | 4 => 4 | 46 => 142 | 45 => 141 | 50 => 147 | 5 => 5 | 9 => 9 | 66 => 165 | 70 => 169 | 76 => 179 | 77 => 180 | n => n, fun | n => n⟩
theorem Tryz.sortSpan : Go.Proofs.SlLaysF0.n6 Tryz.prog Tryz.sortSpan_ren := {
  mixed := by kernel_rfl
  f6 := ⟨Tryz.f88.name, by decide, Tryz.func88.trans (congrArg some (by kernel_rfl))⟩
  f14 := ⟨Tryz.f113.name, by decide, Tryz.func113.trans (congrArg some (by kernel_rfl))⟩
  f15 := Tryz.func71.trans (congrArg some (by kernel_rfl))
  f20 := ⟨Tryz.f134.name, by decide, Tryz.func134.trans (congrArg some (by kernel_rfl))⟩
  f21 := ⟨Tryz.f135.name, by decide, Tryz.func135.trans (congrArg some (by kernel_rfl))⟩
  f22 := ⟨Tryz.f136.name, by decide, Tryz.func136.trans (congrArg some (by kernel_rfl))⟩
  f23 := ⟨Tryz.f137.name, by decide, Tryz.func137.trans (congrArg some (by kernel_rfl))⟩
  f24 := ⟨Tryz.f138.name, by decide, Tryz.func138.trans (congrArg some (by kernel_rfl))⟩
  f25 := ⟨Tryz.f139.name, by decide, Tryz.func139.trans (congrArg some (by kernel_rfl))⟩
  f26 := ⟨Tryz.f140.name, by decide, Tryz.func140.trans (congrArg some (by kernel_rfl))⟩
  f27 := ⟨Tryz.f141.name, by decide, Tryz.func141.trans (congrArg some (by kernel_rfl))⟩
  f28 := Tryz.func102.trans (congrArg some (by kernel_rfl))
  f29 := Tryz.func103.trans (congrArg some (by kernel_rfl))
  f46 := ⟨Tryz.f148.name, by decide, Tryz.func148.trans (congrArg some (by kernel_rfl))⟩
  f47 := Tryz.func125.trans (congrArg some (by kernel_rfl))
  f48 := Tryz.func126.trans (congrArg some (by kernel_rfl))
  f49 := ⟨Tryz.f149.name, by decide, Tryz.func149.trans (congrArg some (by kernel_rfl))⟩
  f50 := ⟨Tryz.f150.name, by decide, Tryz.func150.trans (congrArg some (by kernel_rfl))⟩
  f57 := ⟨Tryz.f153.name, by decide, Tryz.func153.trans (congrArg some (by kernel_rfl))⟩
  t0 := Tryz.underlying0
  a0 := Tryz.isAgg0
  z0 := Tryz.sizeOf0
  v0 := Tryz.zeroValue0
  t3 := Tryz.underlying3
  a3 := Tryz.isAgg3
  z3 := Tryz.sizeOf3
  v3 := Tryz.zeroValue3
  t4 := Tryz.underlying4
  a4 := Tryz.isAgg4
  z4 := Tryz.sizeOf4
  v4 := Tryz.zeroValue4
  t5 := Tryz.underlying5
  a5 := Tryz.isAgg5
  z5 := Tryz.sizeOf5
  v5 := Tryz.zeroValue5
  t9 := Tryz.underlying9
  a9 := Tryz.isAgg9
  z9 := Tryz.sizeOf9
  v9 := Tryz.zeroValue9
  t22 := Tryz.underlying22
  a22 := Tryz.isAgg22
  z22 := Tryz.sizeOf22
  v22 := Tryz.zeroValue22
  t25 := Tryz.underlying136
  a25 := Tryz.isAgg136
  z25 := Tryz.sizeOf136
  v25 := Tryz.zeroValue136
  t39 := Tryz.underlying127
  a39 := Tryz.isAgg127
  z39 := Tryz.sizeOf127
  v39 := Tryz.zeroValue127
  t45 := Tryz.underlying141
  a45 := Tryz.isAgg141
  z45 := Tryz.sizeOf141
  v45 := Tryz.zeroValue141
  t46 := Tryz.underlying142
  a46 := Tryz.isAgg142
  z46 := Tryz.sizeOf142
  v46 := Tryz.zeroValue142
  t50 := Tryz.underlying147
  a50 := Tryz.isAgg147
  z50 := Tryz.sizeOf147
  v50 := Tryz.zeroValue147
  t53 := Tryz.underlying150
  a53 := Tryz.isAgg150
  z53 := Tryz.sizeOf150
  v53 := Tryz.zeroValue150
  t55 := Tryz.underlying152
  a55 := Tryz.isAgg152
  z55 := Tryz.sizeOf152
  v55 := Tryz.zeroValue152
  t66 := Tryz.underlying165
  a66 := Tryz.isAgg165
  z66 := Tryz.sizeOf165
  v66 := Tryz.zeroValue165
  t70 := Tryz.underlying169
  a70 := Tryz.isAgg169
  z70 := Tryz.sizeOf169
  v70 := Tryz.zeroValue169
  t76 := Tryz.underlying179
  a76 := Tryz.isAgg179
  z76 := Tryz.sizeOf179
  v76 := Tryz.zeroValue179
  t77 := Tryz.underlying180
  a77 := Tryz.isAgg180
  z77 := Tryz.sizeOf180
  v77 := Tryz.zeroValue180 }
def Tryz.sortTagged_ren : Go.Shelf.Ren := ⟨fun | 6 => 66 | 15 => 71 | 14 => 91 | 28 => 102 | 29 => 103 | 20 => 116 | 21 => 117 | 22 => 118 | 23 => 119 | 24 => 120 | 25 => 121 | 26 => 122 | 27 => 123 | 46 => 142 | 47 => 125 | 48 => 126 | 49 => 143 | 50 => 144 | 57 => 151 | n => n, fun | 22 => 114 | 24 => 38 | 25 => 122 | 3 => 3 | 39 => 127 | 0 => 0 | 53 => 150 | 55 => 152 | 4 => 4 | 46 => 142 | 45 => 141 | 50 => 147 | 5 => 5 | 9 => 9 | 66 => 165 | 70 => 169 | 76 => 179 | 77 => 180 | n => n, fun | n => n⟩
theorem Tryz.sortTagged : Go.Proofs.SlLaysF0.n6 Tryz.prog Tryz.sortTagged_ren := {
  mixed := by kernel_rfl
  f6 := ⟨Tryz.f66.name, by decide, Tryz.func66.trans (congrArg some (by kernel_rfl))⟩
  f14 := ⟨Tryz.f91.name, by decide, Tryz.func91.trans (congrArg some (by kernel_rfl))⟩
  f15 := Tryz.func71.trans (congrArg some (by kernel_rfl))
  f20 := ⟨Tryz.f116.name, by decide, Tryz.func116.trans (congrArg some (by kernel_rfl))⟩
  f21 := ⟨Tryz.f117.name, by decide, Tryz.func117.trans (congrArg some (by kernel_rfl))⟩
  f22 := ⟨Tryz.f118.name, by decide, Tryz.func118.trans (congrArg some (by kernel_rfl))⟩
  f23 := ⟨Tryz.f119.name, by decide, Tryz.func119.trans (congrArg some (by kernel_rfl))⟩
  f24 := ⟨Tryz.f120.name, by decide, Tryz.func120.trans (congrArg some (by kernel_rfl))⟩
  f25 := ⟨Tryz.f121.name, by decide, Tryz.func121.trans (congrArg some (by kernel_rfl))⟩
  f26 := ⟨Tryz.f122.name, by decide, Tryz.func122.trans (congrArg some (by kernel_rfl))⟩
  f27 := ⟨Tryz.f123.name, by decide, Tryz.func123.trans (congrArg some (by kernel_rfl))⟩
  f28 := Tryz.func102.trans (congrArg some (by kernel_rfl))
  f29 := Tryz.func103.trans (congrArg some (by kernel_rfl))
  f46 := ⟨Tryz.f142.name, by decide, Tryz.func142.trans (congrArg some (by kernel_rfl))⟩
  f47 := Tryz.func125.trans (congrArg some (by kernel_rfl))
  f48 := Tryz.func126.trans (congrArg some (by kernel_rfl))
  f49 := ⟨Tryz.f143.name, by decide, Tryz.func143.trans (congrArg some (by kernel_rfl))⟩
  f50 := ⟨Tryz.f144.name, by decide, Tryz.func144.trans (congrArg some (by kernel_rfl))⟩
  f57 := ⟨Tryz.f151.name, by decide, Tryz.func151.trans (congrArg some (by kernel_rfl))⟩
  t0 := Tryz.underlying0
  a0 := Tryz.isAgg0
  z0 := Tryz.sizeOf0
  v0 := Tryz.zeroValue0
  t3 := Tryz.underlying3
  a3 := Tryz.isAgg3
  z3 := Tryz.sizeOf3
  v3 := Tryz.zeroValue3
  t4 := Tryz.underlying4
  a4 := Tryz.isAgg4
  z4 := Tryz.sizeOf4
  v4 := Tryz.zeroValue4
  t5 := Tryz.underlying5
  a5 := Tryz.isAgg5
  z5 := Tryz.sizeOf5
  v5 := Tryz.zeroValue5
  t9 := Tryz.underlying9
  a9 := Tryz.isAgg9
  z9 := Tryz.sizeOf9
  v9 := Tryz.zeroValue9
  t22 := Tryz.underlying114
  a22 := Tryz.isAgg114
  z22 := Tryz.sizeOf114
  v22 := Tryz.zeroValue114
  t25 := Tryz.underlying122
  a25 := Tryz.isAgg122
  z25 := Tryz.sizeOf122
  v25 := Tryz.zeroValue122
  t39 := Tryz.underlying127
  a39 := Tryz.isAgg127
  z39 := Tryz.sizeOf127
  v39 := Tryz.zeroValue127
  t45 := Tryz.underlying141
  a45 := Tryz.isAgg141
  z45 := Tryz.sizeOf141
  v45 := Tryz.zeroValue141
  t46 := Tryz.underlying142
  a46 := Tryz.isAgg142
  z46 := Tryz.sizeOf142
  v46 := Tryz.zeroValue142
  t50 := Tryz.underlying147
  a50 := Tryz.isAgg147
  z50 := Tryz.sizeOf147
  v50 := Tryz.zeroValue147
  t53 := Tryz.underlying150
  a53 := Tryz.isAgg150
  z53 := Tryz.sizeOf150
  v53 := Tryz.zeroValue150
  t55 := Tryz.underlying152
  a55 := Tryz.isAgg152
  z55 := Tryz.sizeOf152
  v55 := Tryz.zeroValue152
  t66 := Tryz.underlying165
  a66 := Tryz.isAgg165
  z66 := Tryz.sizeOf165
  v66 := Tryz.zeroValue165
  t70 := Tryz.underlying169
  a70 := Tryz.isAgg169
  z70 := Tryz.sizeOf169
  v70 := Tryz.zeroValue169
  t76 := Tryz.underlying179
  a76 := Tryz.isAgg179
  z76 := Tryz.sizeOf179
  v76 := Tryz.zeroValue179
  t77 := Tryz.underlying180
  a77 := Tryz.isAgg180
  z77 := Tryz.sizeOf180
  v77 := Tryz.zeroValue180 }
def Tryz.indexTagged_ren : Go.Shelf.Ren := ⟨fun | 6 => 92 | n => n, fun | 22 => 114 | 23 => 38 | 25 => 124 | 3 => 3 | 0 => 0 | 4 => 4 | n => n, fun | n => n⟩
theorem Tryz.indexTagged : Go.Proofs.SlLaysH0.n6 Tryz.prog Tryz.indexTagged_ren := {
  mixed := by kernel_rfl
  f6 := ⟨Tryz.f92.name, by decide, Tryz.func92.trans (congrArg some (by kernel_rfl))⟩
  t0 := Tryz.underlying0
  a0 := Tryz.isAgg0
  z0 := Tryz.sizeOf0
  v0 := Tryz.zeroValue0
  t3 := Tryz.underlying3
  a3 := Tryz.isAgg3
  z3 := Tryz.sizeOf3
  v3 := Tryz.zeroValue3
  t4 := Tryz.underlying4
  a4 := Tryz.isAgg4
  z4 := Tryz.sizeOf4
  v4 := Tryz.zeroValue4
  t22 := Tryz.underlying114
  a22 := Tryz.isAgg114
  z22 := Tryz.sizeOf114
  v22 := Tryz.zeroValue114
  t25 := Tryz.underlying124
  a25 := Tryz.isAgg124
  z25 := Tryz.sizeOf124
  v25 := Tryz.zeroValue124 }
def Tryz.containsTagged_ren : Go.Shelf.Ren := ⟨fun | 8 => 86 | 6 => 92 | n => n, fun | 22 => 114 | 23 => 38 | 25 => 124 | 4 => 4 | 3 => 3 | 0 => 0 | n => n, fun | n => n⟩
theorem Tryz.containsTagged : Go.Proofs.SlLaysH0.n8 Tryz.prog Tryz.containsTagged_ren := {
  mixed := by kernel_rfl
  f6 := ⟨Tryz.f92.name, by decide, Tryz.func92.trans (congrArg some (by kernel_rfl))⟩
  f8 := ⟨Tryz.f86.name, by decide, Tryz.func86.trans (congrArg some (by kernel_rfl))⟩
  t0 := Tryz.underlying0
  a0 := Tryz.isAgg0
  z0 := Tryz.sizeOf0
  v0 := Tryz.zeroValue0
  t3 := Tryz.underlying3
  a3 := Tryz.isAgg3
  z3 := Tryz.sizeOf3
  v3 := Tryz.zeroValue3
  t4 := Tryz.underlying4
  a4 := Tryz.isAgg4
  z4 := Tryz.sizeOf4
  v4 := Tryz.zeroValue4
  t22 := Tryz.underlying114
  a22 := Tryz.isAgg114
  z22 := Tryz.sizeOf114
  v22 := Tryz.zeroValue114
  t25 := Tryz.underlying124
  a25 := Tryz.isAgg124
  z25 := Tryz.sizeOf124
  v25 := Tryz.zeroValue124 }
def Tryz.cloneShift_ren : Go.Shelf.Ren := ⟨fun | 41 => 59 | n => n, fun | 22 => 95 | 23 => 110 | 4 => 4 | n => n, fun | n => n⟩
theorem Tryz.cloneShift : Go.Proofs.SlLaysE0.n41 Tryz.prog Tryz.cloneShift_ren := {
  mixed := by kernel_rfl
  f41 := ⟨Tryz.f59.name, by decide, Tryz.func59.trans (congrArg some (by kernel_rfl))⟩
  t4 := Tryz.underlying4
  a4 := Tryz.isAgg4
  z4 := Tryz.sizeOf4
  v4 := Tryz.zeroValue4
  t22 := Tryz.underlying95
  a22 := Tryz.isAgg95
  z22 := Tryz.sizeOf95
  v22 := Tryz.zeroValue95 }
def Tryz.cloneYearly_ren : Go.Shelf.Ren := ⟨fun | 41 => 60 | n => n, fun | 22 => 96 | 23 => 113 | 4 => 4 | n => n, fun | n => n⟩
theorem Tryz.cloneYearly : Go.Proofs.SlLaysE0.n41 Tryz.prog Tryz.cloneYearly_ren := {
  mixed := by kernel_rfl
  f41 := ⟨Tryz.f60.name, by decide, Tryz.func60.trans (congrArg some (by kernel_rfl))⟩
  t4 := Tryz.underlying4
  a4 := Tryz.isAgg4
  z4 := Tryz.sizeOf4
  v4 := Tryz.zeroValue4
  t22 := Tryz.underlying96
  a22 := Tryz.isAgg96
  z22 := Tryz.sizeOf96
  v22 := Tryz.zeroValue96 }
def Tryz.cloneTagged_ren : Go.Shelf.Ren := ⟨fun | 41 => 108 | n => n, fun | 22 => 114 | 23 => 38 | 4 => 4 | n => n, fun | n => n⟩
theorem Tryz.cloneTagged : Go.Proofs.SlLaysE0.n41 Tryz.prog Tryz.cloneTagged_ren := {
  mixed := by kernel_rfl
  f41 := ⟨Tryz.f108.name, by decide, Tryz.func108.trans (congrArg some (by kernel_rfl))⟩
  t4 := Tryz.underlying4
  a4 := Tryz.isAgg4
  z4 := Tryz.sizeOf4
  v4 := Tryz.zeroValue4
  t22 := Tryz.underlying114
  a22 := Tryz.isAgg114
  z22 := Tryz.sizeOf114
  v22 := Tryz.zeroValue114 }
def Tryz.cloneInt_ren : Go.Shelf.Ren := ⟨fun | 41 => 43 | n => n, fun | 22 => 33 | 23 => 3 | 4 => 4 | n => n, fun | n => n⟩
theorem Tryz.cloneInt : Go.Proofs.SlLaysE0.n41 Tryz.prog Tryz.cloneInt_ren := {
  mixed := by kernel_rfl
  f41 := ⟨Tryz.f43.name, by decide, Tryz.func43.trans (congrArg some (by kernel_rfl))⟩
  t4 := Tryz.underlying4
  a4 := Tryz.isAgg4
  z4 := Tryz.sizeOf4
  v4 := Tryz.zeroValue4
  t22 := Tryz.underlying33
  a22 := Tryz.isAgg33
  z22 := Tryz.sizeOf33
  v22 := Tryz.zeroValue33 }
def Tryz.lays189_ren : Go.Shelf.Ren := ⟨fun | 189 => 44 | 125 => 71 | 257 => 70 | 128 => 102 | 129 => 103 | 294 => 93 | 295 => 94 | 296 => 95 | 297 => 96 | 298 => 97 | 299 => 98 | 216 => 99 | 300 => 100 | 301 => 101 | 328 => 124 | 329 => 125 | 330 => 126 | 331 => 127 | 332 => 128 | 215 => 129 | 343 => 145 | n => n, fun | 28 => 33 | 3 => 3 | 46 => 127 | 0 => 0 | 51 => 150 | 53 => 152 | 4 => 4 | 183 => 142 | 182 => 141 | 131 => 147 | 5 => 5 | 9 => 9 | 218 => 165 | 222 => 169 | 228 => 179 | 229 => 180 | n => n, fun | n => n⟩
theorem Tryz.lays189 : Go.Proofs.Lays.n189 Tryz.prog Tryz.lays189_ren := {
  mixed := by kernel_rfl
  f125 := Tryz.func71.trans (congrArg some (by kernel_rfl))
  f128 := Tryz.func102.trans (congrArg some (by kernel_rfl))
  f129 := Tryz.func103.trans (congrArg some (by kernel_rfl))
  f189 := Tryz.func44.trans (congrArg some (by kernel_rfl))
  f215 := Tryz.func129.trans (congrArg some (by kernel_rfl))
  f216 := Tryz.func99.trans (congrArg some (by kernel_rfl))
  f257 := Tryz.func70.trans (congrArg some (by kernel_rfl))
  f294 := Tryz.func93.trans (congrArg some (by kernel_rfl))
  f295 := Tryz.func94.trans (congrArg some (by kernel_rfl))
  f296 := Tryz.func95.trans (congrArg some (by kernel_rfl))
  f297 := Tryz.func96.trans (congrArg some (by kernel_rfl))
  f298 := Tryz.func97.trans (congrArg some (by kernel_rfl))
  f299 := Tryz.func98.trans (congrArg some (by kernel_rfl))
  f300 := Tryz.func100.trans (congrArg some (by kernel_rfl))
  f301 := Tryz.func101.trans (congrArg some (by kernel_rfl))
  f328 := Tryz.func124.trans (congrArg some (by kernel_rfl))
  f329 := Tryz.func125.trans (congrArg some (by kernel_rfl))
  f330 := Tryz.func126.trans (congrArg some (by kernel_rfl))
  f331 := Tryz.func127.trans (congrArg some (by kernel_rfl))
  f332 := Tryz.func128.trans (congrArg some (by kernel_rfl))
  f343 := Tryz.func145.trans (congrArg some (by kernel_rfl))
  t0 := Tryz.underlying0
  a0 := Tryz.isAgg0
  z0 := Tryz.sizeOf0
  v0 := Tryz.zeroValue0
  t3 := Tryz.underlying3
  a3 := Tryz.isAgg3
  z3 := Tryz.sizeOf3
  v3 := Tryz.zeroValue3
  t4 := Tryz.underlying4
  a4 := Tryz.isAgg4
  z4 := Tryz.sizeOf4
  v4 := Tryz.zeroValue4
  t5 := Tryz.underlying5
  a5 := Tryz.isAgg5
  z5 := Tryz.sizeOf5
  v5 := Tryz.zeroValue5
  t9 := Tryz.underlying9
  a9 := Tryz.isAgg9
  z9 := Tryz.sizeOf9
  v9 := Tryz.zeroValue9
  t28 := Tryz.underlying33
  a28 := Tryz.isAgg33
  z28 := Tryz.sizeOf33
  v28 := Tryz.zeroValue33
  t46 := Tryz.underlying127
  a46 := Tryz.isAgg127
  z46 := Tryz.sizeOf127
  v46 := Tryz.zeroValue127
  t51 := Tryz.underlying150
  a51 := Tryz.isAgg150
  z51 := Tryz.sizeOf150
  v51 := Tryz.zeroValue150
  t53 := Tryz.underlying152
  a53 := Tryz.isAgg152
  z53 := Tryz.sizeOf152
  v53 := Tryz.zeroValue152
  t131 := Tryz.underlying147
  a131 := Tryz.isAgg147
  z131 := Tryz.sizeOf147
  v131 := Tryz.zeroValue147
  t182 := Tryz.underlying141
  a182 := Tryz.isAgg141
  z182 := Tryz.sizeOf141
  v182 := Tryz.zeroValue141
  t183 := Tryz.underlying142
  a183 := Tryz.isAgg142
  z183 := Tryz.sizeOf142
  v183 := Tryz.zeroValue142
  t218 := Tryz.underlying165
  a218 := Tryz.isAgg165
  z218 := Tryz.sizeOf165
  v218 := Tryz.zeroValue165
  t222 := Tryz.underlying169
  a222 := Tryz.isAgg169
  z222 := Tryz.sizeOf169
  v222 := Tryz.zeroValue169
  t228 := Tryz.underlying179
  a228 := Tryz.isAgg179
  z228 := Tryz.sizeOf179
  v228 := Tryz.zeroValue179
  t229 := Tryz.underlying180
  a229 := Tryz.isAgg180
  z229 := Tryz.sizeOf180
  v229 := Tryz.zeroValue180 }
open Go.Sort Go.RowKit in
theorem Tryz.slices_Sort_int (blk off cap : Nat) (zs : List Int) (w : World) (hH : Holds (Value.int .i64) w blk off zs.toArray) (hblk : blk < w.heap.size) (hsz : zs.length < 4611686018427387904) :
    Calls Tryz.prog 44 #[.slice (some ⟨blk, off, none⟩) zs.length cap] w fun e w' =>
      e = .returned (.tuple #[]) ∧ ∃ n os, w' = grow (putRow (Value.int .i64) (Sort.ahead w n) blk off (zs.mergeSort fun x y => decide (x ≤ y)).toArray) os := Any.slices_Sort_int Tryz.lays189 blk off cap zs w hH hblk hsz
def Tryz.laysNm220_ren : Go.Shelf.Ren := ⟨fun | 20 => 72 | n => n, fun | 22 => 33 | 3 => 3 | 4 => 4 | 0 => 0 | n => n, fun | n => n⟩
theorem Tryz.laysNm220 : Go.Proofs.Lays2.n20 Tryz.prog Tryz.laysNm220_ren := {
  mixed := by kernel_rfl
  f20 := Tryz.func72.trans (congrArg some (by kernel_rfl))
  t0 := Tryz.underlying0
  a0 := Tryz.isAgg0
  z0 := Tryz.sizeOf0
  v0 := Tryz.zeroValue0
  t3 := Tryz.underlying3
  a3 := Tryz.isAgg3
  z3 := Tryz.sizeOf3
  v3 := Tryz.zeroValue3
  t4 := Tryz.underlying4
  a4 := Tryz.isAgg4
  z4 := Tryz.sizeOf4
  v4 := Tryz.zeroValue4
  t22 := Tryz.underlying33
  a22 := Tryz.isAgg33
  z22 := Tryz.sizeOf33
  v22 := Tryz.zeroValue33
  i3 := by kernel_rfl }
open Go.RowKit Go.Lib Go.Sort in
/-- slices.Compact at []int, over an array: the library's two loops are walked. (LAID: no walk: one application.) -/
theorem Tryz.slices_Compact_int_arr (blk off cap : Nat) (d : Array Int) (w : World) (hH : Holds encI w blk off d) (hsz : d.size ≤ 9223372036854775807) (hcap : d.size ≤ cap) :
    Calls Tryz.prog 72 #[.slice (some ⟨blk, off, none⟩) d.size cap] w fun e w' => e = .returned (.slice (some ⟨blk, off, none⟩) (compactUpTo d d.size).length cap) ∧ ∃ q, w' = putRow encI (Sort.ahead w q) blk off (compactUpTo d d.size ++ List.replicate (d.size - (compactUpTo d d.size).length) 0).toArray := Any.slices_Compact_int_arr Tryz.laysNm220 blk off cap d w hH hsz hcap
open Go.RowKit Go.Lib Go.Sort in
/-- slices.Compact at []int: "Compact replaces consecutive runs of equal elements with a single copy. This is like the uniq command found on Unix. Compact modifies the contents of the slice s and returns the modified slice, which may have a smaller length. Compact zeroes the elements between the new length and the original length. The result preserves the nilness of s.": IT RETURNS THE SLICE CUT TO 'Lib.compact zs'; ITS CELLS HOLD 'Lib.compact zs', THEN ZERO VALUES up to the old length; all else is as it was, but for the count of draws. IN THE WORDS OF slices.Sort's CONTRACT ('Holds', 'putRow'): so the everyday 'slices.Sort(xs); xs = slices.Compact(xs)' goes from the one contract to the other. It asks 'zs.length ≤ cap' (every slice's: the reslicing 's[:k]' looks at it). Length 0, nil: '.._empty'. (LAID: no walk: one application.) -/
theorem Tryz.slices_Compact_int (blk off cap : Nat) (zs : List Int) (w : World) (hH : Holds (Value.int .i64) w blk off zs.toArray) (hsz : zs.length ≤ 9223372036854775807) (hcap : zs.length ≤ cap) :
    Calls Tryz.prog 72 #[.slice (some ⟨blk, off, none⟩) zs.length cap] w fun e w' => e = .returned (.slice (some ⟨blk, off, none⟩) (Lib.compact zs).length cap) ∧ ∃ q, w' = putRow (Value.int .i64) (Sort.ahead w q) blk off (Lib.compact zs ++ List.replicate (zs.length - (Lib.compact zs).length) 0).toArray := Any.slices_Compact_int Tryz.laysNm220 blk off cap zs w hH hsz hcap
open Go.RowKit Go.Lib Go.Sort in
/-- The same at a slice of length 0, a nil one too: it comes back as it is. (LAID: no walk: one application.) -/
theorem Tryz.slices_Compact_int_empty (a : Option Addr) (cap : Nat) (w : World) :
    Calls Tryz.prog 72 #[.slice a 0 cap] w fun e w' => e = .returned (.slice a 0 cap) ∧ w' = w := Any.slices_Compact_int_empty Tryz.laysNm220 a cap w
open Go.RowKit Go.Lib Go.Sort in
/-- slices.Compact at []int, of an argument: the slice cut to 'Lib.compact (elements)'; the n cells hold that, then zeros. (LAID: no walk: one application.) -/
theorem Tryz.slices_Compact_int_cells (b off n c : Nat) (zs : List Int) (w : World) (hz : n ≤ zs.length) (hbig : n ≤ 9223372036854775807) (hcap : n ≤ c) (hc : ∀ j, j < zs.length → w.cell? ⟨b, off + j, none⟩ = some (.int .i64 (zs.getD j 0))) (hf : ∀ j, j < n → w.frozen? ⟨b, off + j, none⟩ = false) :
    Calls Tryz.prog 72 #[.slice (some ⟨b, off, none⟩) n c] w fun e w' => e = .returned (.slice (some ⟨b, off, none⟩) (Lib.compact (zs.take n)).length c) ∧ ∃ q, w' = (w.drewN q).setCells b off ((Lib.compact (zs.take n) ++ List.replicate (n - (Lib.compact (zs.take n)).length) 0).map (Value.int .i64)) := Any.slices_Compact_int_cells Tryz.laysNm220 b off n c zs w hz hbig hcap hc hf
open Go.RowKit Go.Sort in
/-- .. and plain. (LAID: no walk: one application.) -/
theorem Tryz.slices_Sort_int_none (p : Option Addr) (cap : Nat) (w : World) :
    Calls Tryz.prog 44 #[.slice p 0 cap] w fun e w' => e = .returned (.tuple #[]) ∧ w' = w := Any.slices_Sort_int_none Tryz.lays189 p cap w
end Go.Proofs
/-
  The library's sort over rows of the call's own: what it leaves, in the words of XWd.
-/
namespace Go.Proofs.YtioaingenooelaaGreat.Sorted
open Go.RowKit Go.Proofs.YtioaingenooelaaGreat.Wd Go.Sort

theorem flatMap_len {α : Type} (enc : α → List Value) (k : Nat) (hk : ∀ x, (enc x).length = k) (l : List α) : (l.flatMap enc).length = l.length * k := by
  induction l with
  | nil => simp
  | cons x l ih => simp only [List.flatMap_cons, List.length_append, hk, ih, List.length_cons, Nat.add_mul, Nat.one_mul]; omega
theorem flatMap_at {α : Type} (enc : α → List Value) (k : Nat) (hk : ∀ x, (enc x).length = k) (l : List α) (i j : Nat) (x : α) (hj : j < k) (h : l[i]? = some x) : (l.flatMap enc)[i * k + j]? = (enc x)[j]? := by
  induction l generalizing i with
  | nil => simp at h
  | cons y l ih =>
    cases i with
    | zero =>
      simp only [List.getElem?_cons_zero, Option.some.injEq] at h
      subst h
      rw [List.flatMap_cons, List.getElem?_append_left (by rw [hk]; omega)]
      simp
    | succ i =>
      rw [List.flatMap_cons, List.getElem?_append_right (by rw [hk, Nat.add_mul]; omega), hk]
      rw [show (i + 1) * k + j - k = i * k + j from by rw [Nat.add_mul]; omega]
      exact ih i (by simpa using h)
theorem flatK_eq {α : Type} [Inhabited α] (enc : α → List Value) (k : Nat) (hk : ∀ x, (enc x).length = k) (l : List α) : flatK enc k l.toArray = (l.flatMap enc).toArray := by
  refine ext_get! (by simp [flatMap_len enc k hk]) fun t ht => ?_
  have ht' : t < l.length * k := by simpa using ht
  have k0 : 0 < k := by
    rcases Nat.eq_zero_or_pos k with h | h
    · subst h; simp at ht'
    · exact h
  have hi : t / k < l.length := (Nat.div_lt_iff_lt_mul k0).2 ht'
  rw [get_flatK _ _ _ t (by simpa using ht')]
  have hm : t % k < k := Nat.mod_lt _ k0
  have h := flatMap_at enc k hk l (t / k) (t % k) (l[t / k]) hm (List.getElem?_eq_getElem hi)
  rw [Nat.div_add_mod'] at h
  have e1 : (l.toArray[t / k]! : α) = l[t / k] := by rw [getElem!_pos _ _ (by simpa using hi)]; simp
  have hl : t < (l.flatMap enc).length := by rw [flatMap_len enc k hk]; exact ht'
  rw [e1, getElem!_pos (l.flatMap enc).toArray t (by simpa using hl)]
  have hm' : t % k < (enc l[t / k]).length := by rw [hk]; exact hm
  rw [List.getElem?_eq_getElem hl, List.getElem?_eq_getElem hm'] at h
  rw [getElem!_pos (enc l[t / k]) _ hm']
  simpa using (Option.some.inj h).symm

theorem holds_own {α : Type} [Inhabited α] (enc : α → List Value) (k : Nat) (hk : ∀ x, (enc x).length = k) {w : World} {base g cap : Nat} {e : TypeId} (l : List α) (h : w.ownsRow base e k (.slice (some ⟨g, 0, none⟩) l.length cap) l.length (l.flatMap enc)) : HoldsK enc k w g 0 l.toArray ∧ g < w.heap.size := by
  refine ⟨?_, (h.lt g rfl).2⟩
  unfold HoldsK
  rw [flatK_eq enc k hk]
  intro j hj
  have hj' : j < (l.flatMap enc).length := by simpa using hj
  have hc := h.cells (g := g) rfl j _ (List.getElem?_eq_getElem hj')
  rcases h.2 with ⟨h1, _⟩ | ⟨g', cap', cur, hv, _, hh, _⟩
  · cases h1
  · injection hv with hv _ _
    injection hv with hv
    injection hv with hv _ _
    subst hv
    refine ⟨?_, by simp [World.frozen?, hh]⟩
    rw [Nat.zero_add]
    have ha : (⟨g, 0, none⟩ : Addr).add j = ⟨g, j, none⟩ := by unfold Addr.add; split <;> simp_all
    rw [ha] at hc
    rw [hc, getElem!_pos _ j (by simpa using hj')]
    simp

theorem own_of_sortWorld {α : Type} [Inhabited α] (enc : α → List Value) (k : Nat) (hk : ∀ x, (enc x).length = k) {w : World} {base g cap : Nat} {e : TypeId} (l l' : List α) (h : w.ownsRow base e k (.slice (some ⟨g, 0, none⟩) l.length cap) l.length (l.flatMap enc)) (hl : l'.length = l.length) (n : Nat) (os : Array Obj) :
    (sortWorldK enc k w g 0 n l'.toArray os).ownsRow base e k (.slice (some ⟨g, 0, none⟩) l.length cap) l.length (l'.flatMap enc) ∧ w.grownBy (sortWorldK enc k w g 0 n l'.toArray os) (some g) := by
  have hg := (h.lt g rfl).2
  have hx : ∀ i, i < w.heap.size → some i ≠ some g → (sortWorldK enc k w g 0 n l'.toArray os).heap[i]? = w.heap[i]? := by
    intro i hi hne
    unfold sortWorldK putRowK putRow
    rw [heap_grow_old _ _ (by simpa [mapBlock, Sort.ahead] using hi)]
    simp only [mapBlock, Sort.ahead, Array.getElem?_modify]
    rw [if_neg (fun e => hne (by rw [e]))]
  refine ⟨⟨by rw [flatMap_len enc k hk, hl], ?_⟩, ⟨rfl, rfl, rfl, by simp [sortWorldK, putRowK, putRow, mapBlock, Sort.ahead, grow], hx⟩⟩
  rcases h.2 with ⟨h1, _⟩ | ⟨g', cap', cur, hv, hb, hh, h1, h2, h3, h4⟩
  · cases h1
  · injection hv with hv hv2 hv3
    injection hv with hv
    injection hv with hv _ _
    subst hv hv3
    refine .inr ⟨g, cap, putCells id 0 (flatK enc k l'.toArray) cur, rfl, hb, ?_, h1, h2, by simpa [putCells] using h3, ?_⟩
    · unfold sortWorldK putRowK putRow
      rw [heap_grow_old _ _ (by simpa [mapBlock, Sort.ahead] using hg)]
      simp only [mapBlock, Sort.ahead, Array.getElem?_modify, if_true, hh]
      rfl
    · have hcs : l.length * k ≤ cur.size := by rw [h3]; exact Nat.mul_le_mul_right _ h1
      apply List.ext_getElem?
      intro j
      by_cases hj : j < l.length * k
      · have hj' : j < (l'.flatMap enc).length := by rw [flatMap_len enc k hk, hl]; exact hj
        rw [List.getElem?_take, if_pos hj, List.getElem?_eq_getElem hj', Array.getElem?_toList]
        unfold putCells
        rw [Array.getElem?_mapIdx, Array.getElem?_eq_getElem (by omega)]
        simp only [Option.map_some, Option.some.injEq]
        rw [if_pos ⟨Nat.zero_le _, by simpa [hl] using hj⟩, flatK_eq enc k hk, Nat.sub_zero, getElem!_pos _ j (by simpa using hj')]
        simp
      · rw [List.getElem?_eq_none (by rw [List.length_take]; omega), List.getElem?_eq_none (by rw [flatMap_len enc k hk, hl]; omega)]

/-! ### slices.SortFunc over spans, over spans with owners -/
def lt2 (x y : Int × Int) : Bool := decide (x.1 < y.1)
def cf2 (x y : Int × Int) : Int := if x.1 < y.1 then -1 else if y.1 < x.1 then 1 else 0
def cf3 (x y : (Int × Int) × Int) : Int := cf2 x.1 y.1
theorem ltOf_cf2 (x y : Int × Int) : ltOf cf2 x y = decide (x.1 < y.1) := by
  unfold ltOf cf2
  by_cases h1 : x.1 < y.1
  · simp [h1]
  · by_cases h2 : y.1 < x.1 <;> simp [h1, h2]
theorem swo2 : SWO (ltOf cf2) where
  irrefl x := by rw [ltOf_cf2]; simp
  trans x y z h1 h2 := by rw [ltOf_cf2] at *; simp at *; omega
  ntrans x y z h1 h2 := by rw [ltOf_cf2] at *; simp at *; omega
theorem ltOf_cf3 (x y : (Int × Int) × Int) : ltOf cf3 x y = decide (x.1.1 < y.1.1) := ltOf_cf2 x.1 y.1
theorem swo3 : SWO (ltOf cf3) where
  irrefl x := by rw [ltOf_cf3]; simp
  trans x y z h1 h2 := by rw [ltOf_cf3] at *; simp at *; omega
  ntrans x y z h1 h2 := by rw [ltOf_cf3] at *; simp at *; omega

set_option maxHeartbeats 1000000 in
theorem byLo_grows (x y : Int × Int) (W : World) : Calls Tryz.prog 89 #[.agg #[.int .i64 x.1, .int .i64 x.2], .agg #[.int .i64 y.1, .int .i64 y.2]] W fun e w' => e = .returned (.int .i64 (cf2 x y)) ∧ ∃ q os', w' = grow (W.drewN q) os' := by
  have e0 : cf2 x y = if x.1 < y.1 then -1 else if y.1 < x.1 then 1 else 0 := rfl
  rw [e0]
  clear e0
  by_cases h1 : x.1 < y.1
  · rw [if_pos h1]
    go_enter Tryz.func89, Tryz.ntmps89
    go_wp2
    go_ret
    exact ⟨rfl, 0, _, by rw [alloc_eq_grow, alloc_eq_grow, grow_grow]; rfl⟩
  · rw [if_neg h1]
    by_cases h2 : y.1 < x.1
    · rw [if_pos h2]
      go_enter Tryz.func89, Tryz.ntmps89
      go_wp2
      go_ret
      exact ⟨rfl, 0, _, by rw [alloc_eq_grow, alloc_eq_grow, grow_grow]; rfl⟩
    · rw [if_neg h2]
      go_enter Tryz.func89, Tryz.ntmps89
      go_wp2
      go_ret
      exact ⟨rfl, 0, _, by rw [alloc_eq_grow, alloc_eq_grow, grow_grow]; rfl⟩

/-- What the sort leaves: the same row, a permutation of what it held, rising by Lo. -/
theorem sortSpan_any {base g cap : Nat} (l : List (Int × Int)) (w : World) (h : w.ownsRow base 36 2 (.slice (some ⟨g, 0, none⟩) l.length cap) l.length (fl2 l)) (hl : l.length ≤ 1000000000000) :
    Calls Tryz.prog 88 #[.slice (some ⟨g, 0, none⟩) l.length cap, .func (.func 89) #[] #[]] w fun e w' => e = .returned (.tuple #[]) ∧ ∃ l' : List (Int × Int), l'.Perm l ∧ l'.Pairwise (fun x y => x.1 ≤ y.1) ∧ w'.ownsRow base 36 2 (.slice (some ⟨g, 0, none⟩) l.length cap) l.length (fl2 l') ∧ w.grownBy w' (some g) := by
  have eg : ∀ args w, (callFunc 89 args).run Tryz.prog w = .ok (.enter 89 args) w := enters_of Tryz.func89 (by kernel_rfl) rfl
  obtain ⟨hH, hblk⟩ := holds_own e2 2 (fun _ => rfl) l h
  refine (AnyQ.slices_SortFunc Tryz.sortSpan 2 Tryz.isAgg36 Tryz.sizeOf36 e2 (fun _ => rfl) e2_one cf2 swo2 89 #[] g 0 cap l.toArray w eg (fun _ _ _ _ x y => byLo_grows x y _) hH hblk (by simp; omega)).mono ?_
  rintro e w' ⟨rfl, d', n, os, hp, hs, rfl⟩
  obtain ⟨hsz, _, hperm⟩ := hp
  have hd : d'.toList.length = l.length := by simpa using hsz
  have ho := own_of_sortWorld e2 2 (fun _ => rfl) l d'.toList h hd n os
  simp only [Array.toArray_toList] at ho
  refine ⟨rfl, d'.toList, ?_, ?_, ho.1, ho.2⟩
  · rw [Array.extract_size] at hperm
    have e1 : d'.extract 0 l.toArray.size = d' := by rw [← hsz]; exact Array.extract_size
    rw [e1] at hperm
    simpa using hperm
  · rw [List.pairwise_iff_getElem]
    intro i j hi hj hij
    have h' := hs i j (Nat.zero_le _) hij (by simp at hj hsz ⊢; omega)
    rw [ltOf_cf2] at h'
    simp only [Array.length_toList] at hi hj
    rw [getElem!_pos d' i hi, getElem!_pos d' j hj] at h'
    simp at h' ⊢
    omega
theorem sortSpan_none (A : Option Addr) (c : Nat) (fv : Value) (w : World) :
    Calls Tryz.prog 88 #[.slice A 0 c, fv] w fun e w' => e = .returned (.tuple #[]) ∧ w' = w := AnyF.slices_SortFunc_none Tryz.sortSpan A c fv w

/-- .. at every row of the call's own, nil too. -/
theorem sortSpan_own {base : Nat} {v : Value} (l : List (Int × Int)) (w : World) (h : w.ownsRow base 36 2 v l.length (fl2 l)) (hl : l.length ≤ 1000000000000) :
    Calls Tryz.prog 88 #[v, .func (.func 89) #[] #[]] w fun e w' => e = .returned (.tuple #[]) ∧ ∃ l' : List (Int × Int), l'.Perm l ∧ l'.Pairwise (fun x y => x.1 ≤ y.1) ∧ w'.ownsRow base 36 2 v l.length (fl2 l') ∧ w.grownBy w' v.ownBlock := by
  rcases h.2 with ⟨rfl, h0⟩ | ⟨g, cap, cur, rfl, _⟩
  · refine (sortSpan_none none 0 _ w).mono ?_
    rintro e w' ⟨rfl, rfl⟩
    exact ⟨rfl, l, .refl _, by rw [List.eq_nil_of_length_eq_zero h0]; exact .nil, h, World.grownBy.refl _ _⟩
  · exact sortSpan_any l w h hl

/-! ### spans with owners -/
theorem grow_drew_grow (W : World) (q : Nat) (a b : Array Obj) : grow ((grow W a).drewN q) b = grow (W.drewN q) (a ++ b) := by
  rw [← grow_grow]; rfl
set_option maxHeartbeats 1000000 in
theorem tagged_grows (x y : (Int × Int) × Int) (W : World) : Calls Tryz.prog 67 #[.agg #[.int .i64 x.1.1, .int .i64 x.1.2, .int .i64 x.2], .agg #[.int .i64 y.1.1, .int .i64 y.1.2, .int .i64 y.2]] W fun e w' => e = .returned (.int .i64 (cf3 x y)) ∧ ∃ q os', w' = grow (W.drewN q) os' := by
  have hc := byLo_grows x.1 y.1
  unfold cf3
  generalize cf2 x.1 y.1 = r at hc ⊢
  go_enter Tryz.func67, Tryz.ntmps67
  go_wp2_with (go_at_call 89; refine (hc _).mono ?_; rintro e w' ⟨rfl, q, os', rfl⟩)
  go_ret
  exact ⟨rfl, q, _, by rw [alloc_eq_grow, alloc_eq_grow, grow_grow, grow_drew_grow]⟩

theorem sortTagged_any {base g cap : Nat} (l : List ((Int × Int) × Int)) (w : World) (h : w.ownsRow base 38 3 (.slice (some ⟨g, 0, none⟩) l.length cap) l.length (fl3 l)) (hl : l.length ≤ 1000000000000) :
    Calls Tryz.prog 66 #[.slice (some ⟨g, 0, none⟩) l.length cap, .func (.func 67) #[] #[]] w fun e w' => e = .returned (.tuple #[]) ∧ ∃ l' : List ((Int × Int) × Int), l'.Perm l ∧ l'.Pairwise (fun x y => x.1.1 ≤ y.1.1) ∧ w'.ownsRow base 38 3 (.slice (some ⟨g, 0, none⟩) l.length cap) l.length (fl3 l') ∧ w.grownBy w' (some g) := by
  have eg : ∀ args w, (callFunc 67 args).run Tryz.prog w = .ok (.enter 67 args) w := enters_of Tryz.func67 (by kernel_rfl) rfl
  obtain ⟨hH, hblk⟩ := holds_own e3 3 (fun _ => rfl) l h
  refine (AnyQ.slices_SortFunc Tryz.sortTagged 3 Tryz.isAgg38 Tryz.sizeOf38 e3 (fun _ => rfl) e3_one cf3 swo3 67 #[] g 0 cap l.toArray w eg (fun _ _ _ _ x y => tagged_grows x y _) hH hblk (by simp; omega)).mono ?_
  rintro e w' ⟨rfl, d', n, os, hp, hs, rfl⟩
  obtain ⟨hsz, _, hperm⟩ := hp
  have hd : d'.toList.length = l.length := by simpa using hsz
  have ho := own_of_sortWorld e3 3 (fun _ => rfl) l d'.toList h hd n os
  simp only [Array.toArray_toList] at ho
  refine ⟨rfl, d'.toList, ?_, ?_, ho.1, ho.2⟩
  · rw [Array.extract_size] at hperm
    have e1 : d'.extract 0 l.toArray.size = d' := by rw [← hsz]; exact Array.extract_size
    rw [e1] at hperm
    simpa using hperm
  · rw [List.pairwise_iff_getElem]
    intro i j hi hj hij
    have h' := hs i j (Nat.zero_le _) hij (by simp at hj hsz ⊢; omega)
    rw [ltOf_cf3] at h'
    simp only [Array.length_toList] at hi hj
    rw [getElem!_pos d' i hi, getElem!_pos d' j hj] at h'
    simp at h' ⊢
    omega
theorem sortTagged_none (A : Option Addr) (c : Nat) (fv : Value) (w : World) :
    Calls Tryz.prog 66 #[.slice A 0 c, fv] w fun e w' => e = .returned (.tuple #[]) ∧ w' = w := AnyF.slices_SortFunc_none Tryz.sortTagged A c fv w
theorem sortTagged_own {base : Nat} {v : Value} (l : List ((Int × Int) × Int)) (w : World) (h : w.ownsRow base 38 3 v l.length (fl3 l)) (hl : l.length ≤ 1000000000000) :
    Calls Tryz.prog 66 #[v, .func (.func 67) #[] #[]] w fun e w' => e = .returned (.tuple #[]) ∧ ∃ l' : List ((Int × Int) × Int), l'.Perm l ∧ l'.Pairwise (fun x y => x.1.1 ≤ y.1.1) ∧ w'.ownsRow base 38 3 v l.length (fl3 l') ∧ w.grownBy w' v.ownBlock := by
  rcases h.2 with ⟨rfl, h0⟩ | ⟨g, cap, cur, rfl, _⟩
  · refine (sortTagged_none none 0 _ w).mono ?_
    rintro e w' ⟨rfl, rfl⟩
    exact ⟨rfl, l, .refl _, by rw [List.eq_nil_of_length_eq_zero h0]; exact .nil, h, World.grownBy.refl _ _⟩
  · exact sortTagged_any l w h hl
end Go.Proofs.YtioaingenooelaaGreat.Sorted
/-
  iv.Norm walked.
-/
namespace Go.Proofs.YtioaingenooelaaGreat.Norm
open Go.RowKit Go.Proofs.YtioaingenooelaaGreat.Wd Go.Proofs.YtioaingenooelaaGreat.Pure Go.Proofs.YtioaingenooelaaGreat.Sorted
attribute [local go_sem] max2_i max_i
theorem info36 : (Tryz.prog.info? 36).map (fun i => (i.zero, i.size, i.bytes)) = some (some (.agg #[.int .i64 0, .int .i64 0]), 2, 16) := by kernel_rfl

theorem filt_le (l : List Span) (k : Nat) : ((l.take k).filter full).length ≤ l.length := Nat.le_trans (List.length_filter_le _ _) (by rw [List.length_take]; omega)
theorem filt_yes (l : List Span) (k : Nat) (x : Span) (hk : l[k]? = some x) (h : x.1 < x.2) : (l.take (k + 1)).filter full = (l.take k).filter full ++ [x] := by
  obtain ⟨hl, rfl⟩ := List.getElem?_eq_some_iff.1 hk
  rw [List.take_succ_eq_append_getElem hl, List.filter_append]
  simp [full, h]
theorem filt_no (l : List Span) (k : Nat) (x : Span) (hk : l[k]? = some x) (h : ¬ x.1 < x.2) : (l.take (k + 1)).filter full = (l.take k).filter full := by
  obtain ⟨hl, rfl⟩ := List.getElem?_eq_some_iff.1 hk
  rw [List.take_succ_eq_append_getElem hl, List.filter_append]
  simp [full, h]
theorem fl2_last (o0 : List Span) (t : Span) (m : Int) : fl2 ((o0 ++ [t]).dropLast ++ [(t.1, m)]) = (fl2 (o0 ++ [t])).set (o0.length * 2 + 1) (.int .i64 m) := by
  rw [List.dropLast_concat, fl2_append, fl2_append, fl2_one, fl2_one]
  have hl := fl2_length o0
  rw [← hl, List.set_append_right _ _ (by omega)]
  rw [show (fl2 o0).length + 1 - (fl2 o0).length = 1 from by omega]
  rfl
theorem join_yes (l : List Span) (k : Nat) (x : Span) (out : List Span) (hk : l[k]? = some x) (hj : join (l.take k) = out) : join (l.take (k + 1)) = joinStep out x := by
  obtain ⟨hl, rfl⟩ := List.getElem?_eq_some_iff.1 hk
  rw [List.take_succ_eq_append_getElem hl, join_snoc, hj]
/-- What Norm leaves, as yet: the spans that are full, in order, put together; a new row. -/
def NormPost (l : List Span) (w : World) (e : Ending) (w' : World) : Prop :=
  ∃ v l2, e = .returned v ∧ l2.Perm (l.filter full) ∧ l2.Pairwise (fun x y => x.1 ≤ y.1) ∧ w'.ownsRow w.heap.size 36 2 v (join l2).length (fl2 (join l2)) ∧ Below w.heap.size w w'
set_option maxHeartbeats 4000000 in
set_option maxRecDepth 100000 in
theorem Norm_any (A : Option Addr) (c : Nat) (l : List Span) (w : World) (hr : Rd w 2 A l.length (fl2 l)) (hl : l.length ≤ 1000000000000) :
    Calls Tryz.prog 64 #[.slice A l.length c] w (NormPost l w) := by
  have HR := As.mk hr
  clear hr
  obtain ⟨i0, hi, hz0, hz1, hz2⟩ := info_parts info36
  go_enter Tryz.func64, Tryz.ntmps64
  go_wp2
  go_loopw [3, 12] (fun v i wr => ∃ k : Nat, k ≤ l.length ∧ i = .int .i64 k ∧ wr.ownsRow w.heap.size 36 2 v ((l.take k).filter full).length (fl2 ((l.take k).filter full)) ∧ Below w.heap.size w wr) (fun _ i _ => l.length - (intOf i).toNat)
  case atStart => exact ⟨0, Nat.zero_le _, rfl, by simpa [fl2] using World.ownsRow_nil _ _ _ _, Below.refl _ _⟩
  case round =>
    obtain ⟨k, hk, rfl, hown, hb⟩ := hrel
    by_cases hlt : k < l.length
    · obtain ⟨x, hx0⟩ : ∃ x, l[k]? = some x := ⟨_, List.getElem?_eq_getElem hlt⟩
      obtain ⟨ad, rfl, h1, h2⟩ := (HR.out.belowS hb).at2 hx0
      have Hx := As.mk hx0
      clear hx0
      by_cases hx : x.1 < x.2
      · go_wp2_with (at_builtin; refine wpList_append_own _ rfl (.tmp 21) (.tmp 23) 22 rfl w.heap.size 36 i0 (.agg #[.int .i64 0, .int .i64 0]) 2 16 Tryz.underlying22 hi hz0 hz1 hz2 rfl (by decide) _ _ _ rfl ((hown.alloc _).alloc _) ⟨wr.heap.size + 1, 0, none⟩ 1 1 (e2 x) rfl rfl ?c1 ?c2 ?c3 ?c4 ?c5 ?_)
        case c1 => intro j u hu; exact cell_new2 _ x _ _ (by simp) j u hu
        case c2 => exact e2_one x
        case c3 => have := filt_le l k; unfold maxLen; omega
        case c4 => have := filt_le l k; omega
        case c5 => simp; have := hb.size; omega
        intro v' w1 hown' hg _
        go_wp2
        go_roundw
        case rel =>
          refine ⟨k + 1, by omega, by go_num, ?_, ?_⟩
          · rw [filt_yes l k x Hx.out hx, List.length_append, fl2_append, fl2_one]; exact hown'
          · exact ((hb.alloc hb.size _).alloc (by simp; have := hb.size; omega) _).grown hg (by simp; have := hb.size; omega) (fun j hj => (hown.lt j hj).1)
        case measure => simp [intOf]; omega
      · go_wp2
        go_roundw
        case rel => exact ⟨k + 1, by omega, by go_num, by rw [filt_no l k x Hx.out hx]; exact hown.alloc _, hb.alloc hb.size _⟩
        case measure => simp [intOf]; omega
    · obtain rfl : k = l.length := by omega
      rw [List.take_length] at hown
      have hfl : (l.filter full).length ≤ l.length := List.length_filter_le _ _
      generalize hmf : l.filter full = m at hown hfl
      have Hmf := As.mk hmf
      clear hmf
      obtain ⟨A2, c2, rfl, _, _⟩ := own_form hown
      go_wp2_with (go_at_call 88; refine (sortSpan_own (base := w.heap.size) m _ hown (by omega)).mono ?_; rintro e w2 ⟨rfl, l2, hp, hs, hown2, hg2⟩)
      have Hp := As.mk hp
      have Hs := As.mk hs
      have hlen := hp.length_eq
      have hl2 : l2.length ≤ 1000000000000 := by omega
      have Hlen := As.mk hlen
      clear hp hs hlen hown
      go_loopw [4, 30] (fun v i wr => ∃ k : Nat, k ≤ m.length ∧ i = .int .i64 k ∧ wr.ownsRow w2.heap.size 36 2 v (join (l2.take k)).length (fl2 (join (l2.take k))) ∧ Below w2.heap.size w2 wr) (fun _ i _ => m.length - (intOf i).toNat)
      case atStart => exact ⟨0, Nat.zero_le _, rfl, by simpa [fl2, join] using World.ownsRow_nil _ _ _ _, Below.refl _ _⟩
      case round =>
        obtain ⟨k, hk, rfl, hown, hb2⟩ := hrel
        by_cases hlt : k < m.length
        · obtain ⟨x, hx0⟩ : ∃ x, l2[k]? = some x := ⟨_, List.getElem?_eq_getElem (by have := Hlen.out; omega)⟩
          obtain ⟨ad, rfl, h1, h2⟩ := ((Rd.of_own hown2).belowS hb2).at2 hx0
          have Hx := As.mk hx0
          clear hx0
          have hjl := join_take_le l2 k
          generalize hj : join (l2.take k) = out at hown hjl
          have Hj := As.mk hj
          clear hj
          rcases snoc_of out with rfl | ⟨o0, t, rfl⟩
          · obtain ⟨A3, c3, rfl, _, _⟩ := own_form hown
            simp only [List.length_nil] at hown
            go_wp2
            go_quiet (fail)
            go_wp2_with (at_builtin; refine wpList_append_own _ rfl (.tmp 63) (.tmp 65) 22 rfl w2.heap.size 36 i0 (.agg #[.int .i64 0, .int .i64 0]) 2 16 Tryz.underlying22 hi hz0 hz1 hz2 rfl (by decide) _ _ _ rfl (own_drewN ((hown.alloc _).alloc _) _) ⟨wr.heap.size + 1, 0, none⟩ 1 1 (e2 x) rfl rfl ?d1 ?d2 ?d3 ?d4 ?d5 ?_)
            case d1 => intro j u hu; exact cell_new2 _ x _ _ (by simp) j u hu
            case d2 => exact e2_one x
            case d3 => unfold maxLen; omega
            case d4 => omega
            case d5 => simp; have := hb2.size; omega
            intro v' w1 hown' hg _
            go_wp2
            go_roundw
            case rel =>
              refine ⟨k + 1, by omega, by go_num, ?_, ?_⟩
              · rw [join_yes l2 k x _ Hx.out Hj.out, joinStep_nil]; exact hown'
              · exact (below_drewN ((hb2.alloc hb2.size _).alloc (by simp; have := hb2.size; omega) _) _).grown hg (by simp; have := hb2.size; omega) (fun j hj => (hown.lt j hj).1)
            case measure => simp [intOf]; omega
          · obtain ⟨g3, c3, rfl, hg3, _⟩ := hown.form (by simp)
            obtain ⟨_, c3', he3, hc3, _⟩ := own_form hown
            have hn0 : (0 : Int) < (o0.length : Int) + 1 := by omega
            obtain ⟨ad3, hae, h5, h6⟩ := ((Rd.of_own hown).alloc (.cells #[.int .i64 x.1, .int .i64 x.2] 36)).at2 (k := o0.length) (x := t) (by simp)
            have hz3 : (wr.alloc (.cells #[.int .i64 x.1, .int .i64 x.2] 36)).frozen? ⟨(ad3.add (o0.length * 2)).block, (ad3.add (o0.length * 2)).off + 1, none⟩ = false := by
              injection hae with hae
              subst hae
              rw [add_plain]
              exact (hown.alloc _).frozenAt _
            have Hae := As.mk hae
            rw [hae] at hown ⊢
            clear hae he3
            have hol : (o0 ++ [t]).length = o0.length + 1 := by simp
            rw [hol] at hjl hown ⊢
            have Hol := As.mk hol
            clear hol
            by_cases hm : x.1 ≤ t.2
            · go_wp2
              go_quiet (fail)
              go_wp2
              go_region
              go_wp2
              go_roundw
              case rel =>
                have hae := Hae.out
                injection hae with hae
                subst hae
                refine ⟨k + 1, by omega, by go_num, ?_, ?_⟩
                · rw [join_yes l2 k x _ Hx.out Hj.out, joinStep_join (by simp) hm, fl2_last]
                  rw [add_plain]
                  rw [show ((o0 ++ [t]).dropLast ++ [(t.1, max t.2 x.2)]).length = o0.length + 1 from by simp]
                  exact ((own_drewN (hown.alloc _) _).stored _ _).1
                · exact (below_drewN (hb2.alloc hb2.size _) _).setCell (by rw [add_plain]; exact hg3) _
              case measure => simp [intOf]; omega
            · go_wp2
              go_quiet (fail)
              go_wp2_with (at_builtin; (refine wpList_append_own _ rfl (.tmp 63) (.tmp 65) 22 rfl w2.heap.size 36 i0 (.agg #[.int .i64 0, .int .i64 0]) 2 16 Tryz.underlying22 hi hz0 hz1 hz2 rfl (by decide) _ _ _ rfl (own_drewN ((hown.alloc _).alloc _) _) ⟨wr.heap.size + 1, 0, none⟩ 1 1 (e2 x) rfl rfl ?f1 ?f2 ?f3 ?f4 ?f5 ?_))
              case f1 => intro j u hu; exact cell_new2 _ x _ _ (by simp) j u hu
              case f2 => exact e2_one x
              case f3 => unfold maxLen; omega
              case f4 => omega
              case f5 => simp; have := hb2.size; omega
              intro v' w1 hown' hg _
              go_wp2
              go_roundw
              case rel =>
                refine ⟨k + 1, by omega, by go_num, ?_, ?_⟩
                · rw [join_yes l2 k x _ Hx.out Hj.out, joinStep_new (by simp) (show ¬ x.1 ≤ t.2 by omega), fl2_append, fl2_one, List.length_append, Hol.out]; exact hown'
                · exact (below_drewN ((hb2.alloc hb2.size _).alloc (by simp; have := hb2.size; omega) _) _).grown hg (by simp; have := hb2.size; omega) (fun j hj => (hown.lt j hj).1)
              case measure => simp [intOf]; omega
        · obtain rfl : k = m.length := by omega
          rw [show m.length = l2.length from Hlen.out.symm, List.take_length] at hown
          have hfin : l2.length = m.length := Hlen.out
          go_wp2
          go_ret
          exact ⟨_, l2, rfl, by rw [Hmf.out]; exact Hp.out, Hs.out, own_mono hown (Nat.le_trans hb.size hg2.size), (hb.grown hg2 hb.size (fun j hj => (hown2.lt j hj).1)).trans (hb2.mono (Nat.le_trans hb.size hg2.size))⟩

/-- A new row of spans is handed back; nothing that was there has turned. -/
def Row2 (l : List Span) (w : World) (e : Ending) (w' : World) : Prop :=
  ∃ v, e = .returned v ∧ w'.ownsRow w.heap.size 36 2 v l.length (fl2 l) ∧ Below w.heap.size w w'
theorem Norm_calls (A : Option Addr) (c : Nat) (l : List Span) (w : World) (hr : Rd w 2 A l.length (fl2 l)) (hl : l.length ≤ 1000000000000) :
    Calls Tryz.prog 64 #[.slice A l.length c] w (Row2 (norm l) w) := by
  refine (Norm_any A c l w hr hl).mono ?_
  rintro e w' ⟨v, l2, rfl, hp, hs, h1, h2⟩
  rw [norm_of l l2 hp hs] at h1
  exact ⟨v, rfl, h1, h2⟩
end Go.Proofs.YtioaingenooelaaGreat.Norm
/-
  slices.BinarySearchFunc over a set's spans, by iv's own comparison; iv.Set.meets.
-/
namespace Go.Proofs.YtioaingenooelaaGreat.Search
open Go.RowKit Go.Proofs.YtioaingenooelaaGreat.Wd Go.Proofs.YtioaingenooelaaGreat.Pure Go.Proofs.YtioaingenooelaaGreat.Sorted

/-- How many spans end at or aheadN of a moment, from the front. -/
def aheadN (L : List Tag) (lo : Int) : Nat := (L.takeWhile fun t => decide (t.1.2 ≤ lo)).length
theorem takeWhile_len {α : Type} (p : α → Bool) : ∀ (L : List α) (n : Nat), n ≤ L.length → (∀ k x, k < n → L[k]? = some x → p x = true) → (∀ x, L[n]? = some x → p x = false) → (L.takeWhile p).length = n
  | [], n, hn, _, _ => by simp at hn; simp [hn]
  | x :: L, 0, _, _, h2 => by simp [List.takeWhile_cons, h2 x rfl]
  | x :: L, n + 1, hn, h1, h2 => by
    rw [List.takeWhile_cons, if_pos (h1 0 x (by omega) rfl), List.length_cons, takeWhile_len p L n (by simpa using hn) (fun k y hk hy => h1 (k + 1) y (by omega) (by simpa using hy)) (fun y hy => h2 y (by simpa using hy))]

theorem hi_mono (L : List Tag) (hs : L.Pairwise fun x y => x.1.2 ≤ y.1.2) {k h : Nat} {x y : Tag} (hx : L[k]? = some x) (hy : L[h]? = some y) (hk : k ≤ h) : x.1.2 ≤ y.1.2 := by
  rcases Nat.lt_or_eq_of_le hk with h' | rfl
  · rw [List.pairwise_iff_getElem] at hs
    obtain ⟨hk1, rfl⟩ := List.getElem?_eq_some_iff.1 hx
    obtain ⟨hk2, rfl⟩ := List.getElem?_eq_some_iff.1 hy
    exact hs k h hk1 hk2 h'
  · rw [hx] at hy
    rw [Option.some.inj hy]
    exact Int.le_refl _
set_option maxHeartbeats 1000000 in
theorem cmp_calls (t : Tag) (lo : Int) (W : World) : Calls Tryz.prog 115 #[.agg #[.int .i64 t.1.1, .int .i64 t.1.2, .int .i64 t.2], .int .i64 lo] W fun e w' => e = .returned (.int .i64 (if t.1.2 ≤ lo then -1 else 1)) ∧ Below W.heap.size W w' := by
  by_cases h : t.1.2 ≤ lo
  · rw [if_pos h]
    go_enter Tryz.func115, Tryz.ntmps115
    go_wp2
    go_ret
    exact ⟨rfl, below_allocS (Below.refl _ _) _⟩
  · rw [if_neg h]
    go_enter Tryz.func115, Tryz.ntmps115
    go_wp2
    go_ret
    exact ⟨rfl, below_allocS (Below.refl _ _) _⟩

def SearchPost (L : List Tag) (lo : Int) (w : World) (e : Ending) (w' : World) : Prop := e = .returned (.tuple #[.int .i64 (aheadN L lo), .bool false]) ∧ Below w.heap.size w w'
set_option maxHeartbeats 4000000 in
set_option maxRecDepth 100000 in
theorem Search_calls (A : Option Addr) (c : Nat) (L : List Tag) (lo : Int) (w : World) (hr : Rd w 3 A L.length (fl3 L)) (hl : L.length ≤ 1000000000000) (hs : L.Pairwise fun x y => x.1.2 ≤ y.1.2) :
    Calls Tryz.prog 114 #[.slice A L.length c, .int .i64 lo, .func (.func 115) #[] #[]] w (SearchPost L lo w) := by
  have HR := As.mk hr
  have Hs := As.mk hs
  clear hr hs
  go_enter Tryz.func114, Tryz.ntmps114
  go_wp2
  go_loopw [9, 10] (fun i j wr => ∃ a b : Nat, a ≤ b ∧ b ≤ L.length ∧ i = .int .i64 a ∧ j = .int .i64 b ∧ As (∀ k x, k < a → L[k]? = some x → x.1.2 ≤ lo) ∧ As (∀ k x, b ≤ k → L[k]? = some x → lo < x.1.2) ∧ Below w.heap.size w wr) (fun i j _ => (intOf j - intOf i).toNat)
  case atStart => exact ⟨0, L.length, Nat.zero_le _, Nat.le_refl _, rfl, rfl, ⟨fun k x hk => absurd hk (by omega)⟩, ⟨fun k x hk hx => by rw [List.getElem?_eq_none hk] at hx; cases hx⟩, Below.refl _ _⟩
  case round =>
    obtain ⟨a, b, hab, hbn, rfl, rfl, H1, H2, hb⟩ := hrel
    by_cases hlt : a < b
    · have ha : a ≤ (a + b) / 2 := by omega
      have hb' : (a + b) / 2 < b := by omega
      have hbig : ((a : Int) + b) / 2 + 1 ≤ 1000000000001 := by omega
      obtain ⟨x, hx0⟩ : ∃ x, L[(a + b) / 2]? = some x := ⟨_, List.getElem?_eq_getElem (by omega)⟩
      obtain ⟨ad, rfl, h1, h2, h3⟩ := (HR.out.belowS hb).at3 hx0
      have Hx := As.mk hx0
      clear hx0
      have hc := cmp_calls x lo
      by_cases hle : x.1.2 ≤ lo
      · simp only [if_pos hle] at hc
        have Hc := As.mk hc
        clear hc
        go_wp2_with (go_at_call 115; refine (Hc.out _).mono ?_; rintro e w1 ⟨rfl, hb1⟩)
        go_roundw
        case rel =>
          refine ⟨(a + b) / 2 + 1, b, by omega, by omega, by go_num, rfl, ⟨fun k y hk hy => ?_⟩, H2, below_then hb hb1⟩
          have hle2 := hi_mono L Hs.out hy Hx.out (Nat.le_of_lt_succ hk)
          omega
        case measure => simp [intOf]; omega
      · simp only [if_neg hle] at hc
        have Hc := As.mk hc
        clear hc
        go_wp2_with (go_at_call 115; refine (Hc.out _).mono ?_; rintro e w1 ⟨rfl, hb1⟩)
        go_roundw
        case rel =>
          refine ⟨a, (a + b) / 2, by omega, by omega, rfl, by go_num, H1, ⟨fun k y hk hy => ?_⟩, below_then hb hb1⟩
          have hle2 := hi_mono L Hs.out Hx.out hy hk
          omega
        case measure => simp [intOf]; omega
    · obtain rfl : a = b := by omega
      have hfin : aheadN L lo = a := takeWhile_len _ L a hbn (fun k x hk hx => by simpa using H1.out k x hk hx) (fun x hx => by have := H2.out a x (Nat.le_refl _) hx; simp; omega)
      have Hfin := As.mk hfin
      clear hfin
      by_cases hn : a < L.length
      · obtain ⟨x, hx0⟩ : ∃ x, L[a]? = some x := ⟨_, List.getElem?_eq_getElem (by omega)⟩
        obtain ⟨ad, rfl, h1, h2, h3⟩ := (HR.out.belowS hb).at3 hx0
        have hc := cmp_calls x lo
        have hle := H2.out a x (Nat.le_refl _) hx0
        rw [if_neg (by omega)] at hc
        have Hc := As.mk hc
        clear hc hx0
        have hd : decide (a < L.length) = true := by simpa using hn
        go_wp2_with (go_at_call 115; refine (Hc.out _).mono ?_; rintro e w1 ⟨rfl, hb1⟩)
        go_ret2
        exact ⟨by rw [Hfin.out]; rfl, below_then hb hb1⟩
      · have hd : decide (a < L.length) = false := by simpa using hn
        go_wp2
        go_ret2
        exact ⟨by rw [Hfin.out]; rfl, hb⟩
end Go.Proofs.YtioaingenooelaaGreat.Search
/-
  iv.Set.meets, clash, Clash walked.
-/
namespace Go.Proofs.YtioaingenooelaaGreat.Meets
open Go.RowKit Go.Proofs.YtioaingenooelaaGreat.Wd Go.Proofs.YtioaingenooelaaGreat.Pure Go.Proofs.YtioaingenooelaaGreat.Sorted Go.Proofs.YtioaingenooelaaGreat.Search Go.Proofs.YtioaingenooelaaGreat.Norm

/-- From place k on: the first span that begins ahead of x's end, as far as all do, and whose owner is not but. -/
def scan (L : List Tag) (x : Span) (but : Int) (k : Nat) : Option Tag := ((L.drop k).takeWhile fun t => decide (t.1.1 < x.2)).find? fun t => !(t.2 == but)
/-- The first span that overlaps one, and whose owner is not but. -/
def hit (L : List Tag) (x : Span) (but : Int) : Option Tag := scan L x but (aheadN L x.1)
theorem scan_end (L : List Tag) (x : Span) (but : Int) (k : Nat) (h : L.length ≤ k) : scan L x but k = none := by simp [scan, List.drop_eq_nil_of_le h]
theorem drop_at {α : Type} (L : List α) (k : Nat) (t : α) (h : L[k]? = some t) : L.drop k = t :: L.drop (k + 1) := by
  obtain ⟨hk, rfl⟩ := List.getElem?_eq_some_iff.1 h
  exact List.drop_eq_getElem_cons hk
theorem scan_far (L : List Tag) (x : Span) (but : Int) (k : Nat) (t : Tag) (h : L[k]? = some t) (ht : ¬ t.1.1 < x.2) : scan L x but k = none := by
  simp [scan, drop_at L k t h, ht]
theorem scan_hit (L : List Tag) (x : Span) (but : Int) (k : Nat) (t : Tag) (h : L[k]? = some t) (ht : t.1.1 < x.2) (ho : t.2 ≠ but) : scan L x but k = some t := by
  simp [scan, drop_at L k t h, ht, ho]
theorem scan_skip (L : List Tag) (x : Span) (but : Int) (k : Nat) (t : Tag) (h : L[k]? = some t) (ht : t.1.1 < x.2) (ho : t.2 = but) : scan L x but k = scan L x but (k + 1) := by
  unfold scan
  rw [drop_at L k t h]
  simp [ht, ho]
def tagV (t : Tag) : Value := .agg #[.int .i64 t.1.1, .int .i64 t.1.2, .int .i64 t.2]
def hitV : Option Tag → Value
  | some t => .tuple #[tagV t, .bool true]
  | none => .tuple #[tagV ((0, 0), 0), .bool false]
/-- What is handed back; nothing that was there has turned. -/
def Tells (v : Value) (w : World) (e : Ending) (w' : World) : Prop := e = .returned v ∧ Below w.heap.size w w'

set_option maxHeartbeats 4000000 in
set_option maxRecDepth 100000 in
theorem meets_calls (g : Nat) (A : Option Addr) (c : Nat) (L : List Tag) (x : Span) (but : Int) (w : World) (hc : w.cell? ⟨g, 0, none⟩ = some (.slice A L.length c)) (hr : Rd w 3 A L.length (fl3 L)) (hl : L.length ≤ 1000000000000) (hs : L.Pairwise fun x y => x.1.2 ≤ y.1.2) :
    Calls Tryz.prog 90 #[.pointer (some ⟨g, 0, none⟩), .agg #[.int .i64 x.1, .int .i64 x.2], .int .i64 but] w (Tells (hitV (hit L x but)) w) := by
  have HR := As.mk hr
  have Hs := As.mk hs
  clear hr hs
  go_enter Tryz.func90, Tryz.ntmps90
  go_wp2
  obtain ⟨W, hW⟩ : ∃ W, W = (w.alloc (.cells #[.int .i64 x.1, .int .i64 x.2] 36)).alloc (.cells #[.int .i64 0, .int .i64 0, .int .i64 0] 38) := ⟨_, rfl⟩
  rw [← hW]
  have hb : Below w.heap.size w W := by rw [hW]; exact below_allocS (below_allocS (Below.refl _ _) _) _
  have hz : W.heap.size = w.heap.size + 2 := by rw [hW]; simp
  have hcW : W.cell? ⟨g, 0, none⟩ = some (.slice A L.length c) := (hb.cell (World.block_lt_of_cell? w _ hc)).trans hc
  have hx1 : W.cell? ⟨w.heap.size, 0, none⟩ = some (.int .i64 x.1) := by rw [hW]; simp [go_sem]
  have hs0 : W.cell? ⟨w.heap.size + 1, 0, none⟩ = some (.int .i64 0) := by rw [hW]; simp [go_sem]
  have hs1 : W.cell? ⟨w.heap.size + 1, 1, none⟩ = some (.int .i64 0) := by rw [hW]; simp [go_sem]
  have hs2 : W.cell? ⟨w.heap.size + 1, 2, none⟩ = some (.int .i64 0) := by rw [hW]; simp [go_sem]
  have hf : ∀ i, W.frozen? ⟨w.heap.size + 1, i, none⟩ = false := by intro i; rw [hW]; exact frozen_new _ _ _ _ (by simp) i
  have Hf := As.mk hf
  clear hf
  have hx2 : W.cell? ⟨w.heap.size, 1, none⟩ = some (.int .i64 x.2) := by rw [hW]; simp [go_sem]
  have hRW := HR.out.belowS hb
  have HRW := As.mk hRW
  have Hz := As.mk hz
  have HW := As.mk hW
  clear hW hRW hz
  go_region_held3 (fun w' => w'.cell? ⟨g, 0, none⟩ = some (.slice A L.length c) ∧ w'.cell? ⟨w.heap.size, 0, none⟩ = some (.int .i64 x.1)) (first | exact ⟨by assumption, by assumption⟩ | go_keep) (first | (go_at_call 114; refine (Search_calls A c L x.1 _ (HRW.out.drewN _) hl Hs.out).mono ?_; rintro e w1 ⟨rfl, hb1⟩; have q1 : w1.cell? ⟨g, 0, none⟩ = some (.slice A L.length c) := (hb1.cell (World.block_lt_of_cell? W _ hcW)).trans hcW; have q2 : w1.cell? ⟨w.heap.size, 0, none⟩ = some (.int .i64 x.1) := (hb1.cell (World.block_lt_of_cell? W _ hx1)).trans hx1))
  have hb1' : Below W.heap.size W w1 := ⟨hb1.os, hb1.tape, hb1.output, hb1.size, hb1.block⟩
  have HR1 := As.mk (HRW.out.belowS hb1')
  have z0 : w1.cell? ⟨w.heap.size + 1, 0, none⟩ = some (.int .i64 0) := (hb1'.cell (World.block_lt_of_cell? W _ hs0)).trans hs0
  have z1 : w1.cell? ⟨w.heap.size + 1, 1, none⟩ = some (.int .i64 0) := (hb1'.cell (World.block_lt_of_cell? W _ hs1)).trans hs1
  have z2 : w1.cell? ⟨w.heap.size + 1, 2, none⟩ = some (.int .i64 0) := (hb1'.cell (World.block_lt_of_cell? W _ hs2)).trans hs2
  have q3 : w1.cell? ⟨w.heap.size, 1, none⟩ = some (.int .i64 x.2) := (hb1'.cell (World.block_lt_of_cell? W _ hx2)).trans hx2
  have fz : ∀ i, w1.frozen? ⟨w.heap.size + 1, i, none⟩ = false := fun i => (hb1'.frozen (p := ⟨w.heap.size + 1, i, none⟩) (by have := Hz.out; show w.heap.size + 1 < _; omega)).trans (Hf.out i)
  have f0 := fz 0
  have f1 := fz 1
  have f2 := fz 2
  have hbw := below_then hb hb1'
  have Hbw := As.mk hbw
  clear fz hb1 hb1' hbw hb hcW hx1 hx2 hs0 hs1 hs2 hc
  go_wp2
  go_loopw [8] (fun i wr => ∃ k n : Nat, i = .int .i64 k ∧ As (hit L x but = scan L x but k) ∧ wr = w1.drewN n) (fun i _ => L.length - (intOf i).toNat)
  case atStart => exact ⟨_, 0, rfl, ⟨rfl⟩, rfl⟩
  case round =>
    obtain ⟨k, n, rfl, Hk, rfl⟩ := hrel
    by_cases hk : k < L.length
    · obtain ⟨t, ht0⟩ : ∃ t, L[k]? = some t := ⟨_, List.getElem?_eq_getElem hk⟩
      obtain ⟨ad, rfl, h1, h2, h3⟩ := HR1.out.at3 ht0
      have Ht := As.mk ht0
      clear ht0
      have hd : decide (k < L.length) = true := by simpa using hk
      by_cases hlo : t.1.1 < x.2
      · by_cases ho : t.2 = but
        · go_wp2_with fail
          go_quiet (fail)
          go_wp2
          go_roundw
          case rel => exact ⟨k + 1, _, by go_num, ⟨by rw [Hk.out]; exact scan_skip L x but k t Ht.out hlo ho⟩, rfl⟩
          case measure => simp [intOf]; omega
        · have hfin0 : hit L x but = some t := by rw [Hk.out]; exact scan_hit L x but k t Ht.out hlo ho
          have Hfin := As.mk hfin0
          clear hfin0
          have hne : (t.2 == but) = false := by simpa using ho
          have hnn : (t.2 != but) = true := by simpa using ho
          clear ho
          go_wp2_with fail
          go_quiet (fail)
          go_wp2
          refine bodyPost_ret (v := .tuple #[.agg #[.int .i64 t.1.1, .int .i64 t.1.2, .int .i64 t.2], .bool true]) (by simp [results, Tryz.results90, go_sem, z0, z1, z2]) rfl ⟨by rw [Hfin.out]; rfl, ?_⟩
          exact (((below_drewN Hbw.out _).setCell (Nat.le_succ _) _).setCell (Nat.le_succ _) _).setCell (Nat.le_succ _) _
      · have hfin0 : hit L x but = none := by rw [Hk.out]; exact scan_far L x but k t Ht.out hlo
        have Hfin := As.mk hfin0
        clear hfin0
        have hd2 : decide (t.1.1 < x.2) = false := by simpa using hlo
        go_wp2_with fail
        go_quiet (fail)
        go_wp2
        refine bodyPost_ret (v := .tuple #[.agg #[.int .i64 0, .int .i64 0, .int .i64 0], .bool false]) (by simp [results, Tryz.results90, go_sem, z0, z1, z2]) rfl ⟨by rw [Hfin.out]; rfl, ?_⟩
        exact (((below_drewN Hbw.out _).setCell (Nat.le_succ _) _).setCell (Nat.le_succ _) _).setCell (Nat.le_succ _) _
    · have hfin0 : hit L x but = none := by rw [Hk.out]; exact scan_end L x but k (by omega)
      have Hfin := As.mk hfin0
      clear hfin0
      have hd : decide (k < L.length) = false := by simpa using hk
      go_wp2_with fail
      go_quiet (fail)
      go_wp2
      refine bodyPost_ret (v := .tuple #[.agg #[.int .i64 0, .int .i64 0, .int .i64 0], .bool false]) (by simp [results, Tryz.results90, go_sem, z0, z1, z2]) rfl ⟨by rw [Hfin.out]; rfl, ?_⟩
      exact (((below_drewN Hbw.out _).setCell (Nat.le_succ _) _).setCell (Nat.le_succ _) _).setCell (Nat.le_succ _) _

/-! ### A set that is read -/
/-- The set at block g reads as L. -/
def SetR (w : World) (g : Nat) (L : List Tag) : Prop :=
  ∃ A c, w.cell? ⟨g, 0, none⟩ = some (.slice A L.length c) ∧ L.length ≤ c ∧ c ≤ maxLen ∧ Rd w 3 A L.length (fl3 L)
theorem SetR.below {w w' : World} {g : Nat} {L : List Tag} (h : SetR w g L) (hb : Below w.heap.size w w') : SetR w' g L := by
  obtain ⟨A, c, h1, h2, h3, h4⟩ := h
  exact ⟨A, c, (hb.cell (World.block_lt_of_cell? w _ h1)).trans h1, h2, h3, h4.belowS hb⟩
theorem SetR.drewN {w : World} {g : Nat} {L : List Tag} (h : SetR w g L) (n : Nat) : SetR (w.drewN n) g L := h

/-- The first span of L that overlaps one of these, and whose owner is not but. -/
def clashL (L : List Tag) (l : List Span) (but : Int) : Option Tag := l.findSome? fun x => hit L x but
theorem clashL_at (L : List Tag) (l : List Span) (but : Int) (k : Nat) (x : Span) (h : l[k]? = some x) : clashL L (l.drop k) but = match hit L x but with | some t => some t | none => clashL L (l.drop (k + 1)) but := by
  rw [drop_at l k x h]
  simp [clashL, List.findSome?_cons]
  cases hit L x but <;> rfl

set_option maxHeartbeats 4000000 in
set_option maxRecDepth 100000 in
theorem clash_calls (g : Nat) (L : List Tag) (A : Option Addr) (c : Nat) (l : List Span) (but : Int) (w : World) (hS : SetR w g L) (hr : Rd w 2 A l.length (fl2 l)) (hl : L.length ≤ 1000000000000) (hl2 : l.length ≤ 1000000000000) (hs : L.Pairwise fun x y => x.1.2 ≤ y.1.2) :
    Calls Tryz.prog 65 #[.pointer (some ⟨g, 0, none⟩), .slice A l.length c, .int .i64 but] w (Tells (hitV (clashL L l but)) w) := by
  have HS := As.mk hS
  have HR := As.mk hr
  have Hs := As.mk hs
  clear hr hs hS
  go_enter Tryz.func65, Tryz.ntmps65
  go_wp2
  obtain ⟨W, hW⟩ : ∃ W, W = w.alloc (.cells #[.int .i64 0, .int .i64 0, .int .i64 0] 38) := ⟨_, rfl⟩
  rw [← hW]
  have hb : Below w.heap.size w W := by rw [hW]; exact below_allocS (Below.refl _ _) _
  have hz : W.heap.size = w.heap.size + 1 := by rw [hW]; simp
  have s0 : W.cell? ⟨w.heap.size, 0, none⟩ = some (.int .i64 0) := by rw [hW]; simp [go_sem]
  have s1 : W.cell? ⟨w.heap.size, 1, none⟩ = some (.int .i64 0) := by rw [hW]; simp [go_sem]
  have s2 : W.cell? ⟨w.heap.size, 2, none⟩ = some (.int .i64 0) := by rw [hW]; simp [go_sem]
  have hf : ∀ i, W.frozen? ⟨w.heap.size, i, none⟩ = false := by intro i; rw [hW]; exact frozen_new _ _ _ _ rfl i
  have Hf := As.mk hf
  have Hz := As.mk hz
  have HS1 := As.mk (HS.out.below hb)
  have HR1 := As.mk (HR.out.belowS hb)
  clear hW hz hf
  go_loopw [14] (fun i wr => ∃ k : Nat, k ≤ l.length ∧ i = .int .i64 k ∧ As (clashL L l but = clashL L (l.drop k) but) ∧ Below W.heap.size W wr) (fun i _ => l.length - (intOf i).toNat)
  case atStart => exact ⟨0, Nat.zero_le _, rfl, ⟨rfl⟩, Below.refl _ _⟩
  case round =>
    obtain ⟨k, hk, rfl, Hk, hb1⟩ := hrel
    by_cases hlt : k < l.length
    · obtain ⟨x, hx0⟩ : ∃ x, l[k]? = some x := ⟨_, List.getElem?_eq_getElem hlt⟩
      obtain ⟨ad, rfl, h1, h2⟩ := (HR1.out.belowS hb1).at2 hx0
      have hc := clashL_at L l but k x hx0
      have HSr := As.mk (HS1.out.below hb1)
      clear hx0
      have hm : ∀ W', Below wr.heap.size wr W' → Calls Tryz.prog 90 #[.pointer (some ⟨g, 0, none⟩), .agg #[.int .i64 x.1, .int .i64 x.2], .int .i64 but] W' (Tells (hitV (hit L x but)) W') := fun W' hW' => by
        obtain ⟨A', c', g1, _, _, g2⟩ := HSr.out.below hW'
        exact meets_calls g A' c' L x but W' g1 g2 hl Hs.out
      cases hh : hit L x but with
      | none =>
        rw [hh] at hc hm
        simp only [hitV, tagV] at hm
        have Hc := As.mk (Hk.out.trans hc)
        have Hm := As.mk hm
        clear hc hm hh
        go_wp2_with (go_at_call 90; refine (Hm.out _ (below_allocS (Below.refl _ _) _)).mono ?_; rintro e w1 ⟨rfl, hb2⟩)
        go_roundw
        case rel => exact ⟨k + 1, by omega, by go_num, Hc, below_allocS (below_then (below_allocS hb1 _) hb2) _⟩
        case measure => simp [intOf]; omega
      | some t =>
        rw [hh] at hc hm
        simp only [hitV, tagV] at hm
        have Hc := As.mk (Hk.out.trans hc)
        have Hm := As.mk hm
        clear hc hm hh
        go_wp2_with (go_at_call 90; refine (Hm.out _ (below_allocS (Below.refl _ _) _)).mono ?_; rintro e w1 ⟨rfl, hb2⟩; have hbX := below_then (below_allocS hb1 _) hb2; have z0 := (hbX.cell (World.block_lt_of_cell? W _ s0)).trans s0; have z1 := (hbX.cell (World.block_lt_of_cell? W _ s1)).trans s1; have z2 := (hbX.cell (World.block_lt_of_cell? W _ s2)).trans s2; have f0 := (hbX.frozen (World.block_lt_of_cell? W _ s0)).trans (Hf.out 0); have f1 := (hbX.frozen (World.block_lt_of_cell? W _ s1)).trans (Hf.out 1); have f2 := (hbX.frozen (World.block_lt_of_cell? W _ s2)).trans (Hf.out 2); have hlw := (World.block_lt_of_cell? w1 _ z0))
        refine bodyPost_ret (v := .tuple #[.agg #[.int .i64 t.1.1, .int .i64 t.1.2, .int .i64 t.2], .bool true]) (by simp [results, Tryz.results65, go_sem, World.cell?_alloc_lt, hlw, z0, z1, z2]) rfl ⟨by rw [Hc.out]; rfl, ?_⟩
        exact below_allocS ((((hb.trans (hbX.mono hb.size)).setCell (Nat.le_refl _) _).setCell (Nat.le_refl _) _).setCell (Nat.le_refl _) _) _
    · have hfin0 : clashL L l but = none := by rw [Hk.out, List.drop_eq_nil_of_le (by omega)]; rfl
      have Hfin := As.mk hfin0
      clear hfin0
      have z0 := (hb1.cell (World.block_lt_of_cell? W _ s0)).trans s0
      have z1 := (hb1.cell (World.block_lt_of_cell? W _ s1)).trans s1
      have z2 := (hb1.cell (World.block_lt_of_cell? W _ s2)).trans s2
      have f0 := (hb1.frozen (World.block_lt_of_cell? W _ s0)).trans (Hf.out 0)
      have f1 := (hb1.frozen (World.block_lt_of_cell? W _ s1)).trans (Hf.out 1)
      have f2 := (hb1.frozen (World.block_lt_of_cell? W _ s2)).trans (Hf.out 2)
      go_wp2
      refine bodyPost_ret (v := .tuple #[.agg #[.int .i64 0, .int .i64 0, .int .i64 0], .bool false]) (by simp [results, Tryz.results65, go_sem, z0, z1, z2]) rfl ⟨by rw [Hfin.out]; rfl, ?_⟩
      exact (((hb.trans (hb1.mono hb.size)).setCell (Nat.le_refl _) _).setCell (Nat.le_refl _) _).setCell (Nat.le_refl _) _

set_option maxHeartbeats 4000000 in
set_option maxRecDepth 100000 in
theorem Clash_calls (g : Nat) (L : List Tag) (A : Option Addr) (c : Nat) (l : List Span) (but : Int) (w : World) (hS : SetR w g L) (hr : Rd w 2 A l.length (fl2 l)) (hl : L.length ≤ 1000000000000) (hl2 : l.length ≤ 1000000000000) (hs : L.Pairwise fun x y => x.1.2 ≤ y.1.2) :
    Calls Tryz.prog 41 #[.pointer (some ⟨g, 0, none⟩), .slice A l.length c, .int .i64 but] w (Tells (hitV (clashL L (norm l) but)) w) := by
  have HS := As.mk hS
  have HR := As.mk hr
  have hnl : (norm l).length ≤ 1000000000000 := Nat.le_trans (norm_le l) hl2
  have Hs := As.mk hs
  clear hr hs hS
  go_enter Tryz.func41, Tryz.ntmps41
  go_wp2_with fail
  obtain ⟨W, hW⟩ : ∃ W, W = w.alloc (.cells #[.int .i64 0, .int .i64 0, .int .i64 0] 38) := ⟨_, rfl⟩
  rw [← hW]
  have hb : Below w.heap.size w W := by rw [hW]; exact below_allocS (Below.refl _ _) _
  have hz : W.heap.size = w.heap.size + 1 := by rw [hW]; simp
  have s0 : W.cell? ⟨w.heap.size, 0, none⟩ = some (.int .i64 0) := by rw [hW]; simp [go_sem]
  have s1 : W.cell? ⟨w.heap.size, 1, none⟩ = some (.int .i64 0) := by rw [hW]; simp [go_sem]
  have s2 : W.cell? ⟨w.heap.size, 2, none⟩ = some (.int .i64 0) := by rw [hW]; simp [go_sem]
  have hf : ∀ i, W.frozen? ⟨w.heap.size, i, none⟩ = false := by intro i; rw [hW]; exact frozen_new _ _ _ _ rfl i
  have Hf := As.mk hf
  have Hz := As.mk hz
  have HS1 := As.mk (HS.out.below hb)
  have HR1 := As.mk (HR.out.belowS hb)
  clear hW hz hf
  refine (Norm_calls A c l _ HR1.out hl2).mono ?_
  rintro e w1 ⟨v, rfl, hown, hb1⟩
  obtain ⟨A1, c1, rfl, _, _⟩ := own_form hown
  have HSr := As.mk (HS1.out.below hb1)
  have Hown := As.mk hown
  clear hown
  go_wp2_with fail
  refine (clash_calls g L A1 c1 (norm l) but _ HSr.out (Rd.of_own Hown.out) hl hnl Hs.out).mono ?_
  rintro e w2 ⟨rfl, hb2⟩
  have hbX : Below W.heap.size W w2 := below_then hb1 hb2
  have z0 := (hbX.cell (World.block_lt_of_cell? W _ s0)).trans s0
  have z1 := (hbX.cell (World.block_lt_of_cell? W _ s1)).trans s1
  have z2 := (hbX.cell (World.block_lt_of_cell? W _ s2)).trans s2
  have f0 := (hbX.frozen (World.block_lt_of_cell? W _ s0)).trans (Hf.out 0)
  have f1 := (hbX.frozen (World.block_lt_of_cell? W _ s1)).trans (Hf.out 1)
  have f2 := (hbX.frozen (World.block_lt_of_cell? W _ s2)).trans (Hf.out 2)
  obtain ⟨o, ho⟩ : ∃ o, clashL L (norm l) but = o := ⟨_, rfl⟩
  rw [ho]
  have Ho := As.mk ho
  clear ho
  cases o with
  | none =>
    simp only [hitV, tagV]
    go_wp2
    refine bodyPost_ret (v := .tuple #[.agg #[.int .i64 0, .int .i64 0, .int .i64 0], .bool false]) (by simp [results, Tryz.results41, go_sem, z0, z1, z2]) rfl ⟨by rw [Ho.out]; rfl, ?_⟩
    exact (((hb.trans (hbX.mono hb.size)).setCell (Nat.le_refl _) _).setCell (Nat.le_refl _) _).setCell (Nat.le_refl _) _
  | some t =>
    simp only [hitV, tagV]
    go_wp2
    refine bodyPost_ret (v := .tuple #[.agg #[.int .i64 t.1.1, .int .i64 t.1.2, .int .i64 t.2], .bool true]) (by simp [results, Tryz.results41, go_sem, z0, z1, z2]) rfl ⟨by rw [Ho.out]; rfl, ?_⟩
    exact (((hb.trans (hbX.mono hb.size)).setCell (Nat.le_refl _) _).setCell (Nat.le_refl _) _).setCell (Nat.le_refl _) _
end Go.Proofs.YtioaingenooelaaGreat.Meets
/-
  A list made compact: plain.
-/
namespace Go.Proofs.YtioaingenooelaaGreat.Uniq
def ustep (out : List Int) (x : Int) : List Int :=
  match out.getLast? with
  | some y => if y = x then out else out ++ [x]
  | none => [x]
def uniq (l : List Int) : List Int := l.foldl ustep []
theorem uniq_snoc (l : List Int) (x : Int) : uniq (l ++ [x]) = ustep (uniq l) x := by simp [uniq]
theorem ustep_last (out : List Int) (x : Int) : (ustep out x).getLast? = some x := by
  unfold ustep
  split
  · rename_i y h
    split
    · rename_i e; rw [h, e]
    · simp
  · rfl
theorem uniq_last (l : List Int) : (uniq l).getLast? = l.getLast? := by
  rcases Classical.em (l = []) with rfl | h
  · rfl
  · rw [← List.dropLast_concat_getLast h, uniq_snoc, ustep_last]
    simp
theorem compactUpTo_congr (a b : List Int) (n : Nat) (h : ∀ j, j < n → (a.toArray[j]! : Int) = b.toArray[j]!) : Lib.compactUpTo a.toArray n = Lib.compactUpTo b.toArray n := by
  induction n with
  | zero => rfl
  | succ n ih =>
    rw [Lib.compactUpTo_succ, Lib.compactUpTo_succ, ih (fun j hj => h j (by omega))]
    have e : Lib.keeps a.toArray n = Lib.keeps b.toArray n := by
      unfold Lib.keeps
      rw [h n (by omega)]
      rcases Nat.eq_zero_or_pos n with rfl | h0
      · simp
      · rw [h (n - 1) (by omega)]
    rw [e, h n (by omega)]
theorem compact_snoc (l : List Int) (x : Int) : Lib.compact (l ++ [x]) = Lib.compact l ++ (if l.getLast? = some x then [] else [x]) := by
  unfold Lib.compact
  rw [List.length_append, List.length_singleton, Lib.compactUpTo_succ]
  have hj : ∀ j, j < l.length → ((l ++ [x]).toArray[j]! : Int) = l.toArray[j]! := by
    intro j hj
    rw [getElem!_pos _ _ (by simp; omega), getElem!_pos _ _ (by simpa using hj)]
    simp [List.getElem_append_left hj]
  rw [compactUpTo_congr (l ++ [x]) l l.length hj]
  congr 1
  have hx : ((l ++ [x]).toArray[l.length]! : Int) = x := by
    rw [getElem!_pos _ _ (by simp)]
    simp
  rw [hx]
  unfold Lib.keeps
  rcases Classical.em (l = []) with rfl | h
  · simp
  · have h0 : 0 < l.length := List.length_pos_iff.2 h
    have hl : ((l ++ [x]).toArray[l.length - 1]! : Int) = l.getLast h := by
      rw [hj _ (by omega), getElem!_pos _ _ (by simp; omega), List.getLast_eq_getElem]
      simp
    rw [hx, hl, List.getLast?_eq_some_getLast h]
    by_cases e : l.getLast h = x
    · simp [e]; omega
    · simp [e, Ne.symm e]
theorem compact_eq (l : List Int) : Lib.compact l = uniq l := by
  suffices h : ∀ n (l : List Int), l.length = n → Lib.compact l = uniq l from h _ l rfl
  intro n
  induction n with
  | zero => intro l hl; rw [List.eq_nil_of_length_eq_zero hl]; rfl
  | succ n ih =>
    intro l hl
    have h : l ≠ [] := by intro e; subst e; simp at hl
    rw [← List.dropLast_concat_getLast h, compact_snoc, uniq_snoc, ih l.dropLast (by simp [hl])]
    unfold ustep
    rw [uniq_last]
    cases hq : l.dropLast.getLast? with
    | none =>
      have : l.dropLast = [] := by simpa using hq
      simp [this, uniq]
    | some y =>
      by_cases e : y = l.getLast h
      · simp [e]
      · simp [e]
theorem mem_uniq (l : List Int) (x : Int) : x ∈ uniq l ↔ x ∈ l := by
  suffices h : ∀ n (l : List Int), l.length = n → (x ∈ uniq l ↔ x ∈ l) from h _ l rfl
  intro n
  induction n with
  | zero => intro l hl; rw [List.eq_nil_of_length_eq_zero hl]; rfl
  | succ n ih =>
    intro l hl
    have h : l ≠ [] := by intro e; subst e; simp at hl
    have hd := ih l.dropLast (by simp [hl])
    rw [← List.dropLast_concat_getLast h, uniq_snoc]
    unfold ustep
    split
    · rename_i y hy
      split
      · rename_i e
        have hm : y ∈ uniq l.dropLast := List.mem_of_getLast? hy
        simp only [List.mem_append, List.mem_singleton, ← hd]
        constructor
        · exact .inl
        · rintro (h | h)
          · exact h
          · rw [h, ← e]; exact hm
      · simp only [List.mem_append, List.mem_singleton, hd]
    · rename_i hq
      have h1 : uniq l.dropLast = [] := by simpa using hq
      rw [h1] at hd
      simp only [List.mem_append, List.mem_singleton, ← hd]
      simp
theorem uniq_rises (l : List Int) (hs : l.Pairwise (· ≤ ·)) : (uniq l).Pairwise (· < ·) := by
  suffices h : ∀ n (l : List Int), l.length = n → l.Pairwise (· ≤ ·) → (uniq l).Pairwise (· < ·) from h _ l rfl hs
  intro n
  induction n with
  | zero => intro l hl _; rw [List.eq_nil_of_length_eq_zero hl]; exact .nil
  | succ n ih =>
    intro l hl hs
    have h : l ≠ [] := by intro e; subst e; simp at hl
    have e0 := List.dropLast_concat_getLast h
    rw [← e0, List.pairwise_append] at hs
    have hd := ih l.dropLast (by simp [hl]) hs.1
    rw [← e0, uniq_snoc]
    unfold ustep
    split
    · rename_i y hy
      split
      · exact hd
      · rename_i e
        rw [List.pairwise_append]
        refine ⟨hd, List.pairwise_singleton _ _, fun a ha b hb => ?_⟩
        rw [List.mem_singleton] at hb
        subst hb
        -- a ≤ y, y ≤ last, y ≠ last
        have hyl : y ≤ l.getLast h := hs.2.2 y ((mem_uniq _ y).1 (List.mem_of_getLast? hy)) _ (by simp)
        have hay : a ≤ y := by
          rcases List.getLast?_eq_some_iff.1 hy with ⟨p, hp⟩
          rw [hp] at ha hd
          rw [List.pairwise_append] at hd
          rcases List.mem_append.1 ha with h | h
          · exact Int.le_of_lt (hd.2.2 a h y (by simp))
          · rw [List.mem_singleton] at h; omega
        omega
    · exact List.pairwise_singleton _ _
theorem uniq_len (l : List Int) : (uniq l).length ≤ l.length := by
  suffices h : ∀ (l out : List Int), (l.foldl ustep out).length ≤ out.length + l.length by simpa [uniq] using h l []
  intro l
  induction l with
  | nil => intro out; simp
  | cons x l ih =>
    intro out
    have h1 := ih (ustep out x)
    have h2 : (ustep out x).length ≤ out.length + 1 := by
      unfold ustep
      split
      · split
        · omega
        · simp
      · simp
    simp only [List.foldl_cons, List.length_cons]
    omega
end Go.Proofs.YtioaingenooelaaGreat.Uniq
/-
  Rows of whole numbers of the call's own: sorted, made compact, cloned.
-/
namespace Go.Proofs.YtioaingenooelaaGreat.Ints
open Go.RowKit Go.Proofs.YtioaingenooelaaGreat.Wd Go.Sort
theorem info3 : (Tryz.prog.info? 3).map (fun i => (i.zero, i.size, i.bytes)) = some (some (.int .i64 0), 1, 8) := by kernel_rfl
theorem own_of_put {w : World} {base g cap : Nat} {e : TypeId} {k n : Nat} (xs F : List Value) (h : w.ownsRow base e k (.slice (some ⟨g, 0, none⟩) n cap) n xs) (hF : F.length = n * k) (q : Nat) (os : Array Obj) :
    (grow (putRow id (Sort.ahead w q) g 0 F.toArray) os).ownsRow base e k (.slice (some ⟨g, 0, none⟩) n cap) n F ∧ w.grownBy (grow (putRow id (Sort.ahead w q) g 0 F.toArray) os) (some g) := by
  have hg := (h.lt g rfl).2
  have hx : ∀ i, i < w.heap.size → some i ≠ some g → (grow (putRow id (Sort.ahead w q) g 0 F.toArray) os).heap[i]? = w.heap[i]? := by
    intro i hi hne
    unfold putRow
    rw [heap_grow_old _ _ (by simpa [mapBlock, Sort.ahead] using hi)]
    simp only [mapBlock, Sort.ahead, Array.getElem?_modify]
    rw [if_neg (fun e => hne (by rw [e]))]
  refine ⟨⟨hF, ?_⟩, ⟨rfl, rfl, rfl, by simp [putRow, mapBlock, Sort.ahead, grow], hx⟩⟩
  rcases h.2 with ⟨h1, _⟩ | ⟨g', cap', cur, hv, hb, hh, h1, h2, h3, h4⟩
  · cases h1
  · injection hv with hv hv2 hv3
    injection hv with hv
    injection hv with hv _ _
    subst hv hv3
    refine .inr ⟨g, cap, putCells id 0 F.toArray cur, rfl, hb, ?_, h1, h2, by simpa [putCells] using h3, ?_⟩
    · unfold putRow
      rw [heap_grow_old _ _ (by simpa [mapBlock, Sort.ahead] using hg)]
      simp only [mapBlock, Sort.ahead, Array.getElem?_modify, if_true, hh]
      rfl
    · have hcs : n * k ≤ cur.size := by rw [h3]; exact Nat.mul_le_mul_right _ h1
      apply List.ext_getElem?
      intro j
      by_cases hj : j < n * k
      · have hj' : j < F.length := by omega
        rw [List.getElem?_take, if_pos hj, List.getElem?_eq_getElem hj', Array.getElem?_toList]
        unfold putCells
        rw [Array.getElem?_mapIdx, Array.getElem?_eq_getElem (by omega)]
        simp only [Option.map_some, Option.some.injEq]
        rw [if_pos ⟨Nat.zero_le _, by simpa using hj'⟩, Nat.sub_zero, getElem!_pos _ j (by simpa using hj')]
        simp
      · rw [List.getElem?_eq_none (by rw [List.length_take]; omega), List.getElem?_eq_none (by omega)]
theorem putRow_int (w : World) (blk off : Nat) (l : List Int) : putRow (Value.int .i64) w blk off l.toArray = putRow id w blk off (fl1 l).toArray := by
  unfold putRow
  congr 1
  funext c
  unfold putCells fl1
  congr 1
  funext k x
  by_cases hk : off ≤ k ∧ k < off + l.length
  · rw [if_pos (by simpa using hk), if_pos (by simpa using hk)]
    rw [getElem!_pos _ _ (by simp; omega), getElem!_pos _ _ (by simp; omega)]
    simp
  · rw [if_neg (by simpa using hk), if_neg (by simpa using hk)]
theorem holds_int {w : World} {base g cap : Nat} {e : TypeId} (l : List Int) (h : w.ownsRow base e 1 (.slice (some ⟨g, 0, none⟩) l.length cap) l.length (fl1 l)) : Holds (Value.int .i64) w g 0 l.toArray ∧ g < w.heap.size := by
  refine ⟨fun j hj => ?_, (h.lt g rfl).2⟩
  have hj' : j < l.length := by simpa using hj
  have hc := h.cellAt j (by omega)
  rw [fl1_at l j _ (List.getElem?_eq_getElem hj')] at hc
  rw [Nat.zero_add, hc, getElem!_pos _ j (by simpa using hj')]
  exact ⟨by simp, h.frozenAt j⟩
theorem own_take {w : World} {base : Nat} {e : TypeId} {size n m cap : Nat} {a : Addr} {xs : List Value} (h : w.ownsRow base e size (.slice (some a) n cap) n xs) (hm : m ≤ n) : w.ownsRow base e size (.slice (some a) m cap) m (xs.take (m * size)) := by
  have hmul : m * size ≤ n * size := Nat.mul_le_mul_right _ hm
  refine ⟨by rw [List.length_take, h.1]; exact Nat.min_eq_left hmul, ?_⟩
  rcases h.2 with ⟨h1, _⟩ | ⟨g, cap', cur, hv, hb, hh, h1, h2, h3, h4⟩
  · cases h1
  · injection hv with hv hv2 hv3
    injection hv with hv
    subst hv hv3
    refine .inr ⟨g, cap, cur, rfl, hb, hh, Nat.le_trans hm h1, h2, h3, ?_⟩
    rw [← h4, List.take_take, Nat.min_eq_left hmul]

def leI (x y : Int) : Bool := decide (x ≤ y)
theorem sortInt_own {base : Nat} {v : Value} (l : List Int) (w : World) (h : w.ownsRow base 3 1 v l.length (fl1 l)) (hl : l.length ≤ 1000000000000) :
    Calls Tryz.prog 44 #[v] w fun e w' => e = .returned (.tuple #[]) ∧ w'.ownsRow base 3 1 v l.length (fl1 (l.mergeSort leI)) ∧ w.grownBy w' v.ownBlock := by
  rcases h.2 with ⟨rfl, h0⟩ | ⟨g, cap, cur, rfl, _⟩
  · refine (Tryz.slices_Sort_int_none none 0 w).mono ?_
    rintro e w' ⟨rfl, rfl⟩
    have : l = [] := List.eq_nil_of_length_eq_zero h0
    subst this
    exact ⟨rfl, by simpa using h, World.grownBy.refl _ _⟩
  · obtain ⟨hH, hg⟩ := holds_int l h
    refine (Tryz.slices_Sort_int g 0 cap l w hH hg (by omega)).mono ?_
    rintro e w' ⟨rfl, n, os, rfl⟩
    rw [putRow_int]
    exact ⟨rfl, own_of_put _ _ h (by rw [fl1_length, List.length_mergeSort, Nat.mul_one]) n os⟩
theorem compactInt_own {base : Nat} {v : Value} (l : List Int) (w : World) (h : w.ownsRow base 3 1 v l.length (fl1 l)) (hl : l.length ≤ 1000000000000)  :
    Calls Tryz.prog 72 #[v] w fun e w' => ∃ v', e = .returned v' ∧ w'.ownsRow base 3 1 v' (Uniq.uniq l).length (fl1 (Uniq.uniq l)) ∧ w.grownBy w' v.ownBlock := by
  have hcl : (Lib.compact l).length ≤ l.length := by rw [Uniq.compact_eq]; exact Uniq.uniq_len l
  have hc0 : Lib.compact ([] : List Int) = [] := rfl
  rw [← Uniq.compact_eq]
  rcases h.2 with ⟨rfl, h0⟩ | ⟨g, cap, cur, rfl, _, _, hnc, _⟩
  · refine (Tryz.slices_Compact_int_empty none 0 w).mono ?_
    have : l = [] := List.eq_nil_of_length_eq_zero h0
    subst this
    rintro e w' ⟨rfl, rfl⟩
    exact ⟨_, rfl, by rw [hc0]; exact h, World.grownBy.refl _ _⟩
  · obtain ⟨hH, hg⟩ := holds_int l h
    refine (Tryz.slices_Compact_int g 0 cap l w hH (by omega) hnc).mono ?_
    rintro e w' ⟨rfl, q, rfl⟩
    rw [putRow_int]
    have hp := own_of_put _ (fl1 (Lib.compact l ++ List.replicate (l.length - (Lib.compact l).length) 0)) h (by rw [fl1_length, List.length_append, List.length_replicate, Nat.mul_one]; omega) q #[]
    rw [grow_empty] at hp
    refine ⟨_, rfl, ?_, hp.2⟩
    have ht := own_take hp.1 hcl
    have e : (fl1 (Lib.compact l ++ List.replicate (l.length - (Lib.compact l).length) 0)).take ((Lib.compact l).length * 1) = fl1 (Lib.compact l) := by
      have hq := fl1_length (Lib.compact l)
      rw [fl1_append, Nat.mul_one, List.take_append_of_le_length (by omega), List.take_of_length_le (by omega)]
    rw [e] at ht
    exact ht
end Go.Proofs.YtioaingenooelaaGreat.Ints
/-
  iv.Set: New, Has, Of, Cut, Owners, Copy walked.
-/
namespace Go.Proofs.YtioaingenooelaaGreat.SetW
open Go.RowKit Go.Proofs.YtioaingenooelaaGreat.Wd Go.Proofs.YtioaingenooelaaGreat.Pure Go.Proofs.YtioaingenooelaaGreat.Sorted Go.Proofs.YtioaingenooelaaGreat.Search Go.Proofs.YtioaingenooelaaGreat.Norm Go.Proofs.YtioaingenooelaaGreat.Meets
attribute [local go_sem] max2_i max_i min2_i min_i

/-- The set at block g holds L; its row is v, its own. -/
def SetAt (w : World) (g : Nat) (v : Value) (L : List Tag) : Prop :=
  w.heap[g]? = some (.cells #[v] 116 (0, 0)) ∧ w.ownsRow 0 38 3 v L.length (fl3 L)
theorem SetAt.cell {w : World} {g : Nat} {v : Value} {L : List Tag} (h : SetAt w g v L) : w.cell? ⟨g, 0, none⟩ = some v := cell_of_row w g 0 _ _ (0, 0) h.1
theorem SetAt.frozen {w : World} {g : Nat} {v : Value} {L : List Tag} (h : SetAt w g v L) (i : Nat) : w.frozen? ⟨g, i, none⟩ = false := by
  have h1 := h.1
  simp [World.frozen?, h1]
theorem SetAt.lt {w : World} {g : Nat} {v : Value} {L : List Tag} (h : SetAt w g v L) : g < w.heap.size := (Array.getElem?_eq_some_iff.1 h.1).1
theorem SetAt.reads {w : World} {g : Nat} {v : Value} {L : List Tag} (h : SetAt w g v L) : SetR w g L := by
  obtain ⟨A, c, rfl, h1, h2⟩ := own_form h.2
  exact ⟨A, c, h.cell, h1, h2, Rd.of_own h.2⟩
/-- Where its two blocks stand as they were, so does the set. -/
theorem SetAt.move {w w' : World} {g : Nat} {v : Value} {L : List Tag} (h : SetAt w g v L) (h1 : w'.heap[g]? = w.heap[g]?) (h2 : ∀ k, v.ownBlock = some k → w'.heap[k]? = w.heap[k]?) : SetAt w' g v L := ⟨h1.trans h.1, own_move h.2 h2⟩
theorem SetAt.below {w w' : World} {g : Nat} {v : Value} {L : List Tag} (h : SetAt w g v L) (hb : Below w.heap.size w w') : SetAt w' g v L :=
  h.move (hb.block g h.lt) fun k hk => hb.block k (h.2.lt k hk).2
theorem SetAt.ne {w : World} {g : Nat} {v : Value} {L : List Tag} (h : SetAt w g v L) : v.ownBlock ≠ some g := by
  intro he
  rcases h.2.2 with ⟨rfl, _⟩ | ⟨g', cap, cur, rfl, _, hh, _⟩
  · simp [Value.ownBlock] at he
  · have : g' = g := by simpa [Value.ownBlock] using he
    subst this
    rw [h.1] at hh
    injection hh with hh
    injection hh with _ h2 _
    exact absurd h2 (by decide)

/-! ### New -/
theorem New_calls (w : World) : Calls Tryz.prog 35 #[] w fun e w' => e = .returned (.pointer (some ⟨w.heap.size, 0, none⟩)) ∧ w' = w.alloc (.cells #[.slice none 0 0] 116) := by
  go_enter Tryz.func35, Tryz.ntmps35
  go_wp2
  go_ret
  exact ⟨rfl, rfl⟩

/-! ### Has -/
theorem isOwner_calls (t : Tag) (o : Int) (B : Nat) (W : World) (hc : W.cell? ⟨B, 0, none⟩ = some (.int .i64 o)) : Calls Tryz.prog 87 #[.agg #[.int .i64 t.1.1, .int .i64 t.1.2, .int .i64 t.2], .pointer (some ⟨B, 0, none⟩)] W fun e w' => e = .returned (.bool (t.2 == o)) ∧ Below W.heap.size W w' := by
  have hB : B < W.heap.size := World.block_lt_of_cell? W _ hc
  go_enter Tryz.func87, Tryz.ntmps87
  go_wp2
  all_goals (go_ret; exact ⟨by simp_all, below_allocS (Below.refl _ _) _⟩)
theorem index_none (A : Option Addr) (c : Nat) (fv : Value) (w : World) : Calls Tryz.prog 92 #[.slice A 0 c, fv] w fun e w' => e = .returned (.int .i64 (-1)) ∧ w' = w := by
  go_enter Tryz.func92, Tryz.ntmps92
  go_wp2
  refine wp_loop_rounds 1 ?_
  rw [rounds_succ]
  go_wp2
  go_ret
  exact ⟨rfl, rfl⟩
theorem contains_none (A : Option Addr) (c : Nat) (fv : Value) (w : World) : Calls Tryz.prog 86 #[.slice A 0 c, fv] w fun e w' => e = .returned (.bool false) ∧ w' = w := by
  have h := index_none A c fv
  go_enter Tryz.func86, Tryz.ntmps86
  go_wp2_with (go_at_call 92; refine (h _).mono ?_; rintro e w' ⟨rfl, rfl⟩)
  go_ret
  exact ⟨rfl, rfl⟩
theorem cells3_of {w : World} {b off n : Nat} {L : List Tag} (h : Rd w 3 (some ⟨b, off, none⟩) n (fl3 L)) : ∀ j, j < L.length → ∀ i v, (e3 L[j]!)[i]? = some v → w.cell? ⟨b, off + j * 3 + i, none⟩ = some v := by
  intro j hj i v hi
  have hx : L[j]? = some L[j]! := by rw [getElem!_pos L j hj]; exact List.getElem?_eq_getElem hj
  generalize L[j]! = x at hi hx
  have h' := flatMap_at e3 3 (fun _ => rfl) L j i x (by
    rcases Nat.lt_or_ge i 3 with h | h
    · exact h
    · rw [List.getElem?_eq_none (by simpa [e3] using h)] at hi; cases hi) hx
  obtain ⟨ad, e, hc⟩ := h.2 (j * 3 + i) v (h'.trans hi)
  injection e with e
  subst e
  have hne : ∀ k, (⟨b, off, none⟩ : Addr).add k = ⟨b, off + k, none⟩ := fun k => by unfold Addr.add; split <;> simp_all
  rw [hne, ← Nat.add_assoc] at hc
  exact hc
set_option maxHeartbeats 2000000 in
theorem Has_calls (g : Nat) (L : List Tag) (o : Int) (w : World) (v : Value) (hS : SetAt w g v L) (hl : L.length ≤ 1000000000000) :
    Calls Tryz.prog 63 #[.pointer (some ⟨g, 0, none⟩), .int .i64 o] w (Tells (.bool (hasL L o)) w) := by
  have eg : ∀ args w, (callFunc 87 args).run Tryz.prog w = .ok (.enter 87 args) w := enters_of Tryz.func87 (by kernel_rfl) rfl
  have hc := hS.cell
  have hg := hS.lt
  obtain ⟨A, c, rfl, hc1, hc2⟩ := own_form hS.2
  have hR := Rd.of_own hS.2
  obtain ⟨W, hW⟩ : ∃ W, W = w.alloc (.cells #[.int .i64 o] 3) := ⟨_, rfl⟩
  have hb : Below w.heap.size w W := by rw [hW]; exact below_allocS (Below.refl _ _) _
  have hz : w.heap.size < W.heap.size := by rw [hW]; simp
  have hcw : W.cell? ⟨w.heap.size, 0, none⟩ = some (.int .i64 o) := by rw [hW]; simp [go_sem]
  have hcon : Calls Tryz.prog 86 #[.slice A L.length c, .func (.func 87) #[] #[.pointer (some ⟨w.heap.size, 0, none⟩)]] W (Tells (.bool (hasL L o)) W) := by
    rcases hS.2.2 with ⟨h1, h0⟩ | ⟨b, cap, cur, h1, _, hh, _⟩
    · have : L = [] := List.eq_nil_of_length_eq_zero h0
      subst this
      injection h1 with h1 h2 h3
      subst h1 h3
      refine (contains_none none 0 _ W).mono ?_
      rintro e w' ⟨rfl, rfl⟩
      exact ⟨rfl, Below.refl _ _⟩
    · injection h1 with h1 h2 h3
      subst h1 h3
      have hbl : b < W.heap.size := by have := (Array.getElem?_eq_some_iff.1 hh).1; omega
      have h := AnyQ.slices_ContainsFunc Tryz.containsTagged 3 Tryz.isAgg38 Tryz.sizeOf38 e3 (fun _ => rfl) (fun t : Tag => t.2 == o) 87 #[.pointer (some ⟨w.heap.size, 0, none⟩)] eg b 0 L.length c L W (fun W' t hW' => (isOwner_calls t o w.heap.size W' ((hW'.cell (p := ⟨w.heap.size, 0, none⟩) hz).trans hcw)).mono fun _ _ ⟨he, hq⟩ => ⟨he, below_then hW' hq⟩) (Nat.le_refl _) (by omega) hbl (cells3_of (hR.belowS hb))
      rw [List.take_length] at h
      exact h
  have Hb := As.mk hb
  have Hcon := As.mk hcon
  have HW := As.mk hW
  clear hcon hb hW hcw hR hS
  go_enter Tryz.func63, Tryz.ntmps63
  go_wp2_with (go_at_call 86; rw [← HW.out]; refine Hcon.out.mono ?_; rintro e w1 ⟨rfl, hb1⟩)
  go_ret
  exact ⟨rfl, below_then Hb.out hb1⟩

/-! ### Of, Cut: new rows of spans -/
set_option maxHeartbeats 4000000 in
set_option maxRecDepth 100000 in
theorem Of_calls (g : Nat) (L : List Tag) (o : Int) (w : World) (hS : SetR w g L) (hl : L.length ≤ 1000000000000) :
    Calls Tryz.prog 40 #[.pointer (some ⟨g, 0, none⟩), .int .i64 o] w (Row2 (ofL L o) w) := by
  obtain ⟨A, c, hc, hc1, hc2, hr⟩ := hS
  have HR := As.mk hr
  clear hr
  obtain ⟨i0, hi, hz0, hz1, hz2⟩ := info_parts info36
  go_enter Tryz.func40, Tryz.ntmps40
  go_wp2
  go_loopw [5, 13] (fun v i wr => ∃ k : Nat, k ≤ L.length ∧ i = .int .i64 k ∧ wr.ownsRow w.heap.size 36 2 v (ofL (L.take k) o).length (fl2 (ofL (L.take k) o)) ∧ Below w.heap.size w wr) (fun _ i _ => L.length - (intOf i).toNat)
  case atStart => exact ⟨0, Nat.zero_le _, rfl, by simpa [fl2, ofL] using World.ownsRow_nil _ _ _ _, Below.refl _ _⟩
  case round =>
    obtain ⟨k, hk, rfl, hown, hb⟩ := hrel
    by_cases hlt : k < L.length
    · obtain ⟨t, ht0⟩ : ∃ t, L[k]? = some t := ⟨_, List.getElem?_eq_getElem hlt⟩
      obtain ⟨ad, rfl, h1, h2, h3⟩ := (HR.out.belowS hb).at3 ht0
      have Ht := As.mk ht0
      clear ht0
      by_cases ho : t.2 = o
      · have ho1 : (t.2 == o) = true := by simpa using ho
        have Ho := As.mk ho
        clear ho
        have hle := ofL_le L o k
        go_wp2_with (at_builtin; refine wpList_append_own _ rfl (.tmp 21) (.tmp 24) 22 rfl w.heap.size 36 i0 (.agg #[.int .i64 0, .int .i64 0]) 2 16 Tryz.underlying22 hi hz0 hz1 hz2 rfl (by decide) _ _ _ rfl ((hown.alloc _).alloc _) ⟨wr.heap.size + 1, 0, none⟩ 1 1 (e2 t.1) rfl rfl ?c1 ?c2 ?c3 ?c4 ?c5 ?_)
        case c1 => intro j u hu; exact cell_new2 _ t.1 _ _ (by simp) j u hu
        case c2 => exact e2_one t.1
        case c3 => unfold maxLen; omega
        case c4 => omega
        case c5 => simp; have := hb.size; omega
        intro v' w1 hown' hg _
        go_wp2
        go_roundw
        case rel =>
          refine ⟨k + 1, by omega, by go_num, ?_, ?_⟩
          · rw [ofL_yes L o k t Ht.out Ho.out, List.length_append, fl2_append, fl2_one]; exact hown'
          · exact ((hb.alloc hb.size _).alloc (by simp; have := hb.size; omega) _).grown hg (by simp; have := hb.size; omega) (fun j hj => (hown.lt j hj).1)
        case measure => simp [intOf]; omega
      · have ho1 : (t.2 == o) = false := by simpa using ho
        have Ho := As.mk ho
        clear ho
        go_wp2
        go_roundw
        case rel => exact ⟨k + 1, by omega, by go_num, by rw [ofL_no L o k t Ht.out Ho.out]; exact hown.alloc _, below_allocS hb _⟩
        case measure => simp [intOf]; omega
    · obtain rfl : k = L.length := by omega
      rw [List.take_length] at hown
      go_wp2
      go_ret
      exact ⟨_, rfl, hown, hb⟩

set_option maxHeartbeats 4000000 in
set_option maxRecDepth 100000 in
theorem Cut_calls (g : Nat) (L : List Tag) (lo hi : Int) (w : World) (hS : SetR w g L) (hl : L.length ≤ 1000000000000) :
    Calls Tryz.prog 45 #[.pointer (some ⟨g, 0, none⟩), .int .i64 lo, .int .i64 hi] w (Row2 (cutL L lo hi) w) := by
  obtain ⟨A, c, hc, hc1, hc2, hr⟩ := hS
  have HR := As.mk hr
  clear hr
  obtain ⟨i0, hii, hz0, hz1, hz2⟩ := info_parts info36
  go_enter Tryz.func45, Tryz.ntmps45
  go_wp2
  go_loopw [7, 15] (fun v i wr => ∃ k : Nat, k ≤ L.length ∧ i = .int .i64 k ∧ wr.ownsRow w.heap.size 36 2 v (cuts (L.take k) lo hi).length (fl2 (cuts (L.take k) lo hi)) ∧ Below w.heap.size w wr) (fun _ i _ => L.length - (intOf i).toNat)
  case atStart => exact ⟨0, Nat.zero_le _, rfl, by simpa [fl2, cuts] using World.ownsRow_nil _ _ _ _, Below.refl _ _⟩
  case round =>
    obtain ⟨k, hk, rfl, hown, hb⟩ := hrel
    by_cases hlt : k < L.length
    · obtain ⟨t, ht0⟩ : ∃ t, L[k]? = some t := ⟨_, List.getElem?_eq_getElem hlt⟩
      obtain ⟨ad, rfl, h1, h2, h3⟩ := (HR.out.belowS hb).at3 ht0
      have Ht := As.mk ht0
      clear ht0
      have hle : (cuts (L.take k) lo hi).length ≤ k := by rw [cuts_len]; exact List.length_take_le _ _
      go_wp2_with (at_builtin; refine wpList_append_own _ rfl (.tmp 19) (.tmp 31) 22 rfl w.heap.size 36 i0 (.agg #[.int .i64 0, .int .i64 0]) 2 16 Tryz.underlying22 hii hz0 hz1 hz2 rfl (by decide) _ _ _ rfl ((hown.alloc _).alloc _) ⟨wr.heap.size + 1, 0, none⟩ 1 1 (e2 (max t.1.1 lo, min t.1.2 hi)) rfl rfl ?c1 ?c2 ?c3 ?c4 ?c5 ?_)
      case c1 => intro j u hu; exact cell_new2 _ (max t.1.1 lo, min t.1.2 hi) _ _ (by simp) j u hu
      case c2 => exact e2_one _
      case c3 => unfold maxLen; omega
      case c4 => omega
      case c5 => simp; have := hb.size; omega
      intro v' w1 hown' hg _
      go_wp2
      go_roundw
      case rel =>
        refine ⟨k + 1, by omega, by go_num, ?_, ?_⟩
        · rw [cuts_yes L lo hi k t Ht.out, List.length_append, fl2_append, fl2_one]; exact hown'
        · exact ((hb.alloc hb.size _).alloc (by simp; have := hb.size; omega) _).grown hg (by simp; have := hb.size; omega) (fun j hj => (hown.lt j hj).1)
      case measure => simp [intOf]; omega
    · obtain rfl : k = L.length := by omega
      rw [List.take_length] at hown
      obtain ⟨A3, c3, rfl, _, _⟩ := own_form hown
      go_wp2_with (go_at_call 64; refine (Norm_calls A3 c3 (cuts L lo hi) _ (Rd.of_own hown) (by rw [cuts_len]; exact hl)).mono ?_; rintro e w1 ⟨v, rfl, hown1, hb1⟩)
      go_ret
      exact ⟨_, rfl, own_mono hown1 hb.size, below_then hb hb1⟩

/-! ### Owners -/
/-- A new row of whole numbers is handed back; nothing that was there has turned. -/
def Row1 (l : List Int) (w : World) (e : Ending) (w' : World) : Prop :=
  ∃ v, e = .returned v ∧ w'.ownsRow w.heap.size 3 1 v l.length (fl1 l) ∧ Below w.heap.size w w'
def ownersL (L : List Tag) : List Int := Uniq.uniq ((ownOf L).mergeSort Ints.leI)
set_option maxHeartbeats 4000000 in
set_option maxRecDepth 100000 in
theorem Owners_calls (g : Nat) (L : List Tag) (w : World) (hS : SetR w g L) (hl : L.length ≤ 1000000000000) :
    Calls Tryz.prog 46 #[.pointer (some ⟨g, 0, none⟩)] w (Row1 (ownersL L) w) := by
  obtain ⟨A, c, hc, hc1, hc2, hr⟩ := hS
  have HR := As.mk hr
  clear hr
  obtain ⟨i0, hii, hz0, hz1, hz2⟩ := info_parts Ints.info3
  go_enter Tryz.func46, Tryz.ntmps46
  go_wp2
  go_loopw [3, 11] (fun v i wr => ∃ k : Nat, k ≤ L.length ∧ i = .int .i64 k ∧ wr.ownsRow w.heap.size 3 1 v (ownOf (L.take k)).length (fl1 (ownOf (L.take k))) ∧ Below w.heap.size w wr) (fun _ i _ => L.length - (intOf i).toNat)
  case atStart => exact ⟨0, Nat.zero_le _, rfl, by simpa [fl1, ownOf] using World.ownsRow_nil _ _ _ _, Below.refl _ _⟩
  case round =>
    obtain ⟨k, hk, rfl, hown, hb⟩ := hrel
    by_cases hlt : k < L.length
    · obtain ⟨t, ht0⟩ : ∃ t, L[k]? = some t := ⟨_, List.getElem?_eq_getElem hlt⟩
      obtain ⟨ad, rfl, h1, h2, h3⟩ := (HR.out.belowS hb).at3 ht0
      have Ht := As.mk ht0
      clear ht0
      have hle : (ownOf (L.take k)).length ≤ k := by rw [ownOf_len]; exact List.length_take_le _ _
      go_wp2_with (at_builtin; refine wpList_append_own _ rfl (.tmp 15) (.tmp 18) 33 rfl w.heap.size 3 i0 (.int .i64 0) 1 8 Tryz.underlying33 hii hz0 hz1 hz2 rfl (by decide) _ _ _ rfl ((hown.alloc _).alloc _) ⟨wr.heap.size + 1, 0, none⟩ 1 1 [.int .i64 t.2] rfl rfl ?c1 ?c2 ?c3 ?c4 ?c5 ?_)
      case c1 => intro j u hu; exact cell_new1 _ t.2 _ _ (by simp) j u hu
      case c2 => first | rfl | (intro u hu; rw [List.mem_singleton] at hu; subst hu; rfl)
      case c3 => unfold maxLen; omega
      case c4 => omega
      case c5 => have := hb.size; first | omega | (simp; omega)
      intro v' w1 hown' hg _
      go_wp2
      go_roundw
      case rel =>
        refine ⟨k + 1, by omega, by go_num, ?_, ?_⟩
        · rw [ownOf_yes L k t Ht.out, List.length_append, fl1_append]; exact hown'
        · exact ((hb.alloc hb.size _).alloc (by simp; have := hb.size; omega) _).grown hg (by simp; have := hb.size; omega) (fun j hj => (hown.lt j hj).1)
      case measure => simp [intOf]; omega
    · obtain rfl : k = L.length := by omega
      rw [List.take_length] at hown
      have hml : (ownOf L).length ≤ 1000000000000 := by rw [ownOf_len]; exact hl
      obtain ⟨m, hm⟩ : ∃ m : List Int, ownOf L = m := ⟨_, rfl⟩
      rw [hm] at hown hml
      have Hm := As.mk hm
      clear hm
      go_wp2_with fail
      refine (Ints.sortInt_own (base := w.heap.size) m _ hown hml).mono ?_
      rintro e w1 ⟨rfl, hown1, hg1⟩
      have hml2 : (m.mergeSort Ints.leI).length = m.length := List.length_mergeSort ..
      have Hml2 := As.mk hml2
      have hb1 := hb.grown hg1 hb.size (fun j hj => (hown.lt j hj).1)
      rw [← hml2] at hown1
      clear hml2
      go_wp2_with fail
      refine (Ints.compactInt_own (base := w.heap.size) (m.mergeSort Ints.leI) _ hown1 (by rw [Hml2.out]; exact hml)).mono ?_
      rintro e w2 ⟨v', rfl, hown2, hg2⟩
      go_wp2
      go_ret
      exact ⟨_, rfl, by unfold ownersL; rw [Hm.out]; exact hown2, hb1.grown hg2 hb1.size (fun j hj => (hown1.lt j hj).1)⟩

/-! ### Copy -/
theorem info38 : (Tryz.prog.info? 38).map (fun i => (i.zero, i.size, i.bytes)) = some (some (.agg #[.int .i64 0, .int .i64 0, .int .i64 0]), 3, 24) := by kernel_rfl
theorem fl3_one' (L : List Tag) : ∀ u ∈ fl3 L, u.oneCell' = true := by
  intro u hu
  unfold fl3 at hu
  rw [List.mem_flatMap] at hu
  obtain ⟨x, _, hx⟩ := hu
  exact e3_one x u hx
theorem cloneTagged_calls (L : List Tag) (v : Value) (w : World) (h : w.ownsRow 0 38 3 v L.length (fl3 L)) (hl : L.length ≤ 1000000000000) :
    Calls Tryz.prog 108 #[v] w fun e w' => ∃ v', e = .returned v' ∧ w'.ownsRow w.heap.size 38 3 v' L.length (fl3 L) ∧ Below w.heap.size w w' := by
  rcases h.2 with ⟨rfl, h0⟩ | ⟨g, cap, cur, rfl, _⟩
  · refine (AnyE.slices_Clone_nil Tryz.cloneTagged 0 0 w).mono ?_
    rintro e w' ⟨rfl, rfl⟩
    have : L = [] := List.eq_nil_of_length_eq_zero h0
    subst this
    exact ⟨_, rfl, World.ownsRow_nil _ _ _ _, Below.refl _ _⟩
  · obtain ⟨i0, hii, hz0, hz1, hz2⟩ := info_parts info38
    have hz : Go.Proofs.YtioaingenooelaaGreat.Wd.fl3 L = fl3 L := rfl
    refine (AnyE.slices_Clone Tryz.cloneTagged i0 _ 3 24 hii hz0 hz1 hz2 rfl (by decide) Tryz.sizeOf38 g 0 L.length cap (fl3 L) w (fl3_length L) (by unfold maxLen; omega) (by omega) (fun j u hu => ?_) (fl3_one' L)).mono ?_
    · have hc := h.cells (g := g) rfl j u hu
      rw [add_plain] at hc
      rw [Nat.zero_add]
      exact hc
    · rintro e w' ⟨v', rfl, h1, _, h2⟩
      exact ⟨v', rfl, h1, h2⟩
theorem List_calls (g : Nat) (v : Value) (L : List Tag) (w : World) (hS : SetAt w g v L) (hl : L.length ≤ 1000000000000) :
    Calls Tryz.prog 79 #[.pointer (some ⟨g, 0, none⟩)] w fun e w' => ∃ v', e = .returned v' ∧ w'.ownsRow w.heap.size 38 3 v' L.length (fl3 L) ∧ Below w.heap.size w w' := by
  have hc := hS.cell
  have hg := hS.lt
  have hcon := cloneTagged_calls L v w hS.2 hl
  have Hcon := As.mk hcon
  clear hS hcon
  go_enter Tryz.func79, Tryz.ntmps79
  go_wp2_with fail
  refine Hcon.out.mono ?_
  rintro e w1 ⟨v', rfl, hown, hb⟩
  go_wp2
  go_ret
  exact ⟨_, rfl, hown, hb⟩
theorem Copy_calls (g : Nat) (v : Value) (L : List Tag) (w : World) (hS : SetAt w g v L) (hl : L.length ≤ 1000000000000) :
    Calls Tryz.prog 54 #[.pointer (some ⟨g, 0, none⟩)] w fun e w' => ∃ g' v', e = .returned (.pointer (some ⟨g', 0, none⟩)) ∧ SetAt w' g' v' L ∧ w.heap.size ≤ g' ∧ (∀ k, v'.ownBlock = some k → w.heap.size ≤ k) ∧ Below w.heap.size w w' := by
  have hcon := List_calls g v L w hS hl
  have Hcon := As.mk hcon
  clear hS hcon
  go_enter Tryz.func54, Tryz.ntmps54
  go_wp2_with fail
  refine Hcon.out.mono ?_
  rintro e w1 ⟨v', rfl, hown, hb⟩
  obtain ⟨A, c, rfl, _, _⟩ := own_form hown
  go_wp2
  go_ret
  refine ⟨w1.heap.size, .slice A L.length c, rfl, ⟨heap_alloc_new w1 _, own_mono (hown.alloc _) (Nat.zero_le _)⟩, hb.size, fun k hk => (hown.lt k hk).1, below_allocS hb _⟩
end Go.Proofs.YtioaingenooelaaGreat.SetW
/-
  The place of the first hit; what is left without an owner: plain.
-/
namespace Go.Proofs.YtioaingenooelaaGreat.Pure
theorem idx_from (p : Tag → Bool) (d : Tag) : ∀ (L : List Tag) (i : Nat),
    (Lib.idxByFrom (fun _ y => p y) d L i = -1 ∧ ∀ x, x ∈ L → p x = false) ∨ ∃ (k : Nat) (x : Tag), L[k]? = some x ∧ Lib.idxByFrom (fun _ y => p y) d L i = ((i + k : Nat) : Int) ∧ p x = true ∧ ∀ j y, j < k → L[j]? = some y → p y = false
  | [], i => .inl ⟨rfl, fun x hx => by cases hx⟩
  | y :: r, i => by
    cases h : p y with
    | true => exact .inr ⟨0, y, rfl, by simp [Lib.idxByFrom, h], h, fun j y hj => absurd hj (Nat.not_lt_zero _)⟩
    | false =>
      rcases idx_from p d r (i + 1) with ⟨e, ha⟩ | ⟨k, x, hk, e, ht, ha⟩
      · exact .inl ⟨by simp [Lib.idxByFrom, h, e], fun x hx => by rcases List.mem_cons.1 hx with rfl | hx; exact h; exact ha x hx⟩
      · refine .inr ⟨k + 1, x, by simpa using hk, by simp only [Lib.idxByFrom, h]; rw [show (if false = true then (i : Int) else Lib.idxByFrom (fun _ y => p y) d r (i + 1)) = Lib.idxByFrom (fun _ y => p y) d r (i + 1) from rfl, e]; congr 1; omega, ht, fun j z hj hz => ?_⟩
        cases j with
        | zero => simp at hz; rw [← hz]; exact h
        | succ j => exact ha j z (by omega) (by simpa using hz)
theorem idx_spec (p : Tag → Bool) (d : Tag) (L : List Tag) :
    (Lib.idxBy (fun _ y => p y) L d = -1 ∧ ∀ x, x ∈ L → p x = false) ∨ ∃ (k : Nat) (x : Tag), L[k]? = some x ∧ Lib.idxBy (fun _ y => p y) L d = (k : Int) ∧ p x = true ∧ ∀ j y, j < k → L[j]? = some y → p y = false := by
  have h := idx_from p d L 0
  simpa [Lib.idxBy] using h
/-- What is left without an owner. -/
def keepL (L : List Tag) (o : Int) : List Tag := L.filter fun t => !(t.2 == o)
theorem keepL_le (L : List Tag) (o : Int) : (keepL L o).length ≤ L.length := List.length_filter_le _ _
theorem keepL_take_le (L : List Tag) (o : Int) (k : Nat) : (keepL (L.take k) o).length ≤ k := Nat.le_trans (keepL_le _ _) (List.length_take_le _ _)
theorem keepL_all (L : List Tag) (o : Int) (h : ∀ x, x ∈ L → (x.2 == o) = false) : keepL L o = L := by
  unfold keepL
  rw [List.filter_eq_self]
  intro x hx
  simp [h x hx]
theorem keepL_yes (L : List Tag) (o : Int) (k : Nat) (t : Tag) (h : L[k]? = some t) (ho : (t.2 == o) = false) : keepL (L.take (k + 1)) o = keepL (L.take k) o ++ [t] := by
  obtain ⟨hk, rfl⟩ := List.getElem?_eq_some_iff.1 h
  unfold keepL
  rw [List.take_succ_eq_append_getElem hk, List.filter_append]
  simp [ho]
theorem keepL_no (L : List Tag) (o : Int) (k : Nat) (t : Tag) (h : L[k]? = some t) (ho : (t.2 == o) = true) : keepL (L.take (k + 1)) o = keepL (L.take k) o := by
  obtain ⟨hk, rfl⟩ := List.getElem?_eq_some_iff.1 h
  unfold keepL
  rw [List.take_succ_eq_append_getElem hk, List.filter_append]
  simp [ho]
theorem keepL_front (L : List Tag) (o : Int) (k : Nat) (h : ∀ j y, j < k → L[j]? = some y → (y.2 == o) = false) : keepL (L.take k) o = L.take k := by
  refine keepL_all _ _ fun x hx => ?_
  obtain ⟨j, hj, rfl⟩ := List.getElem_of_mem hx
  rw [List.length_take] at hj
  exact h j _ (by omega) (by rw [List.getElem_take]; exact List.getElem?_eq_getElem (by omega))
/-- The row while it is gone through: the first i are what is left of the first j, from j on it is as it was. -/
structure Struck (L R : List Tag) (o : Int) (i j : Nat) : Prop where
  len : R.length = L.length
  lt : i < j
  front : R.take i = keepL (L.take j) o
  back : R.drop j = L.drop j
theorem Struck.at_ {L R : List Tag} {o : Int} {i j : Nat} (h : Struck L R o i j) {t : Tag} (ht : L[j]? = some t) : R[j]? = some t := by
  have := congrArg (fun l => l[0]?) h.back
  simpa [List.getElem?_drop, ht] using this
theorem Struck.num {L R : List Tag} {o : Int} {i j : Nat} (h : Struck L R o i j) (hj : j ≤ L.length) : i = (keepL (L.take j) o).length := by
  rw [← h.front, List.length_take, h.len]
  have := h.lt
  omega
theorem Struck.skip {L R : List Tag} {o : Int} {i j : Nat} (h : Struck L R o i j) {t : Tag} (ht : L[j]? = some t) (ho : (t.2 == o) = true) : Struck L R o i (j + 1) := by
  refine ⟨h.len, by have := h.lt; omega, by rw [keepL_no L o j t ht ho]; exact h.front, ?_⟩
  have := congrArg (List.drop 1) h.back
  simpa [List.drop_drop] using this
theorem Struck.keep {L R : List Tag} {o : Int} {i j : Nat} (h : Struck L R o i j) {t : Tag} (ht : L[j]? = some t) (ho : (t.2 == o) = false) : Struck L (R.set i t) o (i + 1) (j + 1) := by
  have hj : j < L.length := (List.getElem?_eq_some_iff.1 ht).1
  have hi : i < R.length := by have := h.lt; have := h.len; omega
  refine ⟨by rw [List.length_set]; exact h.len, by have := h.lt; omega, ?_, ?_⟩
  · rw [keepL_yes L o j t ht ho, ← h.front]
    rw [List.take_succ_eq_append_getElem (by rw [List.length_set]; exact hi)]
    rw [List.take_set_of_le (Nat.le_refl _)]
    simp
  · have h1 := congrArg (List.drop 1) h.back
    rw [List.drop_drop, List.drop_drop] at h1
    rw [List.drop_set_of_lt (by have := h.lt; omega)]
    exact h1
theorem Struck.start (L : List Tag) (o : Int) (k : Nat) (t : Tag) (ht : L[k]? = some t) (ho : (t.2 == o) = true) (h : ∀ j y, j < k → L[j]? = some y → (y.2 == o) = false) : Struck L L o k (k + 1) :=
  ⟨rfl, Nat.lt_succ_self _, by rw [keepL_no L o k t ht ho, keepL_front L o k h], rfl⟩
end Go.Proofs.YtioaingenooelaaGreat.Pure
/-
  iv.Set: Remove (over slices.DeleteFunc), Add walked.
-/
namespace Go.Proofs.YtioaingenooelaaGreat.Edit
open Go.RowKit Go.Proofs.YtioaingenooelaaGreat.Wd Go.Proofs.YtioaingenooelaaGreat.Pure Go.Proofs.YtioaingenooelaaGreat.Sorted Go.Proofs.YtioaingenooelaaGreat.Search Go.Proofs.YtioaingenooelaaGreat.Norm Go.Proofs.YtioaingenooelaaGreat.Meets Go.Proofs.YtioaingenooelaaGreat.SetW

section
variable {w : World} {base g cap n : Nat} {e : TypeId}
theorem fl3_set : ∀ (R : List Tag) (i : Nat) (t : Tag), (((fl3 R).set (i * 3) (.int .i64 t.1.1)).set (i * 3 + 1) (.int .i64 t.1.2)).set (i * 3 + 2) (.int .i64 t.2) = fl3 (R.set i t)
  | [], i, t => rfl
  | x :: R, 0, t => rfl
  | x :: R, i + 1, t => by
    rw [fl3_cons, List.set_cons_succ, fl3_cons, ← fl3_set R i t, show (i + 1) * 3 = i * 3 + 1 + 1 + 1 from by omega]
    rfl
theorem fl3_take : ∀ (R : List Tag) (i : Nat), fl3 (R.take i) = (fl3 R).take (i * 3)
  | [], i => by simp [fl3]
  | x :: R, 0 => by simp [fl3]
  | x :: R, i + 1 => by
    rw [List.take_succ_cons, fl3_cons, fl3_cons, fl3_take R i, show (i + 1) * 3 = i * 3 + 1 + 1 + 1 from by omega]
    rfl
theorem own_store3 {R : List Tag} (h : w.ownsRow base e 3 (.slice (some ⟨g, 0, none⟩) n cap) n (fl3 R)) (i : Nat) (t : Tag) :
    (((w.setCell ⟨g, i * 3, none⟩ (.int .i64 t.1.1)).setCell ⟨g, i * 3 + 1, none⟩ (.int .i64 t.1.2)).setCell ⟨g, i * 3 + 2, none⟩ (.int .i64 t.2)).ownsRow base e 3 (.slice (some ⟨g, 0, none⟩) n cap) n (fl3 (R.set i t)) ∧
    w.grownBy (((w.setCell ⟨g, i * 3, none⟩ (.int .i64 t.1.1)).setCell ⟨g, i * 3 + 1, none⟩ (.int .i64 t.1.2)).setCell ⟨g, i * 3 + 2, none⟩ (.int .i64 t.2)) (some g) := by
  have h1 := h.stored (i * 3) (.int .i64 t.1.1)
  have h2 := h1.1.stored (i * 3 + 1) (.int .i64 t.1.2)
  have h3 := h2.1.stored (i * 3 + 2) (.int .i64 t.2)
  rw [fl3_set] at h3
  exact ⟨h3.1, (h1.2.trans (h2.2)).trans h3.2⟩
theorem own_setCells {size : Nat} : ∀ (vs : List Value) (o : Nat) (w : World) (xs : List Value), w.ownsRow base e size (.slice (some ⟨g, 0, none⟩) n cap) n xs →
    ∃ ys, (w.setCells g o vs).ownsRow base e size (.slice (some ⟨g, 0, none⟩) n cap) n ys ∧ ys.take o = xs.take o ∧ w.grownBy (w.setCells g o vs) (some g)
  | [], o, w, xs, h => ⟨xs, h, rfl, World.grownBy.refl _ _⟩
  | v :: vs, o, w, xs, h => by
    have h1 := h.stored o v
    obtain ⟨ys, h2, h3, h4⟩ := own_setCells vs (o + 1) _ _ h1.1
    refine ⟨ys, h2, ?_, h1.2.trans h4⟩
    have h5 := congrArg (List.take o) h3
    rw [List.take_take, List.take_take, Nat.min_eq_left (by omega)] at h5
    rw [h5]
    apply List.ext_getElem?
    intro j
    rw [List.getElem?_take, List.getElem?_take]
    split
    · rw [List.getElem?_set_ne (by omega)]
    · rfl
end

theorem blk_set {w : World} {g : Nat} {t : TypeId} {cs : Array Value} (h : w.heap[g]? = some (.cells cs t (0, 0))) (i : Nat) (u : Value) : (w.setCell ⟨g, i, none⟩ u).heap[g]? = some (.cells (cs.setIfInBounds i u) t (0, 0)) := by
  simp only [World.setCell, Array.getElem?_modify, if_true, h]
  rfl
theorem grown_of_below {w w1 : World} (h : Below w.heap.size w w1) (row : Option Nat) : w.grownBy w1 row := ⟨h.os, h.tape, h.output, h.size, fun i hi _ => h.block i hi⟩

/-! ### slices.DeleteFunc by Remove's own question -/
theorem isOwner2_calls (t : Tag) (o : Int) (B : Nat) (W : World) (hc : W.cell? ⟨B, 0, none⟩ = some (.int .i64 o)) : Calls Tryz.prog 69 #[.agg #[.int .i64 t.1.1, .int .i64 t.1.2, .int .i64 t.2], .pointer (some ⟨B, 0, none⟩)] W fun e w' => e = .returned (.bool (t.2 == o)) ∧ Below W.heap.size W w' := by
  have hB : B < W.heap.size := World.block_lt_of_cell? W _ hc
  go_enter Tryz.func69, Tryz.ntmps69
  go_wp2
  all_goals (go_ret; exact ⟨by simp_all, below_allocS (Below.refl _ _) _⟩)
/-- clear(s[i:]) of a row of one's own: what lies ahead of i stays. -/
theorem run_clear_own {w : World} {base g cap n i : Nat} {xs : List Value} (ty : TypeId) (hw : w.ownsRow base 38 3 (.slice (some ⟨g, 0, none⟩) n cap) n xs) (hi : i < n) :
    ∃ w', (Builtin.clear_ #[114] ty #[.slice (some ⟨g, i * 3, none⟩) (n - i) (cap - i)]).run Tryz.prog w = .ok (.tuple #[]) w' ∧ (∃ ys, w'.ownsRow base 38 3 (.slice (some ⟨g, 0, none⟩) n cap) n ys ∧ ys.take (i * 3) = xs.take (i * 3)) ∧ w.grownBy w' (some g) := by
  have hz : ∀ w, (zeroValue 38).run Tryz.prog w = .ok (.agg #[.int .i64 0, .int .i64 0, .int .i64 0]) w := fun w => by kernel_rfl
  obtain ⟨ys, h1, h2, h3⟩ := own_setCells ((Builtin.zeroCells (Value.agg #[.int .i64 0, .int .i64 0, .int .i64 0]).cells (n - i)).toList) (i * 3) w xs hw
  refine ⟨_, ?_, ⟨ys, h1, h2⟩, h3⟩
  have hlen : ((Builtin.zeroCells (Value.agg #[.int .i64 0, .int .i64 0, .int .i64 0]).cells (n - i)).toList).length = (n - i) * 3 := by
    simp [Builtin.zeroCells, Value.cells]
  have hx : xs.length = n * 3 := hw.1
  have hst := run_storeCells_cells (P := Tryz.prog) g (i * 3) ((Builtin.zeroCells (Value.agg #[.int .i64 0, .int .i64 0, .int .i64 0]).cells (n - i)).toList) 0 w (fun j hj => by
      rw [hlen] at hj
      have hk : i * 3 + 0 + j < n * 3 := by omega
      have h := hw.cellAt (i * 3 + 0 + j) hk
      rw [h, List.getElem?_eq_getElem (by omega)]
      rfl) (fun j hj => hw.frozenAt _) (by
      intro v hv
      simp [Builtin.zeroCells, Value.cells] at hv
      obtain ⟨k, _, rfl⟩ := hv
      have h3 : k % 3 < 3 := Nat.mod_lt _ (by omega)
      rcases (by omega : k % 3 = 0 ∨ k % 3 = 1 ∨ k % 3 = 2) with h | h | h <;> rw [h] <;> rfl)
  simp only [Nat.add_zero] at hst
  obtain ⟨m, hm⟩ : ∃ m, n - i = m + 1 := ⟨n - i - 1, by omega⟩
  rw [hm] at hst ⊢
  simp [Builtin.clear_, run_underlying Tryz.underlying114, hz, hst]

set_option maxHeartbeats 8000000 in
set_option maxRecDepth 100000 in
theorem Delete_calls (L : List Tag) (o : Int) (B : Nat) (v : Value) (w : World) (hown : w.ownsRow 0 38 3 v L.length (fl3 L)) (hl : L.length ≤ 1000000000000) (hcB : w.cell? ⟨B, 0, none⟩ = some (.int .i64 o)) (hne : v.ownBlock ≠ some B) :
    Calls Tryz.prog 68 #[v, .func (.func 69) #[] #[.pointer (some ⟨B, 0, none⟩)]] w fun e w' => ∃ v', e = .returned v' ∧ w'.ownsRow 0 38 3 v' (keepL L o).length (fl3 (keepL L o)) ∧ v'.ownBlock = v.ownBlock ∧ w.grownBy w' v.ownBlock := by
  have eg : ∀ args w, (callFunc 69 args).run Tryz.prog w = .ok (.enter 69 args) w := enters_of Tryz.func69 (by kernel_rfl) rfl
  have hBl : B < w.heap.size := World.block_lt_of_cell? w _ hcB
  rcases hown.2 with ⟨rfl, h0⟩ | ⟨g, cap, cur, rfl, _, hh, hncap, _⟩
  · have : L = [] := List.eq_nil_of_length_eq_zero h0
    subst this
    have hi := index_none none 0 (.func (.func 69) #[] #[.pointer (some ⟨B, 0, none⟩)])
    go_enter Tryz.func68, Tryz.ntmps68
    go_wp2_with (go_at_call 92; refine (hi _).mono ?_; rintro e w' ⟨rfl, rfl⟩)
    go_ret
    exact ⟨_, rfl, hown, rfl, World.grownBy.refl _ _⟩
  · have hgl : g < w.heap.size := (Array.getElem?_eq_some_iff.1 hh).1
    have hgB : g ≠ B := fun e => hne (by simp [Value.ownBlock, e])
    have hIF := AnyQ.slices_IndexFunc Tryz.indexTagged 3 Tryz.isAgg38 Tryz.sizeOf38 e3 (fun _ => rfl) (fun t : Tag => t.2 == o) 69 #[.pointer (some ⟨B, 0, none⟩)] eg g 0 L.length cap L w (fun W' t hW' => (isOwner2_calls t o B W' ((hW'.cell (p := ⟨B, 0, none⟩) hBl).trans hcB)).mono fun _ _ ⟨he, hq⟩ => ⟨he, below_then hW' hq⟩) (Nat.le_refl _) (by omega) hgl (cells3_of (Rd.of_own hown))
    rw [List.take_length] at hIF
    change Calls Tryz.prog 92 _ _ _ at hIF
    rcases idx_spec (fun t => t.2 == o) default L with ⟨e1, hall⟩ | ⟨k0, t0, hk0, e1, ht0, hfront⟩
    · rw [e1] at hIF
      have Hown := As.mk hown
      have Hall := As.mk (keepL_all L o hall)
      have HIF := As.mk hIF
      clear hall hown hIF hh
      go_enter Tryz.func68, Tryz.ntmps68
      go_wp2_with fail
      refine HIF.out.mono ?_
      rintro e w1 ⟨rfl, hb⟩
      go_wp2
      go_ret
      exact ⟨_, rfl, by rw [Hall.out]; exact own_below Hown.out hb, rfl, grown_of_below hb _⟩
    · rw [e1] at hIF
      have hk0n : k0 < L.length := (List.getElem?_eq_some_iff.1 hk0).1
      have Hstart := As.mk (Struck.start L o k0 t0 hk0 ht0 hfront)
      have Hown := As.mk hown
      have HIF := As.mk hIF
      have hk1 : ((k0 : Int) == -1) = false := beq_eq_false_iff_ne.2 (by omega)
      clear hown hIF hh hfront hk0 ht0
      go_enter Tryz.func68, Tryz.ntmps68
      go_wp2_with fail
      refine HIF.out.mono ?_
      rintro e w1 ⟨rfl, hb⟩
      go_wp2
      have Hw1 := As.mk (own_below Hown.out hb)
      have Hg1 := As.mk (grown_of_below hb (some g))
      clear hb
      go_loopw [5, 6] (fun i j wr => ∃ (a b : Nat) (R : List Tag), i = .int .i64 a ∧ j = .int .i64 b ∧ a ≤ b ∧ b ≤ L.length ∧ As (Struck L R o a b) ∧ As (wr.ownsRow 0 38 3 (.slice (some ⟨g, 0, none⟩) L.length cap) L.length (fl3 R)) ∧ As (w.grownBy wr (some g))) (fun _ j _ => L.length - (intOf j).toNat)
      case atStart => exact ⟨k0, k0 + 1, L, rfl, by go_num, by omega, by omega, Hstart, Hw1, Hg1⟩
      case round =>
        obtain ⟨a, b, R, rfl, rfl, hab, hbn, Hs, Hr, Hg⟩ := hrel
        by_cases hlt : b < L.length
        · obtain ⟨t, ht⟩ : ∃ t, L[b]? = some t := ⟨_, List.getElem?_eq_getElem hlt⟩
          have htR := Hs.out.at_ ht
          obtain ⟨f1, f2, f3⟩ := fl3_at R b t htR
          have h1 := (Hr.out.cellAt (b * 3) (by omega)).trans f1
          have h2 := (Hr.out.cellAt (b * 3 + 1) (by omega)).trans f2
          have h3 := (Hr.out.cellAt (b * 3 + 2) (by omega)).trans f3
          clear f1 f2 f3
          have Ht := As.mk ht
          have HtR := As.mk htR
          clear ht htR
          have hBr := (Hg.out.cell hcB (fun e => hgB (by injection e with e; exact e.symm)))
          have hbl : B < wr.heap.size := World.block_lt_of_cell? wr _ hBr
          have hc := isOwner2_calls t o B
          cases ho : (t.2 == o) with
          | true =>
            rw [ho] at hc
            have Hc := As.mk hc
            have Ho := As.mk ho
            clear hc ho
            go_wp2_with fail
            refine (Hc.out _ ((World.cell?_alloc_lt wr _ ⟨B, 0, none⟩ hbl).trans hBr)).mono ?_
            rintro e w2 ⟨rfl, hb2⟩
            have hbX := below_then (below_allocS (Below.refl wr.heap.size wr) (.cells #[.int .i64 t.1.1, .int .i64 t.1.2, .int .i64 t.2] 38)) hb2
            go_wp2
            go_roundw
            case rel => exact ⟨a, b + 1, R, rfl, by go_num, by omega, by omega, ⟨Hs.out.skip Ht.out Ho.out⟩, ⟨own_below Hr.out hbX⟩, ⟨Hg.out.trans (grown_of_below hbX _)⟩⟩
            case measure => simp [intOf]; omega
          | false =>
            rw [ho] at hc
            have Hc := As.mk hc
            have Ho := As.mk ho
            clear hc ho
            go_wp2_with fail
            refine (Hc.out _ ((World.cell?_alloc_lt wr _ ⟨B, 0, none⟩ hbl).trans hBr)).mono ?_
            rintro e w2 ⟨rfl, hb2⟩
            have hbX := below_then (below_allocS (Below.refl wr.heap.size wr) (.cells #[.int .i64 t.1.1, .int .i64 t.1.2, .int .i64 t.2] 38)) hb2
            have hbx0 : (wr.alloc (.cells #[.int .i64 t.1.1, .int .i64 t.1.2, .int .i64 t.2] 38)).heap.size = wr.heap.size + 1 := by simp
            have x1 : w2.cell? ⟨wr.heap.size, 0, none⟩ = some (.int .i64 t.1.1) := (hb2.cell (p := ⟨wr.heap.size, 0, none⟩) (by simp)).trans (by simp [go_sem])
            have x2 : w2.cell? ⟨wr.heap.size, 1, none⟩ = some (.int .i64 t.1.2) := (hb2.cell (p := ⟨wr.heap.size, 1, none⟩) (by simp)).trans (by simp [go_sem])
            have x3 : w2.cell? ⟨wr.heap.size, 2, none⟩ = some (.int .i64 t.2) := (hb2.cell (p := ⟨wr.heap.size, 2, none⟩) (by simp)).trans (by simp [go_sem])
            have Hr2 := As.mk (own_below Hr.out hbX)
            have haR : a < R.length := by have := Hs.out.len; omega
            obtain ⟨r, hr⟩ : ∃ r, R[a]? = some r := ⟨_, List.getElem?_eq_getElem haR⟩
            obtain ⟨f1, f2, f3⟩ := fl3_at R a r hr
            have y1 := (Hr2.out.cellAt (a * 3) (by omega)).trans f1
            have y2 := (Hr2.out.cellAt (a * 3 + 1) (by omega)).trans f2
            have y3 := (Hr2.out.cellAt (a * 3 + 2) (by omega)).trans f3
            have z1 := Hr2.out.frozenAt (a * 3)
            have z2 := Hr2.out.frozenAt (a * 3 + 1)
            have z3 := Hr2.out.frozenAt (a * 3 + 2)
            have hal : a < L.length := by omega
            clear f1 f2 f3 hr hbx0
            go_wp2
            go_roundw
            case rel =>
              have hst := own_store3 Hr2.out a t
              exact ⟨a + 1, b + 1, R.set a t, by go_num, by go_num, by omega, by omega, ⟨Hs.out.keep Ht.out Ho.out⟩, ⟨hst.1⟩, ⟨(Hg.out.trans (grown_of_below hbX _)).trans hst.2⟩⟩
            case measure => simp [intOf]; omega
        · obtain rfl : b = L.length := by omega
          have hfr := Hs.out.front
          rw [List.take_length] at hfr
          have hnum := Hs.out.num (Nat.le_refl _)
          rw [List.take_length] at hnum
          have hal : a < L.length := Hs.out.lt
          have hca : ¬ cap = a := by omega
          obtain ⟨wc, hcl, ⟨ys, hownc, htk⟩, hgc⟩ := run_clear_own 0 Hr.out hal
          have Hc := As.mk hownc
          have Hgc := As.mk hgc
          have Htk := As.mk htk
          have Hfr := As.mk hfr
          have Hnum := As.mk hnum
          clear hfr hnum hownc htk hgc
          go_wp2
          go_ret
          refine ⟨_, rfl, ?_, rfl, (Hg.out.trans Hgc.out)⟩
          have h1 := Ints.own_take Hc.out (Nat.le_of_lt hal)
          rw [Htk.out, ← fl3_take, Hfr.out] at h1
          rw [← Hnum.out]
          exact h1

/-! ### What may have turned -/
/-- Of the blocks that were there at most those of F have turned. -/
structure Upd (F : Nat → Prop) (w w' : World) : Prop where
  os : w'.os = w.os
  tape : w'.tape = w.tape
  output : w'.output = w.output
  size : w.heap.size ≤ w'.heap.size
  block : ∀ k, k < w.heap.size → ¬ F k → w'.heap[k]? = w.heap[k]?
theorem Upd.refl (F : Nat → Prop) (w : World) : Upd F w w := ⟨rfl, rfl, rfl, Nat.le_refl _, fun _ _ _ => rfl⟩
theorem Upd.trans {F G : Nat → Prop} {a b c : World} (h : Upd F a b) (k : Upd G b c) (hG : ∀ j, j < a.heap.size → G j → F j) : Upd F a c :=
  ⟨k.os.trans h.os, k.tape.trans h.tape, k.output.trans h.output, Nat.le_trans h.size k.size, fun j hj hn => (k.block j (Nat.lt_of_lt_of_le hj h.size) (fun hg => hn (hG j hj hg))).trans (h.block j hj hn)⟩
theorem Upd.of_below {F : Nat → Prop} {w w' : World} (h : Below w.heap.size w w') : Upd F w w' := ⟨h.os, h.tape, h.output, h.size, fun j hj _ => h.block j hj⟩
theorem Upd.of_grown {F : Nat → Prop} {w w' : World} {row : Option Nat} (h : w.grownBy w' row) (hF : ∀ k, k < w.heap.size → row = some k → F k) : Upd F w w' := ⟨h.os, h.tape, h.output, h.size, fun j hj hn => h.block j hj (fun e => hn (hF j hj e.symm))⟩
theorem Upd.mono {F G : Nat → Prop} {w w' : World} (h : Upd F w w') (hF : ∀ k, k < w.heap.size → F k → G k) : Upd G w w' := ⟨h.os, h.tape, h.output, h.size, fun j hj hn => h.block j hj (fun hf => hn (hF j hj hf))⟩
theorem Upd.below {F : Nat → Prop} {w w' : World} (h : Upd F w w') (hF : ∀ k, k < w.heap.size → ¬ F k) : Below w.heap.size w w' := ⟨h.os, h.tape, h.output, h.size, fun j hj => h.block j hj (hF j hj)⟩
theorem Upd.drewN {F : Nat → Prop} {w w' : World} (h : Upd F w w') (n : Nat) : Upd F w (w'.drewN n) := ⟨h.os, h.tape, h.output, h.size, h.block⟩
theorem Upd.setCell {F : Nat → Prop} {w w' : World} (h : Upd F w w') {p : Addr} (hp : F p.block ∨ w.heap.size ≤ p.block) (u : Value) : Upd F w (w'.setCell p u) :=
  ⟨h.os, h.tape, h.output, by simpa [World.setCell] using h.size, fun j hj hn => (Below.heap_setCell w' p u j (by
    rintro rfl
    rcases hp with hp | hp
    · exact hn hp
    · omega)).trans (h.block j hj hn)⟩
theorem Upd.setAt {F : Nat → Prop} {w w' : World} (h : Upd F w w') {g : Nat} {v : Value} {L : List Tag} (hS : SetAt w g v L) (hg : ¬ F g) (hv : ∀ k, v.ownBlock = some k → ¬ F k) : SetAt w' g v L :=
  hS.move (h.block g hS.lt hg) fun k hk => h.block k (hS.2.lt k hk).2 (hv k hk)
/-- A set's two blocks. -/
def ofSet (g : Nat) (v : Value) (k : Nat) : Prop := k = g ∨ v.ownBlock = some k

/-! ### Remove -/
set_option maxHeartbeats 4000000 in
theorem Remove_calls (g : Nat) (v : Value) (L : List Tag) (o : Int) (w : World) (hS : SetAt w g v L) (hl : L.length ≤ 1000000000000) :
    Calls Tryz.prog 42 #[.pointer (some ⟨g, 0, none⟩), .int .i64 o] w fun e w' => ∃ n v', e = .returned (.int .i64 n) ∧ SetAt w' g v' (keepL L o) ∧ v'.ownBlock = v.ownBlock ∧ Upd (ofSet g v) w w' := by
  have hc := hS.cell
  have hf := hS.frozen 0
  have hg := hS.lt
  have hne := hS.ne
  obtain ⟨A, c, rfl, hc1, hc2⟩ := own_form hS.2
  have HS := As.mk hS
  obtain ⟨W, hW⟩ : ∃ W, W = w.alloc (.cells #[.int .i64 o] 3) := ⟨_, rfl⟩
  have hb : Below w.heap.size w W := by rw [hW]; exact below_allocS (Below.refl _ _) _
  have hz : w.heap.size < W.heap.size := by rw [hW]; simp
  have hcw : W.cell? ⟨w.heap.size, 0, none⟩ = some (.int .i64 o) := by rw [hW]; simp [go_sem]
  have hcon := Delete_calls L o w.heap.size (.slice A L.length c) W (own_below HS.out.2 hb) hl hcw (fun e => by have := (HS.out.2.lt _ e).2; omega)
  have Hcon := As.mk hcon
  have HW := As.mk hW
  have Hb := As.mk hb
  have hcW : W.cell? ⟨g, 0, none⟩ = some (.slice A L.length c) := (hb.cell hg).trans hc
  have hfW : W.frozen? ⟨g, 0, none⟩ = false := (hb.frozen (p := ⟨g, 0, none⟩) hg).trans hf
  clear hcon hW hb hS
  go_enter Tryz.func42, Tryz.ntmps42
  go_wp2_with fail
  rw [← HW.out]
  refine Hcon.out.mono ?_
  rintro e w1 ⟨v', rfl, hown, hvo, hgr⟩
  obtain ⟨A1, c1, rfl, _, _⟩ := own_form hown
  have hgW : some g ≠ (Value.slice A L.length c).ownBlock := fun e => hne e.symm
  have hc1' := hgr.cell hcW hgW
  have hf1' := (hgr.frozen_far ⟨g, 0, none⟩ (Nat.lt_trans hg hz) hgW).trans hfW
  have Hown := As.mk hown
  have Hgr := As.mk hgr
  have Hvo := As.mk hvo
  clear hown hgr hvo
  go_wp2
  go_ret
  refine ⟨_, .slice A1 (keepL L o).length c1, rfl, ⟨?_, ?_⟩, Hvo.out, ?_⟩
  · have h0 : w1.heap[g]? = some (.cells #[.slice A L.length c] 116 (0, 0)) := (Hgr.out.block g (Nat.lt_trans hg hz) hgW).trans ((Hb.out.block g hg).trans HS.out.1)
    exact (blk_set h0 0 _)
  · exact own_move Hown.out fun k hk => Below.heap_setCell w1 ⟨g, 0, none⟩ _ k (fun e => by
      subst e
      exact hne (Hvo.out.symm.trans hk))
  · refine (Upd.trans (Upd.of_below Hb.out) (Upd.of_grown (F := ofSet g (.slice A L.length c)) Hgr.out (fun k hk e => .inr e)) (fun j hj h => h)).setCell (.inl (.inl rfl)) _
end Go.Proofs.YtioaingenooelaaGreat.Edit
/-
  iv.Set.Add walked.
-/
namespace Go.Proofs.YtioaingenooelaaGreat.AddW
open Go.RowKit Go.Proofs.YtioaingenooelaaGreat.Wd Go.Proofs.YtioaingenooelaaGreat.Pure Go.Proofs.YtioaingenooelaaGreat.Sorted Go.Proofs.YtioaingenooelaaGreat.Search Go.Proofs.YtioaingenooelaaGreat.Norm Go.Proofs.YtioaingenooelaaGreat.Meets Go.Proofs.YtioaingenooelaaGreat.SetW Go.Proofs.YtioaingenooelaaGreat.Edit

/-- May the spans be added? -/
def mayAdd (L : List Tag) (l : List Span) (o : Int) : Bool := !(decide (o < 1)) && !(hasL L o) && (clashL L (norm l) 0).isNone
def tagsOf (l : List Span) (o : Int) : List Tag := l.map fun x => (x, o)
theorem tagsOf_yes (l : List Span) (o : Int) (k : Nat) (x : Span) (h : l[k]? = some x) : tagsOf (l.take (k + 1)) o = tagsOf (l.take k) o ++ [(x, o)] := by
  obtain ⟨hk, rfl⟩ := List.getElem?_eq_some_iff.1 h
  unfold tagsOf
  rw [List.take_succ_eq_append_getElem hk, List.map_append]
  rfl
theorem tagsOf_len (l : List Span) (o : Int) : (tagsOf l o).length = l.length := by unfold tagsOf; rw [List.length_map]

set_option maxHeartbeats 8000000 in
set_option maxRecDepth 100000 in
theorem Add_no (g : Nat) (v : Value) (L : List Tag) (A : Option Addr) (c : Nat) (l : List Span) (o : Int) (w : World) (hS : SetAt w g v L) (hs : L.Pairwise fun x y => x.1.2 ≤ y.1.2) (hr : Rd w 2 A l.length (fl2 l)) (hl : L.length ≤ 1000000000000) (hl2 : l.length ≤ 1000000000000) (hm : mayAdd L l o = false) :
    Calls Tryz.prog 39 #[.pointer (some ⟨g, 0, none⟩), .slice A l.length c, .int .i64 o] w (Tells (.bool false) w) := by
  have HS := As.mk hS
  have HR := As.mk hr
  have Hs := As.mk hs
  have hn := norm_le l
  clear hS hs hr
  by_cases ho : o < 1
  · clear hm
    go_enter Tryz.func39, Tryz.ntmps39
    go_wp2_with fail
    refine (Norm_calls A c l _ HR.out hl2).mono ?_
    rintro e w1 ⟨v1, rfl, hown, hb⟩
    go_wp2
    go_ret
    exact ⟨rfl, hb⟩
  · cases hh : hasL L o with
    | true =>
      clear hm
      have hHas := fun W hW => Has_calls g L o W v (HS.out.below hW) hl
      rw [hh] at hHas
      have HH := As.mk hHas
      clear hHas hh
      go_enter Tryz.func39, Tryz.ntmps39
      go_wp2_with fail
      refine (Norm_calls A c l _ HR.out hl2).mono ?_
      rintro e w1 ⟨v1, rfl, hown, hb⟩
      go_wp2_with fail
      refine (HH.out w1 hb).mono ?_
      rintro e w2 ⟨rfl, hb2⟩
      go_wp2
      go_ret
      exact ⟨rfl, below_then hb hb2⟩
    | false =>
      have hHas := fun W hW => Has_calls g L o W v (HS.out.below hW) hl
      rw [hh] at hHas
      have HH := As.mk hHas
      have ho' : decide (o < 1) = false := by simpa using ho
      unfold mayAdd at hm
      rw [ho', hh] at hm
      obtain ⟨t, ht⟩ : ∃ t, clashL L (norm l) 0 = some t := by
        cases hq : clashL L (norm l) 0 with
        | none => rw [hq] at hm; cases hm
        | some t => exact ⟨t, rfl⟩
      have Ht := As.mk ht
      clear hHas hh hm ht
      go_enter Tryz.func39, Tryz.ntmps39
      go_wp2_with fail
      refine (Norm_calls A c l _ HR.out hl2).mono ?_
      rintro e w1 ⟨v1, rfl, hown, hb⟩
      obtain ⟨A1, c1, rfl, _, _⟩ := own_form hown
      go_wp2_with fail
      refine (HH.out w1 hb).mono ?_
      rintro e w2 ⟨rfl, hb2⟩
      have hb02 := below_then hb hb2
      go_wp2_with fail
      refine (clash_calls g L A1 c1 (norm l) 0 _ (HS.out.below hb02).reads (Rd.of_own (own_below hown hb2)) hl (by omega) Hs.out).mono ?_
      rintro e w3 ⟨rfl, hb3⟩
      rw [Ht.out]
      simp only [hitV, tagV]
      go_wp2
      go_ret
      exact ⟨rfl, below_allocS (below_then hb02 hb3) _⟩

/-- One span more. -/
theorem add_step {g : Nat} {v v2 : Value} {L : List Tag} {o : Int} {N : List Span} {k : Nat} {x : Span} {w4 wr W5 w6 : World} {g6 c6 : Nat}
    (H5 : SetAt W5 g v2 (L ++ tagsOf (N.take k) o)) (hx : N[k]? = some x)
    (hown : w6.ownsRow 0 38 3 (.slice (some ⟨g6, 0, none⟩) ((L ++ tagsOf (N.take k) o).length + 1) c6) ((L ++ tagsOf (N.take k) o).length + 1) (fl3 (L ++ tagsOf (N.take k) o) ++ e3 (x, o)))
    (hv2 : v2.ownBlock = v.ownBlock ∨ ∃ b, v2.ownBlock = some b ∧ w4.heap.size ≤ b) (hat : v2.ownBlock = some g6 ∨ W5.heap.size ≤ g6)
    (hu : Upd (ofSet g v) w4 wr) (hb5 : Below wr.heap.size wr W5) (hgr : W5.grownBy w6 v2.ownBlock) :
    SetAt (w6.setCell ⟨g, 0, none⟩ (.slice (some ⟨g6, 0, none⟩) (L.length + (tagsOf (N.take k) o).length + 1) c6)) g (.slice (some ⟨g6, 0, none⟩) (L.length + (tagsOf (N.take k) o).length + 1) c6) (L ++ tagsOf (N.take (k + 1)) o) ∧
    ((Value.slice (some ⟨g6, 0, none⟩) (L.length + (tagsOf (N.take k) o).length + 1) c6).ownBlock = v.ownBlock ∨ ∃ b, (Value.slice (some ⟨g6, 0, none⟩) (L.length + (tagsOf (N.take k) o).length + 1) c6).ownBlock = some b ∧ w4.heap.size ≤ b) ∧
    Upd (ofSet g v) w4 (w6.setCell ⟨g, 0, none⟩ (.slice (some ⟨g6, 0, none⟩) (L.length + (tagsOf (N.take k) o).length + 1) c6)) := by
  have hne : some g ≠ v2.ownBlock := fun e => H5.ne e.symm
  have h0 : w6.heap[g]? = some (.cells #[v2] 116 (0, 0)) := (hgr.block g H5.lt hne).trans H5.1
  have h6 : g6 ≠ g := by
    rcases hat with h | h
    · exact fun e => hne (by rw [h, e])
    · have := H5.lt; omega
  have hL : (L ++ tagsOf (N.take k) o).length = L.length + (tagsOf (N.take k) o).length := List.length_append ..
  have hs5 := hb5.size
  refine ⟨⟨blk_set h0 0 _, ?_⟩, ?_, ?_⟩
  · rw [tagsOf_yes N o k x hx, ← List.append_assoc, fl3_append, fl3_one, List.length_append, hL]
    rw [hL] at hown
    exact own_move hown fun j hj => Below.heap_setCell w6 ⟨g, 0, none⟩ _ j (fun e => by
      subst e
      exact h6 (by simpa [Value.ownBlock] using hj))
  · rcases hat with h | h
    · rcases hv2 with hv | ⟨b, hb, hle⟩
      · exact .inl (by rw [← hv, h]; rfl)
      · exact .inr ⟨g6, rfl, by rw [h] at hb; injection hb with hb; omega⟩
    · exact .inr ⟨g6, rfl, by have := hu.size; omega⟩
  · refine Upd.setCell ?_ (.inl (.inl rfl)) _
    refine Upd.trans (Upd.trans hu (Upd.of_below (F := ofSet g v) hb5) (fun _ _ h => h)) (Upd.of_grown (F := fun j => v2.ownBlock = some j) hgr (fun j _ e => e)) (fun j hj h => ?_)
    rcases hv2 with hv | ⟨b, hb, hle⟩
    · exact .inr (by rw [← hv]; exact h)
    · rw [hb] at h
      injection h with h
      omega

set_option maxHeartbeats 8000000 in
set_option maxRecDepth 100000 in
theorem Add_yes (g : Nat) (v : Value) (L : List Tag) (A : Option Addr) (c : Nat) (l : List Span) (o : Int) (w : World) (hS : SetAt w g v L) (hs : L.Pairwise fun x y => x.1.2 ≤ y.1.2) (hr : Rd w 2 A l.length (fl2 l)) (hl : L.length + l.length ≤ 1000000000000) (hm : mayAdd L l o = true) :
    Calls Tryz.prog 39 #[.pointer (some ⟨g, 0, none⟩), .slice A l.length c, .int .i64 o] w fun e w' => e = .returned (.bool true) ∧ ∃ v' L', L'.Perm (L ++ tagsOf (norm l) o) ∧ L'.Pairwise (fun x y => x.1.1 ≤ y.1.1) ∧ SetAt w' g v' L' ∧ (v'.ownBlock = v.ownBlock ∨ ∃ b, v'.ownBlock = some b ∧ w.heap.size ≤ b) ∧ Upd (ofSet g v) w w' := by
  have HS := As.mk hS
  have HR := As.mk hr
  have Hs := As.mk hs
  have hn := norm_le l
  have hgl := hS.lt
  obtain ⟨ho, hh, hcl⟩ : ¬ o < 1 ∧ hasL L o = false ∧ clashL L (norm l) 0 = none := by
    unfold mayAdd at hm
    simp only [Bool.and_eq_true, Bool.not_eq_true', decide_eq_false_iff_not, Option.isNone_iff_eq_none] at hm
    exact ⟨hm.1.1, hm.1.2, hm.2⟩
  have hHas := fun W hW => Has_calls g L o W v (HS.out.below hW) (by omega)
  rw [hh] at hHas
  have HH := As.mk hHas
  have Hcl := As.mk hcl
  have ho' : decide (o < 1) = false := by simpa using ho
  obtain ⟨i0, hi, hz0, hz1, hz2⟩ := info_parts info38
  clear hHas hh hm hcl hS hr hs
  go_enter Tryz.func39, Tryz.ntmps39
  go_wp2_with fail
  refine (Norm_calls A c l _ HR.out (by omega)).mono ?_
  rintro e w1 ⟨v1, rfl, hown, hb⟩
  obtain ⟨A1, c1, rfl, _, _⟩ := own_form hown
  go_wp2_with fail
  refine (HH.out w1 hb).mono ?_
  rintro e w2 ⟨rfl, hb2⟩
  have hb02 := below_then hb hb2
  go_wp2_with fail
  refine (clash_calls g L A1 c1 (norm l) 0 _ (HS.out.below hb02).reads (Rd.of_own (own_below hown hb2)) (by omega) (by omega) Hs.out).mono ?_
  rintro e w3 ⟨rfl, hb3⟩
  rw [Hcl.out]
  simp only [hitV, tagV]
  have hb4 : Below w2.heap.size w2 (w3.alloc (.cells #[.int .i64 0, .int .i64 0, .int .i64 0] 38)) := below_allocS hb3 _
  have HN := As.mk (own_below (own_below hown hb2) hb4)
  have HS4 := As.mk (HS.out.below (below_then hb02 hb4))
  have Hb4 := As.mk (below_then hb02 hb4)
  clear hown hb hb2 hb02 hb3 hb4
  obtain ⟨N, hN⟩ : ∃ N, norm l = N := ⟨_, rfl⟩
  rw [hN] at HN hn ⊢
  have HNe := As.mk hN
  clear hN
  go_wp2
  obtain ⟨w4, hw4⟩ : ∃ w4, w4 = w3.alloc (.cells #[.int .i64 0, .int .i64 0, .int .i64 0] 38) := ⟨_, rfl⟩
  rw [← hw4] at HN HS4 Hb4 ⊢
  clear hw4
  go_loopw [30] (fun i wr => ∃ (k : Nat) (v2 : Value), k ≤ N.length ∧ i = .int .i64 k ∧ As (SetAt wr g v2 (L ++ tagsOf (N.take k) o)) ∧ As (v2.ownBlock = v.ownBlock ∨ ∃ b, v2.ownBlock = some b ∧ w4.heap.size ≤ b) ∧ As (Upd (ofSet g v) w4 wr)) (fun i _ => N.length - (intOf i).toNat)
  case atStart => exact ⟨0, v, Nat.zero_le _, rfl, ⟨by simpa [tagsOf] using HS4.out⟩, ⟨.inl rfl⟩, ⟨Upd.refl _ _⟩⟩
  case round =>
    obtain ⟨k, v2, hk, rfl, H2, Hv2, Hu⟩ := hrel
    by_cases hlt : k < N.length
    · obtain ⟨x, hx0⟩ : ∃ x, N[k]? = some x := ⟨_, List.getElem?_eq_getElem hlt⟩
      have hNr := own_move HN.out (fun j hj => Hu.out.block j (HN.out.lt j hj).2 (fun hf => by
        have h0 := (HN.out.lt j hj).1
        rcases hf with rfl | hf
        · omega
        · have := (HS.out.2.lt j hf).2; omega))
      obtain ⟨ad, rfl, h1, h2⟩ := (Rd.of_own hNr).at2 hx0
      have Hx := As.mk hx0
      clear hx0 hNr
      have hcr := H2.out.cell
      have hfr := H2.out.frozen 0
      have hgr := H2.out.lt
      have hlen : (L ++ tagsOf (N.take k) o).length = L.length + k := by rw [List.length_append, tagsOf_len, List.length_take]; omega
      have Hlen := As.mk hlen
      clear hlen
      go_wp2_with fail
      obtain ⟨W5, hW5⟩ : ∃ W5, W5 = wr.alloc (.cells #[.int .i64 x.1, .int .i64 x.2] 36) := ⟨_, rfl⟩
      rw [← hW5]
      have hb5 : Below wr.heap.size wr W5 := by rw [hW5]; exact below_allocS (Below.refl _ _) _
      have hz5 : W5.heap.size = wr.heap.size + 1 := by rw [hW5]; simp
      have p1 : W5.cell? ⟨wr.heap.size, 0, none⟩ = some (.int .i64 x.1) := by rw [hW5]; simp [go_sem]
      have p2 : W5.cell? ⟨wr.heap.size, 1, none⟩ = some (.int .i64 x.2) := by rw [hW5]; simp [go_sem]
      have H5 := As.mk (H2.out.below hb5)
      have hc5 := H5.out.cell
      have hf5 := H5.out.frozen 0
      have hg5 := H5.out.lt
      have hne5 : some g ≠ v2.ownBlock := fun e => H5.out.ne e.symm
      have Hb5 := As.mk hb5
      have HW5 := As.mk hW5
      have Hz5 := As.mk hz5
      have Hne5 := As.mk hne5
      clear hb5 hW5 hz5 hcr hfr hgr h1 h2 hne5
      go_region_law (refine step_append_lies _ rfl (.tmp 38) (.tmp 42) 114 rfl 0 38 i0 (.agg #[.int .i64 0, .int .i64 0, .int .i64 0]) 3 24 Tryz.underlying114 hi hz0 hz1 hz2 rfl (by decide) v2 (L ++ tagsOf (N.take k) o).length (fl3 (L ++ tagsOf (N.take k) o)) rfl (by exact World.ownsRow.alloc H5.out.2 _) ⟨W5.heap.size, 0, none⟩ 1 1 (e3 (x, o)) rfl rfl (by intro j u hu; exact cell_new3 _ (x, o) _ _ rfl j u hu) (e3_one (x, o)) (by decide) (by rw [Hlen.out]; unfold maxLen; omega) (by rw [Hlen.out]; omega) (Nat.zero_le _) _ rfl ?_; intro g6 c6 w6 hown6 hgr6 hat6 hlt6; have q6 : w6.cell? ⟨g, 0, none⟩ = some v2 := hgr6.cell (by exact (World.cell?_alloc_lt W5 _ ⟨g, 0, none⟩ hg5).trans hc5) Hne5.out; have r6 : w6.frozen? ⟨g, 0, none⟩ = false := (hgr6.frozen_far ⟨g, 0, none⟩ (by simp; omega) Hne5.out).trans (by exact (World.frozen?_of_block (w := W5) (Below.heap_alloc W5 _ g hg5)).trans hf5))
      all_goals
        have hgrX : W5.grownBy w6 v2.ownBlock := ⟨hgr6.os, hgr6.tape, hgr6.output, Nat.le_trans (Nat.le_succ _) (by have := hgr6.size; simpa using this), fun j hj hn => (hgr6.block j (by simp; omega) hn).trans (Below.heap_alloc W5 _ j hj)⟩
        have hstep := add_step (g := g) (v := v) (v2 := v2) (L := L) (o := o) (N := N) (k := k) (x := x) (w4 := w4) (wr := wr) (W5 := W5) (w6 := w6) (g6 := g6) (c6 := c6) H5.out Hx.out (by rw [Hlen.out] at hown6 ⊢; exact hown6) Hv2.out (hat6.imp id (fun e => by rw [e]; simp)) Hu.out Hb5.out hgrX
        have Hstep := As.mk hstep
        clear hstep hgrX
        go_wp2
        go_roundw
        case rel => exact ⟨k + 1, _, by omega, by go_num, ⟨Hstep.out.1⟩, ⟨Hstep.out.2.1⟩, ⟨Hstep.out.2.2⟩⟩
        case measure => simp [intOf]; omega
    · obtain rfl : k = N.length := by omega
      have h2 := H2.out
      rw [List.take_length] at h2
      have hcr := h2.cell
      have hgr := h2.lt
      have hlenM : (L ++ tagsOf N o).length ≤ 1000000000000 := by rw [List.length_append, tagsOf_len]; omega
      obtain ⟨M, hM⟩ : ∃ M, L ++ tagsOf N o = M := ⟨_, rfl⟩
      rw [hM] at h2 hlenM
      have HM := As.mk hM
      have H2' := As.mk h2
      have hsort := sortTagged_own (base := 0) M wr h2.2 hlenM
      have Hsort := As.mk hsort
      clear h2 hM hsort
      go_wp2_with fail
      refine Hsort.out.mono ?_
      rintro e w6 ⟨rfl, M2, hp, hs2, hown6, hgr6⟩
      have hout : SetAt w6 g v2 M2 := ⟨(hgr6.block g H2'.out.lt (fun e => H2'.out.ne e.symm)).trans H2'.out.1, by rw [hp.length_eq]; exact hown6⟩
      have Hout := As.mk hout
      have Hp := As.mk hp
      have Hs2 := As.mk hs2
      have Hgr6 := As.mk hgr6
      clear hout hp hs2 hgr6 hown6
      go_wp2
      go_ret
      refine ⟨rfl, v2, M2, by rw [HNe.out, HM.out]; exact Hp.out, Hs2.out, Hout.out, ?_, ?_⟩
      · rcases Hv2.out with h | ⟨b, h, hle⟩
        · exact .inl h
        · exact .inr ⟨b, h, Nat.le_trans Hb4.out.size hle⟩
      · refine Upd.trans (Upd.trans (Upd.of_below Hb4.out) Hu.out (fun _ _ h => h)) (Upd.of_grown (F := fun j => v2.ownBlock = some j) Hgr6.out (fun j _ e => e)) (fun j hj h => ?_)
        rcases Hv2.out with hv | ⟨b, hb, hle⟩
        · exact .inr (by rw [← hv]; exact h)
        · rw [hb] at h
          injection h with h
          have := Hb4.out.size
          omega
end Go.Proofs.YtioaingenooelaaGreat.AddW
/-
  How a calendar lies in memory; what a change of one user's sets leaves.
-/
namespace Go.Proofs.YtioaingenooelaaGreat.CalRep
open Go.RowKit Go.Proofs.YtioaingenooelaaGreat.Wd Go.Proofs.YtioaingenooelaaGreat.Pure Go.Proofs.YtioaingenooelaaGreat.SetW Go.Proofs.YtioaingenooelaaGreat.Edit

structure SetRep where
  g : Nat
  v : Value
  L : List Tag
structure UserRep where
  b : Nat
  s : SetRep
  r : SetRep
def SetRep.At (x : SetRep) (w : World) : Prop := SetAt w x.g x.v x.L
/-- A set's blocks. -/
def SetRep.has (x : SetRep) (k : Nat) : Prop := ofSet x.g x.v k
def UserRep.has (u : UserRep) (k : Nat) : Prop := u.s.has k ∨ u.r.has k
/-- Two sets share no block. -/
def SetRep.Apart (x y : SetRep) : Prop := ∀ k, x.has k → ¬ y.has k
theorem SetRep.Apart.symm {x y : SetRep} (h : x.Apart y) : y.Apart x := fun k hy hx => h k hx hy
def ptrOf : Option UserRep → Value
  | none => .pointer none
  | some u => .pointer (some ⟨u.b, 0, none⟩)
/-- The sets' blocks of all users. -/
def fp (us : List (Option UserRep)) (k : Nat) : Prop := ∃ (i : Nat) (u : UserRep), us[i]? = some (some u) ∧ u.has k

structure CalAt (w : World) (c ub : Nat) (hd : List Value) (us : List (Option UserRep)) : Prop where
  len : hd.length = 6
  pos : 0 < us.length
  cal : w.heap[c]? = some (.cells (hd ++ [Value.slice (some ⟨ub, 0, none⟩) us.length us.length]).toArray 72 (0, 0))
  arr : w.heap[ub]? = some (.cells (us.map ptrOf).toArray 73 (0, 0))
  user : ∀ (i : Nat) (u : UserRep), us[i]? = some (some u) → w.heap[u.b]? = some (.cells #[.pointer (some ⟨u.s.g, 0, none⟩), .pointer (some ⟨u.r.g, 0, none⟩)] 77 (0, 0)) ∧ u.s.At w ∧ u.r.At w ∧ u.s.Apart u.r
  apart : ∀ (i j : Nat) (u u' : UserRep), i ≠ j → us[i]? = some (some u) → us[j]? = some (some u') → u.s.Apart u'.s ∧ u.s.Apart u'.r ∧ u.r.Apart u'.s ∧ u.r.Apart u'.r

theorem set_typed {w : World} {x : SetRep} (h : x.At w) {k : Nat} (hk : x.has k) : ∃ cs t, w.heap[k]? = some (.cells cs t (0, 0)) ∧ (t = 116 ∨ t = 38) := by
  rcases hk with rfl | hk
  · exact ⟨_, _, h.1, .inl rfl⟩
  · rcases h.2.2 with ⟨h1, _⟩ | ⟨g', cap, cur, h1, _, hh, _⟩
    · rw [h1] at hk; simp [Value.ownBlock] at hk
    · rw [h1] at hk
      have : g' = k := by simpa [Value.ownBlock] using hk
      subst this
      exact ⟨_, _, hh, .inr rfl⟩
theorem user_typed {w : World} {u : UserRep} (hs : u.s.At w) (hr : u.r.At w) {k : Nat} (hk : u.has k) : ∃ cs t, w.heap[k]? = some (.cells cs t (0, 0)) ∧ (t = 116 ∨ t = 38) := by
  rcases hk with hk | hk
  · exact set_typed hs hk
  · exact set_typed hr hk
theorem CalAt.typed {w : World} {c ub : Nat} {hd : List Value} {us : List (Option UserRep)} (h : CalAt w c ub hd us) {k : Nat} (hk : fp us k) : ∃ cs t, w.heap[k]? = some (.cells cs t (0, 0)) ∧ (t = 116 ∨ t = 38) := by
  obtain ⟨i, u, hu, hk⟩ := hk
  obtain ⟨_, hs, hr, _⟩ := h.user i u hu
  exact user_typed hs hr hk
theorem typed_ne {w : World} {k : Nat} (h : ∃ cs t, w.heap[k]? = some (.cells cs t (0, 0)) ∧ (t = 116 ∨ t = 38)) {j : Nat} {cs : Array Value} {T : TypeId} (hj : w.heap[j]? = some (.cells cs T (0, 0))) (h1 : T ≠ 116) (h2 : T ≠ 38) : j ≠ k := by
  rintro rfl
  obtain ⟨cs', t, h, ht⟩ := h
  rw [hj] at h
  injection h with h
  injection h with _ h
  subst h
  rcases ht with rfl | rfl
  · exact h1 rfl
  · exact h2 rfl
theorem SetRep.lt {w : World} {x : SetRep} (h : x.At w) {k : Nat} (hk : x.has k) : k < w.heap.size := by
  obtain ⟨cs, t, h, _⟩ := set_typed h hk
  exact (Array.getElem?_eq_some_iff.1 h).1
theorem CalAt.fp_lt {w : World} {c ub : Nat} {hd : List Value} {us : List (Option UserRep)} (h : CalAt w c ub hd us) {k : Nat} (hk : fp us k) : k < w.heap.size := by
  obtain ⟨cs, t, h, _⟩ := h.typed hk
  exact (Array.getElem?_eq_some_iff.1 h).1

/-- From one state of the users' sets to another: of what was there at most their own blocks have turned; what they have now they had, or it is new. -/
structure Mv (w : World) (us : List (Option UserRep)) (w' : World) (us' : List (Option UserRep)) : Prop where
  upd : Upd (fp us) w w'
  own : ∀ k, fp us' k → fp us k ∨ w.heap.size ≤ k
theorem Mv.refl (w : World) (us : List (Option UserRep)) : Mv w us w us := ⟨Upd.refl _ _, fun _ h => .inl h⟩
theorem Mv.trans {w w1 w2 : World} {us us1 us2 : List (Option UserRep)} (h : Mv w us w1 us1) (k : Mv w1 us1 w2 us2) : Mv w us w2 us2 :=
  ⟨h.upd.trans k.upd fun j hj hf => (h.own j hf).resolve_right (by omega), fun j hf => by
    rcases k.own j hf with h1 | h1
    · exact h.own j h1
    · exact .inr (Nat.le_trans h.upd.size h1)⟩
theorem Mv.of_below {w w' : World} (us : List (Option UserRep)) (h : Below w.heap.size w w') : Mv w us w' us := ⟨Upd.of_below h, fun _ h => .inl h⟩

/-- A calendar stands as it stood where none of its blocks has turned. -/
theorem CalAt.move {w w' : World} {c ub : Nat} {hd : List Value} {us : List (Option UserRep)} (h : CalAt w c ub hd us) (hc : w'.heap[c]? = w.heap[c]?) (hub : w'.heap[ub]? = w.heap[ub]?) (hb : ∀ (i : Nat) (u : UserRep), us[i]? = some (some u) → w'.heap[u.b]? = w.heap[u.b]?) (hf : ∀ k, fp us k → w'.heap[k]? = w.heap[k]?) : CalAt w' c ub hd us where
  len := h.len
  pos := h.pos
  cal := hc.trans h.cal
  arr := hub.trans h.arr
  user i u hu := by
    obtain ⟨h1, h2, h3, h4⟩ := h.user i u hu
    exact ⟨(hb i u hu).trans h1, h2.move (hf _ ⟨i, u, hu, .inl (.inl rfl)⟩) fun k hk => hf k ⟨i, u, hu, .inl (.inr hk)⟩, h3.move (hf _ ⟨i, u, hu, .inr (.inl rfl)⟩) fun k hk => hf k ⟨i, u, hu, .inr (.inr hk)⟩, h4⟩
  apart := h.apart
theorem CalAt.c_lt {w : World} {c ub : Nat} {hd : List Value} {us : List (Option UserRep)} (h : CalAt w c ub hd us) : c < w.heap.size := (Array.getElem?_eq_some_iff.1 h.cal).1
theorem CalAt.ub_lt {w : World} {c ub : Nat} {hd : List Value} {us : List (Option UserRep)} (h : CalAt w c ub hd us) : ub < w.heap.size := (Array.getElem?_eq_some_iff.1 h.arr).1
theorem CalAt.b_lt {w : World} {c ub : Nat} {hd : List Value} {us : List (Option UserRep)} (h : CalAt w c ub hd us) {i : Nat} {u : UserRep} (hu : us[i]? = some (some u)) : u.b < w.heap.size := (Array.getElem?_eq_some_iff.1 (h.user i u hu).1).1
theorem CalAt.below {w w' : World} {c ub : Nat} {hd : List Value} {us : List (Option UserRep)} (h : CalAt w c ub hd us) (hb : Below w.heap.size w w') : CalAt w' c ub hd us :=
  h.move (hb.block _ h.c_lt) (hb.block _ h.ub_lt) (fun i u hu => hb.block _ (h.b_lt hu)) (fun k hk => hb.block _ (h.fp_lt hk))

theorem ptr_set (us : List (Option UserRep)) (i : Nat) (u u' : UserRep) (hi : us[i]? = some (some u)) (hb : u'.b = u.b) : (us.set i (some u')).map ptrOf = us.map ptrOf := by
  apply List.ext_getElem?
  intro j
  rw [List.getElem?_map, List.getElem?_map]
  by_cases hj : i = j
  · subst hj
    have hl : i < us.length := (List.getElem?_eq_some_iff.1 hi).1
    rw [List.getElem?_set_self hl, hi]
    simp [ptrOf, hb]
  · rw [List.getElem?_set_ne hj]

/-- ONE USER's SETS HAVE TURNED. -/
theorem CalAt.turn {w w' : World} {c ub : Nat} {hd : List Value} {us : List (Option UserRep)} (h : CalAt w c ub hd us) {i : Nat} {u u' : UserRep} (hi : us[i]? = some (some u)) (hb : u'.b = u.b) (hsg : u'.s.g = u.s.g) (hrg : u'.r.g = u.r.g)
    (hU : Upd u.has w w') (hs : u'.s.At w') (hr : u'.r.At w') (hself : u'.s.Apart u'.r)
    (hsv : ∀ k, u'.s.has k → u.s.has k ∨ w.heap.size ≤ k) (hrv : ∀ k, u'.r.has k → u.r.has k ∨ w.heap.size ≤ k) :
    CalAt w' c ub hd (us.set i (some u')) ∧ Mv w us w' (us.set i (some u')) := by
  have hfu : ∀ k, u.has k → fp us k := fun k hk => ⟨i, u, hi, hk⟩
  obtain ⟨hub, hus, hur, husr⟩ := h.user i u hi
  have hne : ∀ {j : Nat} {cs : Array Value} {T : TypeId}, w.heap[j]? = some (.cells cs T (0, 0)) → T ≠ 116 → T ≠ 38 → w'.heap[j]? = w.heap[j]? := fun {j cs T} hj h1 h2 =>
    hU.block j (Array.getElem?_eq_some_iff.1 hj).1 fun hk => typed_ne (user_typed hus hur hk) hj h1 h2 rfl
  have hget : ∀ (j : Nat) (v : UserRep), (us.set i (some u'))[j]? = some (some v) → (j = i ∧ v = u') ∨ (j ≠ i ∧ us[j]? = some (some v)) := by
    intro j v hj
    by_cases e : i = j
    · subst e
      have hl : i < us.length := (List.getElem?_eq_some_iff.1 hi).1
      rw [List.getElem?_set_self hl] at hj
      exact .inl ⟨rfl, by injection hj with hj; injection hj with hj; exact hj.symm⟩
    · rw [List.getElem?_set_ne e] at hj
      exact .inr ⟨fun e' => e e'.symm, hj⟩
  have hother : ∀ (j : Nat) (v : UserRep), j ≠ i → us[j]? = some (some v) → ∀ k, v.has k → ¬ u.has k := by
    intro j v hj hv k hk hu
    obtain ⟨a1, a2, a3, a4⟩ := h.apart j i v u hj hv hi
    rcases hk with hk | hk <;> rcases hu with hu | hu
    · exact a1 k hk hu
    · exact a2 k hk hu
    · exact a3 k hk hu
    · exact a4 k hk hu
  have hu'o : ∀ k, u'.has k → u.has k ∨ w.heap.size ≤ k := by
    intro k hk
    rcases hk with hk | hk
    · exact (hsv k hk).imp .inl id
    · exact (hrv k hk).imp .inr id
  have hfar : ∀ (j : Nat) (v : UserRep), j ≠ i → us[j]? = some (some v) → ∀ k, v.has k → ¬ u'.has k := by
    intro j v hj hv k hk hu
    rcases hu'o k hu with h1 | h1
    · exact hother j v hj hv k hk h1
    · have := h.fp_lt (k := k) ⟨j, v, hv, hk⟩; omega
  refine ⟨⟨h.len, by rw [List.length_set]; exact h.pos, ?_, ?_, ?_, ?_⟩, ⟨hU.mono fun k _ hk => hfu k hk, ?_⟩⟩
  · rw [List.length_set]
    exact (hne h.cal (by decide) (by decide)).trans h.cal
  · rw [ptr_set us i u u' hi hb]
    exact (hne h.arr (by decide) (by decide)).trans h.arr
  · intro j v hj
    rcases hget j v hj with ⟨rfl, rfl⟩ | ⟨hji, hv⟩
    · refine ⟨?_, hs, hr, hself⟩
      rw [hb, hsg, hrg]
      exact (hne hub (by decide) (by decide)).trans hub
    · obtain ⟨h1, h2, h3, h4⟩ := h.user j v hv
      have hn := hother j v hji hv
      exact ⟨(hne h1 (by decide) (by decide)).trans h1, hU.setAt h2 (hn _ (.inl (.inl rfl))) (fun k hk => hn _ (.inl (.inr hk))), hU.setAt h3 (hn _ (.inr (.inl rfl))) (fun k hk => hn _ (.inr (.inr hk))), h4⟩
  · intro j j' v v' hjj hv hv'
    rcases hget j v hv with ⟨e1, e2⟩ | ⟨hji, hv1⟩ <;> rcases hget j' v' hv' with ⟨e3, e4⟩ | ⟨hji', hv1'⟩
    · exact absurd (e1.trans e3.symm) hjj
    · subst e2
      have hn := hfar j' v' hji' hv1'
      exact ⟨fun k a b => hn k (.inl b) (.inl a), fun k a b => hn k (.inr b) (.inl a), fun k a b => hn k (.inl b) (.inr a), fun k a b => hn k (.inr b) (.inr a)⟩
    · subst e4
      have hn := hfar j v hji hv1
      exact ⟨fun k a b => hn k (.inl a) (.inl b), fun k a b => hn k (.inl a) (.inr b), fun k a b => hn k (.inr a) (.inl b), fun k a b => hn k (.inr a) (.inr b)⟩
    · exact h.apart j j' v v' hjj hv1 hv1'
  · rintro k ⟨j, v, hv, hk⟩
    rcases hget j v hv with ⟨rfl, rfl⟩ | ⟨hji, hv⟩
    · exact (hu'o k hk).imp (hfu k) id
    · exact .inl ⟨j, v, hv, hk⟩

/-- .. the reserved ones alone. -/
theorem CalAt.turn_r {w w' : World} {c ub : Nat} {hd : List Value} {us : List (Option UserRep)} (h : CalAt w c ub hd us) {i : Nat} {u : UserRep} (hi : us[i]? = some (some u)) {v' : Value} {L' : List Tag}
    (hU : Upd (ofSet u.r.g u.r.v) w w') (hr : SetAt w' u.r.g v' L') (hv : v'.ownBlock = u.r.v.ownBlock ∨ ∃ b, v'.ownBlock = some b ∧ w.heap.size ≤ b) :
    CalAt w' c ub hd (us.set i (some { u with r := { u.r with v := v', L := L' } })) ∧ Mv w us w' (us.set i (some { u with r := { u.r with v := v', L := L' } })) := by
  obtain ⟨hub, hus, hur, husr⟩ := h.user i u hi
  have hrv : ∀ k, ofSet u.r.g v' k → u.r.has k ∨ w.heap.size ≤ k := by
    intro k hk
    rcases hk with rfl | hk
    · exact .inl (.inl rfl)
    · rcases hv with hv | ⟨b, hb, hle⟩
      · exact .inl (.inr (by rw [← hv]; exact hk))
      · rw [hb] at hk; injection hk with hk; exact .inr (by omega)
  refine h.turn hi rfl rfl rfl (hU.mono fun k _ hk => .inr hk) ?_ hr ?_ (fun k hk => .inl hk) hrv
  · exact hU.setAt hus (fun hk => husr _ (.inl rfl) hk) (fun k hk hf => husr _ (.inr hk) hf)
  · intro k hk hk'
    rcases hrv k hk' with h1 | h1
    · exact husr k hk h1
    · have := SetRep.lt hus hk; omega
theorem CalAt.turn_s {w w' : World} {c ub : Nat} {hd : List Value} {us : List (Option UserRep)} (h : CalAt w c ub hd us) {i : Nat} {u : UserRep} (hi : us[i]? = some (some u)) {v' : Value} {L' : List Tag}
    (hU : Upd (ofSet u.s.g u.s.v) w w') (hs : SetAt w' u.s.g v' L') (hv : v'.ownBlock = u.s.v.ownBlock ∨ ∃ b, v'.ownBlock = some b ∧ w.heap.size ≤ b) :
    CalAt w' c ub hd (us.set i (some { u with s := { u.s with v := v', L := L' } })) ∧ Mv w us w' (us.set i (some { u with s := { u.s with v := v', L := L' } })) := by
  obtain ⟨hub, hus, hur, husr⟩ := h.user i u hi
  have hsv : ∀ k, ofSet u.s.g v' k → u.s.has k ∨ w.heap.size ≤ k := by
    intro k hk
    rcases hk with rfl | hk
    · exact .inl (.inl rfl)
    · rcases hv with hv | ⟨b, hb, hle⟩
      · exact .inl (.inr (by rw [← hv]; exact hk))
      · rw [hb] at hk; injection hk with hk; exact .inr (by omega)
  refine h.turn hi rfl rfl rfl (hU.mono fun k _ hk => .inl hk) hs ?_ ?_ hsv (fun k hk => .inl hk)
  · exact hU.setAt hur (fun hk => husr _ hk (.inl rfl)) (fun k hk hf => husr _ hf (.inr hk))
  · intro k hk hk'
    rcases hsv k hk with h1 | h1
    · exact husr k h1 hk'
    · have := SetRep.lt hur hk'; omega

/-! ### What the lists are -/
def absU (u : UserRep) : List Tag × List Tag := (u.s.L, u.r.L)
def abs (us : List (Option UserRep)) : List (Option (List Tag × List Tag)) := us.map fun o => o.map absU
end Go.Proofs.YtioaingenooelaaGreat.CalRep
/-
  cal.Cal: of, has, Free, Remove, Busy, Owners walked.
-/
namespace Go.Proofs.YtioaingenooelaaGreat.CalOps
open Go.RowKit Go.Proofs.YtioaingenooelaaGreat.Wd Go.Proofs.YtioaingenooelaaGreat.Pure Go.Proofs.YtioaingenooelaaGreat.Sorted Go.Proofs.YtioaingenooelaaGreat.Search Go.Proofs.YtioaingenooelaaGreat.Norm Go.Proofs.YtioaingenooelaaGreat.Meets Go.Proofs.YtioaingenooelaaGreat.SetW Go.Proofs.YtioaingenooelaaGreat.Edit Go.Proofs.YtioaingenooelaaGreat.AddW Go.Proofs.YtioaingenooelaaGreat.CalRep

section
variable {w : World} {c ub : Nat} {hd : List Value} {us : List (Option UserRep)}
theorem users_cell (h : CalAt w c ub hd us) : w.cell? ⟨c, 6, none⟩ = some (.slice (some ⟨ub, 0, none⟩) us.length us.length) := by
  rw [cell_of_row w c 6 _ _ (0, 0) h.cal]
  rw [List.getElem?_toArray, List.getElem?_append_right (by rw [h.len]; omega), h.len]
  rfl
theorem at_cell (h : CalAt w c ub hd us) {i : Nat} {o : Option UserRep} (ho : us[i]? = some o) : w.cell? ⟨ub, i, none⟩ = some (ptrOf o) := by
  rw [cell_of_row w ub i _ _ (0, 0) h.arr]
  simp [ho]
theorem s_cell (h : CalAt w c ub hd us) {i : Nat} {u : UserRep} (hu : us[i]? = some (some u)) : w.cell? ⟨u.b, 0, none⟩ = some (.pointer (some ⟨u.s.g, 0, none⟩)) := by
  rw [cell_of_row w u.b 0 _ _ (0, 0) (h.user i u hu).1]
  rfl
theorem r_cell (h : CalAt w c ub hd us) {i : Nat} {u : UserRep} (hu : us[i]? = some (some u)) : w.cell? ⟨u.b, 1, none⟩ = some (.pointer (some ⟨u.r.g, 0, none⟩)) := by
  rw [cell_of_row w u.b 1 _ _ (0, 0) (h.user i u hu).1]
  rfl
end

/-- The user's sets; none: it lives elsewhere. -/
def getU {α : Type} (us : List (Option α)) (n : Int) : Option α := if n < 0 then none else (us[n.toNat]?).join
theorem getU_neg {α : Type} (us : List (Option α)) (n : Int) (h : n < 0) : getU us n = none := by unfold getU; rw [if_pos h]
theorem getU_far {α : Type} (us : List (Option α)) (n : Int) (h : us.length ≤ n.toNat) : getU us n = none := by
  unfold getU
  split
  · rfl
  · rw [List.getElem?_eq_none h]; rfl
theorem getU_at {α : Type} (us : List (Option α)) (k : Nat) (o : Option α) (h : us[k]? = some o) : getU us (k : Int) = o := by
  unfold getU
  rw [if_neg (by omega), Int.toNat_natCast, h]
  rfl

theorem ptr_cases (o : Option UserRep) : ∃ a, ptrOf o = .pointer a := by cases o <;> exact ⟨_, rfl⟩
set_option maxHeartbeats 1000000 in
theorem of_calls (w : World) (c ub : Nat) (hd : List Value) (us : List (Option UserRep)) (n : Int) (h : CalAt w c ub hd us) (hl : us.length ≤ 1000000000000) :
    Calls Tryz.prog 38 #[.pointer (some ⟨c, 0, none⟩), .int .i64 n] w fun e w' => e = .returned (ptrOf (getU us n)) ∧ w = w' := by
  have h6 := users_cell h
  by_cases h1 : n < 0
  · rw [getU_neg us n h1]
    go_enter Tryz.func38, Tryz.ntmps38
    go_wp2
    go_ret
    exact ⟨rfl, rfl⟩
  · obtain ⟨k, rfl⟩ := Int.eq_ofNat_of_zero_le (Int.not_lt.1 h1)
    by_cases h2 : k < us.length
    · obtain ⟨o, ho⟩ : ∃ o, us[k]? = some o := ⟨_, List.getElem?_eq_getElem h2⟩
      rw [getU_at us k o ho]
      have hc := at_cell h ho
      obtain ⟨a, ha⟩ := ptr_cases o
      rw [ha] at hc ⊢
      clear ha ho h
      go_enter Tryz.func38, Tryz.ntmps38
      go_wp2
      go_ret
      exact ⟨rfl, rfl⟩
    · rw [getU_far us k (by simpa using h2)]
      go_enter Tryz.func38, Tryz.ntmps38
      go_wp2
      go_ret
      exact ⟨rfl, rfl⟩

/-- All lists are at most so long. -/
def Fits (M : Nat) (us : List (Option UserRep)) : Prop := ∀ (i : Nat) (u : UserRep), us[i]? = some (some u) → u.s.L.length ≤ M ∧ u.r.L.length ≤ M

/-! ### has -/
def hasA (st : List (Option (List Tag × List Tag))) (tx : Int) : Bool := st.any fun o => match o with | some p => hasL p.1 tx || hasL p.2 tx | none => false
theorem hasA_yes (us : List (Option UserRep)) (tx : Int) (k : Nat) (u : UserRep) (h : us[k]? = some (some u)) (hu : (hasL u.s.L tx || hasL u.r.L tx) = true) : hasA (abs us) tx = true := by
  unfold hasA
  rw [List.any_eq_true]
  refine ⟨some (absU u), ?_, hu⟩
  unfold abs
  rw [List.mem_map]
  exact ⟨some u, List.mem_of_getElem? h, rfl⟩
theorem hasA_no (us : List (Option UserRep)) (tx : Int) (h : ∀ (k : Nat) (u : UserRep), us[k]? = some (some u) → hasL u.s.L tx = false ∧ hasL u.r.L tx = false) : hasA (abs us) tx = false := by
  unfold hasA
  rw [List.any_eq_false]
  intro o ho
  unfold abs at ho
  rw [List.mem_map] at ho
  obtain ⟨q, hq, rfl⟩ := ho
  obtain ⟨k, hk, rfl⟩ := List.getElem_of_mem hq
  cases hc : us[k] with
  | none => simp
  | some u =>
    have := h k u (by rw [List.getElem?_eq_getElem hk, hc])
    simp [absU, this.1, this.2]
set_option maxHeartbeats 4000000 in
set_option maxRecDepth 100000 in
theorem has_calls (w : World) (c ub : Nat) (hd : List Value) (us : List (Option UserRep)) (tx : Int) (h : CalAt w c ub hd us) (hl : us.length ≤ 1000000000000) (hf : Fits 1000000000000 us) :
    Calls Tryz.prog 37 #[.pointer (some ⟨c, 0, none⟩), .int .i64 tx] w (Tells (.bool (hasA (abs us) tx)) w) := by
  have h6 := users_cell h
  have H := As.mk h
  have Hf := As.mk hf
  clear h hf
  go_enter Tryz.func37, Tryz.ntmps37
  go_wp2
  go_loopw [12] (fun i wr => ∃ k : Nat, k ≤ us.length ∧ i = .int .i64 k ∧ As (∀ (j : Nat) (u : UserRep), j < k → us[j]? = some (some u) → hasL u.s.L tx = false ∧ hasL u.r.L tx = false) ∧ Below w.heap.size w wr) (fun i _ => us.length - (intOf i).toNat)
  case atStart => exact ⟨0, Nat.zero_le _, rfl, ⟨fun j u hj => absurd hj (Nat.not_lt_zero _)⟩, Below.refl _ _⟩
  case round =>
    obtain ⟨k, hk, rfl, Hk, hb⟩ := hrel
    by_cases hlt : k < us.length
    · obtain ⟨o, ho⟩ : ∃ o, us[k]? = some o := ⟨_, List.getElem?_eq_getElem hlt⟩
      have Hr := As.mk (H.out.below hb)
      have hc := at_cell Hr.out ho
      cases o with
      | none =>
        have Hn : As (∀ (j : Nat) (u : UserRep), j < k + 1 → us[j]? = some (some u) → hasL u.s.L tx = false ∧ hasL u.r.L tx = false) := ⟨fun j u hj hu => by
          rcases Nat.lt_or_eq_of_le (Nat.le_of_lt_succ hj) with h | h
          · exact Hk.out j u h hu
          · rw [h, ho] at hu; cases hu⟩
        simp only [ptrOf] at hc
        clear ho
        go_wp2
        go_roundw
        case rel => exact ⟨k + 1, by omega, by go_num, Hn, hb⟩
        case measure => simp [intOf]; omega
      | some u =>
        simp only [ptrOf] at hc
        have hcs := s_cell Hr.out ho
        have hcr := r_cell Hr.out ho
        obtain ⟨_, hus, hur, _⟩ := H.out.user k u ho
        have hfu := Hf.out k u ho
        have hS := fun W hW => Has_calls u.s.g u.s.L tx W u.s.v (SetAt.below hus (w' := W) hW) hfu.1
        have hR := fun W hW => Has_calls u.r.g u.r.L tx W u.r.v (SetAt.below hur (w' := W) hW) hfu.2
        have Ho := As.mk ho
        clear ho hus hur hfu
        cases h1 : hasL u.s.L tx with
        | true =>
          rw [h1] at hS
          have HS := As.mk hS
          have Hfin := As.mk (hasA_yes us tx k u Ho.out (by rw [h1]; rfl))
          clear hS hR h1
          go_wp2_with fail
          refine (HS.out _ hb).mono ?_
          rintro e w1 ⟨rfl, hb1⟩
          go_wp2
          go_ret
          exact ⟨by rw [Hfin.out]; rfl, below_then hb hb1⟩
        | false =>
          cases h2 : hasL u.r.L tx with
          | true =>
            rw [h1] at hS
            rw [h2] at hR
            have HS := As.mk hS
            have HR := As.mk hR
            have Hfin := As.mk (hasA_yes us tx k u Ho.out (by rw [h2]; exact Bool.or_true _))
            clear hS hR h1 h2
            go_wp2_with fail
            refine (HS.out _ hb).mono ?_
            rintro e w1 ⟨rfl, hb1⟩
            have hbX := below_then hb hb1
            have hcr1 := r_cell (H.out.below hbX) Ho.out
            have HbX := As.mk hbX
            clear hb hb1 hcs hcr hc hbX
            go_wp2_with fail
            refine (HR.out _ HbX.out).mono ?_
            rintro e w2 ⟨rfl, hb2⟩
            go_wp2
            go_ret
            exact ⟨by rw [Hfin.out]; rfl, below_then HbX.out hb2⟩
          | false =>
            have Hn : As (∀ (j : Nat) (u : UserRep), j < k + 1 → us[j]? = some (some u) → hasL u.s.L tx = false ∧ hasL u.r.L tx = false) := ⟨fun j u' hj hu => by
              rcases Nat.lt_or_eq_of_le (Nat.le_of_lt_succ hj) with h | h
              · exact Hk.out j u' h hu
              · rw [h, Ho.out] at hu
                have := Option.some.inj (Option.some.inj hu)
                subst this
                exact ⟨h1, h2⟩⟩
            rw [h1] at hS
            rw [h2] at hR
            have HS := As.mk hS
            have HR := As.mk hR
            clear hS hR h1 h2
            go_wp2_with fail
            refine (HS.out _ hb).mono ?_
            rintro e w1 ⟨rfl, hb1⟩
            have hbX := below_then hb hb1
            have hcr1 := r_cell (H.out.below hbX) Ho.out
            have HbX := As.mk hbX
            clear hb hb1 hcs hcr hc hbX
            go_wp2_with fail
            refine (HR.out _ HbX.out).mono ?_
            rintro e w2 ⟨rfl, hb2⟩
            go_wp2
            go_roundw
            case rel => exact ⟨k + 1, by omega, by go_num, Hn, below_then HbX.out hb2⟩
            case measure => simp [intOf]; omega
    · have Hfin := As.mk (hasA_no us tx fun j u hu => Hk.out j u (by have := (List.getElem?_eq_some_iff.1 hu).1; omega) hu)
      go_wp2
      go_ret
      exact ⟨by rw [Hfin.out]; rfl, hb⟩

/-! ### User by user -/
abbrev St := List (Option (List Tag × List Tag))
/-- The first k users have turned by f. -/
def mapTo (f : List Tag × List Tag → List Tag × List Tag) (k : Nat) (st : St) : St := (st.take k).map (Option.map f) ++ st.drop k
theorem mapTo_zero (f : List Tag × List Tag → List Tag × List Tag) (st : St) : mapTo f 0 st = st := by simp [mapTo]
theorem mapTo_all (f : List Tag × List Tag → List Tag × List Tag) (st : St) (k : Nat) (h : st.length ≤ k) : mapTo f k st = st.map (Option.map f) := by
  unfold mapTo
  rw [List.take_of_length_le h, List.drop_eq_nil_of_le h, List.append_nil]
theorem mapTo_at (f : List Tag × List Tag → List Tag × List Tag) (st : St) (k : Nat) (hk : k < st.length) : (mapTo f k st)[k]? = st[k]? := by
  unfold mapTo
  have hl : ((st.take k).map (Option.map f)).length = k := by rw [List.length_map, List.length_take]; omega
  rw [List.getElem?_append_right (by omega), hl, Nat.sub_self, List.getElem?_drop, Nat.add_zero]
theorem mapTo_none (f : List Tag × List Tag → List Tag × List Tag) (st : St) (k : Nat) (h : st[k]? = some none) : mapTo f (k + 1) st = mapTo f k st := by
  obtain ⟨hk, he⟩ := List.getElem?_eq_some_iff.1 h
  unfold mapTo
  rw [List.take_succ_eq_append_getElem hk, List.map_append, List.append_assoc, List.drop_eq_getElem_cons hk, he]
  rfl
theorem mapTo_some (f : List Tag × List Tag → List Tag × List Tag) (st : St) (k : Nat) (p : List Tag × List Tag) (h : st[k]? = some (some p)) : (mapTo f k st).set k (some (f p)) = mapTo f (k + 1) st := by
  obtain ⟨hk, he⟩ := List.getElem?_eq_some_iff.1 h
  have hl : ((st.take k).map (Option.map f)).length = k := by rw [List.length_map, List.length_take]; omega
  unfold mapTo
  rw [List.set_append_right _ _ (by omega), hl, Nat.sub_self, List.drop_eq_getElem_cons hk, List.set_cons_zero, List.take_succ_eq_append_getElem hk, List.map_append, List.append_assoc, he]
  rfl
theorem abs_len (us : List (Option UserRep)) : (abs us).length = us.length := by unfold abs; rw [List.length_map]
theorem abs_at (us : List (Option UserRep)) (k : Nat) : (abs us)[k]? = us[k]?.map (Option.map absU) := by unfold abs; rw [List.getElem?_map]
theorem abs_set (us : List (Option UserRep)) (k : Nat) (u : UserRep) : abs (us.set k (some u)) = (abs us).set k (some (absU u)) := by unfold abs; rw [List.map_set]; rfl
def FitsA (M : Nat) (st : St) : Prop := ∀ (k : Nat) (p : List Tag × List Tag), st[k]? = some (some p) → p.1.length ≤ M ∧ p.2.length ≤ M
theorem FitsA.fits {M : Nat} {us : List (Option UserRep)} (h : FitsA M (abs us)) : Fits M us := fun i u hu => h i (absU u) (by rw [abs_at, hu]; rfl)
theorem at_of {us us1 : List (Option UserRep)} {f : List Tag × List Tag → List Tag × List Tag} {k : Nat} (ha : abs us1 = mapTo f k (abs us)) (hk : k < us.length) : ∃ o, us1[k]? = some o ∧ (abs us)[k]? = some (o.map absU) := by
  have h1 : (abs us1)[k]? = (mapTo f k (abs us))[k]? := by rw [ha]
  rw [mapTo_at f _ k (by rw [abs_len]; exact hk), abs_at] at h1
  have hl : us1.length = us.length := by
    have h2 := congrArg List.length ha
    rw [abs_len] at h2
    rw [h2]
    unfold mapTo
    rw [List.length_append, List.length_map, ← List.length_append, List.take_append_drop, abs_len]
  obtain ⟨o, ho⟩ : ∃ o, us1[k]? = some o := ⟨_, List.getElem?_eq_getElem (by omega)⟩
  rw [ho] at h1
  exact ⟨o, ho, h1.symm⟩

/-! ### Free, Remove -/
def freeU (tx : Int) (p : List Tag × List Tag) : List Tag × List Tag := (p.1, keepL p.2 tx)
def freeA (st : St) (tx : Int) : St := st.map (Option.map (freeU tx))
def removeU (tx : Int) (p : List Tag × List Tag) : List Tag × List Tag := (keepL p.1 tx, p.2)
def removeA (st : St) (tx : Int) : St := st.map (Option.map (removeU tx))
/-- The calendar has turned into another one. -/
def Turns (c ub : Nat) (hd : List Value) (us : List (Option UserRep)) (w : World) (st : St) (e : Ending) (w' : World) : Prop :=
  e = .returned (.tuple #[]) ∧ ∃ us', CalAt w' c ub hd us' ∧ abs us' = st ∧ us'.length = us.length ∧ Mv w us w' us'
theorem len_of {us us1 : List (Option UserRep)} {f : List Tag × List Tag → List Tag × List Tag} {k : Nat} (ha : abs us1 = mapTo f k (abs us)) : us1.length = us.length := by
  have h2 := congrArg List.length ha
  rw [abs_len] at h2
  rw [h2]
  unfold mapTo
  rw [List.length_append, List.length_map, ← List.length_append, List.take_append_drop, abs_len]

set_option maxHeartbeats 4000000 in
set_option maxRecDepth 100000 in
theorem Free_calls (w : World) (c ub : Nat) (hd : List Value) (us : List (Option UserRep)) (tx : Int) (h : CalAt w c ub hd us) (hl : us.length ≤ 1000000000000) (hf : FitsA 1000000000000 (abs us)) :
    Calls Tryz.prog 24 #[.pointer (some ⟨c, 0, none⟩), .int .i64 tx] w (Turns c ub hd us w (freeA (abs us) tx)) := by
  have h6 := users_cell h
  have H := As.mk h
  have Hf := As.mk hf
  clear h hf
  go_enter Tryz.func24, Tryz.ntmps24
  go_wp2
  go_loopw [11] (fun i wr => ∃ (k : Nat) (us1 : List (Option UserRep)), k ≤ us.length ∧ i = .int .i64 k ∧ As (CalAt wr c ub hd us1) ∧ As (abs us1 = mapTo (freeU tx) k (abs us)) ∧ As (Mv w us wr us1)) (fun i _ => us.length - (intOf i).toNat)
  case atStart => exact ⟨0, us, Nat.zero_le _, rfl, H, ⟨(mapTo_zero _ _).symm⟩, ⟨Mv.refl _ _⟩⟩
  case round =>
    obtain ⟨k, us1, hk, rfl, H1, Ha, Hm⟩ := hrel
    by_cases hlt : k < us.length
    · obtain ⟨o, ho, hst⟩ := at_of Ha.out hlt
      have hc := at_cell H1.out ho
      cases o with
      | none =>
        have Hn := As.mk (Ha.out.trans (mapTo_none (freeU tx) (abs us) k hst).symm)
        simp only [ptrOf] at hc
        clear ho hst
        go_wp2
        go_roundw
        case rel => exact ⟨k + 1, us1, by omega, by go_num, H1, Hn, Hm⟩
        case measure => simp [intOf]; omega
      | some u =>
        simp only [ptrOf] at hc
        have hcr := r_cell H1.out ho
        have hur := (H1.out.user k u ho).2.2.1
        have hlr := (Hf.out k (absU u) hst).2
        have hcon := Remove_calls u.r.g u.r.v u.r.L tx wr hur hlr
        have Hcon := As.mk hcon
        have Ho := As.mk ho
        have Hst := As.mk hst
        clear ho hst hur hlr hcon
        go_wp2_with fail
        refine Hcon.out.mono ?_
        rintro e w1 ⟨n, v', rfl, hS, hv, hU⟩
        obtain ⟨h2, hm2⟩ := H1.out.turn_r Ho.out hU hS (.inl hv)
        have H2 := As.mk h2
        have Hm2 := As.mk (Hm.out.trans hm2)
        have Ha2 : As (abs (us1.set k (some { u with r := { u.r with v := v', L := keepL u.r.L tx } })) = mapTo (freeU tx) (k + 1) (abs us)) := ⟨by
          rw [abs_set, Ha.out, ← mapTo_some (freeU tx) (abs us) k (absU u) Hst.out]; rfl⟩
        clear hS hv hU h2 hm2
        go_wp2
        go_roundw
        case rel => exact ⟨k + 1, _, by omega, by go_num, H2, Ha2, Hm2⟩
        case measure => simp [intOf]; omega
    · obtain rfl : k = us.length := by omega
      have Hfin := As.mk (Ha.out.trans (mapTo_all (freeU tx) (abs us) us.length (by rw [abs_len]; exact Nat.le_refl _)))
      have Hlen := As.mk (len_of Ha.out)
      go_wp2
      go_end0
      exact ⟨rfl, us1, H1.out, Hfin.out, Hlen.out, Hm.out⟩
set_option maxHeartbeats 4000000 in
set_option maxRecDepth 100000 in
theorem CalRemove_calls (w : World) (c ub : Nat) (hd : List Value) (us : List (Option UserRep)) (tx : Int) (h : CalAt w c ub hd us) (hl : us.length ≤ 1000000000000) (hf : FitsA 1000000000000 (abs us)) :
    Calls Tryz.prog 12 #[.pointer (some ⟨c, 0, none⟩), .int .i64 tx] w (Turns c ub hd us w (removeA (abs us) tx)) := by
  have h6 := users_cell h
  have H := As.mk h
  have Hf := As.mk hf
  clear h hf
  go_enter Tryz.func12, Tryz.ntmps12
  go_wp2
  go_loopw [11] (fun i wr => ∃ (k : Nat) (us1 : List (Option UserRep)), k ≤ us.length ∧ i = .int .i64 k ∧ As (CalAt wr c ub hd us1) ∧ As (abs us1 = mapTo (removeU tx) k (abs us)) ∧ As (Mv w us wr us1)) (fun i _ => us.length - (intOf i).toNat)
  case atStart => exact ⟨0, us, Nat.zero_le _, rfl, H, ⟨(mapTo_zero _ _).symm⟩, ⟨Mv.refl _ _⟩⟩
  case round =>
    obtain ⟨k, us1, hk, rfl, H1, Ha, Hm⟩ := hrel
    by_cases hlt : k < us.length
    · obtain ⟨o, ho, hst⟩ := at_of Ha.out hlt
      have hc := at_cell H1.out ho
      cases o with
      | none =>
        have Hn := As.mk (Ha.out.trans (mapTo_none (removeU tx) (abs us) k hst).symm)
        simp only [ptrOf] at hc
        clear ho hst
        go_wp2
        go_roundw
        case rel => exact ⟨k + 1, us1, by omega, by go_num, H1, Hn, Hm⟩
        case measure => simp [intOf]; omega
      | some u =>
        simp only [ptrOf] at hc
        have hcr := s_cell H1.out ho
        have hur := (H1.out.user k u ho).2.1
        have hlr := (Hf.out k (absU u) hst).1
        have hcon := Edit.Remove_calls u.s.g u.s.v u.s.L tx wr hur hlr
        have Hcon := As.mk hcon
        have Ho := As.mk ho
        have Hst := As.mk hst
        clear ho hst hur hlr hcon
        go_wp2_with fail
        refine Hcon.out.mono ?_
        rintro e w1 ⟨n, v', rfl, hS, hv, hU⟩
        obtain ⟨h2, hm2⟩ := H1.out.turn_s Ho.out hU hS (.inl hv)
        have H2 := As.mk h2
        have Hm2 := As.mk (Hm.out.trans hm2)
        have Ha2 : As (abs (us1.set k (some { u with s := { u.s with v := v', L := keepL u.s.L tx } })) = mapTo (removeU tx) (k + 1) (abs us)) := ⟨by
          rw [abs_set, Ha.out, ← mapTo_some (removeU tx) (abs us) k (absU u) Hst.out]; rfl⟩
        clear hS hv hU h2 hm2
        go_wp2
        go_roundw
        case rel => exact ⟨k + 1, _, by omega, by go_num, H2, Ha2, Hm2⟩
        case measure => simp [intOf]; omega
    · obtain rfl : k = us.length := by omega
      have Hfin := As.mk (Ha.out.trans (mapTo_all (removeU tx) (abs us) us.length (by rw [abs_len]; exact Nat.le_refl _)))
      have Hlen := As.mk (len_of Ha.out)
      go_wp2
      go_end0
      exact ⟨rfl, us1, H1.out, Hfin.out, Hlen.out, Hm.out⟩
end Go.Proofs.YtioaingenooelaaGreat.CalOps
/-
  cal.Cal: Busy, Owners walked.
-/
namespace Go.Proofs.YtioaingenooelaaGreat.CalAsk
open Go.RowKit Go.Proofs.YtioaingenooelaaGreat.Wd Go.Proofs.YtioaingenooelaaGreat.Pure Go.Proofs.YtioaingenooelaaGreat.Sorted Go.Proofs.YtioaingenooelaaGreat.Search Go.Proofs.YtioaingenooelaaGreat.Norm Go.Proofs.YtioaingenooelaaGreat.Meets Go.Proofs.YtioaingenooelaaGreat.SetW Go.Proofs.YtioaingenooelaaGreat.Edit Go.Proofs.YtioaingenooelaaGreat.AddW Go.Proofs.YtioaingenooelaaGreat.CalRep Go.Proofs.YtioaingenooelaaGreat.CalOps

/-! ### Busy, Owners -/
theorem getU_some {us : List (Option UserRep)} {n : Int} {u : UserRep} (h : getU us n = some u) : ∃ k : Nat, n = k ∧ us[k]? = some (some u) := by
  unfold getU at h
  split at h
  · cases h
  · rename_i hn
    refine ⟨n.toNat, by omega, ?_⟩
    cases hq : us[n.toNat]? with
    | none => rw [hq] at h; cases h
    | some o => rw [hq] at h; cases o with
      | none => cases h
      | some v => rw [show v = u from by simpa using h]
/-- Spans and an error. -/
def SpansE (l : List Span) (er : Int) (w : World) (e : Ending) (w' : World) : Prop :=
  ∃ v, e = .returned (.tuple #[v, .int .i64 er]) ∧ w'.ownsRow w.heap.size 36 2 v l.length (fl2 l) ∧ Below w.heap.size w w'
set_option maxHeartbeats 4000000 in
set_option maxRecDepth 100000 in
theorem Busy_yes (w : World) (c ub : Nat) (hd : List Value) (us : List (Option UserRep)) (n lo hi : Int) (u : UserRep) (h : CalAt w c ub hd us) (hl : us.length ≤ 1000000000000) (hf : Fits 1000000000000 us) (hu : getU us n = some u) :
    Calls Tryz.prog 13 #[.pointer (some ⟨c, 0, none⟩), .int .i64 n, .int .i64 lo, .int .i64 hi] w (SpansE (cutL u.s.L lo hi) 0 w) := by
  have hof := of_calls w c ub hd us n h hl
  rw [hu] at hof
  obtain ⟨k, -, hk⟩ := getU_some hu
  have hcs := s_cell h hk
  have hcon := Cut_calls u.s.g u.s.L lo hi w (SetAt.reads (h.user k u hk).2.1) (hf k u hk).1
  have Hof := As.mk hof
  have Hcon := As.mk hcon
  clear hof hcon hu hk h hf hl
  go_enter Tryz.func13, Tryz.ntmps13
  go_wp2_with fail
  refine Hof.out.mono ?_
  rintro e w1 ⟨rfl, rfl⟩
  simp only [ptrOf]
  go_wp2_with fail
  refine Hcon.out.mono ?_
  rintro e w1 ⟨v, rfl, hown, hb⟩
  go_wp2
  go_ret2
  exact ⟨v, rfl, hown, hb⟩
set_option maxHeartbeats 4000000 in
set_option maxRecDepth 100000 in
theorem Busy_no (w : World) (c ub : Nat) (hd : List Value) (us : List (Option UserRep)) (n lo hi : Int) (h : CalAt w c ub hd us) (hl : us.length ≤ 1000000000000) (hu : getU us n = none) :
    Calls Tryz.prog 13 #[.pointer (some ⟨c, 0, none⟩), .int .i64 n, .int .i64 lo, .int .i64 hi] w (SpansE [] 11 w) := by
  have hof := of_calls w c ub hd us n h hl
  rw [hu] at hof
  have Hof := As.mk hof
  clear hof hu h hl
  go_enter Tryz.func13, Tryz.ntmps13
  go_wp2_with fail
  refine Hof.out.mono ?_
  rintro e w1 ⟨rfl, rfl⟩
  simp only [ptrOf]
  go_wp2
  go_ret2
  exact ⟨_, rfl, World.ownsRow_nil _ _ _ _, Below.refl _ _⟩

/-- Two lists of whole numbers; their rows are apart. -/
def Rows11 (l m : List Int) (w : World) (e : Ending) (w' : World) : Prop :=
  ∃ v v', e = .returned (.tuple #[v, v']) ∧ w'.ownsRow w.heap.size 3 1 v l.length (fl1 l) ∧ w'.ownsRow w.heap.size 3 1 v' m.length (fl1 m) ∧ Below w.heap.size w w'
set_option maxHeartbeats 8000000 in
set_option maxRecDepth 100000 in
theorem Owners_yes (w : World) (c ub : Nat) (hd : List Value) (us : List (Option UserRep)) (n : Int) (u : UserRep) (h : CalAt w c ub hd us) (hl : us.length ≤ 1000000000000) (hf : Fits 1000000000000 us) (hu : getU us n = some u) :
    Calls Tryz.prog 14 #[.pointer (some ⟨c, 0, none⟩), .int .i64 n] w (Rows11 (ownersL u.s.L) (ownersL u.r.L) w) := by
  have hof := of_calls w c ub hd us n h hl
  rw [hu] at hof
  obtain ⟨k, -, hk⟩ := getU_some hu
  have hcs := s_cell h hk
  have hcr := r_cell h hk
  have hub := h.b_lt hk
  have hus := SetAt.reads (h.user k u hk).2.1
  have hur := SetAt.reads (h.user k u hk).2.2.1
  have hgne : u.s.g ≠ u.r.g := fun e => (h.user k u hk).2.2.2 u.s.g (.inl rfl) (by rw [e]; exact .inl rfl)
  have hS := fun W hW => Owners_calls u.s.g u.s.L W (SetR.below hus (w' := W) hW) (hf k u hk).1
  have hR := fun W hW => Owners_calls u.r.g u.r.L W (SetR.below hur (w' := W) hW) (hf k u hk).2
  have Hof := As.mk hof
  have HS := As.mk hS
  have HR := As.mk hR
  clear hof hS hR hu hk hus hur h hf hl
  go_enter Tryz.func14, Tryz.ntmps14
  go_wp2_with fail
  refine Hof.out.mono ?_
  rintro e w1 ⟨rfl, rfl⟩
  simp only [ptrOf]
  have hb0 := Below.refl w.heap.size w
  go_wp2_with fail
  go_region_held3 (fun w' => w'.cell? ⟨u.b, 0, none⟩ = some (.pointer (some ⟨u.s.g, 0, none⟩)) ∧ w'.cell? ⟨u.b, 1, none⟩ = some (.pointer (some ⟨u.r.g, 0, none⟩)) ∧ Below w.heap.size w w') (first | exact ⟨by assumption, by assumption, by assumption⟩ | exact ⟨hcs, hcr, below_drewN hb0 _⟩)
    (first
      | (go_at_call_of 46 (Value.pointer (some ⟨u.s.g, 0, none⟩)); refine (HS.out _ (below_drewN hb0 _)).mono ?_; rintro e w1 ⟨v1, rfl, hown1, hb1⟩; have hb1' := below_then (below_drewN hb0 _) hb1; have q0 := (hb1'.cell (p := ⟨u.b, 0, none⟩) hub).trans hcs; have q1 := (hb1'.cell (p := ⟨u.b, 1, none⟩) hub).trans hcr)
      | (go_at_call_of 46 (Value.pointer (some ⟨u.r.g, 0, none⟩)); refine (HR.out _ hb1').mono ?_; rintro e w2 ⟨v2, rfl, hown2, hb2⟩; have hb2' := below_then hb1' hb2; have q2 := (hb2'.cell (p := ⟨u.b, 0, none⟩) hub).trans hcs; have q3 := (hb2'.cell (p := ⟨u.b, 1, none⟩) hub).trans hcr))
  go_wp2
  go_ret2
  exact ⟨v1, v2, rfl, own_mono (own_below hown1 hb2) (Nat.le_refl _), own_mono hown2 hb1'.size, hb2'⟩
set_option maxHeartbeats 4000000 in
set_option maxRecDepth 100000 in
theorem Owners_no (w : World) (c ub : Nat) (hd : List Value) (us : List (Option UserRep)) (n : Int) (h : CalAt w c ub hd us) (hl : us.length ≤ 1000000000000) (hu : getU us n = none) :
    Calls Tryz.prog 14 #[.pointer (some ⟨c, 0, none⟩), .int .i64 n] w (Rows11 [] [] w) := by
  have hof := of_calls w c ub hd us n h hl
  rw [hu] at hof
  have Hof := As.mk hof
  clear hof hu h hl
  go_enter Tryz.func14, Tryz.ntmps14
  go_wp2_with fail
  refine Hof.out.mono ?_
  rintro e w1 ⟨rfl, rfl⟩
  simp only [ptrOf]
  go_wp2
  go_ret2
  exact ⟨_, _, rfl, World.ownsRow_nil _ _ _ _, World.ownsRow_nil _ _ _ _, Below.refl _ _⟩
end Go.Proofs.YtioaingenooelaaGreat.CalAsk
/-
  cal.Cal: Check walked.
-/
namespace Go.Proofs.YtioaingenooelaaGreat.Check
open Go.RowKit Go.Proofs.YtioaingenooelaaGreat.Wd Go.Proofs.YtioaingenooelaaGreat.Pure Go.Proofs.YtioaingenooelaaGreat.Sorted Go.Proofs.YtioaingenooelaaGreat.Search Go.Proofs.YtioaingenooelaaGreat.Norm Go.Proofs.YtioaingenooelaaGreat.Meets Go.Proofs.YtioaingenooelaaGreat.SetW Go.Proofs.YtioaingenooelaaGreat.Edit Go.Proofs.YtioaingenooelaaGreat.AddW Go.Proofs.YtioaingenooelaaGreat.CalRep Go.Proofs.YtioaingenooelaaGreat.CalOps Go.Proofs.YtioaingenooelaaGreat.CalAsk Go.Proofs.YtioaingenooelaaGreat.Ints

theorem fl1_one' (l : List Int) : ∀ u ∈ fl1 l, u.oneCell' = true := by
  intro u hu
  unfold fl1 at hu
  obtain ⟨x, _, rfl⟩ := List.mem_map.1 hu
  rfl
set_option maxHeartbeats 4000000 in
set_option maxRecDepth 100000 in
theorem cloneInt_some (l : List Int) (a : Addr) (c : Nat) (w : World) (hr : Rd w 1 (some a) l.length (fl1 l)) (hl : l.length ≤ 1000000000000) :
    Calls Tryz.prog 43 #[.slice (some a) l.length c] w fun e w' => ∃ v', e = .returned v' ∧ w'.ownsRow w.heap.size 3 1 v' l.length (fl1 l) ∧ Below w.heap.size w w' := by
  obtain ⟨i0, hi, hz0, hz1, hz2⟩ := info_parts info3
  have q22 : ∀ (w : World) (a : Option Addr) (n c n' c' : Nat), (binOp .eql 33 (.slice a n c) (.slice none n' c')).run Tryz.prog w = .ok (.bool a.isNone) w := fun w a n c n' c' => Lib.run_eql_slice_nil w _ _ a n c n' c' Tryz.cloneInt.t22
  have Hi := As.mk hi
  have Hz0 := As.mk hz0
  have Hz1 := As.mk hz1
  have Hz2 := As.mk hz2
  have HR := As.mk hr
  clear hi hz0 hz1 hz2 hr
  go_enter Tryz.func43, Tryz.ntmps43
  go_wp2_with (at_builtin; refine wpList_append_own _ rfl _ _ 33 rfl w.heap.size 3 i0 (.int .i64 0) 1 8 Tryz.underlying33 Hi.out Hz0.out Hz1.out Hz2.out rfl (by decide) _ _ _ rfl (World.ownsRow_made w #[] 0 (Nat.le_refl _) (Nat.zero_le _) (by simp)) a l.length c (fl1 l) rfl ?qc1 ?qc2 ?qc3 ?qc4 ?qc5 ?qc6 ?_)
  case qc1 => exact HR.out.1
  case qc2 =>
    intro j u hj
    obtain ⟨ad, e, hc⟩ := HR.out.2 j u hj
    injection e with e
    subst e
    exact Lib.cell?_alloc_some _ hc
  case qc3 => exact fl1_one' l
  case qc4 => rw [Nat.zero_add]; unfold maxLen; omega
  case qc5 => rw [Nat.zero_add]; omega
  case qc6 => simp
  intro v' w1 hown hgrow hnil
  go_wp2
  go_ret
  refine ⟨v', rfl, by simpa using hown, ?_⟩
  exact ((Below.refl _ w).alloc (Nat.le_refl _) _).grown hgrow (by simp) (by intro k hk; simp [Value.ownBlock] at hk; omega)
theorem cloneInt_calls (l : List Int) (A : Option Addr) (c : Nat) (w : World) (hr : Rd w 1 A l.length (fl1 l)) (hl : l.length ≤ 1000000000000) :
    Calls Tryz.prog 43 #[.slice A l.length c] w fun e w' => ∃ v', e = .returned v' ∧ w'.ownsRow w.heap.size 3 1 v' l.length (fl1 l) ∧ Below w.heap.size w w' := by
  cases A with
  | some a => exact cloneInt_some l a c w hr hl
  | none =>
    have h0 : l = [] := by
      cases l with
      | nil => rfl
      | cons x r =>
        obtain ⟨ad, e, _⟩ := hr.2 0 (.int .i64 x) rfl
        cases e
    subst h0
    refine (AnyE.slices_Clone_nil Tryz.cloneInt 0 c w).mono ?_
    rintro e w' ⟨rfl, rfl⟩
    exact ⟨_, rfl, World.ownsRow_nil _ _ _ _, Below.refl _ _⟩

/-! ### Check -/
def getA (st : St) (n : Int) : Option (List Tag × List Tag) := getU st n
def tellA (st : St) (sp : List Span) (but u : Int) : Option (Tag × Int) :=
  match getA st u with
  | none => none
  | some p => match clashL p.1 sp but with
    | some t => some (t, u)
    | none => match clashL p.2 sp 0 with
      | some t => some (t, u)
      | none => none
/-- What Check tells of users that stand in this order, of spans that are joined. -/
def checkL (st : St) (l : List Int) (sp : List Span) (but : Int) : Option (Tag × Int) := l.findSome? fun u => tellA st sp but u
def checkA (st : St) (users : List Int) (l : List Span) (but : Int) : Option (Tag × Int) := checkL st (users.mergeSort leI) (norm l) but
theorem checkL_at (st : St) (l : List Int) (sp : List Span) (but : Int) (k : Nat) (u : Int) (h : l[k]? = some u) : checkL st (l.drop k) sp but = match tellA st sp but u with | some t => some t | none => checkL st (l.drop (k + 1)) sp but := by
  rw [drop_at l k u h]
  simp [checkL, List.findSome?_cons]
  cases tellA st sp but u <;> rfl
def checkV : Option (Tag × Int) → Value
  | some t => .tuple #[tagV t.1, .int .i64 t.2, .bool true]
  | none => .tuple #[tagV ((0, 0), 0), .int .i64 0, .bool false]
theorem getA_abs (us : List (Option UserRep)) (n : Int) : getA (abs us) n = (getU us n).map absU := by
  unfold getA getU
  by_cases h : n < 0
  · rw [if_pos h, if_pos h]; rfl
  · rw [if_neg h, if_neg h, abs_at]
    cases us[n.toNat]? with
    | none => rfl
    | some o => cases o <;> rfl
/-- Each set is sorted by its spans' ends. -/
def Rising (us : List (Option UserRep)) : Prop := ∀ (i : Nat) (u : UserRep), us[i]? = some (some u) → (u.s.L.Pairwise fun x y => x.1.2 ≤ y.1.2) ∧ (u.r.L.Pairwise fun x y => x.1.2 ≤ y.1.2)
set_option maxHeartbeats 4000000 in
set_option maxRecDepth 100000 in
theorem Check_calls (w : World) (c ub : Nat) (hd : List Value) (us : List (Option UserRep)) (A B : Option Addr) (ca cb : Nat) (l : List Int) (sp : List Span) (but : Int) (h : CalAt w c ub hd us) (hl : us.length ≤ 1000000000000) (hf : Fits 1000000000000 us) (hri : Rising us)
    (hr : Rd w 1 A l.length (fl1 l)) (hll : l.length ≤ 1000000000000) (hr2 : Rd w 2 B sp.length (fl2 sp)) (hll2 : sp.length ≤ 1000000000000) :
    Calls Tryz.prog 11 #[.pointer (some ⟨c, 0, none⟩), .slice A l.length ca, .slice B sp.length cb, .int .i64 but] w (Tells (checkV (checkA (abs us) l sp but)) w) := by
  have hcon := fun W hW => cloneInt_calls l A ca W (hr.belowS (w' := W) hW) hll
  have H := As.mk h
  have Hf := As.mk hf
  have Hri := As.mk hri
  have HR2 := As.mk hr2
  have Hcon := As.mk hcon
  clear h hf hri hr hr2 hcon
  go_enter Tryz.func11, Tryz.ntmps11
  go_wp2_with fail
  obtain ⟨W, hW⟩ : ∃ W, W = w.alloc (.cells #[.int .i64 0, .int .i64 0, .int .i64 0] 38) := ⟨_, rfl⟩
  rw [← hW]
  have hb : Below w.heap.size w W := by rw [hW]; exact below_allocS (Below.refl _ _) _
  have hz : W.heap.size = w.heap.size + 1 := by rw [hW]; simp
  have s0 : W.cell? ⟨w.heap.size, 0, none⟩ = some (.int .i64 0) := by rw [hW]; simp [go_sem]
  have s1 : W.cell? ⟨w.heap.size, 1, none⟩ = some (.int .i64 0) := by rw [hW]; simp [go_sem]
  have s2 : W.cell? ⟨w.heap.size, 2, none⟩ = some (.int .i64 0) := by rw [hW]; simp [go_sem]
  have hfz : ∀ i, W.frozen? ⟨w.heap.size, i, none⟩ = false := by intro i; rw [hW]; exact frozen_new _ _ _ _ rfl i
  have Hz := As.mk hz
  have Hfz := As.mk hfz
  have HB := As.mk hb
  clear hW hz hfz hb
  refine (Hcon.out _ HB.out).mono ?_
  rintro e w1 ⟨v, rfl, hown, hb1⟩
  obtain ⟨A1, c1, rfl, _, _⟩ := own_form hown
  have Hown := As.mk hown
  have Hb1 := As.mk hb1
  clear hown hb1
  go_wp2_with fail
  refine (sortInt_own l _ Hown.out hll).mono ?_
  rintro e w2 ⟨rfl, hown2, hg⟩
  have hb2 : Below W.heap.size W w2 := Hb1.out.grown hg Hb1.out.size (fun k hk => (Hown.out.lt k hk).1)
  obtain ⟨m, hm⟩ : ∃ m, m = l.mergeSort leI := ⟨_, rfl⟩
  have hlm : l.length = m.length := by rw [hm, List.length_mergeSort]
  rw [← hm] at hown2
  rw [hlm] at hown2 hll
  rw [hlm]
  have hrd := Rd.of_own hown2
  have HR1 := As.mk hrd
  have Hb2 := As.mk hb2
  have Hm := As.mk hm
  clear hown2 hrd hb2 hm hlm hg Hown Hb1
  go_wp2
  go_loopw [25] (fun i wr => ∃ k : Nat, k ≤ m.length ∧ i = .int .i64 k ∧ As (checkL (abs us) m (norm sp) but = checkL (abs us) (m.drop k) (norm sp) but) ∧ Below w2.heap.size w2 wr) (fun i _ => m.length - (intOf i).toNat)
  case atStart => exact ⟨0, Nat.zero_le _, rfl, ⟨rfl⟩, Below.refl _ _⟩
  case round =>
    obtain ⟨k, hk, rfl, Hk, hb3⟩ := hrel
    have HbW := As.mk (below_then Hb2.out hb3)
    have Hbw := As.mk (below_then HB.out HbW.out)
    have Hb3 := As.mk hb3
    by_cases hlt : k < m.length
    · obtain ⟨x, hx0⟩ : ∃ x, m[k]? = some x := ⟨_, List.getElem?_eq_getElem hlt⟩
      have h1 := (HR1.out.belowS hb3).at1 hx0
      have Hc := As.mk (checkL_at (abs us) m (norm sp) but k x hx0)
      have Hr := As.mk (H.out.below Hbw.out)
      have Hof := As.mk (of_calls _ c ub hd us x Hr.out hl)
      clear hx0 hb3
      obtain ⟨ad, rfl, h1⟩ := h1
      cases hg : getU us x with
      | none =>
        have hn : tellA (abs us) (norm sp) but x = none := by unfold tellA; rw [getA_abs, hg]; rfl
        have hof := Hof.out
        rw [hg] at hof
        have Hof1 := As.mk hof
        have Hc1 := Hc.out
        rw [hn] at Hc1
        have Hc2 := As.mk (Hk.out.trans Hc1)
        clear hof Hc1 hn Hof hg
        go_wp2_with fail
        refine Hof1.out.mono ?_
        rintro e w3 ⟨rfl, rfl⟩
        simp only [ptrOf]
        go_wp2
        go_roundw
        case rel => exact ⟨k + 1, by omega, by go_num, Hc2, Hb3.out⟩
        case measure => simp [intOf]; omega
      | some u =>
        have hof := Hof.out
        rw [hg] at hof
        have Hof1 := As.mk hof
        obtain ⟨j, -, hj⟩ := getU_some hg
        have htell : tellA (abs us) (norm sp) but x = match clashL u.s.L (norm sp) but with
            | some t => some (t, x)
            | none => match clashL u.r.L (norm sp) 0 with
              | some t => some (t, x)
              | none => none := by unfold tellA; rw [getA_abs, hg]; rfl
        have hcs := s_cell Hr.out hj
        have hsr := SetAt.reads (H.out.user j u hj).2.1
        have hrr := SetAt.reads (H.out.user j u hj).2.2.1
        have hS := fun W hW => Clash_calls u.s.g u.s.L B cb sp but W (SetR.below hsr (w' := W) hW) (HR2.out.belowS hW) (Hf.out j u hj).1 hll2 (Hri.out j u hj).1
        have hR := fun W hW => Clash_calls u.r.g u.r.L B cb sp 0 W (SetR.below hrr (w' := W) hW) (HR2.out.belowS hW) (Hf.out j u hj).2 hll2 (Hri.out j u hj).2
        have Hj := As.mk hj
        have hg8 := World.block_lt_of_cell? W _ s0
        clear hof Hof hg hsr hrr hj
        cases h2 : clashL u.s.L (norm sp) but with
        | some t =>
          rw [h2] at htell hS
          have Hc1 := Hc.out
          rw [htell] at Hc1
          have Hfin := As.mk (Hk.out.trans Hc1)
          have HS := As.mk hS
          clear hS hR htell Hc1 Hc h2
          go_wp2_with fail
          refine Hof1.out.mono ?_
          rintro e w3 ⟨rfl, rfl⟩
          simp only [ptrOf]
          go_wp2_with fail
          refine (HS.out _ Hbw.out).mono ?_
          rintro e w4 ⟨rfl, hb4⟩
          have hbX := below_then HbW.out hb4
          have z0 := (hbX.cell (World.block_lt_of_cell? W _ s0)).trans s0
          have z1 := (hbX.cell (World.block_lt_of_cell? W _ s1)).trans s1
          have z2 := (hbX.cell (World.block_lt_of_cell? W _ s2)).trans s2
          have f0 := (hbX.frozen (World.block_lt_of_cell? W _ s0)).trans (Hfz.out 0)
          have f1 := (hbX.frozen (World.block_lt_of_cell? W _ s1)).trans (Hfz.out 1)
          have f2 := (hbX.frozen (World.block_lt_of_cell? W _ s2)).trans (Hfz.out 2)
          have hlw := (World.block_lt_of_cell? w4 _ z0)
          simp only [hitV, tagV]
          go_wp2
          refine bodyPost_ret (v := .tuple #[.agg #[.int .i64 t.1.1, .int .i64 t.1.2, .int .i64 t.2], .int .i64 x, .bool true]) (by simp [results, Tryz.results11, go_sem, World.cell?_alloc_lt, hlw, z0, z1, z2]) rfl ⟨by unfold checkA; rw [← Hm.out, Hfin.out]; rfl, ?_⟩
          exact (((((HB.out.trans (hbX.mono HB.out.size)).setCell (Nat.le_refl _) _).setCell (Nat.le_refl _) _).setCell (Nat.le_refl _) _).alloc (by simp; exact Nat.le_trans HB.out.size hbX.size) _)
        | none =>
          have htell2 : tellA (abs us) (norm sp) but x = match clashL u.r.L (norm sp) 0 with
              | some t => some (t, x)
              | none => none := by rw [htell, h2]
          rw [h2] at hS
          have HS := As.mk hS
          clear hS htell h2
          cases h3 : clashL u.r.L (norm sp) 0 with
          | some t =>
            rw [h3] at htell2 hR
            have Hc1 := Hc.out
            rw [htell2] at Hc1
            have Hfin := As.mk (Hk.out.trans Hc1)
            have HR := As.mk hR
            clear hR htell2 Hc1 Hc h3
            go_wp2_with fail
            refine Hof1.out.mono ?_
            rintro e w3 ⟨rfl, rfl⟩
            simp only [ptrOf]
            go_wp2_with fail
            refine (HS.out _ Hbw.out).mono ?_
            rintro e w4 ⟨rfl, hb4⟩
            have hbY := below_then Hbw.out hb4
            have hbW4 := below_then HbW.out hb4
            have hcr := r_cell (H.out.below hbY) Hj.out
            have HbY := As.mk hbY
            have HbW4 := As.mk hbW4
            have hu4 := (World.block_lt_of_cell? w4 _ hcr)
            clear hbY hbW4 hb4 hcs
            simp only [hitV, tagV]
            go_wp2_with fail
            refine (HR.out _ (HbY.out.alloc HbY.out.size _)).mono ?_
            rintro e w5 ⟨rfl, hb5⟩
            have hbX := (HbW4.out.alloc HbW4.out.size _).trans (hb5.mono (by simp; have := HbW4.out.size; omega))
            have z0 := (hbX.cell (World.block_lt_of_cell? W _ s0)).trans s0
            have z1 := (hbX.cell (World.block_lt_of_cell? W _ s1)).trans s1
            have z2 := (hbX.cell (World.block_lt_of_cell? W _ s2)).trans s2
            have f0 := (hbX.frozen (World.block_lt_of_cell? W _ s0)).trans (Hfz.out 0)
            have f1 := (hbX.frozen (World.block_lt_of_cell? W _ s1)).trans (Hfz.out 1)
            have f2 := (hbX.frozen (World.block_lt_of_cell? W _ s2)).trans (Hfz.out 2)
            have hlw := (World.block_lt_of_cell? w5 _ z0)
            simp only [hitV, tagV]
            go_wp2
            refine bodyPost_ret (v := .tuple #[.agg #[.int .i64 t.1.1, .int .i64 t.1.2, .int .i64 t.2], .int .i64 x, .bool true]) (by simp [results, Tryz.results11, go_sem, World.cell?_alloc_lt, hlw, z0, z1, z2]) rfl ⟨by unfold checkA; rw [← Hm.out, Hfin.out]; rfl, ?_⟩
            exact (((((HB.out.trans (hbX.mono HB.out.size)).setCell (Nat.le_refl _) _).setCell (Nat.le_refl _) _).setCell (Nat.le_refl _) _).alloc (by simp; exact Nat.le_trans HB.out.size hbX.size) _)
          | none =>
            rw [h3] at htell2 hR
            have Hc1 := Hc.out
            rw [htell2] at Hc1
            have Hc2 := As.mk (Hk.out.trans Hc1)
            have HR := As.mk hR
            clear hR htell2 Hc1 Hc h3
            go_wp2_with fail
            refine Hof1.out.mono ?_
            rintro e w3 ⟨rfl, rfl⟩
            simp only [ptrOf]
            go_wp2_with fail
            refine (HS.out _ Hbw.out).mono ?_
            rintro e w4 ⟨rfl, hb4⟩
            have hbY := below_then Hbw.out hb4
            have hb34 := below_then Hb3.out hb4
            have hcr := r_cell (H.out.below hbY) Hj.out
            have HbY := As.mk hbY
            have Hb34 := As.mk hb34
            have hu4 := (World.block_lt_of_cell? w4 _ hcr)
            clear hbY hb34 hb4 hcs
            simp only [hitV, tagV]
            go_wp2_with fail
            refine (HR.out _ (HbY.out.alloc HbY.out.size _)).mono ?_
            rintro e w5 ⟨rfl, hb5⟩
            have hbX := (Hb34.out.alloc Hb34.out.size _).trans (hb5.mono (by simp; have := Hb34.out.size; omega))
            simp only [hitV, tagV]
            go_wp2
            go_roundw
            case rel => exact ⟨k + 1, by omega, by go_num, Hc2, hbX.alloc hbX.size _⟩
            case measure => simp [intOf]; omega
    · have hfin0 : checkL (abs us) m (norm sp) but = none := by rw [Hk.out, List.drop_eq_nil_of_le (by omega)]; rfl
      have Hfin := As.mk hfin0
      have hbX := HbW.out
      have z0 := (hbX.cell (World.block_lt_of_cell? W _ s0)).trans s0
      have z1 := (hbX.cell (World.block_lt_of_cell? W _ s1)).trans s1
      have z2 := (hbX.cell (World.block_lt_of_cell? W _ s2)).trans s2
      have f0 := (hbX.frozen (World.block_lt_of_cell? W _ s0)).trans (Hfz.out 0)
      have f1 := (hbX.frozen (World.block_lt_of_cell? W _ s1)).trans (Hfz.out 1)
      have f2 := (hbX.frozen (World.block_lt_of_cell? W _ s2)).trans (Hfz.out 2)
      clear hfin0
      go_wp2
      refine bodyPost_ret (v := .tuple #[.agg #[.int .i64 0, .int .i64 0, .int .i64 0], .int .i64 0, .bool false]) (by simp [results, Tryz.results11, go_sem, z0, z1, z2]) rfl ⟨by unfold checkA; rw [← Hm.out, Hfin.out]; rfl, ?_⟩
      exact ((((HB.out.trans (hbX.mono HB.out.size)).setCell (Nat.le_refl _) _).setCell (Nat.le_refl _) _).setCell (Nat.le_refl _) _)
end Go.Proofs.YtioaingenooelaaGreat.Check
/-
  Sets in order: what a clash is, what is added. Nothing of the program is walked.
-/
namespace Go.Proofs.YtioaingenooelaaGreat.Neat
open Go.Proofs.YtioaingenooelaaGreat.Pure Go.Proofs.YtioaingenooelaaGreat.Search Go.Proofs.YtioaingenooelaaGreat.Meets Go.Proofs.YtioaingenooelaaGreat.AddW Go.Proofs.YtioaingenooelaaGreat.Edit

def ov (t x : Span) : Bool := decide (t.1 < x.2) && decide (x.1 < t.2)
/-- A set as it ever is: its spans rise and are apart, each is full and owned. -/
def Neat (L : List Tag) : Prop := L.Pairwise (fun x y => x.1.2 ≤ y.1.1) ∧ ∀ x ∈ L, x.1.1 < x.1.2 ∧ 1 ≤ x.2
theorem Neat.nil : Neat [] := ⟨List.Pairwise.nil, by simp⟩
theorem Neat.tail {t : Tag} {L : List Tag} (h : Neat (t :: L)) : Neat L := ⟨(List.pairwise_cons.1 h.1).2, fun x hx => h.2 x (by simp [hx])⟩
theorem Neat.rising {L : List Tag} (h : Neat L) : L.Pairwise fun x y => x.1.2 ≤ y.1.2 :=
  List.Pairwise.imp_of_mem (fun {a b} _ hb hab => by have := (h.2 b hb).1; omega) h.1
theorem Neat.sub {L M : List Tag} (h : Neat L) (hs : M.Sublist L) : Neat M := ⟨List.Pairwise.sublist hs h.1, fun x hx => h.2 x (hs.subset hx)⟩
theorem Neat.keep {L : List Tag} (h : Neat L) (o : Int) : Neat (keepL L o) := h.sub List.filter_sublist

theorem find_front (x : Span) (q : Tag → Bool) : ∀ r : List Tag, Neat r → (∀ t ∈ r, x.1 < t.1.2) → (r.takeWhile fun t => decide (t.1.1 < x.2)).find? q = r.find? fun t => ov t.1 x && q t
  | [], _, _ => rfl
  | t :: s, h, hx => by
    by_cases c : t.1.1 < x.2
    · have ht := hx t (by simp)
      rw [List.takeWhile_cons, if_pos (by simpa using c), List.find?_cons, List.find?_cons]
      have e : ov t.1 x = true := by simp [ov, c, ht]
      rw [e, Bool.true_and]
      cases q t with
      | true => rfl
      | false => exact find_front x q s h.tail fun y hy => hx y (by simp [hy])
    · rw [List.takeWhile_cons, if_neg (by simpa using c)]
      symm
      rw [List.find?_nil, List.find?_eq_none]
      intro y hy
      have hlo : t.1.1 ≤ y.1.1 := by
        rcases List.mem_cons.1 hy with rfl | hy
        · exact Int.le_refl _
        · have h1 := List.rel_of_pairwise_cons h.1 hy
          have h2 := (h.2 t (by simp)).1
          omega
      have : ¬ y.1.1 < x.2 := by omega
      simp [ov, this]
theorem drop_takeWhile {α : Type} (p : α → Bool) : ∀ L : List α, L.drop (L.takeWhile p).length = L.dropWhile p
  | [] => rfl
  | a :: L => by
    rw [List.takeWhile_cons, List.dropWhile_cons]
    cases p a with
    | true => simpa using drop_takeWhile p L
    | false => simp
theorem hit_good (x : Span) (but : Int) : ∀ L : List Tag, Neat L → hit L x but = L.find? fun t => ov t.1 x && !(t.2 == but) := by
  intro L h
  unfold hit scan aheadN
  rw [drop_takeWhile]
  induction L with
  | nil => rfl
  | cons t L ih =>
    rw [List.dropWhile_cons]
    by_cases c : t.1.2 ≤ x.1
    · rw [if_pos (by simpa using c), List.find?_cons]
      have e : ov t.1 x = false := by have : ¬ x.1 < t.1.2 := by omega
                                      simp [ov, this]
      rw [e, Bool.false_and]
      exact ih h.tail
    · rw [if_neg (by simpa using c)]
      refine find_front x _ (t :: L) h fun y hy => ?_
      rcases List.mem_cons.1 hy with rfl | hy
      · omega
      · have h1 := List.rel_of_pairwise_cons h.1 hy
        have h2 := (h.2 y (by simp [hy])).1
        omega
theorem hit_none (L : List Tag) (h : Neat L) (x : Span) : hit L x 0 = none ↔ ∀ t ∈ L, ov t.1 x = false := by
  rw [hit_good x 0 L h, List.find?_eq_none]
  constructor
  · intro h1 t ht
    have h2 := h1 t ht
    have h3 := (h.2 t ht).2
    have : (t.2 == 0) = false := by simp; omega
    rw [this] at h2
    simpa using h2
  · intro h1 t ht
    rw [h1 t ht]
    simp
theorem clash_none (L : List Tag) (h : Neat L) (n : List Span) : clashL L n 0 = none ↔ ∀ x ∈ n, ∀ t ∈ L, ov t.1 x = false := by
  unfold clashL
  rw [List.findSome?_eq_none_iff]
  exact ⟨fun h1 x hx => (hit_none L h x).1 (h1 x hx), fun h1 x hx => (hit_none L h x).2 (h1 x hx)⟩

/-! ### Joined spans -/
structure Sep (n : List Span) : Prop where
  apart : n.Pairwise fun x y => x.2 < y.1
  full : ∀ x ∈ n, x.1 < x.2
theorem Sep.nil : Sep [] := ⟨List.Pairwise.nil, by simp⟩
theorem Sep.step {out : List Span} (h : Sep out) (s : Span) (hs : s.1 < s.2) (hlo : ∀ t ∈ out, t.1 ≤ s.1) : Sep (joinStep out s) ∧ ∀ t ∈ joinStep out s, t.1 ≤ s.1 := by
  rcases List.eq_nil_or_concat out with rfl | ⟨a, t, rfl⟩
  · rw [joinStep_nil]
    exact ⟨⟨by simp, by simpa using hs⟩, by simp⟩
  · rw [List.concat_eq_append] at h hlo ⊢
    have ht : (a ++ [t]).getLast? = some t := by simp
    have hp := List.pairwise_append.1 h.apart
    by_cases c : s.1 ≤ t.2
    · rw [joinStep_join ht c, List.dropLast_concat]
      refine ⟨⟨?_, ?_⟩, ?_⟩
      · exact List.pairwise_append.2 ⟨hp.1, by simp, fun x hx y hy => by
          have := hp.2.2 x hx t (by simp)
          rw [List.mem_singleton] at hy
          subst hy
          exact this⟩
      · intro x hx
        rcases List.mem_append.1 hx with hx | hx
        · exact h.full x (by simp [hx])
        · rw [List.mem_singleton] at hx
          subst hx
          have := h.full t (by simp)
          show t.1 < max t.2 s.2
          omega
      · intro x hx
        rcases List.mem_append.1 hx with hx | hx
        · exact hlo x (by simp [hx])
        · rw [List.mem_singleton] at hx
          subst hx
          exact hlo t (by simp)
    · rw [joinStep_new ht c]
      refine ⟨⟨?_, ?_⟩, ?_⟩
      · refine List.pairwise_append.2 ⟨h.apart, by simp, fun x hx y hy => ?_⟩
        rw [List.mem_singleton] at hy
        subst hy
        rcases List.mem_append.1 hx with hx | hx
        · have h1 := hp.2.2 x hx t (by simp)
          have h2 := h.full t (by simp)
          omega
        · rw [List.mem_singleton] at hx
          subst hx
          omega
      · intro x hx
        rcases List.mem_append.1 hx with hx | hx
        · exact h.full x hx
        · rw [List.mem_singleton] at hx; subst hx; exact hs
      · intro x hx
        rcases List.mem_append.1 hx with hx | hx
        · exact hlo x hx
        · rw [List.mem_singleton] at hx; subst hx; exact Int.le_refl _
theorem sep_fold : ∀ (l out : List Span), Sep out → (∀ x ∈ l, x.1 < x.2) → l.Pairwise (fun x y => x.1 ≤ y.1) → (∀ t ∈ out, ∀ s ∈ l, t.1 ≤ s.1) → Sep (l.foldl joinStep out)
  | [], out, h, _, _, _ => h
  | s :: l, out, h, hf, hp, hlo => by
    rw [List.foldl_cons]
    have hstep := h.step s (hf s (by simp)) fun t ht => hlo t ht s (by simp)
    refine sep_fold l _ hstep.1 (fun x hx => hf x (by simp [hx])) (List.pairwise_cons.1 hp).2 fun t ht y hy => ?_
    have h1 := hstep.2 t ht
    have h2 := List.rel_of_pairwise_cons hp hy
    omega
theorem norm_sep (l : List Span) : Sep (norm l) := by
  unfold norm join
  refine sep_fold _ _ Sep.nil (fun x hx => ?_) (leLo_sorted _) (by simp)
  have := (List.mem_mergeSort.1 hx)
  rw [List.mem_filter] at this
  exact (full_iff x).1 this.2

/-! ### What is added -/
def leTag (x y : Tag) : Bool := decide (x.1.1 ≤ y.1.1)
def addL (L : List Tag) (l : List Span) (o : Int) : List Tag := (L ++ tagsOf (norm l) o).mergeSort leTag
theorem perm_unique : ∀ (l1 l2 : List Tag), l1.Perm l2 → l1.Pairwise (fun x y => x.1.1 < y.1.1) → l2.Pairwise (fun x y => x.1.1 < y.1.1) → l1 = l2
  | [], l2, hp, _, _ => (List.nil_perm.1 hp).symm
  | x :: a, [], hp, _, _ => absurd (List.perm_nil.1 hp) (by simp)
  | x :: a, y :: b, hp, h1, h2 => by
    have hxy : x = y := by
      have hx : x ∈ y :: b := hp.subset (by simp)
      have hy : y ∈ x :: a := hp.symm.subset (by simp)
      rcases List.mem_cons.1 hx with e | hx
      · exact e
      · rcases List.mem_cons.1 hy with e | hy
        · exact e.symm
        · have a1 := List.rel_of_pairwise_cons h2 hx
          have a2 := List.rel_of_pairwise_cons h1 hy
          omega
    subst hxy
    rw [perm_unique a b (List.Perm.cons_inv hp) (List.pairwise_cons.1 h1).2 (List.pairwise_cons.1 h2).2]
/-- Two spans are apart. -/
def Dis (x y : Tag) : Prop := x.1.2 ≤ y.1.1 ∨ y.1.2 ≤ x.1.1
theorem Dis.symm {x y : Tag} (h : Dis x y) : Dis y x := Or.symm h
theorem good_of_perm {L L' : List Tag} (hp : L'.Perm L) (hd : L.Pairwise Dis) (hf : ∀ x ∈ L, x.1.1 < x.1.2 ∧ 1 ≤ x.2) (hs : L'.Pairwise fun x y => x.1.1 ≤ y.1.1) : Neat L' := by
  have hd' : L'.Pairwise Dis := (hp.pairwise_iff fun {x y} h => Dis.symm h).2 hd
  have hf' : ∀ x ∈ L', x.1.1 < x.1.2 ∧ 1 ≤ x.2 := fun x hx => hf x (hp.subset hx)
  refine ⟨?_, hf'⟩
  have := hd'.and hs
  refine List.Pairwise.imp_of_mem (fun {a b} ha hb hab => ?_) this
  have h1 := (hf' a ha).1
  have h2 := (hf' b hb).1
  rcases hab.1 with h | h
  · exact h
  · have := hab.2; omega
theorem leTag_sorted (l : List Tag) : (l.mergeSort leTag).Pairwise (fun x y => x.1.1 ≤ y.1.1) := by
  have h := List.pairwise_mergeSort (le := leTag) (fun a b c h1 h2 => by simp [leTag] at *; omega) (fun a b => by simp [leTag]; omega) l
  exact h.imp (fun h => by simpa [leTag] using h)
theorem dis_all {L : List Tag} (h : Neat L) (l : List Span) (o : Int) (hm : mayAdd L l o = true) : (L ++ tagsOf (norm l) o).Pairwise Dis ∧ ∀ x ∈ L ++ tagsOf (norm l) o, x.1.1 < x.1.2 ∧ 1 ≤ x.2 := by
  unfold mayAdd at hm
  simp only [Bool.and_eq_true, Bool.not_eq_true', decide_eq_false_iff_not, Option.isNone_iff_eq_none] at hm
  obtain ⟨⟨ho, _⟩, hc⟩ := hm
  rw [clash_none L h] at hc
  have hsep := norm_sep l
  have hmem : ∀ y ∈ tagsOf (norm l) o, y.1 ∈ norm l ∧ y.2 = o := by
    intro y hy
    unfold tagsOf at hy
    obtain ⟨z, hz, rfl⟩ := List.mem_map.1 hy
    exact ⟨hz, rfl⟩
  refine ⟨List.pairwise_append.2 ⟨h.1.imp fun h => .inl h, ?_, ?_⟩, ?_⟩
  · unfold tagsOf
    rw [List.pairwise_map]
    exact hsep.apart.imp fun h => .inl (Int.le_of_lt h)
  · intro x hx y hy
    have h1 := hc y.1 (hmem y hy).1 x hx
    have h2 := hsep.full y.1 (hmem y hy).1
    have h3 := (h.2 x hx).1
    simp [ov] at h1
    unfold Dis
    by_cases c : x.1.1 < y.1.2
    · have := h1 c; omega
    · omega
  · intro x hx
    rcases List.mem_append.1 hx with hx | hx
    · exact h.2 x hx
    · have h1 := hmem x hx
      exact ⟨hsep.full x.1 h1.1, by omega⟩
theorem add_unique {L L' : List Tag} (h : Neat L) (l : List Span) (o : Int) (hm : mayAdd L l o = true) (hp : L'.Perm (L ++ tagsOf (norm l) o)) (hs : L'.Pairwise fun x y => x.1.1 ≤ y.1.1) : L' = addL L l o ∧ Neat (addL L l o) := by
  obtain ⟨hd, hf⟩ := dis_all h l o hm
  have hp2 : (addL L l o).Perm (L ++ tagsOf (norm l) o) := List.mergeSort_perm _ _
  have g1 := good_of_perm hp hd hf hs
  have g2 := good_of_perm hp2 hd hf (leTag_sorted _)
  refine ⟨perm_unique _ _ (hp.trans hp2.symm) ?_ ?_, g2⟩
  · exact List.Pairwise.imp_of_mem (fun {a b} ha _ hab => by have := (g1.2 a ha).1; omega) g1.1
  · exact List.Pairwise.imp_of_mem (fun {a b} ha _ hab => by have := (g2.2 a ha).1; omega) g2.1
/-- A set behind 'Add'. -/
def afterAdd (L : List Tag) (l : List Span) (o : Int) : List Tag := if mayAdd L l o then addL L l o else L
theorem Neat.add {L : List Tag} (h : Neat L) (l : List Span) (o : Int) : Neat (afterAdd L l o) := by
  unfold afterAdd
  cases hm : mayAdd L l o with
  | true => exact (add_unique h l o hm (List.mergeSort_perm _ _) (leTag_sorted _)).2
  | false => exact h
theorem addL_len (L : List Tag) (l : List Span) (o : Int) : (addL L l o).length = L.length + (norm l).length := by
  unfold addL tagsOf
  rw [List.length_mergeSort, List.length_append, List.length_map]
theorem afterAdd_len (L : List Tag) (l : List Span) (o : Int) : (afterAdd L l o).length ≤ L.length + l.length := by
  unfold afterAdd
  have := norm_le l
  split
  · rw [addL_len]; omega
  · omega
end Go.Proofs.YtioaingenooelaaGreat.Neat
/-
  cal.Cal: Reserve walked.
-/
namespace Go.Proofs.YtioaingenooelaaGreat.Reserve
open Go.RowKit Go.Proofs.YtioaingenooelaaGreat.Wd Go.Proofs.YtioaingenooelaaGreat.Pure Go.Proofs.YtioaingenooelaaGreat.Sorted Go.Proofs.YtioaingenooelaaGreat.Search Go.Proofs.YtioaingenooelaaGreat.Norm Go.Proofs.YtioaingenooelaaGreat.Meets Go.Proofs.YtioaingenooelaaGreat.SetW Go.Proofs.YtioaingenooelaaGreat.Edit Go.Proofs.YtioaingenooelaaGreat.AddW Go.Proofs.YtioaingenooelaaGreat.CalRep Go.Proofs.YtioaingenooelaaGreat.CalOps Go.Proofs.YtioaingenooelaaGreat.CalAsk Go.Proofs.YtioaingenooelaaGreat.Ints Go.Proofs.YtioaingenooelaaGreat.Check Go.Proofs.YtioaingenooelaaGreat.Neat

/-! ### All sets good, and of a size -/
def GoodA (st : St) : Prop := ∀ (k : Nat) (p : List Tag × List Tag), st[k]? = some (some p) → Neat p.1 ∧ Neat p.2
theorem GoodA.user {us : List (Option UserRep)} (h : GoodA (abs us)) {i : Nat} {u : UserRep} (hu : us[i]? = some (some u)) : Neat u.s.L ∧ Neat u.r.L := h i (absU u) (by rw [abs_at, hu]; rfl)
theorem GoodA.rising {us : List (Option UserRep)} (h : GoodA (abs us)) : Rising us := fun i u hu => ⟨(h.user hu).1.rising, (h.user hu).2.rising⟩
theorem getA_some {st : St} {n : Int} {p : List Tag × List Tag} (h : getA st n = some p) : n = (n.toNat : Int) ∧ st[n.toNat]? = some (some p) := by
  unfold getA getU at h
  split at h
  · cases h
  · rename_i hn
    refine ⟨by omega, ?_⟩
    cases hq : st[n.toNat]? with
    | none => rw [hq] at h; cases h
    | some o => rw [hq] at h; cases o with
      | none => cases h
      | some v => rw [show v = p from by simpa using h]

/-! ### One user, all users -/
def resU (l : List Span) (o : Int) (p : List Tag × List Tag) : List Tag × List Tag := (p.1, afterAdd p.2 l o)
def resS (l : List Span) (o : Int) (st : St) (u : Int) : St :=
  match getA st u with
  | none => st
  | some p => st.set u.toNat (some (resU l o p))
def resL (st : St) (users : List Int) (l : List Span) (o : Int) : St := users.foldl (resS l o) st
theorem resL_at (st : St) (users : List Int) (l : List Span) (o : Int) (k : Nat) (u : Int) (h : users[k]? = some u) : resL st (users.take (k + 1)) l o = resS l o (resL st (users.take k) l o) u := by
  obtain ⟨hk, rfl⟩ := List.getElem?_eq_some_iff.1 h
  unfold resL
  rw [List.take_succ_eq_append_getElem hk, List.foldl_append]
  rfl
theorem resS_len (l : List Span) (o : Int) (st : St) (u : Int) : (resS l o st u).length = st.length := by
  unfold resS; split <;> simp
theorem resS_at (l : List Span) (o : Int) (st : St) (u : Int) (k : Nat) (p : List Tag × List Tag) (h : (resS l o st u)[k]? = some (some p)) : st[k]? = some (some p) ∨ ∃ q, st[k]? = some (some q) ∧ p = resU l o q := by
  unfold resS at h
  split at h
  · exact .inl h
  · rename_i q hq
    obtain ⟨_, hat⟩ := getA_some hq
    rw [List.getElem?_set] at h
    split at h
    · rename_i e
      subst e
      split at h
      · exact .inr ⟨q, hat, (Option.some.inj (Option.some.inj h)).symm⟩
      · cases h
    · exact .inl h
theorem resS_good (l : List Span) (o : Int) (st : St) (u : Int) (h : GoodA st) : GoodA (resS l o st u) := by
  intro k p hp
  rcases resS_at l o st u k p hp with h1 | ⟨q, hq, rfl⟩
  · exact h k p h1
  · exact ⟨(h k q hq).1, (h k q hq).2.add l o⟩
theorem resS_fits (l : List Span) (o : Int) (st : St) (u : Int) (M : Nat) (h : FitsA M st) : FitsA (M + l.length) (resS l o st u) := by
  intro k p hp
  rcases resS_at l o st u k p hp with h1 | ⟨q, hq, rfl⟩
  · have := h k p h1; omega
  · have := h k q hq
    have h2 := afterAdd_len q.2 l o
    exact ⟨by show q.1.length ≤ _; omega, by show (afterAdd q.2 l o).length ≤ _; omega⟩
theorem resL_inv (l : List Span) (o : Int) : ∀ (users : List Int) (st : St) (M : Nat), GoodA st → FitsA M st → GoodA (resL st users l o) ∧ FitsA (M + users.length * l.length) (resL st users l o) ∧ (resL st users l o).length = st.length
  | [], st, M, hg, hf => ⟨hg, by simpa [resL] using hf, rfl⟩
  | u :: r, st, M, hg, hf => by
    have ih := resL_inv l o r (resS l o st u) (M + l.length) (resS_good l o st u hg) (resS_fits l o st u M hf)
    refine ⟨ih.1, ?_, ih.2.2.trans (resS_len l o st u)⟩
    have e : M + (u :: r).length * l.length = M + l.length + r.length * l.length := by rw [List.length_cons, Nat.add_mul]; omega
    rw [e]
    exact ih.2.1
/-- What Reserve leaves and answers. -/
def reserveA (st : St) (o : Int) (users : List Int) (l : List Span) (but : Int) : St × Bool :=
  if (checkA st users l but).isSome || (decide (o < 1) || hasA st o) then (st, false) else (resL st users l o, true)

/-- An argument's row that no set owns. -/
theorem Rd.upd {w w' : World} {size n : Nat} {A : Option Addr} {xs : List Value} {f : Nat → Prop} (h : Rd w size A n xs) (hu : Upd f w w') (hA : xs ≠ [] → ∀ ad, A = some ad → ¬ f ad.block) : Rd w' size A n xs :=
  ⟨h.1, fun j u hj => by
    obtain ⟨ad, e, hc⟩ := h.2 j u hj
    have hlt := World.block_lt_of_cell? w _ hc
    rw [block_of_add] at hlt
    exact ⟨ad, e, (World.cell?_of_block (w := w) (w' := w') (by rw [block_of_add]; exact hu.block _ hlt (hA (fun e0 => by rw [e0] at hj; simp at hj) ad e))).trans hc⟩⟩
/-- The calendar has turned into another one, and a word is told. -/
def TurnsV (v : Value) (c ub : Nat) (hd : List Value) (us : List (Option UserRep)) (w : World) (st : St) (e : Ending) (w' : World) : Prop :=
  e = .returned v ∧ ∃ us', CalAt w' c ub hd us' ∧ abs us' = st ∧ us'.length = us.length ∧ Mv w us w' us'
theorem len_abs {us us' : List (Option UserRep)} {st : St} (h : abs us' = st) (hs : st.length = us.length) : us'.length = us.length := by rw [← hs, ← h, abs_len]
theorem set_self {α : Type} {l : List α} {j : Nat} {x : α} (h : l[j]? = some x) : l.set j x = l := by
  obtain ⟨hj, rfl⟩ := List.getElem?_eq_some_iff.1 h
  exact List.set_getElem_self hj
theorem getU_set {us : List (Option UserRep)} {x : Int} {u : UserRep} (h : getU us x = some u) : ∃ j : Nat, x.toNat = j ∧ us[j]? = some (some u) := by
  obtain ⟨j, e, hj⟩ := getU_some h
  exact ⟨j, by omega, hj⟩

set_option maxHeartbeats 8000000 in
set_option maxRecDepth 100000 in
theorem Reserve_no (w : World) (c ub : Nat) (hd : List Value) (us : List (Option UserRep)) (A B : Option Addr) (ca cb : Nat) (o : Int) (l : List Int) (sp : List Span) (but : Int) (h : CalAt w c ub hd us) (hl : us.length ≤ 1000000000000) (hf : Fits 1000000000000 us) (hri : Rising us)
    (hr : Rd w 1 A l.length (fl1 l)) (hll : l.length ≤ 1000000000000) (hr2 : Rd w 2 B sp.length (fl2 sp)) (hll2 : sp.length ≤ 1000000000000)
    (hno : ((checkA (abs us) l sp but).isSome || (decide (o < 1) || hasA (abs us) o)) = true) :
    Calls Tryz.prog 9 #[.pointer (some ⟨c, 0, none⟩), .int .i64 o, .slice A l.length ca, .slice B sp.length cb, .int .i64 but] w (Tells (.bool false) w) := by
  have hcon := Check_calls w c ub hd us A B ca cb l sp but h hl hf hri hr hll hr2 hll2
  have hhas := fun W hW => has_calls W c ub hd us o (h.below (w' := W) hW) hl hf
  have Hhas := As.mk hhas
  clear hr hr2 hhas hri hf h
  cases hck : checkA (abs us) l sp but with
  | some t =>
    rw [hck] at hcon
    have Hcon := As.mk hcon
    clear hcon hck hno
    go_enter Tryz.func9, Tryz.ntmps9
    go_wp2_with fail
    refine Hcon.out.mono ?_
    rintro e w1 ⟨rfl, hb1⟩
    simp only [checkV, tagV]
    go_wp2
    go_ret
    exact ⟨rfl, below_allocS hb1 _⟩
  | none =>
    rw [hck] at hcon hno
    have Hcon := As.mk hcon
    clear hcon hck
    by_cases ho : o < 1
    · have d1 : decide (o < 1) = true := decide_eq_true ho
      clear hno
      go_enter Tryz.func9, Tryz.ntmps9
      go_wp2_with fail
      refine Hcon.out.mono ?_
      rintro e w1 ⟨rfl, hb1⟩
      simp only [checkV, tagV]
      go_wp2
      go_ret
      exact ⟨rfl, below_allocS hb1 _⟩
    · have d1 : decide (o < 1) = false := decide_eq_false ho
      have hh : hasA (abs us) o = true := by rw [d1] at hno; simpa using hno
      have hhas := Hhas.out
      rw [hh] at hhas
      have Hhas2 := As.mk hhas
      clear hno hhas Hhas hh
      go_enter Tryz.func9, Tryz.ntmps9
      go_wp2_with fail
      refine Hcon.out.mono ?_
      rintro e w1 ⟨rfl, hb1⟩
      simp only [checkV, tagV]
      go_wp2_with fail
      refine (Hhas2.out _ (below_allocS hb1 _)).mono ?_
      rintro e w2 ⟨rfl, hb2⟩
      go_wp2
      go_ret
      exact ⟨rfl, below_then (below_allocS hb1 _) hb2⟩

theorem tellA_free {st : St} {users : List Int} {l : List Span} {but o : Int} (h : ((checkA st users l but).isSome || (decide (o < 1) || hasA st o)) = false) : checkA st users l but = none ∧ ¬ o < 1 ∧ hasA st o = false := by
  cases hc : checkA st users l but with
  | some t => rw [hc] at h; simp at h
  | none => rw [hc] at h; simp at h; exact ⟨rfl, by omega, h.2⟩

set_option maxHeartbeats 8000000 in
set_option maxRecDepth 100000 in
theorem Reserve_yes (w : World) (c ub : Nat) (hd : List Value) (us : List (Option UserRep)) (A B : Option Addr) (ca cb : Nat) (o : Int) (l : List Int) (sp : List Span) (but : Int) (M : Nat) (h : CalAt w c ub hd us) (hl : us.length ≤ 1000000000000) (hf : FitsA M (abs us)) (hgood : GoodA (abs us))
    (hM : M + l.length * sp.length ≤ 500000000000) (hr : Rd w 1 A l.length (fl1 l)) (hll : l.length ≤ 500000000000) (hr2 : Rd w 2 B sp.length (fl2 sp)) (hll2 : sp.length ≤ 500000000000)
    (hA : fl1 l ≠ [] → ∀ ad, A = some ad → ¬ fp us ad.block) (hB : fl2 sp ≠ [] → ∀ ad, B = some ad → ¬ fp us ad.block)
    (hno : ((checkA (abs us) l sp but).isSome || (decide (o < 1) || hasA (abs us) o)) = false) :
    Calls Tryz.prog 9 #[.pointer (some ⟨c, 0, none⟩), .int .i64 o, .slice A l.length ca, .slice B sp.length cb, .int .i64 but] w (TurnsV (.bool true) c ub hd us w (resL (abs us) l sp o)) := by
  have hfit : Fits 1000000000000 us := fun i u hu => by have := hf.fits i u hu; omega
  have hcon := Check_calls w c ub hd us A B ca cb l sp but h hl hfit hgood.rising hr (by omega) hr2 (by omega)
  have hhas := fun W hW => has_calls W c ub hd us o (h.below (w' := W) hW) hl hfit
  obtain ⟨f1, f2, f3⟩ := tellA_free hno
  rw [f1] at hcon
  rw [f3] at hhas
  have d1 : decide (o < 1) = false := decide_eq_false f2
  have H := As.mk h
  have Hf := As.mk hf
  have Hgood := As.mk hgood
  have HR := As.mk hr
  have HR2 := As.mk hr2
  have HA := As.mk hA
  have HB := As.mk hB
  have Hcon := As.mk hcon
  have Hhas := As.mk hhas
  have HM := As.mk hM
  have Hll := As.mk hll
  have Hll2 := As.mk hll2
  clear hcon hhas f1 f2 f3 hno hr hr2 hA hB hf hgood hfit h hM hll2
  go_enter Tryz.func9, Tryz.ntmps9
  go_wp2_with fail
  refine Hcon.out.mono ?_
  rintro e w1 ⟨rfl, hb1⟩
  simp only [checkV, tagV]
  go_wp2_with fail
  refine (Hhas.out _ (below_allocS hb1 _)).mono ?_
  rintro e w2 ⟨rfl, hb2⟩
  have Hb2 := As.mk (below_then (below_allocS hb1 _) hb2)
  clear hb1 hb2
  go_wp2
  go_loopw [38] (fun i wr => ∃ (k : Nat) (us1 : List (Option UserRep)), k ≤ l.length ∧ i = .int .i64 k ∧ As (CalAt wr c ub hd us1) ∧ As (abs us1 = resL (abs us) (l.take k) sp o) ∧ As (Mv w us wr us1)) (fun i _ => l.length - (intOf i).toNat)
  case atStart => exact ⟨0, us, Nat.zero_le _, rfl, ⟨H.out.below Hb2.out⟩, ⟨rfl⟩, ⟨Mv.of_below us Hb2.out⟩⟩
  case round =>
    obtain ⟨k, us1, hk, rfl, H1, Ha, Hm⟩ := hrel
    by_cases hlt : k < l.length
    · obtain ⟨x, hx0⟩ : ∃ x, l[k]? = some x := ⟨_, List.getElem?_eq_getElem hlt⟩
      obtain ⟨ad, e, h1⟩ := (Rd.upd HR.out Hm.out.upd HA.out).at1 hx0
      have Had := As.mk e
      have Hst := As.mk (resL_at (abs us) l sp o k x hx0)
      have hinv := resL_inv sp o (l.take k) (abs us) M Hgood.out Hf.out
      have Hg1 : As (GoodA (abs us1)) := ⟨by rw [Ha.out]; exact hinv.1⟩
      have Hf1 : As (FitsA 500000000000 (abs us1)) := ⟨by
        rw [Ha.out]
        intro j p hp
        have h2 := hinv.2.1 j p hp
        have h3 := HM.out
        have h4 : (l.take k).length * sp.length ≤ l.length * sp.length := Nat.mul_le_mul_right _ (by rw [List.length_take]; omega)
        omega⟩
      have hlen1 : us1.length ≤ 1000000000000 := by
        have h2 := hinv.2.2
        rw [← Ha.out, abs_len, abs_len] at h2
        omega
      have hof0 := of_calls wr c ub hd us1 x H1.out hlen1
      have Hx := As.mk hx0
      clear hx0 hinv hlen1
      subst e
      cases hg : getU us1 x with
      | none =>
        have hn : abs us1 = resL (abs us) (l.take (k + 1)) sp o := by
          rw [Hst.out, ← Ha.out]; unfold resS; rw [getA_abs, hg]; rfl
        have Hn := As.mk hn
        rw [hg] at hof0
        have Hof := As.mk hof0
        clear hof0 hn hg
        go_wp2_with fail
        refine Hof.out.mono ?_
        rintro e w3 ⟨rfl, rfl⟩
        simp only [ptrOf]
        go_wp2
        go_roundw
        case rel => exact ⟨k + 1, us1, by omega, by go_num, H1, Hn, Hm⟩
        case measure => simp [intOf]; omega
      | some u =>
        rw [hg] at hof0
        have Hof := As.mk hof0
        obtain ⟨j, ej, hj⟩ := getU_set hg
        have hcr := r_cell H1.out hj
        have hur := (H1.out.user j u hj).2.2.1
        have hgu := Hg1.out.user hj
        have hfu := Hf1.out.fits j u hj
        have hrd2 := Rd.upd HR2.out Hm.out.upd HB.out
        have hstep : ∀ u' : UserRep, u'.s.L = u.s.L → u'.r.L = afterAdd u.r.L sp o → abs (us1.set j (some u')) = resL (abs us) (l.take (k + 1)) sp o := by
          intro u' e1 e2
          rw [abs_set, Hst.out, ← Ha.out]
          unfold resS
          rw [getA_abs, hg]
          simp only [Option.map_some]
          rw [ej]
          congr 2
          unfold absU resU
          rw [e1, e2]
        have Hstep := As.mk hstep
        cases hm : mayAdd u.r.L sp o with
        | false =>
          have hadd := Add_no u.r.g u.r.v u.r.L B cb sp o wr hur hgu.2.rising hrd2 (by omega) (by have := Hll2.out; omega) hm
          have Hadd := As.mk hadd
          have haf : afterAdd u.r.L sp o = u.r.L := by unfold afterAdd; rw [hm]; rfl
          have hset : us1.set j (some u) = us1 := set_self hj
          have Hn : As (abs us1 = resL (abs us) (l.take (k + 1)) sp o) := ⟨by rw [← Hstep.out u rfl haf.symm]; rw [hset]⟩
          clear hadd haf hof0 hg hj ej hur hgu hfu hrd2 hstep hm hset
          go_wp2_with fail
          refine Hof.out.mono ?_
          rintro e w3 ⟨rfl, rfl⟩
          simp only [ptrOf]
          go_wp2_with fail
          refine Hadd.out.mono ?_
          rintro e w4 ⟨rfl, hb4⟩
          go_wp2
          go_roundw
          case rel => exact ⟨k + 1, us1, by omega, by go_num, ⟨H1.out.below hb4⟩, Hn, ⟨Hm.out.trans (Mv.of_below us1 hb4)⟩⟩
          case measure => simp [intOf]; omega
        | true =>
          have hadd := Add_yes u.r.g u.r.v u.r.L B cb sp o wr hur hgu.2.rising hrd2 (by have := Hll2.out; omega) hm
          have Hadd := As.mk hadd
          have Hgu := As.mk hgu.2
          have Hj := As.mk hj
          have Hmay := As.mk hm
          clear hadd hof0 hg hj ej hur hgu hfu hrd2 hstep hm
          go_wp2_with fail
          refine Hof.out.mono ?_
          rintro e w3 ⟨rfl, rfl⟩
          simp only [ptrOf]
          go_wp2_with fail
          refine Hadd.out.mono ?_
          rintro e w4 ⟨rfl, v', L', hp, hs, hS, hv, hU⟩
          obtain ⟨hL, _⟩ := add_unique Hgu.out sp o Hmay.out hp hs
          obtain ⟨h2, hm2⟩ := H1.out.turn_r Hj.out hU hS hv
          have H2 := As.mk h2
          have Hm2 := As.mk (Hm.out.trans hm2)
          have Hn := As.mk (Hstep.out { u with r := { u.r with v := v', L := L' } } rfl (by show L' = _; rw [hL]; unfold afterAdd; rw [Hmay.out]; rfl))
          clear hS hv hU h2 hm2 hp hs hL
          go_wp2
          go_roundw
          case rel => exact ⟨k + 1, _, by omega, by go_num, H2, Hn, Hm2⟩
          case measure => simp [intOf]; omega
    · obtain rfl : k = l.length := by omega
      have hfin : abs us1 = resL (abs us) l sp o := by rw [Ha.out, List.take_length]
      have hlen : us1.length = us.length := by
        have h2 := (resL_inv sp o l (abs us) M Hgood.out Hf.out).2.2
        rw [← hfin, abs_len, abs_len] at h2
        exact h2
      have Hfin := As.mk hfin
      have Hlen := As.mk hlen
      clear hfin hlen
      go_wp2
      go_ret
      exact ⟨rfl, us1, H1.out, Hfin.out, Hlen.out, Hm.out⟩
end Go.Proofs.YtioaingenooelaaGreat.Reserve
/-
  cal.Cal: Settle walked.
-/
namespace Go.Proofs.YtioaingenooelaaGreat.Settle
open Go.RowKit Go.Proofs.YtioaingenooelaaGreat.Wd Go.Proofs.YtioaingenooelaaGreat.Pure Go.Proofs.YtioaingenooelaaGreat.Sorted Go.Proofs.YtioaingenooelaaGreat.Search Go.Proofs.YtioaingenooelaaGreat.Norm Go.Proofs.YtioaingenooelaaGreat.Meets Go.Proofs.YtioaingenooelaaGreat.SetW Go.Proofs.YtioaingenooelaaGreat.Edit Go.Proofs.YtioaingenooelaaGreat.AddW Go.Proofs.YtioaingenooelaaGreat.CalRep Go.Proofs.YtioaingenooelaaGreat.CalOps Go.Proofs.YtioaingenooelaaGreat.CalAsk Go.Proofs.YtioaingenooelaaGreat.Ints Go.Proofs.YtioaingenooelaaGreat.Check Go.Proofs.YtioaingenooelaaGreat.Neat Go.Proofs.YtioaingenooelaaGreat.Reserve

/-- Those spans that are still free. -/
def stillFree (S : List Tag) (n : List Span) : List Span := n.filter fun x => (clashL S (norm [x]) 0).isNone
theorem stillFree_le (S : List Tag) (n : List Span) : (stillFree S n).length ≤ n.length := List.length_filter_le _ _
theorem stillFree_yes (S : List Tag) (n : List Span) (k : Nat) (x : Span) (h : n[k]? = some x) (hc : clashL S (norm [x]) 0 = none) : stillFree S (n.take (k + 1)) = stillFree S (n.take k) ++ [x] := by
  obtain ⟨hk, rfl⟩ := List.getElem?_eq_some_iff.1 h
  unfold stillFree
  rw [List.take_succ_eq_append_getElem hk, List.filter_append]
  simp [hc]
theorem stillFree_no (S : List Tag) (n : List Span) (k : Nat) (x : Span) (t : Tag) (h : n[k]? = some x) (hc : clashL S (norm [x]) 0 = some t) : stillFree S (n.take (k + 1)) = stillFree S (n.take k) := by
  obtain ⟨hk, rfl⟩ := List.getElem?_eq_some_iff.1 h
  unfold stillFree
  rw [List.take_succ_eq_append_getElem hk, List.filter_append]
  simp [hc]
def settleU (o : Int) (p : List Tag × List Tag) : List Tag × List Tag := (afterAdd p.1 (stillFree p.1 (ofL p.2 o)) o, keepL p.2 o)
def settleA (st : St) (o : Int) : St := st.map (Option.map (settleU o))
theorem ofL_len (L : List Tag) (o : Int) : (ofL L o).length ≤ L.length := by unfold ofL; rw [List.length_map]; exact List.length_filter_le _ _
theorem settleU_neat (o : Int) (p : List Tag × List Tag) (h : Neat p.1 ∧ Neat p.2) : Neat (settleU o p).1 ∧ Neat (settleU o p).2 := ⟨h.1.add _ _, h.2.keep o⟩
theorem settleU_len (o : Int) (p : List Tag × List Tag) (M : Nat) (h : p.1.length ≤ M ∧ p.2.length ≤ M) : (settleU o p).1.length ≤ M + M ∧ (settleU o p).2.length ≤ M := by
  have h1 := afterAdd_len p.1 (stillFree p.1 (ofL p.2 o)) o
  have h2 := stillFree_le p.1 (ofL p.2 o)
  have h3 := ofL_len p.2 o
  have h4 := keepL_le p.2 o
  exact ⟨by show (afterAdd _ _ _).length ≤ _; omega, by show (keepL _ _).length ≤ _; omega⟩

theorem wp_abs {F : World → Prop} {W0 : World} (S : World → Prop) (h0 : S W0) (h : ∀ W, S W → F W) : F W0 := h W0 h0
theorem below_drew {B : Nat} {a w : World} (h : Below B a w) : Below B a w.drew := ⟨h.os, h.tape, h.output, h.size, h.block⟩
theorem heap_last (W0 : World) (o : Obj) {W' : World} (h : W'.heap = (W0.alloc o).heap) : W'.heap[W0.heap.size]? = some o := by rw [h]; exact heap_alloc_new W0 o
theorem heap_prev (W0 : World) (o p : Obj) {W' : World} (h : W'.heap = ((W0.alloc o).alloc p).heap) : W'.heap[W0.heap.size]? = some o := by
  rw [h, Below.heap_alloc (W0.alloc o) p _ (by simp)]; exact heap_alloc_new W0 o
theorem heap_last2 (W0 : World) (o p : Obj) {W' : World} (h : W'.heap = ((W0.alloc o).alloc p).heap) : W'.heap[W0.heap.size + 1]? = some p := by
  have := heap_alloc_new (W0.alloc o) p
  rw [h]
  simpa using this
theorem t_facts (n : Nat) {W' w5 : World} (hb : Below W'.heap.size W' w5) (hn : W'.heap[n]? = some (.cells #[.int .i64 0, .int .i64 0, .int .i64 0] 38)) :
    w5.cell? ⟨n, 0, none⟩ = some (.int .i64 0) ∧ w5.cell? ⟨n, 1, none⟩ = some (.int .i64 0) ∧ w5.cell? ⟨n, 2, none⟩ = some (.int .i64 0) ∧ w5.frozen? ⟨n, 0, none⟩ = false ∧ w5.frozen? ⟨n, 1, none⟩ = false ∧ w5.frozen? ⟨n, 2, none⟩ = false := by
  have hlt : n < W'.heap.size := (Array.getElem?_eq_some_iff.1 hn).1
  have h5 := (hb.block n hlt).trans hn
  have hf : ∀ i, w5.frozen? ⟨n, i, none⟩ = false := by
    intro i
    unfold World.frozen?
    rw [h5]
    simp
  exact ⟨cell_of_row w5 n 0 _ _ (0, 0) h5, cell_of_row w5 n 1 _ _ (0, 0) h5, cell_of_row w5 n 2 _ _ (0, 0) h5, hf 0, hf 1, hf 2⟩
theorem rd_new (n : Nat) (x : Span) {W' : World} (hn : W'.heap[n]? = some (.cells #[.int .i64 x.1, .int .i64 x.2] 36)) : Rd W' 2 (some ⟨n, 0, none⟩) [x].length (fl2 [x]) := by
  refine ⟨by simp [fl2, e2], fun j u hu => ⟨_, rfl, ?_⟩⟩
  rw [fl2_one] at hu
  match j, hu with
  | 0, hu => rw [← hu]; exact cell_of_row W' n 0 _ _ (0, 0) hn
  | 1, hu => rw [← hu]; exact cell_of_row W' n 1 _ _ (0, 0) hn
  | j + 2, hu => simp [e2] at hu
set_option maxHeartbeats 16000000 in
set_option maxRecDepth 100000 in
theorem Settle_calls (w : World) (c ub : Nat) (hd : List Value) (us : List (Option UserRep)) (o : Int) (h : CalAt w c ub hd us) (hl : us.length ≤ 1000000000000) (hf : FitsA 100000000000 (abs us)) (hgood : GoodA (abs us)) :
    Calls Tryz.prog 10 #[.pointer (some ⟨c, 0, none⟩), .int .i64 o] w (Turns c ub hd us w (settleA (abs us) o)) := by
  have h6 := users_cell h
  have H := As.mk h
  have Hf := As.mk hf
  have Hgood := As.mk hgood
  clear h hf hgood
  obtain ⟨i0, hi, hz0, hz1, hz2⟩ := info_parts info36
  have Hi := As.mk hi
  have Hz0 := As.mk hz0
  have Hz1 := As.mk hz1
  have Hz2 := As.mk hz2
  clear hi hz0 hz1 hz2
  go_enter Tryz.func10, Tryz.ntmps10
  go_wp2
  go_loopw [16] (fun i wr => ∃ (k : Nat) (us1 : List (Option UserRep)), k ≤ us.length ∧ i = .int .i64 k ∧ As (CalAt wr c ub hd us1) ∧ As (abs us1 = mapTo (settleU o) k (abs us)) ∧ As (Mv w us wr us1)) (fun i _ => us.length - (intOf i).toNat)
  case atStart => exact ⟨0, us, Nat.zero_le _, rfl, H, ⟨(mapTo_zero _ _).symm⟩, ⟨Mv.refl _ _⟩⟩
  case round =>
    obtain ⟨k, us1, hk, rfl, H1, Ha, Hm⟩ := hrel
    by_cases hlt : k < us.length
    · obtain ⟨oo, ho, hst⟩ := at_of Ha.out hlt
      have hc := at_cell H1.out ho
      cases oo with
      | none =>
        have Hn := As.mk (Ha.out.trans (mapTo_none (settleU o) (abs us) k hst).symm)
        simp only [ptrOf] at hc
        clear ho hst
        go_wp2
        go_roundw
        case rel => exact ⟨k + 1, us1, by omega, by go_num, H1, Hn, Hm⟩
        case measure => simp [intOf]; omega
      | some u =>
        obtain ⟨wo, hwo⟩ : ∃ x, x = wr := ⟨_, rfl⟩
        subst hwo
        simp only [ptrOf] at hc
        have hcr := r_cell H1.out ho
        have hus := (H1.out.user k u ho).2.1
        have hur := (H1.out.user k u ho).2.2.1
        have hlr := Hf.out k (absU u) hst
        have hls : u.s.L.length ≤ 100000000000 := hlr.1
        have hlrr : u.r.L.length ≤ 100000000000 := hlr.2
        have hneat : Neat u.s.L ∧ Neat u.r.L := Hgood.out k (absU u) hst
        have hof := Of_calls u.r.g u.r.L o wo (SetAt.reads hur) (by omega)
        have Hof := As.mk hof
        have Ho := As.mk ho
        have Hst := As.mk hst
        have Hneat := As.mk hneat
        have Hus := As.mk hus
        clear ho hst hus hur hlr hof hneat
        go_wp2_with fail
        refine Hof.out.mono ?_
        rintro e w1 ⟨v1, rfl, hown1, hb1⟩
        obtain ⟨A1, c1, rfl, _, _⟩ := own_form hown1
        have hrd := Rd.of_own hown1
        have HR1 := As.mk hrd
        have Hb1 := As.mk hb1
        have hln : (ofL u.r.L o).length ≤ 100000000000 := by have := ofL_len u.r.L o; omega
        obtain ⟨n, hn⟩ : ∃ n, n = ofL u.r.L o := ⟨_, rfl⟩
        rw [← hn] at HR1 hln ⊢
        have HN := As.mk hn
        clear hown1 hrd hb1 hn
        go_wp2
        go_loopw [6, 29] (fun v i wr => ∃ q : Nat, q ≤ n.length ∧ i = .int .i64 q ∧ wr.ownsRow w1.heap.size 36 2 v (stillFree u.s.L (n.take q)).length (fl2 (stillFree u.s.L (n.take q))) ∧ Below w1.heap.size w1 wr) (fun _ i _ => n.length - (intOf i).toNat)
        case atStart => exact ⟨0, Nat.zero_le _, rfl, by simpa [fl2, stillFree] using World.ownsRow_nil _ _ _ _, Below.refl _ _⟩
        case round =>
          obtain ⟨q, hq, rfl, hown, hbi⟩ := hrel
          have Hbwi := As.mk (below_then Hb1.out hbi)
          have hsz := Hb1.out.size
          have hszi := hbi.size
          have Hbi := As.mk hbi
          have Hown := As.mk hown
          by_cases hlq : q < n.length
          · obtain ⟨x, hx0⟩ : ∃ x, n[q]? = some x := ⟨_, List.getElem?_eq_getElem hlq⟩
            obtain ⟨ad, e, h1, h2⟩ := (HR1.out.belowS hbi).at2 hx0
            have Hx := As.mk hx0
            have hle : (stillFree u.s.L (n.take q)).length ≤ q := Nat.le_trans (stillFree_le _ _) (List.length_take_le _ _)
            have Hle := As.mk hle
            have hcs := s_cell (H1.out.below Hbwi.out) Ho.out
            have hsub := World.block_lt_of_cell? wr _ hcs
            clear hx0 hle hown hbi
            subst e
            go_wp2_with fail
            obtain ⟨W8, hW8⟩ : ∃ W8, W8 = wr.alloc (.cells #[.int .i64 x.1, .int .i64 x.2] 36) := ⟨_, rfl⟩
            rw [← hW8]
            have hb8 : Below wr.heap.size wr W8 := by rw [hW8]; exact below_allocS (Below.refl _ _) _
            have hz8 : W8.heap.size = wr.heap.size + 1 := by rw [hW8]; simp
            have p1 : W8.cell? ⟨wr.heap.size, 0, none⟩ = some (.int .i64 x.1) := by rw [hW8]; simp [go_sem]
            have p2 : W8.cell? ⟨wr.heap.size, 1, none⟩ = some (.int .i64 x.2) := by rw [hW8]; simp [go_sem]
            have p0 := (hb8.cell (p := ⟨u.b, 0, none⟩) hsub).trans hcs
            have hsub8 : u.b < W8.heap.size := by omega
            have hwr8 : wr.heap.size < W8.heap.size := by omega
            have Hz8 := As.mk hz8
            have Hb8 := As.mk hb8
            clear hW8 hz8 hb8 hcs h1 h2
            have hsr := SetAt.reads Hus.out
            have hC : ∀ (b : Nat) (W' : World), Rd W' 2 (some ⟨b, 0, none⟩) [x].length (fl2 [x]) → Below W8.heap.size W8 W' → Calls Tryz.prog 41 #[.pointer (some ⟨u.s.g, 0, none⟩), .slice (some ⟨b, 0, none⟩) 1 1, .int .i64 0] W' (Tells (hitV (clashL u.s.L (norm [x]) 0)) W') := fun b W' hR hW' =>
              Clash_calls u.s.g u.s.L (some ⟨b, 0, none⟩) 1 [x] 0 W' (SetR.below hsr (below_then Hbwi.out (below_then Hb8.out hW'))) hR (by omega) (by simp) Hneat.out.1.rising
            have HS : As (∀ w', Below W8.heap.size W8 w' → w'.cell? ⟨u.b, 0, none⟩ = some (.pointer (some ⟨u.s.g, 0, none⟩)) ∧ w'.cell? ⟨wr.heap.size, 0, none⟩ = some (.int .i64 x.1) ∧ w'.cell? ⟨wr.heap.size, 1, none⟩ = some (.int .i64 x.2) ∧ Below W8.heap.size W8 w') := ⟨fun w' hb => ⟨(hb.cell (p := ⟨u.b, 0, none⟩) hsub8).trans p0, (hb.cell (p := ⟨wr.heap.size, 0, none⟩) hwr8).trans p1, (hb.cell (p := ⟨wr.heap.size, 1, none⟩) hwr8).trans p2, hb⟩⟩
            have hB8 := Below.refl W8.heap.size W8
            clear hsr hsub8 hwr8
            cases hcl : clashL u.s.L (norm [x]) 0 with
            | some t =>
              rw [hcl] at hC
              simp only [hitV, tagV] at hC
              have HC := As.mk hC
              have Hcl := As.mk hcl
              clear hC hcl
              go_region_held3 (fun w' => w'.cell? ⟨u.b, 0, none⟩ = some (.pointer (some ⟨u.s.g, 0, none⟩)) ∧ w'.cell? ⟨wr.heap.size, 0, none⟩ = some (.int .i64 x.1) ∧ w'.cell? ⟨wr.heap.size, 1, none⟩ = some (.int .i64 x.2) ∧ Below W8.heap.size W8 w') ((refine HS.out _ ?_; (repeat' (first | assumption | exact Below.refl _ _ | refine below_drew ?_ | refine below_drewN ?_ _ | refine below_allocS ?_ _ | refine Below.setCell ?_ (by simp) _))))
                (first
                  | (go_at_call 41
                     with_reducible refine (HC.out W8.heap.size (World.drew (World.alloc W8 (.cells #[.int .i64 x.1, .int .i64 x.2] 36))) ?_ ?_).mono ?_
                     · exact rd_new _ x (heap_last W8 _ rfl)
                     · (repeat' (first | assumption | exact Below.refl _ _ | refine below_drew ?_ | refine below_drewN ?_ _ | refine below_allocS ?_ _ | refine Below.setCell ?_ (by simp) _))
                     intro e w5 ht
                     obtain ⟨rfl, hb5⟩ := ht
                     have hb85 : Below W8.heap.size W8 w5 := below_then (by (repeat' (first | assumption | exact Below.refl _ _ | refine below_drew ?_ | refine below_drewN ?_ _ | refine below_allocS ?_ _ | refine Below.setCell ?_ (by simp) _))) hb5)
                  | (go_at_call 41
                     with_reducible refine (HC.out W8.heap.size _ ?_ ?_).mono ?_
                     · exact rd_new _ x (heap_prev W8 _ (.cells #[.int .i64 0, .int .i64 0, .int .i64 0] 38) rfl)
                     · (repeat' (first | assumption | exact Below.refl _ _ | refine below_drew ?_ | refine below_drewN ?_ _ | refine below_allocS ?_ _ | refine Below.setCell ?_ (by simp) _))
                     intro e w5 ht
                     obtain ⟨rfl, hb5⟩ := ht
                     obtain ⟨z0, z1, z2, f0, f1, f2⟩ := t_facts (W8.heap.size + 1) hb5 (heap_last2 W8 (.cells #[.int .i64 x.1, .int .i64 x.2] 36) (.cells #[.int .i64 0, .int .i64 0, .int .i64 0] 38) rfl)
                     have hb85 : Below W8.heap.size W8 w5 := below_then (by (repeat' (first | assumption | exact Below.refl _ _ | refine below_drew ?_ | refine below_drewN ?_ _ | refine below_allocS ?_ _ | refine Below.setCell ?_ (by simp) _))) hb5)
                  | (go_at_call 41
                     with_reducible refine (HC.out (W8.heap.size + 1) _ ?_ ?_).mono ?_
                     · exact rd_new _ x (heap_last2 W8 (.cells #[.int .i64 0, .int .i64 0, .int .i64 0] 38) (.cells #[.int .i64 x.1, .int .i64 x.2] 36) rfl)
                     · (repeat' (first | assumption | exact Below.refl _ _ | refine below_drew ?_ | refine below_drewN ?_ _ | refine below_allocS ?_ _ | refine Below.setCell ?_ (by simp) _))
                     intro e w5 ht
                     obtain ⟨rfl, hb5⟩ := ht
                     obtain ⟨z0, z1, z2, f0, f1, f2⟩ := t_facts W8.heap.size hb5 (heap_prev W8 (.cells #[.int .i64 0, .int .i64 0, .int .i64 0] 38) (.cells #[.int .i64 x.1, .int .i64 x.2] 36) rfl)
                     have hb85 : Below W8.heap.size W8 w5 := below_then (by (repeat' (first | assumption | exact Below.refl _ _ | refine below_drew ?_ | refine below_drewN ?_ _ | refine below_allocS ?_ _ | refine Below.setCell ?_ (by simp) _))) hb5))
              all_goals
                rename_i hHeld
                obtain ⟨g0, g1, g2, gB⟩ := hHeld
                have Hg := As.mk (below_then Hb8.out gB)
                clear g0 g1 g2 gB
                go_wp2
                go_roundw
                case rel => exact ⟨q + 1, by omega, by go_num, by rw [stillFree_no u.s.L n q x t Hx.out Hcl.out]; exact own_below Hown.out Hg.out, below_then Hbi.out Hg.out⟩
                case measure => simp [intOf]; omega
            | none =>
              rw [hcl] at hC
              simp only [hitV, tagV] at hC
              have HC := As.mk hC
              have Hcl := As.mk hcl
              clear hC hcl
              go_region_held3 (fun w' => w'.cell? ⟨u.b, 0, none⟩ = some (.pointer (some ⟨u.s.g, 0, none⟩)) ∧ w'.cell? ⟨wr.heap.size, 0, none⟩ = some (.int .i64 x.1) ∧ w'.cell? ⟨wr.heap.size, 1, none⟩ = some (.int .i64 x.2) ∧ Below W8.heap.size W8 w') ((refine HS.out _ ?_; (repeat' (first | assumption | exact Below.refl _ _ | refine below_drew ?_ | refine below_drewN ?_ _ | refine below_allocS ?_ _ | refine Below.setCell ?_ (by simp) _))))
                (first
                  | (go_at_call 41
                     with_reducible refine (HC.out W8.heap.size (World.drew (World.alloc W8 (.cells #[.int .i64 x.1, .int .i64 x.2] 36))) ?_ ?_).mono ?_
                     · exact rd_new _ x (heap_last W8 _ rfl)
                     · (repeat' (first | assumption | exact Below.refl _ _ | refine below_drew ?_ | refine below_drewN ?_ _ | refine below_allocS ?_ _ | refine Below.setCell ?_ (by simp) _))
                     intro e w5 ht
                     obtain ⟨rfl, hb5⟩ := ht
                     have hb85 : Below W8.heap.size W8 w5 := below_then (by (repeat' (first | assumption | exact Below.refl _ _ | refine below_drew ?_ | refine below_drewN ?_ _ | refine below_allocS ?_ _ | refine Below.setCell ?_ (by simp) _))) hb5)
                  | (go_at_call 41
                     with_reducible refine (HC.out W8.heap.size _ ?_ ?_).mono ?_
                     · exact rd_new _ x (heap_prev W8 _ (.cells #[.int .i64 0, .int .i64 0, .int .i64 0] 38) rfl)
                     · (repeat' (first | assumption | exact Below.refl _ _ | refine below_drew ?_ | refine below_drewN ?_ _ | refine below_allocS ?_ _ | refine Below.setCell ?_ (by simp) _))
                     intro e w5 ht
                     obtain ⟨rfl, hb5⟩ := ht
                     obtain ⟨z0, z1, z2, f0, f1, f2⟩ := t_facts (W8.heap.size + 1) hb5 (heap_last2 W8 (.cells #[.int .i64 x.1, .int .i64 x.2] 36) (.cells #[.int .i64 0, .int .i64 0, .int .i64 0] 38) rfl)
                     have hb85 : Below W8.heap.size W8 w5 := below_then (by (repeat' (first | assumption | exact Below.refl _ _ | refine below_drew ?_ | refine below_drewN ?_ _ | refine below_allocS ?_ _ | refine Below.setCell ?_ (by simp) _))) hb5)
                  | (go_at_call 41
                     with_reducible refine (HC.out (W8.heap.size + 1) _ ?_ ?_).mono ?_
                     · exact rd_new _ x (heap_last2 W8 (.cells #[.int .i64 0, .int .i64 0, .int .i64 0] 38) (.cells #[.int .i64 x.1, .int .i64 x.2] 36) rfl)
                     · (repeat' (first | assumption | exact Below.refl _ _ | refine below_drew ?_ | refine below_drewN ?_ _ | refine below_allocS ?_ _ | refine Below.setCell ?_ (by simp) _))
                     intro e w5 ht
                     obtain ⟨rfl, hb5⟩ := ht
                     obtain ⟨z0, z1, z2, f0, f1, f2⟩ := t_facts W8.heap.size hb5 (heap_prev W8 (.cells #[.int .i64 0, .int .i64 0, .int .i64 0] 38) (.cells #[.int .i64 x.1, .int .i64 x.2] 36) rfl)
                     have hb85 : Below W8.heap.size W8 w5 := below_then (by (repeat' (first | assumption | exact Below.refl _ _ | refine below_drew ?_ | refine below_drewN ?_ _ | refine below_allocS ?_ _ | refine Below.setCell ?_ (by simp) _))) hb5))
              all_goals
                rename_i hHeld
                obtain ⟨g0, g1, g2, gB⟩ := hHeld
                have Hg := As.mk (below_then Hb8.out gB)
                refine wp_abs (fun W => W.cell? ⟨wr.heap.size, 0, none⟩ = some (.int .i64 x.1) ∧ W.cell? ⟨wr.heap.size, 1, none⟩ = some (.int .i64 x.2) ∧ Below wr.heap.size wr W) ⟨g1, g2, Hg.out⟩ ?_
                clear g0 g1 g2 gB Hg
                rintro WZ ⟨g1, g2, gB⟩
                have Hg := As.mk gB
                have Hown2 := As.mk (own_below Hown.out gB)
                have hszZ := Nat.le_trans Hbi.out.size gB.size
                have HszZ := As.mk hszZ
                clear gB hszZ
                go_wp2_with (at_builtin; refine wpList_append_own _ rfl (.tmp 45) (.tmp 47) 22 rfl w1.heap.size 36 i0 (.agg #[.int .i64 0, .int .i64 0]) 2 16 Tryz.underlying22 Hi.out Hz0.out Hz1.out Hz2.out rfl (by decide) _ _ _ rfl (Hown2.out.alloc _) ⟨WZ.heap.size, 0, none⟩ 1 1 (e2 x) rfl rfl ?_ ?_ ?_ ?_ ?_ ?_)
                · intro jj uu huu; exact cell_new2 _ x _ _ (by simp) jj uu huu
                · exact e2_one x
                · have := Hle.out; unfold maxLen; omega
                · have := Hle.out; omega
                · have := HszZ.out; simp; omega
                intro v' w6 hown' hg6 _
                have hb6 := Below.grown ((Hbi.out.trans (Hg.out.mono Hbi.out.size)).alloc (Nat.le_trans Hbi.out.size Hg.out.size) (.cells #[.int .i64 x.1, .int .i64 x.2] 36)) hg6 (by simp; have := HszZ.out; omega) (fun jj hj => (Hown2.out.lt jj hj).1)
                have Hown6 := As.mk hown'
                have Hb6 := As.mk hb6
                clear hown' hg6 hb6
                go_wp2
                go_roundw
                case rel => exact ⟨q + 1, by omega, by go_num, by rw [stillFree_yes u.s.L n q x Hx.out Hcl.out, List.length_append, fl2_append, fl2_one]; exact Hown6.out, Hb6.out⟩
                case measure => simp [intOf]; omega
          · obtain rfl : q = n.length := by omega
            have hfin := Hown.out
            rw [List.take_length] at hfin
            obtain ⟨m, hm⟩ : ∃ m, m = stillFree u.s.L n := ⟨_, rfl⟩
            rw [← hm] at hfin
            have hml : m.length ≤ 100000000000 := by have := stillFree_le u.s.L n; rw [hm]; omega
            obtain ⟨A6, c6, rfl, _, _⟩ := own_form hfin
            have Hfin := As.mk hfin
            have Hm2 := As.mk hm
            have Hcal := As.mk (H1.out.below Hbwi.out)
            have hcr' := r_cell Hcal.out Ho.out
            have hrem := Edit.Remove_calls u.r.g u.r.v u.r.L o wr (Hcal.out.user k u Ho.out).2.2.1 (by omega)
            have Hrem := As.mk hrem
            clear hfin hm hrem hc hcr
            go_wp2_with fail
            refine Hrem.out.mono ?_
            rintro e w7 ⟨nn, v', rfl, hS, hv, hU⟩
            obtain ⟨h2, hm2⟩ := Hcal.out.turn_r Ho.out hU hS (.inl hv)
            have hk2 : (us1.set k (some { u with r := { u.r with v := v', L := keepL u.r.L o } }))[k]? = some (some { u with r := { u.r with v := v', L := keepL u.r.L o } }) := by
              rw [List.getElem?_set_self (List.getElem?_eq_some_iff.1 Ho.out).1]
            have hrow := own_move Hfin.out (fun j hj => hU.block j (Hfin.out.lt j hj).2 (fun hf => by
              have h0 := (Hfin.out.lt j hj).1
              have h9 : j < wo.heap.size := SetRep.lt (x := u.r) (H1.out.user k u Ho.out).2.2.1 hf
              omega))
            have hs2 := (h2.user k _ hk2).2.1
            have hcs2 := s_cell h2 hk2
            have HA := As.mk (fun (Ls : List Tag) (vs : Value) (hL : Ls = afterAdd u.s.L m o) => (show abs ((us1.set k (some { u with r := { u.r with v := v', L := keepL u.r.L o } })).set k (some { b := u.b, s := { g := u.s.g, v := vs, L := Ls }, r := { u.r with v := v', L := keepL u.r.L o } })) = mapTo (settleU o) (k + 1) (abs us) by
              rw [List.set_set, abs_set, Ha.out, ← mapTo_some (settleU o) (abs us) k (absU u) Hst.out, hL, Hm2.out, HN.out]
              rfl))
            have Hk2 := As.mk hk2
            have H2 := As.mk h2
            have Hm3 := As.mk ((Hm.out.trans (Mv.of_below us1 Hbwi.out)).trans hm2)
            have Hrow := As.mk hrow
            have Hs2 := As.mk hs2
            simp only at hcs2
            clear hS hv hU h2 hm2 hk2 hrow hs2 hcr'
            cases hma : mayAdd u.s.L m o with
            | false =>
              have hadd := Add_no u.s.g u.s.v u.s.L A6 c6 m o w7 Hs2.out Hneat.out.1.rising (Rd.of_own Hrow.out) (by omega) (by omega) hma
              have Hadd := As.mk hadd
              have Heq := As.mk (show u.s.L = afterAdd u.s.L m o by unfold afterAdd; rw [hma]; rfl)
              clear hadd hma
              go_wp2_with fail
              refine Hadd.out.mono ?_
              rintro e w8 ⟨rfl, hb8⟩
              go_wp2
              go_roundw
              case rel => exact ⟨k + 1, _, by omega, by go_num, ⟨H2.out.below hb8⟩, ⟨by have := HA.out u.s.L u.s.v Heq.out; rw [set_self (by rw [Hk2.out])] at this; exact this⟩, ⟨Hm3.out.trans (Mv.of_below _ hb8)⟩⟩
              case measure => simp [intOf]; omega
            | true =>
              have hadd := Add_yes u.s.g u.s.v u.s.L A6 c6 m o w7 Hs2.out Hneat.out.1.rising (Rd.of_own Hrow.out) (by omega) hma
              have Hadd := As.mk hadd
              have Hma := As.mk hma
              clear hadd hma
              go_wp2_with fail
              refine Hadd.out.mono ?_
              rintro e w8 ⟨rfl, vs, Ls, hp, hsr, hS, hv, hU⟩
              obtain ⟨hL, _⟩ := add_unique Hneat.out.1 m o Hma.out hp hsr
              obtain ⟨h3, hm4⟩ := H2.out.turn_s Hk2.out hU hS hv
              have H3 := As.mk h3
              have Hm5 := As.mk (Hm3.out.trans hm4)
              have HA3 := As.mk (HA.out Ls vs (by rw [hL]; unfold afterAdd; rw [Hma.out]; rfl))
              clear hS hv hU h3 hm4 hp hsr hL
              go_wp2
              go_roundw
              case rel => exact ⟨k + 1, _, by omega, by go_num, H3, HA3, Hm5⟩
              case measure => simp [intOf]; omega
    · obtain rfl : k = us.length := by omega
      have Hfin := As.mk (Ha.out.trans (mapTo_all (settleU o) (abs us) us.length (by rw [abs_len]; exact Nat.le_refl _)))
      have Hlen := As.mk (len_of Ha.out)
      go_wp2
      go_end0
      exact ⟨rfl, us1, H1.out, Hfin.out, Hlen.out, Hm.out⟩
end Go.Proofs.YtioaingenooelaaGreat.Settle
/-
  cal.Cal: Copy: a user's sets laid into a calendar that is being made.
-/
namespace Go.Proofs.YtioaingenooelaaGreat.Copy
open Go.RowKit Go.Proofs.YtioaingenooelaaGreat.Wd Go.Proofs.YtioaingenooelaaGreat.Pure Go.Proofs.YtioaingenooelaaGreat.Sorted Go.Proofs.YtioaingenooelaaGreat.Search Go.Proofs.YtioaingenooelaaGreat.Norm Go.Proofs.YtioaingenooelaaGreat.Meets Go.Proofs.YtioaingenooelaaGreat.SetW Go.Proofs.YtioaingenooelaaGreat.Edit Go.Proofs.YtioaingenooelaaGreat.AddW Go.Proofs.YtioaingenooelaaGreat.CalRep Go.Proofs.YtioaingenooelaaGreat.CalOps Go.Proofs.YtioaingenooelaaGreat.CalAsk Go.Proofs.YtioaingenooelaaGreat.Ints Go.Proofs.YtioaingenooelaaGreat.Check Go.Proofs.YtioaingenooelaaGreat.Neat Go.Proofs.YtioaingenooelaaGreat.Reserve Go.Proofs.YtioaingenooelaaGreat.Settle

theorem heap_setCell_self (w : World) (b i : Nat) (v : Value) (cs : Array Value) (t : TypeId) (fz : Nat × Nat) (h : w.heap[b]? = some (.cells cs t fz)) : (w.setCell ⟨b, i, none⟩ v).heap[b]? = some (.cells (cs.setIfInBounds i v) t fz) := by
  unfold World.setCell
  rw [Array.getElem?_modify, if_pos rfl, h]
  rfl
theorem ptr_put (us : List (Option UserRep)) (i : Nat) (u' : UserRep) (hi : i < us.length) : ((us.map ptrOf).toArray.setIfInBounds i (.pointer (some ⟨u'.b, 0, none⟩))) = ((us.set i (some u')).map ptrOf).toArray := by
  rw [List.map_set]
  simp [ptrOf]

theorem CalAt.put {w w5 W6 : World} {c ub : Nat} {hd : List Value} {us : List (Option UserRep)} (h : CalAt w c ub hd us) {i : Nat} (hi : us[i]? = some none) {u' : UserRep}
    (hb5 : Below w.heap.size w w5) (hu' : w5.heap[u'.b]? = some (.cells #[.pointer (some ⟨u'.s.g, 0, none⟩), .pointer (some ⟨u'.r.g, 0, none⟩)] 77 (0, 0))) (hs : u'.s.At w5) (hr : u'.r.At w5) (hap : u'.s.Apart u'.r)
    (hk : ∀ k, k ≠ ub → W6.heap[k]? = w5.heap[k]?) (hub6 : W6.heap[ub]? = some (.cells ((us.map ptrOf).toArray.setIfInBounds i (.pointer (some ⟨u'.b, 0, none⟩))) 73 (0, 0)))
    (hnew : ∀ k, u'.has k → w.heap.size ≤ k) (hbn : w.heap.size ≤ u'.b) :
    CalAt W6 c ub hd (us.set i (some u')) := by
  have hlt : i < us.length := (List.getElem?_eq_some_iff.1 hi).1
  have hub := h.ub_lt
  have hold : ∀ {k : Nat} {cs : Array Value} {T : TypeId}, w.heap[k]? = some (.cells cs T (0, 0)) → T ≠ 73 → W6.heap[k]? = w.heap[k]? := by
    intro k cs T hw hT
    rw [hk k (by rintro rfl; rw [h.arr] at hw; injection hw with hw; injection hw with _ hw; exact hT hw.symm)]
    exact hb5.block k (Array.getElem?_eq_some_iff.1 hw).1
  have hnew2 : ∀ {k : Nat}, w.heap.size ≤ k → W6.heap[k]? = w5.heap[k]? := fun {k} hk2 => hk k (by omega)
  have hfp : ∀ k, fp us k → W6.heap[k]? = w.heap[k]? := by
    intro k hk2
    obtain ⟨cs, t, ht, ht2⟩ := h.typed hk2
    exact hold ht (by rcases ht2 with rfl | rfl <;> decide)
  have hget : ∀ (j : Nat) (v : UserRep), (us.set i (some u'))[j]? = some (some v) → (j = i ∧ v = u') ∨ (j ≠ i ∧ us[j]? = some (some v)) := by
    intro j v hj
    by_cases e : i = j
    · subst e
      rw [List.getElem?_set_self hlt] at hj
      exact .inl ⟨rfl, (Option.some.inj (Option.some.inj hj)).symm⟩
    · rw [List.getElem?_set_ne e] at hj
      exact .inr ⟨fun e' => e e'.symm, hj⟩
  have hfar : ∀ (j : Nat) (v : UserRep), us[j]? = some (some v) → ∀ k, v.has k → ¬ u'.has k := by
    intro j v hv k hk2 hu2
    have h1 := hnew k hu2
    have h2 := h.fp_lt (k := k) ⟨j, v, hv, hk2⟩
    omega
  refine ⟨h.len, by rw [List.length_set]; exact h.pos, ?_, ?_, ?_, ?_⟩
  · rw [List.length_set]
    exact (hold h.cal (by decide)).trans h.cal
  · rw [← ptr_put us i u' hlt]
    exact hub6
  · intro j v hj
    rcases hget j v hj with ⟨rfl, rfl⟩ | ⟨hji, hv⟩
    · exact ⟨(hnew2 hbn).trans hu', hs.move (hnew2 (hnew _ (.inl (.inl rfl)))) (fun k hk2 => hnew2 (hnew k (.inl (.inr hk2)))), hr.move (hnew2 (hnew _ (.inr (.inl rfl)))) (fun k hk2 => hnew2 (hnew k (.inr (.inr hk2)))), hap⟩
    · obtain ⟨h1, h2, h3, h4⟩ := h.user j v hv
      exact ⟨(hold h1 (by decide)).trans h1, h2.move (hfp _ ⟨j, v, hv, .inl (.inl rfl)⟩) (fun k hk2 => hfp k ⟨j, v, hv, .inl (.inr hk2)⟩), h3.move (hfp _ ⟨j, v, hv, .inr (.inl rfl)⟩) (fun k hk2 => hfp k ⟨j, v, hv, .inr (.inr hk2)⟩), h4⟩
  · intro j j' v v' hjj hv hv'
    rcases hget j v hv with ⟨e1, e2⟩ | ⟨hji, hv1⟩ <;> rcases hget j' v' hv' with ⟨e3, e4⟩ | ⟨hji', hv1'⟩
    · exact absurd (e1.trans e3.symm) hjj
    · subst e2
      have hn := hfar j' v' hv1'
      exact ⟨fun k a b => hn k (.inl b) (.inl a), fun k a b => hn k (.inr b) (.inl a), fun k a b => hn k (.inl b) (.inr a), fun k a b => hn k (.inr b) (.inr a)⟩
    · subst e4
      have hn := hfar j v hv1
      exact ⟨fun k a b => hn k (.inl a) (.inl b), fun k a b => hn k (.inl a) (.inr b), fun k a b => hn k (.inr a) (.inl b), fun k a b => hn k (.inr a) (.inr b)⟩
    · exact h.apart j j' v v' hjj hv1 hv1'
theorem fp_put {us : List (Option UserRep)} {i : Nat} {u' : UserRep} {B : Nat} (h : ∀ k, fp us k → B ≤ k) (hu : ∀ k, u'.has k → B ≤ k) : ∀ k, fp (us.set i (some u')) k → B ≤ k := by
  rintro k ⟨j, v, hv, hk⟩
  rw [List.getElem?_set] at hv
  split at hv
  · split at hv
    · have := Option.some.inj (Option.some.inj hv)
      subst this
      exact hu k hk
    · cases hv
  · exact h k ⟨j, v, hv, hk⟩
end Go.Proofs.YtioaingenooelaaGreat.Copy
