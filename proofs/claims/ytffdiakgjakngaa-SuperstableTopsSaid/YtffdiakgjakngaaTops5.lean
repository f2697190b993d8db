/- A part of the proof that SuperstableTops answers true (text 5 of 15): own walks and plain laws; no conditions. -/
import Derived.Deep.RegionLaw
import Derived.Lib.Hide
import Derived.Maps.OwnOps
import Derived.Maps.Views
import Derived.Outline
import Derived.WalkSpells
import Derived.Test.YtffdiakgjakngaaTops4
namespace Go.Proofs.Ytffdiakgjakngaa.P
open Go.RowKit Go.Proofs.YtffdiakgjakngaaW.PrintWords Go.Proofs.YtffdiakgjakngaaW.PrintLast Go.Proofs.YtffdiakgjakngaaW.PrintMore
set_option linter.unusedVariables false
set_option linter.unusedSimpArgs false
set_option maxHeartbeats 8000000
set_option maxRecDepth 100000
section
theorem grown_set1 (w : World) (g j : Nat) (v : Value) : w.grownBy (w.setCell ⟨g, j, none⟩ v) (some g) := ⟨rfl, rfl, rfl, by simp, fun k _ hk => Below.heap_setCell w _ v k (fun e => hk (by rw [e]))⟩
def ForestAt (w : World) (g : Nat) (p : Nat → Nat) : Prop := ∃ cs : Array Value, w.heap[g]? = some (.cells cs 139 (0, 0)) ∧ cs.size = 12 ∧ ∀ i, i < 12 → cs[i]? = some (.int .i64 (p i : Nat))
namespace ForestAt
variable {w w' : World} {g : Nat} {p : Nat → Nat}
theorem lt (h : ForestAt w g p) : g < w.heap.size := by
 obtain ⟨cs, hb, _⟩ := h
 exact blk_lt hb
theorem cell (h : ForestAt w g p) (i : Nat) (hi : i < 12) : w.cell? ⟨g, i, none⟩ = some (.int .i64 (p i : Nat)) := by
 obtain ⟨cs, hb, _, hc⟩ := h
 exact (blk_cell hb i).trans (hc i hi)
theorem frozen (h : ForestAt w g p) (k : Nat) : w.frozen? ⟨g, k, none⟩ = false := by
 obtain ⟨cs, hb, _⟩ := h
 exact blk_frozen hb k
theorem grown {row : Option Nat} (h : ForestAt w g p) (hg : w.grownBy w' row) (hne : some g ≠ row) : ForestAt w' g p := by
 obtain ⟨cs, hh, hc⟩ := h
 exact ⟨cs, blk_grown hh hg hne, hc⟩
theorem below (h : ForestAt w g p) (hb : Below w.heap.size w w') : ForestAt w' g p := by
 obtain ⟨cs, hh, hc⟩ := h
 exact ⟨cs, blk_below hh hb, hc⟩
theorem alloc (h : ForestAt w g p) (o : Obj) : ForestAt (w.alloc o) g p := h.below (below_alloc (Below.refl _ _) o)
theorem set (h : ForestAt w g p) (i : Nat) (hi : i < 12) (x : Nat) : ForestAt (w.setCell ⟨g, i, none⟩ (.int .i64 x)) g (fun j => if j = i then x else p j) := by
 obtain ⟨cs, hh, hs, hc⟩ := h
 refine ⟨cs.setIfInBounds i (.int .i64 x), by simpa using blk_set hh i (.int .i64 x), by simp [hs], ?_⟩
 intro k hk
 by_cases e : k = i
 ·subst e
  rw [Array.getElem?_setIfInBounds_self_of_lt (by omega)]; simp
 ·rw [Array.getElem?_setIfInBounds_ne (by omega), hc k hk]; simp [e]
theorem congr {q : Nat → Nat} (h : ForestAt w g p) (he : ∀ i, i < 12 → q i = p i) : ForestAt w g q := by
 obtain ⟨cs, hh, hs, hc⟩ := h
 exact ⟨cs, hh, hs, fun i hi => by rw [he i hi]; exact hc i hi⟩
end ForestAt
def Falls (p : Nat → Nat) : Prop := ∀ i, p i ≤ i
def rootOf (p : Nat → Nat) (v : Nat) : Nat := if h : p v < v then rootOf p (p v) else v
termination_by v
theorem rootOf_le (p : Nat → Nat) (v : Nat) : rootOf p v ≤ v := by
 induction v using Nat.strongRecOn with
 | ind v ih =>
  rw [rootOf]
  split
  ·rename_i h
   exact Nat.le_trans (ih _ h) (Nat.le_of_lt h)
  ·exact Nat.le_refl _
def joinOf (p : Nat → Nat) (a b : Nat) : Nat → Nat := fun j => if j = max (rootOf p a) (rootOf p b) then min (rootOf p a) (rootOf p b) else p j
theorem joinOf_falls {p : Nat → Nat} (h : Falls p) (a b : Nat) : Falls (joinOf p a b) := fun i => by
 unfold joinOf
 split
 ·subst_vars; omega
 ·exact h i
def forestOf (E : List S66) : Nat → Nat := E.foldl (fun p x => joinOf p x.f0.toNat x.f1.toNat) id
theorem forestOf_snoc (E : List S66) (k : Nat) (h : k < E.length) : forestOf (E.take (k + 1)) = joinOf (forestOf (E.take k)) (rd_T66 E k).f0.toNat (rd_T66 E k).f1.toNat := by
 unfold forestOf
 rw [List.take_succ_eq_append_getElem h, List.foldl_append]
 simp [rd_T66, List.getD_eq_getElem?_getD, List.getElem?_eq_getElem h]
theorem forestOf_falls (E : List S66) : Falls (forestOf E) := by
 suffices h : ∀ (E : List S66) p, Falls p → Falls (E.foldl (fun p x => joinOf p x.f0.toNat x.f1.toNat) p) from h E id (fun i => Nat.le_refl _)
 intro E
 induction E with
 | nil => exact fun p h => h
 | cons x E ih => exact fun p h => ih _ (joinOf_falls h _ _)
theorem ret_intn {k : IntKind} {a b : Int} (h : a = b) : Ending.returned (.int k a) = .returned (.int k b) := by rw [h]
theorem root_calls (g v : Nat) (p : Nat → Nat) (w : World) (hf : Falls p) (hv : v < 12) (hw : ForestAt w g p) :
  Calls Try.prog 124 #[.pointer (some ⟨g, 0, none⟩), .int .i64 v] w fun e w' => e = .returned (.int .i64 (rootOf p v : Nat)) ∧ w = w' := by
 go_enter Try.func124, Try.ntmps124
 go_wp2
 go_loop [1] (fun u => ∃ k : Nat, k < 12 ∧ u = .int .i64 k ∧ rootOf p k = rootOf p v) (fun u => (intOf u).toNat)
 case atStart => exact ⟨v, hv, rfl, rfl⟩
 case round =>
  obtain ⟨k, hk, rfl, hr⟩ := hrel
  have Hr := Lib.hid hr
  clear hr
  have hc := hw.cell k hk
  have hi0 : (0 : Int) ≤ (k : Int) := by omega
  have hi1 : (k : Int) < 12 := by omega
  have hle := hf k
  by_cases hlt : p k < k
  ·have hs : rootOf p k = rootOf p (p k) := by rw [rootOf, dif_pos hlt]
   have Hs := Lib.hid hs
   clear hs
   have hne : ((p k : Nat) : Int) ≠ (k : Int) := by omega
   go_wp2
   go_round
   case rel => exact ⟨p k, by omega, rfl, by rw [← Hr.out, Hs.out]⟩
   case measure => simp [intOf]; omega
  ·have hs : rootOf p k = k := by rw [rootOf, dif_neg hlt]
   have Hs := Lib.hid hs
   clear hs
   have hq : p k = k := by omega
   rw [hq] at hc
   clear hq
   go_wp2
   go_ret
   exact ⟨ret_intn (by rw [← Hr.out, Hs.out]), rfl⟩
theorem join_calls (g a b : Nat) (p : Nat → Nat) (w : World) (hf : Falls p) (ha : a < 12) (hb : b < 12) (hw : ForestAt w g p) :
  Calls Try.prog 123 #[.pointer (some ⟨g, 0, none⟩), .int .i64 a, .int .i64 b] w fun e w' => e = .returned (.tuple #[]) ∧ ForestAt w' g (joinOf p a b) ∧ w.grownBy w' (some g) := by
 have h1 := rootOf_le p a
 have h2 := rootOf_le p b
 generalize hra : rootOf p a = ra at h1
 generalize hrb : rootOf p b = rb at h2
 have ca := root_calls g a p w hf ha hw
 have cb := root_calls g b p w hf hb hw
 rw [hra] at ca
 rw [hrb] at cb
 have CA := Aside0.mk ca
 have CB := Aside0.mk cb
 have Hj : Aside0 (ForestAt (w.setCell ⟨g, max ra rb, none⟩ (.int .i64 (min ra rb : Nat))) g (joinOf p a b)) := ⟨by unfold joinOf; rw [hra, hrb]; exact hw.set _ (by omega) _⟩
 have Hg : Aside0 (w.grownBy (w.setCell ⟨g, max ra rb, none⟩ (.int .i64 (min ra rb : Nat))) (some g)) := ⟨grown_set1 ..⟩
 clear hra hrb ca cb
 have hra12 : ra < 12 := by omega
 have hrb12 : rb < 12 := by omega
 have hi0 : (0 : Int) ≤ (ra : Int) := by omega
 have hi1 : (ra : Int) < 12 := by omega
 have hj0 : (0 : Int) ≤ (rb : Int) := by omega
 have hj1 : (rb : Int) < 12 := by omega
 have hca := hw.cell ra hra12
 have hfa := hw.frozen ra
 have hcb := hw.cell rb hrb12
 have hfb := hw.frozen rb
 have HW := Aside0.mk hw
 clear hw h1 h2 hra12 hrb12
 rcases Nat.lt_trichotomy ra rb with hlt | heq | hlt
 ·rw [show max ra rb = rb from by omega, show min ra rb = ra from by omega] at Hj Hg
  have hl1 : (ra : Int) < (rb : Int) := by omega
  have hl2 : ¬ (rb : Int) < (ra : Int) := by omega
  have hl3 : (ra : Int) ≤ (rb : Int) := by omega
  have hl4 : ¬ (rb : Int) ≤ (ra : Int) := by omega
  go_enter Try.func123, Try.ntmps123
  go_wp2_with (first | (go_at_call 124; (first | (with_reducible refine CA.out.mono ?_) | (with_reducible refine CB.out.mono ?_)); rintro e w1 ⟨rfl, rfl⟩))
  go_end0
  exact ⟨rfl, Hj.out, Hg.out⟩
 ·subst heq
  rw [Nat.max_self, Nat.min_self] at Hj Hg
  clear hcb hfb hj0 hj1
  go_enter Try.func123, Try.ntmps123
  go_wp2_with (first | (go_at_call 124; (first | (with_reducible refine CA.out.mono ?_) | (with_reducible refine CB.out.mono ?_)); rintro e w1 ⟨rfl, rfl⟩))
  go_end0
  exact ⟨rfl, Hj.out, Hg.out⟩
 ·rw [show max ra rb = ra from by omega, show min ra rb = rb from by omega] at Hj Hg
  have hl1 : (rb : Int) < (ra : Int) := by omega
  have hl2 : ¬ (ra : Int) < (rb : Int) := by omega
  have hl3 : (rb : Int) ≤ (ra : Int) := by omega
  have hl4 : ¬ (ra : Int) ≤ (rb : Int) := by omega
  go_enter Try.func123, Try.ntmps123
  go_wp2_with (first | (go_at_call 124; (first | (with_reducible refine CA.out.mono ?_) | (with_reducible refine CB.out.mono ?_)); rintro e w1 ⟨rfl, rfl⟩))
  go_end0
  exact ⟨rfl, Hj.out, Hg.out⟩
theorem grown_calls (w : World) : Calls Try.prog 122 #[] w fun e w' => e = .returned (.agg #[.int .i64 0, .int .i64 1, .int .i64 2, .int .i64 3, .int .i64 4, .int .i64 5, .int .i64 6, .int .i64 7, .int .i64 8, .int .i64 9, .int .i64 10, .int .i64 11]) ∧ Below w.heap.size w w' := by
 go_enter Try.func122, Try.ntmps122
 go_wp2
 have hB := below_alloc (below_alloc (Below.refl w.heap.size w) (.cells #[.int .i64 0, .int .i64 0, .int .i64 0, .int .i64 0, .int .i64 0, .int .i64 0, .int .i64 0, .int .i64 0, .int .i64 0, .int .i64 0, .int .i64 0, .int .i64 0] 139)) (.cells #[.int .i64 0, .int .i64 0, .int .i64 0, .int .i64 0, .int .i64 0, .int .i64 0, .int .i64 0, .int .i64 0, .int .i64 0, .int .i64 0, .int .i64 0, .int .i64 0] 139)
 have h0 : ((w.alloc (.cells #[.int .i64 0, .int .i64 0, .int .i64 0, .int .i64 0, .int .i64 0, .int .i64 0, .int .i64 0, .int .i64 0, .int .i64 0, .int .i64 0, .int .i64 0, .int .i64 0] 139)).alloc (.cells #[.int .i64 0, .int .i64 0, .int .i64 0, .int .i64 0, .int .i64 0, .int .i64 0, .int .i64 0, .int .i64 0, .int .i64 0, .int .i64 0, .int .i64 0, .int .i64 0] 139)).heap[w.heap.size]? = some (.cells #[.int .i64 0, .int .i64 0, .int .i64 0, .int .i64 0, .int .i64 0, .int .i64 0, .int .i64 0, .int .i64 0, .int .i64 0, .int .i64 0, .int .i64 0, .int .i64 0] 139 (0, 0)) := blk_alloc (heap_alloc_new w _) _
 have h1 : ForestAt ((w.alloc (.cells #[.int .i64 0, .int .i64 0, .int .i64 0, .int .i64 0, .int .i64 0, .int .i64 0, .int .i64 0, .int .i64 0, .int .i64 0, .int .i64 0, .int .i64 0, .int .i64 0] 139)).alloc (.cells #[.int .i64 0, .int .i64 0, .int .i64 0, .int .i64 0, .int .i64 0, .int .i64 0, .int .i64 0, .int .i64 0, .int .i64 0, .int .i64 0, .int .i64 0, .int .i64 0] 139)) (w.heap.size + 1) (fun i => if i < 0 then i else 0) := by
  refine ⟨#[.int .i64 0, .int .i64 0, .int .i64 0, .int .i64 0, .int .i64 0, .int .i64 0, .int .i64 0, .int .i64 0, .int .i64 0, .int .i64 0, .int .i64 0, .int .i64 0], by simpa using heap_alloc_new (w.alloc (.cells #[.int .i64 0, .int .i64 0, .int .i64 0, .int .i64 0, .int .i64 0, .int .i64 0, .int .i64 0, .int .i64 0, .int .i64 0, .int .i64 0, .int .i64 0, .int .i64 0] 139)) (.cells #[.int .i64 0, .int .i64 0, .int .i64 0, .int .i64 0, .int .i64 0, .int .i64 0, .int .i64 0, .int .i64 0, .int .i64 0, .int .i64 0, .int .i64 0, .int .i64 0] 139), rfl, fun i hi => ?_⟩
  match i, hi with | 0, _ => rfl | 1, _ => rfl | 2, _ => rfl | 3, _ => rfl | 4, _ => rfl | 5, _ => rfl | 6, _ => rfl | 7, _ => rfl | 8, _ => rfl | 9, _ => rfl | 10, _ => rfl | 11, _ => rfl
 generalize hgb : w.heap.size = gb at h0 h1 hB ⊢
 generalize ((w.alloc (.cells #[.int .i64 0, .int .i64 0, .int .i64 0, .int .i64 0, .int .i64 0, .int .i64 0, .int .i64 0, .int .i64 0, .int .i64 0, .int .i64 0, .int .i64 0, .int .i64 0] 139)).alloc (.cells #[.int .i64 0, .int .i64 0, .int .i64 0, .int .i64 0, .int .i64 0, .int .i64 0, .int .i64 0, .int .i64 0, .int .i64 0, .int .i64 0, .int .i64 0, .int .i64 0] 139)) = W0 at h0 h1 hB ⊢
 go_loopw [2, 3] (fun _ i wr => ∃ k : Nat, k ≤ 12 ∧ i = .int .i64 k ∧ Aside0 (wr.heap[gb]? = some (.cells #[.int .i64 0, .int .i64 0, .int .i64 0, .int .i64 0, .int .i64 0, .int .i64 0, .int .i64 0, .int .i64 0, .int .i64 0, .int .i64 0, .int .i64 0, .int .i64 0] 139 (0, 0))) ∧ Aside0 (ForestAt wr (gb + 1) (fun i => if i < k then i else 0)) ∧ Aside0 (Below gb w wr)) (fun _ i _ => 12 - (intOf i).toNat)
 case atStart => exact ⟨0, by omega, rfl, ⟨h0⟩, ⟨h1⟩, ⟨hB⟩⟩
 case round =>
  obtain ⟨k, hk, rfl, H0, H1, HB⟩ := hrel
  by_cases hlt : k < 12
  ·have hc := H1.out.cell k hlt
   have hf := H1.out.frozen k
   have hi0 : (0 : Int) ≤ (k : Int) := by omega
   have hi1 : (k : Int) < 12 := by omega
   have n0 := Aside0.mk (blk_grown H0.out (grown_set1 wr (gb + 1) k (.int .i64 k)) (by simp))
   have n1 := Aside0.mk ((H1.out.set k hlt k).congr (q := fun i => if i < k + 1 then i else 0) (fun i hi => by (try dsimp only); split <;> split <;> (try split) <;> omega))
   have n2 := Aside0.mk (HB.out.grown (grown_set1 wr (gb + 1) k (.int .i64 k)) (by have := H1.out.lt; omega) (fun j e => by cases e; omega))
   go_wp2
   go_roundw
   case rel => exact ⟨k + 1, by omega, by go_num, n0, n1, n2⟩
   case measure => (show 12 - ((k : Int) + 1).toNat < 12 - ((k : Int)).toNat; omega)
  ·obtain rfl : k = 12 := by omega
   have hc0 : wr.cell? ⟨gb + 1, 0, none⟩ = some (.int .i64 0) := H1.out.cell 0 (by omega)
   have hz0 : wr.cell? ⟨gb, 0, none⟩ = some (.int .i64 0) := (blk_cell H0.out 0).trans rfl
   have hf0 := blk_frozen H0.out 0
   have hc1 : wr.cell? ⟨gb + 1, 1, none⟩ = some (.int .i64 1) := H1.out.cell 1 (by omega)
   have hz1 : wr.cell? ⟨gb, 1, none⟩ = some (.int .i64 0) := (blk_cell H0.out 1).trans rfl
   have hf1 := blk_frozen H0.out 1
   have hc2 : wr.cell? ⟨gb + 1, 2, none⟩ = some (.int .i64 2) := H1.out.cell 2 (by omega)
   have hz2 : wr.cell? ⟨gb, 2, none⟩ = some (.int .i64 0) := (blk_cell H0.out 2).trans rfl
   have hf2 := blk_frozen H0.out 2
   have hc3 : wr.cell? ⟨gb + 1, 3, none⟩ = some (.int .i64 3) := H1.out.cell 3 (by omega)
   have hz3 : wr.cell? ⟨gb, 3, none⟩ = some (.int .i64 0) := (blk_cell H0.out 3).trans rfl
   have hf3 := blk_frozen H0.out 3
   have hc4 : wr.cell? ⟨gb + 1, 4, none⟩ = some (.int .i64 4) := H1.out.cell 4 (by omega)
   have hz4 : wr.cell? ⟨gb, 4, none⟩ = some (.int .i64 0) := (blk_cell H0.out 4).trans rfl
   have hf4 := blk_frozen H0.out 4
   have hc5 : wr.cell? ⟨gb + 1, 5, none⟩ = some (.int .i64 5) := H1.out.cell 5 (by omega)
   have hz5 : wr.cell? ⟨gb, 5, none⟩ = some (.int .i64 0) := (blk_cell H0.out 5).trans rfl
   have hf5 := blk_frozen H0.out 5
   have hc6 : wr.cell? ⟨gb + 1, 6, none⟩ = some (.int .i64 6) := H1.out.cell 6 (by omega)
   have hz6 : wr.cell? ⟨gb, 6, none⟩ = some (.int .i64 0) := (blk_cell H0.out 6).trans rfl
   have hf6 := blk_frozen H0.out 6
   have hc7 : wr.cell? ⟨gb + 1, 7, none⟩ = some (.int .i64 7) := H1.out.cell 7 (by omega)
   have hz7 : wr.cell? ⟨gb, 7, none⟩ = some (.int .i64 0) := (blk_cell H0.out 7).trans rfl
   have hf7 := blk_frozen H0.out 7
   have hc8 : wr.cell? ⟨gb + 1, 8, none⟩ = some (.int .i64 8) := H1.out.cell 8 (by omega)
   have hz8 : wr.cell? ⟨gb, 8, none⟩ = some (.int .i64 0) := (blk_cell H0.out 8).trans rfl
   have hf8 := blk_frozen H0.out 8
   have hc9 : wr.cell? ⟨gb + 1, 9, none⟩ = some (.int .i64 9) := H1.out.cell 9 (by omega)
   have hz9 : wr.cell? ⟨gb, 9, none⟩ = some (.int .i64 0) := (blk_cell H0.out 9).trans rfl
   have hf9 := blk_frozen H0.out 9
   have hc10 : wr.cell? ⟨gb + 1, 10, none⟩ = some (.int .i64 10) := H1.out.cell 10 (by omega)
   have hz10 : wr.cell? ⟨gb, 10, none⟩ = some (.int .i64 0) := (blk_cell H0.out 10).trans rfl
   have hf10 := blk_frozen H0.out 10
   have hc11 : wr.cell? ⟨gb + 1, 11, none⟩ = some (.int .i64 11) := H1.out.cell 11 (by omega)
   have hz11 : wr.cell? ⟨gb, 11, none⟩ = some (.int .i64 0) := (blk_cell H0.out 11).trans rfl
   have hf11 := blk_frozen H0.out 11
   go_wp2
   have hs := H0.out
   replace hs := blk_set hs 0 (.int .i64 0)
   replace hs := blk_set hs 1 (.int .i64 1)
   replace hs := blk_set hs 2 (.int .i64 2)
   replace hs := blk_set hs 3 (.int .i64 3)
   replace hs := blk_set hs 4 (.int .i64 4)
   replace hs := blk_set hs 5 (.int .i64 5)
   replace hs := blk_set hs 6 (.int .i64 6)
   replace hs := blk_set hs 7 (.int .i64 7)
   replace hs := blk_set hs 8 (.int .i64 8)
   replace hs := blk_set hs 9 (.int .i64 9)
   replace hs := blk_set hs 10 (.int .i64 10)
   replace hs := blk_set hs 11 (.int .i64 11)
   simp only [List.setIfInBounds_toArray, List.set_cons_zero, List.set_cons_succ] at hs
   refine bodyPost_ret (v := .agg #[.int .i64 0, .int .i64 1, .int .i64 2, .int .i64 3, .int .i64 4, .int .i64 5, .int .i64 6, .int .i64 7, .int .i64 8, .int .i64 9, .int .i64 10, .int .i64 11]) (results_cell_row rfl _ _ gb 139 #[.int .i64 0, .int .i64 1, .int .i64 2, .int .i64 3, .int .i64 4, .int .i64 5, .int .i64 6, .int .i64 7, .int .i64 8, .int .i64 9, .int .i64 10, .int .i64 11] (0, 0) _ rfl hs Try.underlying139 rfl rfl) rfl ⟨rfl, ?_⟩
   iterate 12 (refine below_set ?_ (by omega))
   rw [hgb]
   exact HB.out
end
theorem joined_calls (N : Int) (A0 : Option Addr) (c0 : Nat) (E : List S66) (w : World) (hr0 : Kd.C k66 w A0 E.length E) (hE : EdgesIn 12 E) :
  Calls Try.prog 117 #[.agg #[.int .i64 N, .slice A0 E.length c0]] w fun e w' => e = .returned (.agg #[.int .i64 (forestOf E 0 : Nat), .int .i64 (forestOf E 1 : Nat), .int .i64 (forestOf E 2 : Nat), .int .i64 (forestOf E 3 : Nat), .int .i64 (forestOf E 4 : Nat), .int .i64 (forestOf E 5 : Nat), .int .i64 (forestOf E 6 : Nat), .int .i64 (forestOf E 7 : Nat), .int .i64 (forestOf E 8 : Nat), .int .i64 (forestOf E 9 : Nat), .int .i64 (forestOf E 10 : Nat), .int .i64 (forestOf E 11 : Nat)]) ∧ Below w.heap.size w w' := by
 have hu := Try.underlying24
 have hue := Try.underlying66
 have HE := Aside0.mk hE.get
 clear hE
 go_enter Try.func117, Try.ntmps117
 go_wp2_with (first | (go_at_call 122; refine (grown_calls _).mono ?_; rintro e w1 ⟨rfl, hb⟩; have hbx : w1.heap[w.heap.size]? = some (.cells #[.int .i64 N, .slice A0 E.length c0] 24 (0, 0)) := blk_below (blk_alloc (heap_alloc_new w _) _) hb; have hbz : w1.heap[w.heap.size + 1]? = some (.cells #[.int .i64 0, .int .i64 0, .int .i64 0, .int .i64 0, .int .i64 0, .int .i64 0, .int .i64 0, .int .i64 0, .int .i64 0, .int .i64 0, .int .i64 0, .int .i64 0] 139 (0, 0)) := blk_below (heap_alloc2_new w _ _) hb; have HB0 := Aside0.mk (below_step (below_alloc (below_alloc (Below.refl w.heap.size w) _) _) hb); clear hb; have hc1 : (w1.alloc (.cells #[.int .i64 0, .int .i64 1, .int .i64 2, .int .i64 3, .int .i64 4, .int .i64 5, .int .i64 6, .int .i64 7, .int .i64 8, .int .i64 9, .int .i64 10, .int .i64 11] 139)).cell? ⟨w.heap.size, 1, none⟩ = some (.slice A0 E.length c0) := (blk_cell (blk_alloc hbx _) 1).trans rfl))
 have HBX := Aside0.mk (blk_alloc hbx (.cells #[.int .i64 0, .int .i64 1, .int .i64 2, .int .i64 3, .int .i64 4, .int .i64 5, .int .i64 6, .int .i64 7, .int .i64 8, .int .i64 9, .int .i64 10, .int .i64 11] 139))
 have HBZ := Aside0.mk (blk_alloc hbz (.cells #[.int .i64 0, .int .i64 1, .int .i64 2, .int .i64 3, .int .i64 4, .int .i64 5, .int .i64 6, .int .i64 7, .int .i64 8, .int .i64 9, .int .i64 10, .int .i64 11] 139))
 have HB1 := Aside0.mk (below_alloc HB0.out (.cells #[.int .i64 0, .int .i64 1, .int .i64 2, .int .i64 3, .int .i64 4, .int .i64 5, .int .i64 6, .int .i64 7, .int .i64 8, .int .i64 9, .int .i64 10, .int .i64 11] 139))
 have HF : Aside0 (ForestAt (w1.alloc (.cells #[.int .i64 0, .int .i64 1, .int .i64 2, .int .i64 3, .int .i64 4, .int .i64 5, .int .i64 6, .int .i64 7, .int .i64 8, .int .i64 9, .int .i64 10, .int .i64 11] 139)) w1.heap.size (forestOf (E.take 0))) := ⟨⟨#[.int .i64 0, .int .i64 1, .int .i64 2, .int .i64 3, .int .i64 4, .int .i64 5, .int .i64 6, .int .i64 7, .int .i64 8, .int .i64 9, .int .i64 10, .int .i64 11], heap_alloc_new _ _, rfl, fun i hi => by
  match i, hi with | 0, _ => rfl | 1, _ => rfl | 2, _ => rfl | 3, _ => rfl | 4, _ => rfl | 5, _ => rfl | 6, _ => rfl | 7, _ => rfl | 8, _ => rfl | 9, _ => rfl | 10, _ => rfl | 11, _ => rfl⟩⟩
 have hlt : w.heap.size + 1 < w1.heap.size := blk_lt hbz
 clear hbx hbz HB0 hc1
 generalize (w1.alloc (.cells #[.int .i64 0, .int .i64 1, .int .i64 2, .int .i64 3, .int .i64 4, .int .i64 5, .int .i64 6, .int .i64 7, .int .i64 8, .int .i64 9, .int .i64 10, .int .i64 11] 139)) = W0 at HBX HBZ HB1 HF ⊢
 generalize w1.heap.size = gf at HF hlt ⊢
 clear w1
 go_loopw [10] (fun i wr => ∃ k : Nat, k ≤ E.length ∧ i = .int .i64 k ∧ Aside0 (wr.heap[w.heap.size]? = some (.cells #[.int .i64 N, .slice A0 E.length c0] 24 (0, 0))) ∧ Aside0 (wr.heap[w.heap.size + 1]? = some (.cells #[.int .i64 0, .int .i64 0, .int .i64 0, .int .i64 0, .int .i64 0, .int .i64 0, .int .i64 0, .int .i64 0, .int .i64 0, .int .i64 0, .int .i64 0, .int .i64 0] 139 (0, 0))) ∧ Aside0 (ForestAt wr gf (forestOf (E.take k))) ∧ Aside0 (Below w.heap.size w wr)) (fun i _ => E.length - (intOf i).toNat)
 case atStart => exact ⟨0, by omega, rfl, HBX, HBZ, HF, HB1⟩
 case round =>
  clear HBX HBZ HF HB1
  obtain ⟨k, hk, rfl, HBX, HBZ, HF, HB⟩ := hrel
  by_cases hkl : k < E.length
  ·obtain ⟨h1, h2, h3, h4, -, -⟩ := HE.out k hkl
   have Hs := Lib.hid (forestOf_snoc E k hkl)
   obtain ⟨ad, rfl, hx0, hx1, hx2⟩ := at_T66 hr0 k (by omega) (by omega)
   rw [Int.toNat_natCast] at hx0 hx1 hx2
   generalize rd_T66 E k = x at h1 h2 h3 h4 hx0 hx1 hx2 Hs
   obtain ⟨a, b, m⟩ := x
   simp only at h1 h2 h3 h4 hx0 hx1 hx2
   obtain ⟨a, rfl⟩ := Int.eq_ofNat_of_zero_le h1
   obtain ⟨b, rfl⟩ := Int.eq_ofNat_of_zero_le h3
   have hx0 := pw_cell_below HB.out hx0
   have hx1 := pw_cell_below HB.out hx1
   have hx2 := pw_cell_below HB.out hx2
   have hk0 : (0 : Int) ≤ (k : Int) := by omega
   have hk1 : (k : Int) < (E.length : Int) := by omega
   have hml := hr0.2.1
   have hw64 : wrap64 ((k : Int) + 1) = (k : Int) + 1 := by unfold wrap64; omega
   have HF1 := Aside0.mk (HF.out.alloc (.cells #[.int .i64 a, .int .i64 b, .int .i64 m] 66))
   have HX1 := Aside0.mk (blk_alloc HBX.out (.cells #[.int .i64 a, .int .i64 b, .int .i64 m] 66))
   have HZ1 := Aside0.mk (blk_alloc HBZ.out (.cells #[.int .i64 a, .int .i64 b, .int .i64 m] 66))
   have HB1 := Aside0.mk (below_alloc HB.out (.cells #[.int .i64 a, .int .i64 b, .int .i64 m] 66))
   have ha : a < 12 := by omega
   have hb : b < 12 := by omega
   clear h1 h2 h3 h4
   go_wp2_with (first | (go_at_call 123; refine (join_calls gf a b _ _ (forestOf_falls _) ha hb HF1.out).mono ?_; rintro e w2 ⟨rfl, hf, hg⟩; have n0 := Aside0.mk hf; have n1 := Aside0.mk (blk_grown HX1.out hg (by simp; omega)); have n2 := Aside0.mk (blk_grown HZ1.out hg (by simp; omega)); have n3 := Aside0.mk (Below.grown HB1.out hg HB1.out.size (fun j e => by cases e; omega)); clear hf hg))
   go_roundw
   case rel => exact ⟨k + 1, by omega, by go_num, n1, n2, ⟨by rw [Hs.out]; exact n0.out⟩, n3⟩
   case measure => (show E.length - ((k : Int) + 1).toNat < E.length - ((k : Int)).toNat; omega)
  ·obtain rfl : k = E.length := by omega
   rw [List.take_length] at HF
   have hc0 := HF.out.cell 0 (by omega)
   have hz0 : wr.cell? ⟨w.heap.size + 1, 0, none⟩ = some (.int .i64 0) := (blk_cell HBZ.out 0).trans rfl
   have hf0 := blk_frozen HBZ.out 0
   have hc1 := HF.out.cell 1 (by omega)
   have hz1 : wr.cell? ⟨w.heap.size + 1, 1, none⟩ = some (.int .i64 0) := (blk_cell HBZ.out 1).trans rfl
   have hf1 := blk_frozen HBZ.out 1
   have hc2 := HF.out.cell 2 (by omega)
   have hz2 : wr.cell? ⟨w.heap.size + 1, 2, none⟩ = some (.int .i64 0) := (blk_cell HBZ.out 2).trans rfl
   have hf2 := blk_frozen HBZ.out 2
   have hc3 := HF.out.cell 3 (by omega)
   have hz3 : wr.cell? ⟨w.heap.size + 1, 3, none⟩ = some (.int .i64 0) := (blk_cell HBZ.out 3).trans rfl
   have hf3 := blk_frozen HBZ.out 3
   have hc4 := HF.out.cell 4 (by omega)
   have hz4 : wr.cell? ⟨w.heap.size + 1, 4, none⟩ = some (.int .i64 0) := (blk_cell HBZ.out 4).trans rfl
   have hf4 := blk_frozen HBZ.out 4
   have hc5 := HF.out.cell 5 (by omega)
   have hz5 : wr.cell? ⟨w.heap.size + 1, 5, none⟩ = some (.int .i64 0) := (blk_cell HBZ.out 5).trans rfl
   have hf5 := blk_frozen HBZ.out 5
   have hc6 := HF.out.cell 6 (by omega)
   have hz6 : wr.cell? ⟨w.heap.size + 1, 6, none⟩ = some (.int .i64 0) := (blk_cell HBZ.out 6).trans rfl
   have hf6 := blk_frozen HBZ.out 6
   have hc7 := HF.out.cell 7 (by omega)
   have hz7 : wr.cell? ⟨w.heap.size + 1, 7, none⟩ = some (.int .i64 0) := (blk_cell HBZ.out 7).trans rfl
   have hf7 := blk_frozen HBZ.out 7
   have hc8 := HF.out.cell 8 (by omega)
   have hz8 : wr.cell? ⟨w.heap.size + 1, 8, none⟩ = some (.int .i64 0) := (blk_cell HBZ.out 8).trans rfl
   have hf8 := blk_frozen HBZ.out 8
   have hc9 := HF.out.cell 9 (by omega)
   have hz9 : wr.cell? ⟨w.heap.size + 1, 9, none⟩ = some (.int .i64 0) := (blk_cell HBZ.out 9).trans rfl
   have hf9 := blk_frozen HBZ.out 9
   have hc10 := HF.out.cell 10 (by omega)
   have hz10 : wr.cell? ⟨w.heap.size + 1, 10, none⟩ = some (.int .i64 0) := (blk_cell HBZ.out 10).trans rfl
   have hf10 := blk_frozen HBZ.out 10
   have hc11 := HF.out.cell 11 (by omega)
   have hz11 : wr.cell? ⟨w.heap.size + 1, 11, none⟩ = some (.int .i64 0) := (blk_cell HBZ.out 11).trans rfl
   have hf11 := blk_frozen HBZ.out 11
   go_wp2
   have hs := HBZ.out
   replace hs := blk_set hs 0 (.int .i64 (forestOf E 0 : Nat))
   replace hs := blk_set hs 1 (.int .i64 (forestOf E 1 : Nat))
   replace hs := blk_set hs 2 (.int .i64 (forestOf E 2 : Nat))
   replace hs := blk_set hs 3 (.int .i64 (forestOf E 3 : Nat))
   replace hs := blk_set hs 4 (.int .i64 (forestOf E 4 : Nat))
   replace hs := blk_set hs 5 (.int .i64 (forestOf E 5 : Nat))
   replace hs := blk_set hs 6 (.int .i64 (forestOf E 6 : Nat))
   replace hs := blk_set hs 7 (.int .i64 (forestOf E 7 : Nat))
   replace hs := blk_set hs 8 (.int .i64 (forestOf E 8 : Nat))
   replace hs := blk_set hs 9 (.int .i64 (forestOf E 9 : Nat))
   replace hs := blk_set hs 10 (.int .i64 (forestOf E 10 : Nat))
   replace hs := blk_set hs 11 (.int .i64 (forestOf E 11 : Nat))
   simp only [List.setIfInBounds_toArray, List.set_cons_zero, List.set_cons_succ] at hs
   refine bodyPost_ret (v := .agg #[.int .i64 (forestOf E 0 : Nat), .int .i64 (forestOf E 1 : Nat), .int .i64 (forestOf E 2 : Nat), .int .i64 (forestOf E 3 : Nat), .int .i64 (forestOf E 4 : Nat), .int .i64 (forestOf E 5 : Nat), .int .i64 (forestOf E 6 : Nat), .int .i64 (forestOf E 7 : Nat), .int .i64 (forestOf E 8 : Nat), .int .i64 (forestOf E 9 : Nat), .int .i64 (forestOf E 10 : Nat), .int .i64 (forestOf E 11 : Nat)]) (results_cell_row rfl _ _ (w.heap.size + 1) 139 #[.int .i64 (forestOf E 0 : Nat), .int .i64 (forestOf E 1 : Nat), .int .i64 (forestOf E 2 : Nat), .int .i64 (forestOf E 3 : Nat), .int .i64 (forestOf E 4 : Nat), .int .i64 (forestOf E 5 : Nat), .int .i64 (forestOf E 6 : Nat), .int .i64 (forestOf E 7 : Nat), .int .i64 (forestOf E 8 : Nat), .int .i64 (forestOf E 9 : Nat), .int .i64 (forestOf E 10 : Nat), .int .i64 (forestOf E 11 : Nat)] (0, 0) _ rfl hs Try.underlying139 rfl rfl) rfl ⟨rfl, ?_⟩
   iterate 12 (refine below_set ?_ (by simp))
   exact HB.out
end Go.Proofs.Ytffdiakgjakngaa.P
namespace Go.Proofs.Ytffdiakgjakngaa.P
open Go.RowKit Go.Maps Go.Proofs.YtffdiakgjakngaaW.PrintWords Go.Proofs.YtffdiakgjakngaaW.PrintLast Go.Proofs.YtffdiakgjakngaaW.PrintMore
set_option linter.unusedVariables false
set_option linter.unusedSimpArgs false
set_option maxHeartbeats 8000000
set_option maxRecDepth 100000
def rootsTo (p : Nat → Nat) : Nat → Nat
 | 0 => 0
 | u + 1 => rootsTo p u + (if rootOf p u = u then 1 else 0)
theorem rootsTo_le (p : Nat → Nat) : ∀ u, rootsTo p u ≤ u
 | 0 => Nat.le_refl _
 | u + 1 => by
  have := rootsTo_le p u
  simp only [rootsTo]
  split <;> omega
theorem rootOf_root (p : Nat → Nat) (v : Nat) : rootOf p (rootOf p v) = rootOf p v := by
 induction v using Nat.strongRecOn with
 | ind v ih =>
  by_cases h : p v < v
  ·rw [show rootOf p v = rootOf p (p v) by rw [rootOf, dif_pos h]]
   exact ih _ h
  ·have e : rootOf p v = v := by rw [rootOf, dif_neg h]
   rw [e, e]
theorem zeroInt (w : World) : (zeroValue 3).run Try.prog w = .ok (.int .i64 0) w := by kernel_rfl
theorem keyedInt : Keyed Try.prog 3 := int_keyed Try.underlying3
theorem keyInt {a : Nat} (h : a ≤ 1000) : keyOf Try.prog 3 (.int .i64 a) = some (.int .i64 a) := keyOf_int_mk Try.underlying3 (WalkArith.wf_i64 (by omega))
def Places (p : Nat → Nat) (k m : Nat) (D : DataW Unit) : Prop := IsMap D ∧ ∀ r, r < k → rootOf p r = r → ∃ c : Nat, c < m ∧ D.atKey (.int .i64 r) (.lit (.int .i64 0)) = .lit (.int .i64 c)
theorem Places.skip {p : Nat → Nat} {k m : Nat} {D : DataW Unit} (h : Places p k m D) (hr : rootOf p k ≠ k) : Places p (k + 1) m D := by
 refine ⟨h.1, fun r hrk hrr => ?_⟩
 by_cases e : r = k
 ·subst e; exact absurd hrr hr
 ·exact h.2 r (by omega) hrr
theorem Places.put {p : Nat → Nat} {k m : Nat} {D : DataW Unit} (h : Places p k m D) (hk : k ≤ 1000) : Places p (k + 1) (m + 1) (D.put (.int .i64 k) (.lit (.int .i64 m))) := by
 refine ⟨h.1.put _ _, fun r hrk hrr => ?_⟩
 by_cases e : r = k
 ·subst e
  exact ⟨m, by omega, atKey_put_same h.1 (by simp [WideAt.IsKeyLit]) _ _⟩
 ·obtain ⟨c, hc, ha⟩ := h.2 r (by omega) hrr
  refine ⟨c, by omega, ?_⟩
  rw [atKey_put_other (fun e2 => e (by injection e2; omega))]
  exact ha
theorem S_put_back {W w4 : World} {gm g0 cap c : Nat} {X : List (List Int)} {oki : Nat → Prop} {ev s : Value} {y' : List Int} (hH : Kd.H (Kd.slice 3 (Kd.int .i64)) 33 W gm (fun q => True ∧ ¬ W.heap.size ≤ q) (.slice (some ⟨g0, 0, none⟩) X.length cap) X (c : Int) oki [ev]) (hcX : c < X.length)
  (hg : W.drew.grownBy w4 ev.ownBlock) (hok : ∀ q, ev.ownBlock = some q → oki q) (hR : (Kd.int .i64).R 3 w4 gm (fun q => oki q ∨ W.heap.size ≤ q) s y') (hlt : g0 < W.heap.size) :
  Kd.S (Kd.slice 3 (Kd.int .i64)) 33 (w4.setCell ⟨g0, c, none⟩ s) gm (fun _ => True) (.slice (some ⟨g0, 0, none⟩) X.length cap) (X.set c y') := by
 have h := (Kd.S_seg (d := Kd.slice 3 (Kd.int .i64)) (okg := fun q => W.heap.size ≤ q) (ok := fun _ => True) (okp := fun q => oki q ∨ W.heap.size ≤ q) (seg := [s]) (j := 0) (x' := y') (Kd.H_grown (Kd.H_drew hH) hg hok) (by omega) (by omega) (by simp [Kd.slice]) (Kd.M_row hR) (fun q hq => hq) (fun q hq => ⟨trivial, by omega⟩)).1
 rw [Int.toNat_natCast] at h
 simpa [Kd.slice, World.setCells] using h
theorem parts_len {X : List (List Int)} {c k : Nat} {y : List Int} {x : Int} (h : ∀ z ∈ X, z.length ≤ k) (hy : y.length ≤ k) : ∀ z ∈ X.set c (y ++ [x]), z.length ≤ k + 1 := fun z hz => by
 rcases List.mem_or_eq_of_mem_set hz with h1 | h1
 ·exact Nat.le_succ_of_le (h z h1)
 ·subst h1; simp; omega
theorem parts_calls (g n : Nat) (p : Nat → Nat) (w : World) (hn : n ≤ 12) (hf : Falls p) (hw : ForestAt w g p) :
  Calls Try.prog 118 #[.pointer (some ⟨g, 0, none⟩), .int .i64 n] w fun e w' => ∃ A c, e = .returned (.slice A (rootsTo p n) c) ∧ Below w.heap.size w w' := by
 have hmm := @run_makeMap Try.prog
 have hgw := hw.lt
 go_enter Try.func118, Try.ntmps118
 go_wp2
 have hB := below_alloc (Below.refl w.heap.size w) (.map #[] 0)
 have hM := World.ownsMap_made (H := Unit) w Try.prog 3 (plainElem Try.prog 3)
 generalize hgm : w.heap.size = gm at hM hB ⊢
 generalize (w.alloc (.map #[] 0)) = W0 at hM hB ⊢
 clear hmm
 go_loopw [5, 11] (fun v i wr => ∃ (k : Nat) (xs : List (List Int)) (D : DataW Unit), k ≤ n ∧ i = .int .i64 k ∧ Aside0 (xs.length = rootsTo p k) ∧ Aside0 (∀ y ∈ xs, y.length ≤ k) ∧ Aside0 (Kd.S (Kd.slice 3 (Kd.int .i64)) 33 wr gm (fun _ => True) v xs) ∧ Aside0 (wr.ownsMap Try.prog 3 (plainElem Try.prog 3) gm k D) ∧ Aside0 (Places p k (rootsTo p k) D) ∧ Aside0 (Below gm w wr)) (fun _ i _ => n - (intOf i).toNat)
 case atStart => exact ⟨0, [], _, by omega, rfl, ⟨rfl⟩, ⟨fun y hy => absurd hy (by simp)⟩, ⟨Kd.S_nil _ _ _ _ _⟩, ⟨hM⟩, ⟨isMap_empty, fun r hr => absurd hr (by omega)⟩, ⟨hB⟩⟩
 case round =>
  clear hM hB
  obtain ⟨k, xs, D, hk, rfl, HL, HY, HS, HM, HP, HB⟩ := hrel
  by_cases hkn : k < n
  ·have hle := rootOf_le p k
   have hrt := rootsTo_le p k
   have CR := Aside0.mk (root_calls g k p wr hf (by omega) (hw.below (by rw [hgm]; exact HB.out)))
   have Hrr := Lib.hid (rootOf_root p k)
   have Hs : Hid (rootsTo p (k + 1) = rootsTo p k + (if rootOf p k = k then 1 else 0)) := Lib.hid rfl
   by_cases hrk : rootOf p k = k
   ·have Hsk := Lib.hid hrk
    rw [hrk] at CR
    clear hrk hle
    obtain ⟨Ao, co, rfl⟩ := Kd.S_slice HS.out
    have hx12 : xs.length ≤ 12 := by have := HL.out; omega
    obtain ⟨es, ck, hes, -⟩ := HM.out
    have htm0 : some gm ≠ (Value.slice Ao xs.length co).ownBlock := fun e => by
     obtain ⟨cs, hcs⟩ := Kd.S_typed HS.out gm e.symm
     rw [hes] at hcs; cases hcs
    have HSm := Aside0.mk (Kd.S_mono (ok' := fun q => q ≠ gm) (Kd.S_bound HS.out) (fun q hq e => by obtain ⟨t, _, cs, hcs⟩ := hq.2.2.2; subst e; rw [hes] at hcs; cases hcs))
    clear hes es ck
    have hPk := HP.out.put (by omega)
    have hs1 : rootsTo p (k + 1) = rootsTo p k + 1 := by rw [Hs.out, if_pos Hsk.out]
    rw [← hs1, ← HL.out] at hPk
    have hX12 : rootsTo p (k + 1) = xs.length + 1 := by rw [hs1, HL.out]
    have HX12 := Aside0.mk hX12
    clear hs1 hX12
    have HPk := Aside0.mk hPk
    clear hPk
    go_wp2_with (first | (go_at_call 124; refine CR.out.mono ?_; rintro e w1 ⟨rfl, rfl⟩) | (at_mapUpdate; refine wpList_mapUpdate_own _ rfl _ _ _ 148 rfl 3 3 keyedInt Try.underlying148 _ gm k _ rfl HM.out (by unfold maxLen; omega) _ _ _ rfl rfl (keyInt (by omega)) _ [] (plainElem_int Try.underlying3 (WalkArith.wf_i64 (by omega))) ?_; intro w2 hm2 hg2; have HM2 := Aside0.mk hm2; have HS2 := Aside0.mk (Kd.S_grown HSm.out hg2 (fun q hq e => hq (by injection e))); have HB2 := Aside0.mk (HB.out.grown hg2 (by have := HM.out.lt; omega) (fun q e => by injection e with e; omega)); clear hm2 hg2) | (at_builtin; refine Kd.S_append (Kd.slice 3 (Kd.int .i64)) (w0 := w) gm rfl (.tmp 24) (.tmp 25) 88 33 (.slice none 0 0) 24 rfl Try.underlying88 info33 rfl (by decide) (by omega) _ xs [] [.slice none 0 0] (fun _ => True) (fun _ => False) rfl rfl (Kd.M_row (Kd.R_nil _ _ _ _ _)) (fun _ hk => hk.elim) (fun _ _ => trivial) (Kd.S_mono HS2.out (fun q _ => ⟨trivial, fun h => h⟩)) HB2.out (by have := HM2.out.lt; omega) (by omega) ?_; intro v3 W hs3 hb3 hg3 hat3; have HS1 := Aside0.mk hs3; have HB1 := Aside0.mk hb3; have HM1 := Aside0.mk (HM2.out.kept hg3 htm0); have HP1 := HPk; clear hs3 hb3 hg3 hat3))
    generalize hD1 : D.put (.int .i64 k) (.lit (.int .i64 xs.length)) = D1 at HM1 HP1
    have HX1 : Aside0 ((xs ++ [[]]).length = rootsTo p (k + 1)) := ⟨by rw [HX12.out]; simp⟩
    have HY1 : Aside0 (∀ y ∈ xs ++ [[]], y.length ≤ k) := ⟨fun y hy => by
     rcases List.mem_append.1 hy with h | h
     ·exact HY.out y h
     ·simp at h; subst h; simp⟩
    generalize hX : xs ++ [[]] = X at HS1 HX1 HY1
    obtain ⟨c, hcm, hat⟩ := HP1.out.2 k (by omega) Hsk.out
    have hlk : ∀ w' : World, w'.ownsMap Try.prog 3 (plainElem Try.prog 3) gm (k + 1) D1 → (Instr.lookup 148 (.map (some gm)) (.int .i64 (k : Nat)) false).run Try.prog w' = .ok (.int .i64 c) w' := fun w' h => by
     obtain ⟨c', hrun, hat', _⟩ := h.lookup_int keyedInt Try.underlying148 Try.underlying3 (zeroInt _) (keyInt (a := k) (by omega))
     rw [hat] at hat'
     injection hat' with hat'
     injection hat' with _ hat'
     rw [hrun, hat']
    have hXl := HX1.out
    have hXr := rootsTo_le p (k + 1)
    obtain ⟨g0, cap, hv, hge, hglt, cells, hbc⟩ := Kd.S_form HS1.out (by omega)
    (first | subst hv | (injection hv with h1_ _ h3_; subst h1_; subst h3_))
    obtain ⟨oki, cc, hcl, ⟨ev, rfl, hR⟩, hcc, hfr, hoki, hH⟩ := Kd.S_elem (Kd.S_mono (ok' := fun q => True ∧ ¬ W.heap.size ≤ q) (Kd.S_bound HS1.out) (fun q hq => ⟨trivial, by have := hq.2.2.1; omega⟩)) [] (c : Int) (by omega) (by omega)
    have hyk : (X.getD (c : Int).toNat []).length ≤ k := by
     have hcX : c < X.length := by omega
     rw [Int.toNat_natCast, List.getD_eq_getElem?_getD, List.getElem?_eq_getElem hcX]
     exact HY1.out _ (List.getElem_mem hcX)
    have hcx : W.cell? ⟨g0, c, none⟩ = some ev := by have h1 := hcc 0 _ rfl; rw [Int.toNat_natCast] at h1; simpa [Kd.slice] using h1
    have hfx : W.frozen? ⟨g0, c, none⟩ = false := by have h1 := hfr 0; rw [Int.toNat_natCast] at h1; simpa [Kd.slice] using h1
    rw [Int.toNat_natCast] at hR hyk
    have HXc := Lib.hid (show (X.getD (c : Int).toNat []) = X.getD c [] by rw [Int.toNat_natCast])
    generalize X.getD c [] = y at hR hyk HXc
    obtain ⟨Ae, ce, rfl⟩ := Kd.R_slice hR
    have htm : some gm ≠ (Value.slice Ae y.length ce).ownBlock := fun e => by
     obtain ⟨cs, hcs⟩ := Kd.R_typed hR gm e.symm
     obtain ⟨es, ck, hes, -⟩ := HM1.out
     rw [hes] at hcs; cases hcs
    have hg0m : g0 ≠ gm := fun e => by
     subst e
     obtain ⟨es, ck, hes, -⟩ := HM1.out
     rw [hes] at hbc; cases hbc
    have hkg : some g0 ≠ (Value.slice Ae y.length ce).ownBlock := fun e => (hoki g0 (hR.1 g0 e.symm)).2 rfl
    have HR := Aside0.mk (Kd.R_drew (Kd.R_mono (ok' := fun q => oki q ∨ W.heap.size ≤ q) hR (fun q hq => .inl hq)))
    have HHw := Aside0.mk hH
    have HOK := Aside0.mk hR.1
    have HOI := Aside0.mk hoki
    clear hH hcc hfr hR hoki hbc cells hcl
    have hl1 := hlk _ HM1.out.drew
    have hl2 := hlk _ ((HM1.out.alloc (.cells #[.int .i64 k] 3)).drew)
    have hi0 : (0 : Int) ≤ (c : Int) := by omega
    have hi1 : (c : Int) < (X.length : Int) := by omega
    have HLK := Aside0.mk hlk
    have hc12 : c < 12 := by omega
    have hX12 : X.length ≤ 12 := by omega
    have hcX : c < X.length := by omega
    clear hlk hat hcm hXl hXr
    go_region_law ((refine Kd.R_append_step (Kd.int .i64) (w0 := w) (W := W.drew) gm (by rfl) (.tmp 36) (.tmp 38) 33 3 (.int .i64 0) 8 (by rfl) Try.underlying33 info3 rfl (by decide) (by omega) _ y (k : Int) [.int .i64 k] (fun q => oki q ∨ W.heap.size ≤ q) (fun _ => False) (by rfl) (by rfl) rfl (fun _ hk => hk.elim) (fun q hq => .inr hq) HR.out (below_drew1 HB1.out) (by have := HB1.out.size; show gm ≤ W.heap.size; omega) (by omega) ?_; intro v4 w4 hr4 hb4 hg4 hat4; obtain ⟨Ai4, ci4, hv4⟩ := Kd.R_slice hr4; rw [show (y ++ [(k : Int)]).length = y.length + 1 by simp] at hv4; subst hv4; have HR4 := Aside0.mk hr4; have HB4 := Aside0.mk hb4; have HG4 := Aside0.mk hg4; have hl3 := HLK.out _ (HM1.out.drew.kept hg4 htm); have hcx4 : w4.cell? ⟨g0, c, none⟩ = some (.slice Ae y.length ce) := (hg4.cell_far ⟨g0, c, none⟩ hglt hkg).trans hcx; have hfx4 : w4.frozen? ⟨g0, c, none⟩ = false := (hg4.frozen_far ⟨g0, c, none⟩ hglt hkg).trans hfx; clear hr4 hb4 hg4 hat4))
    all_goals have n0 := Aside0.mk (S_put_back HHw.out (by omega) HG4.out HOK.out HR4.out hglt)
    all_goals have n1 := Aside0.mk ((HM1.out.drew.kept HG4.out htm).kept (grown_set1 w4 g0 c (.slice Ai4 (y.length + 1) ci4)) (by simp; omega))
    all_goals have n2 := Aside0.mk (HB4.out.grown (grown_set1 w4 g0 c (.slice Ai4 (y.length + 1) ci4)) (by have := HB4.out.size; have := HM1.out.lt; have : W.drew.heap.size = W.heap.size := rfl; have := HG4.out.size; omega) (fun q e => by injection e with e; omega))
    all_goals have n3 := Aside0.mk (HP1.out)
    all_goals have n4 : Aside0 (∀ z ∈ X.set c (y ++ [(k : Int)]), z.length ≤ k + 1) := ⟨parts_len HY1.out hyk⟩
    all_goals have n5 : Aside0 ((X.set c (y ++ [(k : Int)])).length = X.length) := ⟨List.length_set⟩
    all_goals clear hl1 hl2 hl3 hcx hfx hcx4 hfx4 HG4 HB4 HR4 HLK HHw HOK HOI HR
    all_goals generalize (w4.setCell ⟨g0, c, none⟩ (.slice Ai4 (y.length + 1) ci4)) = w5 at n0 n1 n2 ⊢
    all_goals go_wp2
    all_goals exact ⟨⟨k + 1, _, D1, by omega, by go_num, ⟨by rw [n5.out]; exact HX1.out⟩, n4, n0, n1, n3, n2⟩, (show n - ((k : Int) + 1).toNat < n - ((k : Int)).toNat by omega)⟩
   ·have hle2 : rootOf p k < k := by omega
    have Hne := Lib.hid hrk
    have HP1 := Aside0.mk (HP.out.skip hrk)
    have hs1 : rootsTo p (k + 1) = rootsTo p k := by rw [Hs.out, if_neg hrk]; rfl
    have HX1 := Aside0.mk (HL.out.trans hs1.symm)
    rw [← hs1] at HP1
    clear hs1 hrk hle
    have HY1 := HY
    have HM1 := Aside0.mk (HM.out.mono (Nat.le_succ k))
    have HS1 := HS
    have HB1 := HB
    clear HM HS HB HP HL HY
    obtain ⟨Ao, co, rfl⟩ := Kd.S_slice HS1.out
    obtain ⟨W, rfl⟩ : ∃ W, W = wr := ⟨_, rfl⟩
    obtain ⟨X, rfl⟩ : ∃ X, X = xs := ⟨_, rfl⟩
    obtain ⟨D1, rfl⟩ : ∃ D1, D1 = D := ⟨_, rfl⟩
    generalize hro : rootOf p k = r at hle2 CR Hrr
    have Hro := Lib.hid hro
    clear hro
    have hne : ((r : Nat) : Int) ≠ (k : Int) := by omega
    go_wp2_with (first | (go_at_call 124; refine CR.out.mono ?_; rintro e w1 ⟨rfl, rfl⟩))
    obtain ⟨c, hcm, hat⟩ := HP1.out.2 r (by omega) Hrr.out
    have hlk : ∀ w' : World, w'.ownsMap Try.prog 3 (plainElem Try.prog 3) gm (k + 1) D1 → (Instr.lookup 148 (.map (some gm)) (.int .i64 (r : Nat)) false).run Try.prog w' = .ok (.int .i64 c) w' := fun w' h => by
     obtain ⟨c', hrun, hat', _⟩ := h.lookup_int keyedInt Try.underlying148 Try.underlying3 (zeroInt _) (keyInt (a := r) (by omega))
     rw [hat] at hat'
     injection hat' with hat'
     injection hat' with _ hat'
     rw [hrun, hat']
    have hXl := HX1.out
    have hXr := rootsTo_le p (k + 1)
    obtain ⟨g0, cap, hv, hge, hglt, cells, hbc⟩ := Kd.S_form HS1.out (by omega)
    (first | subst hv | (injection hv with h1_ _ h3_; subst h1_; subst h3_))
    obtain ⟨oki, cc, hcl, ⟨ev, rfl, hR⟩, hcc, hfr, hoki, hH⟩ := Kd.S_elem (Kd.S_mono (ok' := fun q => True ∧ ¬ W.heap.size ≤ q) (Kd.S_bound HS1.out) (fun q hq => ⟨trivial, by have := hq.2.2.1; omega⟩)) [] (c : Int) (by omega) (by omega)
    have hyk : (X.getD (c : Int).toNat []).length ≤ k := by
     have hcX : c < X.length := by omega
     rw [Int.toNat_natCast, List.getD_eq_getElem?_getD, List.getElem?_eq_getElem hcX]
     exact HY1.out _ (List.getElem_mem hcX)
    have hcx : W.cell? ⟨g0, c, none⟩ = some ev := by have h1 := hcc 0 _ rfl; rw [Int.toNat_natCast] at h1; simpa [Kd.slice] using h1
    have hfx : W.frozen? ⟨g0, c, none⟩ = false := by have h1 := hfr 0; rw [Int.toNat_natCast] at h1; simpa [Kd.slice] using h1
    rw [Int.toNat_natCast] at hR hyk
    have HXc := Lib.hid (show (X.getD (c : Int).toNat []) = X.getD c [] by rw [Int.toNat_natCast])
    generalize X.getD c [] = y at hR hyk HXc
    obtain ⟨Ae, ce, rfl⟩ := Kd.R_slice hR
    have htm : some gm ≠ (Value.slice Ae y.length ce).ownBlock := fun e => by
     obtain ⟨cs, hcs⟩ := Kd.R_typed hR gm e.symm
     obtain ⟨es, ck, hes, -⟩ := HM1.out
     rw [hes] at hcs; cases hcs
    have hg0m : g0 ≠ gm := fun e => by
     subst e
     obtain ⟨es, ck, hes, -⟩ := HM1.out
     rw [hes] at hbc; cases hbc
    have hkg : some g0 ≠ (Value.slice Ae y.length ce).ownBlock := fun e => (hoki g0 (hR.1 g0 e.symm)).2 rfl
    have HR := Aside0.mk (Kd.R_drew (Kd.R_mono (ok' := fun q => oki q ∨ W.heap.size ≤ q) hR (fun q hq => .inl hq)))
    have HHw := Aside0.mk hH
    have HOK := Aside0.mk hR.1
    have HOI := Aside0.mk hoki
    clear hH hcc hfr hR hoki hbc cells hcl
    have hl1 := hlk _ HM1.out.drew
    have hl2 := hlk _ ((HM1.out.alloc (.cells #[.int .i64 k] 3)).drew)
    have hi0 : (0 : Int) ≤ (c : Int) := by omega
    have hi1 : (c : Int) < (X.length : Int) := by omega
    have HLK := Aside0.mk hlk
    have hc12 : c < 12 := by omega
    have hX12 : X.length ≤ 12 := by omega
    have hcX : c < X.length := by omega
    clear hlk hat hcm hXl hXr
    go_region_law ((refine Kd.R_append_step (Kd.int .i64) (w0 := w) (W := W.drew) gm (by rfl) (.tmp 36) (.tmp 38) 33 3 (.int .i64 0) 8 (by rfl) Try.underlying33 info3 rfl (by decide) (by omega) _ y (k : Int) [.int .i64 k] (fun q => oki q ∨ W.heap.size ≤ q) (fun _ => False) (by rfl) (by rfl) rfl (fun _ hk => hk.elim) (fun q hq => .inr hq) HR.out (below_drew1 HB1.out) (by have := HB1.out.size; show gm ≤ W.heap.size; omega) (by omega) ?_; intro v4 w4 hr4 hb4 hg4 hat4; obtain ⟨Ai4, ci4, hv4⟩ := Kd.R_slice hr4; rw [show (y ++ [(k : Int)]).length = y.length + 1 by simp] at hv4; subst hv4; have HR4 := Aside0.mk hr4; have HB4 := Aside0.mk hb4; have HG4 := Aside0.mk hg4; have hl3 := HLK.out _ (HM1.out.drew.kept hg4 htm); have hcx4 : w4.cell? ⟨g0, c, none⟩ = some (.slice Ae y.length ce) := (hg4.cell_far ⟨g0, c, none⟩ hglt hkg).trans hcx; have hfx4 : w4.frozen? ⟨g0, c, none⟩ = false := (hg4.frozen_far ⟨g0, c, none⟩ hglt hkg).trans hfx; clear hr4 hb4 hg4 hat4))
    all_goals have n0 := Aside0.mk (S_put_back HHw.out (by omega) HG4.out HOK.out HR4.out hglt)
    all_goals have n1 := Aside0.mk ((HM1.out.drew.kept HG4.out htm).kept (grown_set1 w4 g0 c (.slice Ai4 (y.length + 1) ci4)) (by simp; omega))
    all_goals have n2 := Aside0.mk (HB4.out.grown (grown_set1 w4 g0 c (.slice Ai4 (y.length + 1) ci4)) (by have := HB4.out.size; have := HM1.out.lt; have : W.drew.heap.size = W.heap.size := rfl; have := HG4.out.size; omega) (fun q e => by injection e with e; omega))
    all_goals have n3 := Aside0.mk (HP1.out)
    all_goals have n4 : Aside0 (∀ z ∈ X.set c (y ++ [(k : Int)]), z.length ≤ k + 1) := ⟨parts_len HY1.out hyk⟩
    all_goals have n5 : Aside0 ((X.set c (y ++ [(k : Int)])).length = X.length) := ⟨List.length_set⟩
    all_goals clear hl1 hl2 hl3 hcx hfx hcx4 hfx4 HG4 HB4 HR4 HLK HHw HOK HOI HR
    all_goals generalize (w4.setCell ⟨g0, c, none⟩ (.slice Ai4 (y.length + 1) ci4)) = w5 at n0 n1 n2 ⊢
    all_goals go_wp2
    all_goals exact ⟨⟨k + 1, _, D1, by omega, by go_num, ⟨by rw [n5.out]; exact HX1.out⟩, n4, n0, n1, n3, n2⟩, (show n - ((k : Int) + 1).toNat < n - ((k : Int)).toNat by omega)⟩
  ·obtain rfl : k = n := by omega
   go_wp2
   go_ret
   obtain ⟨A, c, rfl⟩ := Kd.S_slice HS.out
   exact ⟨A, c, by rw [HL.out]; rfl, by rw [hgm]; exact HB.out⟩
end Go.Proofs.Ytffdiakgjakngaa.P
namespace Go.Proofs.Ytffdiakgjakngaa.P
open Go.RowKit Go.Proofs.YtffdiakgjakngaaW.PrintWords Go.Proofs.YtffdiakgjakngaaW.PrintLast Go.Proofs.YtffdiakgjakngaaW.PrintMore
set_option linter.unusedVariables false
set_option linter.unusedSimpArgs false
set_option maxHeartbeats 8000000
set_option maxRecDepth 100000
def okConn (N : Int) (E : List S66) : Bool := decide (0 ≤ N ∧ N ≤ 12) && edgesInB 12 E
def connect_Connected.f (k : Nat) (N : Int) (E : List S66) : Option (Bool × Int) :=
 (graph_Check.f k N E).bind fun t => if t = 0 then (if okConn N E = true then some (decide (rootsTo (forestOf E) N.toNat = 1), 0) else none) else some (false, t)
theorem connect_Connected.mono : ∀ a0_0 l0_1 k, LeO (connect_Connected.f k a0_0 l0_1) (connect_Connected.f (k + 1) a0_0 l0_1) := by
 intro a0_0 l0_1 k
 unfold connect_Connected.f
 exact LeO.bind (graph_Check.mono _ _ _) (fun _ => LeO.refl _)
theorem components_bad (k : Nat) (N : Int) (A0 : Option Addr) (c0 : Nat) (E : List S66) (t : Int) (w : World) (hr0 : Kd.C k66 w A0 E.length E) (hc0 : E.length ≤ c0) (ht : graph_Check.f k N E = some t) (ht0 : t ≠ 0) :
  Calls Try.prog 112 #[.agg #[.int .i64 N, .slice A0 E.length c0]] w fun e w' => e = .returned (.tuple #[.slice none 0 0, .int .i64 t]) ∧ Below w.heap.size w w' := by
 have hu := Try.underlying24
 have Ht := Aside0.mk ht
 clear ht
 go_enter Try.func112, Try.ntmps112
 go_wp2_with (first | (go_at_call 113; refine (graph_Check.calls k N A0 c0 E t _ (Kd.C_alloc hr0 _) hc0 Ht.out).mono ?_; rintro e w1 ⟨rfl, hb⟩; have HB := Aside0.mk (below_step (below_alloc (Below.refl w.heap.size w) _) hb); clear hb))
 go_ret2
 exact ⟨rfl, HB.out⟩
theorem forest_cells (E : List S66) : ∀ i, i < 12 → (#[.int .i64 (forestOf E 0 : Nat), .int .i64 (forestOf E 1 : Nat), .int .i64 (forestOf E 2 : Nat), .int .i64 (forestOf E 3 : Nat), .int .i64 (forestOf E 4 : Nat), .int .i64 (forestOf E 5 : Nat), .int .i64 (forestOf E 6 : Nat), .int .i64 (forestOf E 7 : Nat), .int .i64 (forestOf E 8 : Nat), .int .i64 (forestOf E 9 : Nat), .int .i64 (forestOf E 10 : Nat), .int .i64 (forestOf E 11 : Nat)] : Array Value)[i]? = some (.int .i64 (forestOf E i : Nat)) := fun i hi => by
 match i, hi with | 0, _ => rfl | 1, _ => rfl | 2, _ => rfl | 3, _ => rfl | 4, _ => rfl | 5, _ => rfl | 6, _ => rfl | 7, _ => rfl | 8, _ => rfl | 9, _ => rfl | 10, _ => rfl | 11, _ => rfl
theorem components_good (k : Nat) (n : Nat) (A0 : Option Addr) (c0 : Nat) (E : List S66) (w : World) (hr0 : Kd.C k66 w A0 E.length E) (hc0 : E.length ≤ c0) (ht : graph_Check.f k n E = some 0) (hn : n ≤ 12) (hE : EdgesIn 12 E) :
  Calls Try.prog 112 #[.agg #[.int .i64 n, .slice A0 E.length c0]] w fun e w' => ∃ A c, e = .returned (.tuple #[.slice A (rootsTo (forestOf E) n) c, .int .i64 0]) ∧ Below w.heap.size w w' := by
 have hu := Try.underlying24
 have Ht := Aside0.mk ht
 clear ht
 have HE := Aside0.mk hE
 clear hE
 go_enter Try.func112, Try.ntmps112
 go_wp2_with (first | (go_at_call 113; refine (graph_Check.calls k n A0 c0 E 0 _ (Kd.C_alloc hr0 _) hc0 Ht.out).mono ?_; rintro e w1 ⟨rfl, hb⟩; have hbx : w1.heap[w.heap.size]? = some (.cells #[.int .i64 n, .slice A0 E.length c0] 24 (0, 0)) := blk_below (heap_alloc_new w _) hb; have HR1 := Aside0.mk (Kd.C_below hr0 (below_step (below_alloc (Below.refl w.heap.size w) _) hb)); have HB := Aside0.mk (below_step (below_alloc (Below.refl w.heap.size w) _) hb); clear hb; have hx0 : w1.cell? ⟨w.heap.size, 0, none⟩ = some (.int .i64 n) := (blk_cell hbx 0).trans rfl; have hx1 : w1.cell? ⟨w.heap.size, 1, none⟩ = some (.slice A0 E.length c0) := (blk_cell hbx 1).trans rfl) | (go_at_call 117; (with_reducible refine (joined_calls _ _ _ E _ HR1.out HE.out).mono ?_); rintro e w2 ⟨rfl, hb⟩; have hbx2 := blk_alloc (blk_below hbx hb) (.cells #[.int .i64 (forestOf E 0 : Nat), .int .i64 (forestOf E 1 : Nat), .int .i64 (forestOf E 2 : Nat), .int .i64 (forestOf E 3 : Nat), .int .i64 (forestOf E 4 : Nat), .int .i64 (forestOf E 5 : Nat), .int .i64 (forestOf E 6 : Nat), .int .i64 (forestOf E 7 : Nat), .int .i64 (forestOf E 8 : Nat), .int .i64 (forestOf E 9 : Nat), .int .i64 (forestOf E 10 : Nat), .int .i64 (forestOf E 11 : Nat)] 139); have hx2 : (w2.alloc (.cells #[.int .i64 (forestOf E 0 : Nat), .int .i64 (forestOf E 1 : Nat), .int .i64 (forestOf E 2 : Nat), .int .i64 (forestOf E 3 : Nat), .int .i64 (forestOf E 4 : Nat), .int .i64 (forestOf E 5 : Nat), .int .i64 (forestOf E 6 : Nat), .int .i64 (forestOf E 7 : Nat), .int .i64 (forestOf E 8 : Nat), .int .i64 (forestOf E 9 : Nat), .int .i64 (forestOf E 10 : Nat), .int .i64 (forestOf E 11 : Nat)] 139)).cell? ⟨w.heap.size, 0, none⟩ = some (.int .i64 n) := (blk_cell hbx2 0).trans rfl; have HB2 := Aside0.mk (below_alloc (below_step HB.out hb) (.cells #[.int .i64 (forestOf E 0 : Nat), .int .i64 (forestOf E 1 : Nat), .int .i64 (forestOf E 2 : Nat), .int .i64 (forestOf E 3 : Nat), .int .i64 (forestOf E 4 : Nat), .int .i64 (forestOf E 5 : Nat), .int .i64 (forestOf E 6 : Nat), .int .i64 (forestOf E 7 : Nat), .int .i64 (forestOf E 8 : Nat), .int .i64 (forestOf E 9 : Nat), .int .i64 (forestOf E 10 : Nat), .int .i64 (forestOf E 11 : Nat)] 139)); have HF := Aside0.mk (show ForestAt (w2.alloc (.cells #[.int .i64 (forestOf E 0 : Nat), .int .i64 (forestOf E 1 : Nat), .int .i64 (forestOf E 2 : Nat), .int .i64 (forestOf E 3 : Nat), .int .i64 (forestOf E 4 : Nat), .int .i64 (forestOf E 5 : Nat), .int .i64 (forestOf E 6 : Nat), .int .i64 (forestOf E 7 : Nat), .int .i64 (forestOf E 8 : Nat), .int .i64 (forestOf E 9 : Nat), .int .i64 (forestOf E 10 : Nat), .int .i64 (forestOf E 11 : Nat)] 139)) w2.heap.size (forestOf E) from ⟨_, heap_alloc_new _ _, rfl, forest_cells E⟩); clear hb hbx2) | (go_at_call 118; (with_reducible refine (parts_calls _ n (forestOf E) _ hn (forestOf_falls E) HF.out).mono ?_); rintro e w3 ⟨A3, c3, rfl, hb⟩; have HB3 := Aside0.mk (below_step HB2.out hb); clear hb))
 go_ret2
 exact ⟨A3, c3, rfl, HB3.out⟩
theorem connect_Connected.calls (k : Nat) (a0_0 : Int) (A0_1 : Option Addr) (c0_1 : Nat) (l0_1 : List (S66)) (r1 : Bool) (r2 : Int) (w : World) (hr0_1 : Kd.C k66 w A0_1 l0_1.length l0_1) (hc0_1 : l0_1.length ≤ c0_1) (h : connect_Connected.f k a0_0 l0_1 = some (r1, r2)) :
  Calls Try.prog 104 #[.agg #[.int .i64 a0_0, .slice A0_1 l0_1.length c0_1]] w fun e w' => e = .returned (.tuple #[.bool r1, .int .i64 r2]) ∧ Below w.heap.size w w' := by
 unfold connect_Connected.f at h
 obtain ⟨t, ht, h⟩ := Option.bind_eq_some_iff.1 h
 split at h
 ·rename_i ht0
  subst ht0
  split at h
  case isFalse => cases h
  rename_i hok
  simp only [okConn, Bool.and_eq_true, decide_eq_true_eq] at hok
  obtain ⟨⟨h0, h12⟩, hE⟩ := hok
  obtain ⟨n, rfl⟩ := Int.eq_ofNat_of_zero_le h0
  injection h with h
  injection h with h1 h2
  subst h2
  rw [Int.toNat_natCast] at h1
  have CC := fun W hr => components_good k n A0_1 c0_1 l0_1 W hr hc0_1 ht (by omega) (edgesIn_of (n := 12) hE)
  have HC := Aside0.mk CC
  have H1 := Aside0.mk h1
  clear CC ht hE h1
  have hrl := rootsTo_le (forestOf l0_1) n
  generalize rootsTo (forestOf l0_1) n = m at HC H1 hrl
  by_cases hm : m = 1
  ·subst hm
   go_enter Try.func104, Try.ntmps104
   go_wp2_with (first | (go_at_call 112; refine (HC.out _ (Kd.C_alloc hr0_1 _)).mono ?_; rintro e w1 ⟨A1, c1, rfl, hb⟩; have HB := Aside0.mk (below_step (below_alloc (Below.refl w.heap.size w) _) hb); clear hb))
   go_ret2
   exact ⟨by rw [← H1.out]; rfl, HB.out⟩
  ·have hmi : ((m : Nat) : Int) ≠ 1 := by omega
   go_enter Try.func104, Try.ntmps104
   go_wp2_with (first | (go_at_call 112; refine (HC.out _ (Kd.C_alloc hr0_1 _)).mono ?_; rintro e w1 ⟨A1, c1, rfl, hb⟩; have HB := Aside0.mk (below_step (below_alloc (Below.refl w.heap.size w) _) hb); clear hb))
   go_ret2
   exact ⟨by rw [← H1.out, decide_eq_false hm, ← (beq_eq_false_iff_ne.2 hmi : ((m : Int) == 1) = false)]; rfl, HB.out⟩
 ·rename_i ht0
  injection h with h
  injection h with h1 h2
  subst h1
  subst h2
  have CC := fun W hr => components_bad k a0_0 A0_1 c0_1 l0_1 t W hr hc0_1 ht ht0
  have HC := Aside0.mk CC
  clear CC ht
  go_enter Try.func104, Try.ntmps104
  go_wp2_with (first | (go_at_call 112; refine (HC.out _ (Kd.C_alloc hr0_1 _)).mono ?_; rintro e w1 ⟨rfl, hb⟩; have HB := Aside0.mk (below_step (below_alloc (Below.refl w.heap.size w) _) hb); clear hb))
  go_ret2
  exact ⟨rfl, HB.out⟩
def stabilize_rooted.f (k : Nat) (a0_0 : Int) (l0_1 : List (S66)) (a1 : Int) : Option (Int) := (connect_Connected.f k a0_0 l0_1).bind fun bt117 => (if bt117.2 = 0 then (if bt117.1 = true then (if a1 < 0 then (some 2) else (if a1 ≥ a0_0 then (some 2) else (some 0))) else (some 13)) else (some bt117.2))
theorem stabilize_rooted.mono : ∀ a0 a1 a2 k, LeO (stabilize_rooted.f k a0 a1 a2) (stabilize_rooted.f (k + 1) a0 a1 a2) := by
 intro a0 a1 a2 k
 unfold stabilize_rooted.f
 repeat' first
   | (with_reducible exact connect_Connected.mono _ _ _)
   | (with_reducible exact LeO.refl _)
   | (with_reducible exact LeO.none _)
   | (with_reducible refine LeO.ite ?_ ?_)
   | (with_reducible refine LeO.bind ?_ (fun _ => ?_))
   | exact connect_Connected.mono _ _ _
   | exact LeO.none _
   | refine LeO.ite ?_ ?_
   | refine LeO.bind ?_ (fun _ => ?_)
theorem stabilize_rooted.calls (k : Nat) (a0_0 : Int) (A0_1 : Option Addr) (c0_1 : Nat) (l0_1 : List (S66)) (a1 : Int) (r : Int) (w : World) (hr0_1 : Kd.C k66 w A0_1 l0_1.length l0_1) (hc0_1 : l0_1.length ≤ c0_1) (h : stabilize_rooted.f k a0_0 l0_1 a1 = some r) :
  Calls Try.prog 91 #[.agg #[.int .i64 a0_0, .slice A0_1 l0_1.length c0_1], .int .i64 a1] w fun e w' => e = .returned (.int .i64 r) ∧ Below w.heap.size w w' := by
 have hu24 := Try.underlying24
 have HR0_1 := Aside0.mk hr0_1
 have HC0_1 := Aside0.mk hc0_1
 clear hr0_1 hc0_1
 have HB := Aside0.mk (Below.refl w.heap.size w)
 have H : ((connect_Connected.f k a0_0 l0_1).bind fun bt117 => (if bt117.2 = 0 then (if bt117.1 = true then (if a1 < 0 then (some 2) else (if a1 ≥ a0_0 then (some 2) else (some 0))) else (some 13)) else (some bt117.2))) = some r := h
 clear h
 replace H := Option.bind_eq_some_iff.mp H
 obtain ⟨⟨t117, t118⟩, A30, H⟩ := H
 replace H : (if t118 = 0 then (if t117 = true then (if a1 < 0 then (some 2) else (if a1 ≥ a0_0 then (some 2) else (some 0))) else (some 13)) else (some t118)) = some r := H
 have A3 := Aside0.mk A30
 clear A30
 by_cases c4 : t118 = 0
 ·rw [if_pos c4] at H
  have c4b0 : (t118 == 0) = true := beq_iff_eq.mpr c4
  have c4b1 : (t118 != 0) = false := bne_eq_false_iff_eq.mpr c4
  clear c4
  by_cases c5 : t117 = true
  ·subst c5
   have H1 : (if a1 < 0 then (some 2) else (if a1 ≥ a0_0 then (some 2) else (some 0))) = some r := by rw [if_pos rfl] at H; exact H
   clear H
   have H := H1
   clear H1
   by_cases c6 : a1 < 0
   ·rw [if_pos c6] at H
    have c6b0 : decide (a1 < 0) = true := decide_eq_true c6
    clear c6
    obtain rfl := Option.some.inj H
    go_enter Try.func91, Try.ntmps91
    go_wp2_with (first | ((with_reducible refine gate_dst (N := 2) rfl ?_); refine zX 2 #[.int .i64 a0_0, .slice A0_1 l0_1.length c0_1] 24 ?_; intro gb116 hg w7 hbox hb; have BK116 := Aside0.mk (hbox); have GW116 := zG HB hg; have GE116 := zG HB hg; replace HB := zS HB hb; clear hb hbox hg; obtain ⟨hcz8_0, hcz8_1, hfz8_0, hfz8_1⟩ := zD2 BK116) | ((with_reducible refine gate_callee (f := 104) rfl ?_); refine zL (some 9) Try.func104 #[.agg #[.int .i64 a0_0, .slice A0_1 l0_1.length c0_1]] ?_; (with_reducible refine (connect_Connected.calls k a0_0 _ _ l0_1 true t118 _ ?side1 ?side2 A3.out).mono ?_); (case side1 => exact Kd.C_below HR0_1.out zB); (case side2 => exact HC0_1.out); rintro e w9 ⟨rfl, hb⟩; refine ⟨_, rfl, ?_⟩; replace BK116 := zb BK116 hb; replace HB := zS HB hb; (try clear hb)))
    go_ret
    exact ⟨zE, zB⟩
   ·rw [if_neg c6] at H
    have c6b0 : decide (a1 < 0) = false := decide_eq_false c6
    clear c6
    by_cases c10 : a1 ≥ a0_0
    ·rw [if_pos c10] at H
     have c10b0 : decide (a0_0 ≤ a1) = true := decide_eq_true c10
     clear c10
     obtain rfl := Option.some.inj H
     go_enter Try.func91, Try.ntmps91
     go_wp2_with (first | ((with_reducible refine gate_dst (N := 2) rfl ?_); refine zX 2 #[.int .i64 a0_0, .slice A0_1 l0_1.length c0_1] 24 ?_; intro gb116 hg w11 hbox hb; have BK116 := Aside0.mk (hbox); have GW116 := zG HB hg; have GE116 := zG HB hg; replace HB := zS HB hb; clear hb hbox hg; obtain ⟨hcz12_0, hcz12_1, hfz12_0, hfz12_1⟩ := zD2 BK116) | ((with_reducible refine gate_callee (f := 104) rfl ?_); refine zL (some 9) Try.func104 #[.agg #[.int .i64 a0_0, .slice A0_1 l0_1.length c0_1]] ?_; (with_reducible refine (connect_Connected.calls k a0_0 _ _ l0_1 true t118 _ ?side1 ?side2 A3.out).mono ?_); (case side1 => exact Kd.C_below HR0_1.out zB); (case side2 => exact HC0_1.out); rintro e w13 ⟨rfl, hb⟩; refine ⟨_, rfl, ?_⟩; replace BK116 := zb BK116 hb; replace HB := zS HB hb; (try clear hb); obtain ⟨hcz14_0, hcz14_1, hfz14_0, hfz14_1⟩ := zD2 BK116))
     go_ret
     exact ⟨zE, zB⟩
    ·rw [if_neg c10] at H
     have c10b0 : decide (a0_0 ≤ a1) = false := decide_eq_false c10
     clear c10
     obtain rfl := Option.some.inj H
     go_enter Try.func91, Try.ntmps91
     go_wp2_with (first | ((with_reducible refine gate_dst (N := 2) rfl ?_); refine zX 2 #[.int .i64 a0_0, .slice A0_1 l0_1.length c0_1] 24 ?_; intro gb116 hg w15 hbox hb; have BK116 := Aside0.mk (hbox); have GW116 := zG HB hg; have GE116 := zG HB hg; replace HB := zS HB hb; clear hb hbox hg; obtain ⟨hcz16_0, hcz16_1, hfz16_0, hfz16_1⟩ := zD2 BK116) | ((with_reducible refine gate_callee (f := 104) rfl ?_); refine zL (some 9) Try.func104 #[.agg #[.int .i64 a0_0, .slice A0_1 l0_1.length c0_1]] ?_; (with_reducible refine (connect_Connected.calls k a0_0 _ _ l0_1 true t118 _ ?side1 ?side2 A3.out).mono ?_); (case side1 => exact Kd.C_below HR0_1.out zB); (case side2 => exact HC0_1.out); rintro e w17 ⟨rfl, hb⟩; refine ⟨_, rfl, ?_⟩; replace BK116 := zb BK116 hb; replace HB := zS HB hb; (try clear hb); obtain ⟨hcz18_0, hcz18_1, hfz18_0, hfz18_1⟩ := zD2 BK116))
     go_ret
     exact ⟨zE, zB⟩
  ·replace c5 := Bool.eq_false_iff.mpr c5
   subst c5
   have H1 : (some 13) = some r := by rw [if_neg (show ¬ (false = true) by decide)] at H; exact H
   clear H
   have H := H1
   clear H1
   obtain rfl := Option.some.inj H
   go_enter Try.func91, Try.ntmps91
   go_wp2_with (first | ((with_reducible refine gate_dst (N := 2) rfl ?_); refine zX 2 #[.int .i64 a0_0, .slice A0_1 l0_1.length c0_1] 24 ?_; intro gb116 hg w19 hbox hb; have BK116 := Aside0.mk (hbox); have GW116 := zG HB hg; have GE116 := zG HB hg; replace HB := zS HB hb; clear hb hbox hg; obtain ⟨hcz20_0, hcz20_1, hfz20_0, hfz20_1⟩ := zD2 BK116) | ((with_reducible refine gate_callee (f := 104) rfl ?_); refine zL (some 9) Try.func104 #[.agg #[.int .i64 a0_0, .slice A0_1 l0_1.length c0_1]] ?_; (with_reducible refine (connect_Connected.calls k a0_0 _ _ l0_1 false t118 _ ?side1 ?side2 A3.out).mono ?_); (case side1 => exact Kd.C_below HR0_1.out zB); (case side2 => exact HC0_1.out); rintro e w21 ⟨rfl, hb⟩; refine ⟨_, rfl, ?_⟩; replace BK116 := zb BK116 hb; replace HB := zS HB hb; (try clear hb)))
   go_ret
   exact ⟨zE, zB⟩
 ·rw [if_neg c4] at H
  have c4b0 : (t118 == 0) = false := beq_eq_false_iff_ne.mpr c4
  have c4b1 : (t118 != 0) = true := bne_iff_ne.mpr c4
  obtain rfl := Option.some.inj H
  go_enter Try.func91, Try.ntmps91
  go_wp2_with (first | ((with_reducible refine gate_dst (N := 2) rfl ?_); refine zX 2 #[.int .i64 a0_0, .slice A0_1 l0_1.length c0_1] 24 ?_; intro gb116 hg w22 hbox hb; have BK116 := Aside0.mk (hbox); have GW116 := zG HB hg; have GE116 := zG HB hg; replace HB := zS HB hb; clear hb hbox hg; obtain ⟨hcz23_0, hcz23_1, hfz23_0, hfz23_1⟩ := zD2 BK116) | ((with_reducible refine gate_callee (f := 104) rfl ?_); refine zL (some 9) Try.func104 #[.agg #[.int .i64 a0_0, .slice A0_1 l0_1.length c0_1]] ?_; (with_reducible refine (connect_Connected.calls k a0_0 _ _ l0_1 t117 t118 _ ?side1 ?side2 A3.out).mono ?_); (case side1 => exact Kd.C_below HR0_1.out zB); (case side2 => exact HC0_1.out); rintro e w24 ⟨rfl, hb⟩; refine ⟨_, rfl, ?_⟩; replace BK116 := zb BK116 hb; replace HB := zS HB hb; (try clear hb)))
  go_ret
  exact ⟨zE, zB⟩
def chips_vertices.f (a0 : Int) : Option (Int) := if a0 < 1 then (some 2) else (if a0 > 12 then (some 2) else (some 0))
theorem chips_vertices.calls (a0 : Int) (r : Int) (w : World) (h : chips_vertices.f a0 = some r) :
  Calls Try.prog 109 #[.int .i64 a0] w fun e w' => e = .returned (.int .i64 r) ∧ Drawn0 w w' := by
 have H : (if a0 < 1 then (some 2) else (if a0 > 12 then (some 2) else (some 0))) = some r := h
 clear h
 by_cases c2 : a0 < 1
 ·rw [if_pos c2] at H
  have c2b0 : decide (a0 < 1) = true := decide_eq_true c2
  clear c2
  obtain rfl := Option.some.inj H
  go_enter Try.func109, Try.ntmps109
  go_wp2
  go_ret
  exact ⟨zT, by repeat (first | exact Drawn0.refl _ | apply Drawn0.step)⟩
 ·rw [if_neg c2] at H
  have c2b0 : decide (a0 < 1) = false := decide_eq_false c2
  clear c2
  by_cases c3 : a0 > 12
  ·rw [if_pos c3] at H
   have c3b0 : decide (12 < a0) = true := decide_eq_true c3
   clear c3
   obtain rfl := Option.some.inj H
   go_enter Try.func109, Try.ntmps109
   go_wp2
   go_ret
   exact ⟨zT, by repeat (first | exact Drawn0.refl _ | apply Drawn0.step)⟩
  ·rw [if_neg c3] at H
   have c3b0 : decide (12 < a0) = false := decide_eq_false c3
   clear c3
   obtain rfl := Option.some.inj H
   go_enter Try.func109, Try.ntmps109
   go_wp2
   go_ret
   exact ⟨zT, by repeat (first | exact Drawn0.refl _ | apply Drawn0.step)⟩
def chips_within.f (a0 : Int) : Option (Bool) := if a0 ≥ (-1048576) then (some (decide (a0 ≤ 1048576))) else (some false)
theorem chips_within.calls (a0 : Int) (r : Bool) (w : World) (h : chips_within.f a0 = some r) :
  Calls Try.prog 110 #[.int .i64 a0] w fun e w' => e = .returned (.bool r) ∧ Drawn0 w w' := by
 have H : (if a0 ≥ (-1048576) then (some (decide (a0 ≤ 1048576))) else (some false)) = some r := h
 clear h
 by_cases c2 : a0 ≥ (-1048576)
 ·rw [if_pos c2] at H
  have c2b0 : decide ((-1048576) ≤ a0) = true := decide_eq_true c2
  clear c2
  obtain rfl := Option.some.inj H
  go_enter Try.func110, Try.ntmps110
  go_wp2
  go_ret
  exact ⟨zT, by repeat (first | exact Drawn0.refl _ | apply Drawn0.step)⟩
 ·rw [if_neg c2] at H
  have c2b0 : decide ((-1048576) ≤ a0) = false := decide_eq_false c2
  clear c2
  obtain rfl := Option.some.inj H
  go_enter Try.func110, Try.ntmps110
  go_wp2
  go_ret
  exact ⟨zT, by repeat (first | exact Drawn0.refl _ | apply Drawn0.step)⟩
def chips_Check.l0 : Nat → List Int → Int → Int → Option (Int)
 | 0, _, _, _ => none
 | k + 1, x17, x18, x19 => if x19 < x18 then (if 0 ≤ x19 then (if x19 < (x17.length : Int) then ((chips_within.f (rd x17 x19)).bind fun t126 => (if t126 = true then (chips_Check.l0 k x17 x18 (wrap64 (x19 + 1))) else (some 2))) else (none)) else (none)) else (some 0)
def chips_Check.f (k : Nat) (l0 : List Int) (a1 : Int) : Option (Int) := (chips_vertices.f a1).bind fun t124 => (if t124 = 0 then (if (l0.length : Int) = a1 then (chips_Check.l0 k l0 (l0.length : Int) 0) else (some 8)) else (some t124))
theorem chips_Check.calls (k : Nat) (A0 : Option Addr) (c0 : Nat) (l0 : List Int) (a1 : Int) (r : Int) (w : World) (hr0 : Kd.C (Kd.int .i64) w A0 l0.length l0) (hc0 : l0.length ≤ c0) (h : chips_Check.f k l0 a1 = some r) :
  Calls Try.prog 101 #[.slice A0 l0.length c0, .int .i64 a1] w fun e w' => e = .returned (.int .i64 r) ∧ Drawn0 w w' := by
 have HR0 := Aside0.mk hr0
 have HC0 := Aside0.mk hc0
 clear hr0 hc0
 have H : ((chips_vertices.f a1).bind fun t124 => (if t124 = 0 then (if (l0.length : Int) = a1 then (chips_Check.l0 k l0 (l0.length : Int) 0) else (some 8)) else (some t124))) = some r := h
 clear h
 replace H := Option.bind_eq_some_iff.mp H
 obtain ⟨t124, A30, H⟩ := H
 replace H : (if t124 = 0 then (if (l0.length : Int) = a1 then (chips_Check.l0 k l0 (l0.length : Int) 0) else (some 8)) else (some t124)) = some r := H
 have A3 := Aside0.mk A30
 clear A30
 by_cases c4 : t124 = 0
 ·rw [if_pos c4] at H
  have c4b0 : (t124 == 0) = true := beq_iff_eq.mpr c4
  have c4b1 : (t124 != 0) = false := bne_eq_false_iff_eq.mpr c4
  clear c4
  by_cases c5 : (l0.length : Int) = a1
  ·rw [if_pos c5] at H
   have c5b0 : ((l0.length : Int) == a1) = true := beq_iff_eq.mpr c5
   have c5b1 : ((l0.length : Int) != a1) = false := bne_eq_false_iff_eq.mpr c5
   clear c5
   have H' := Aside0.mk H
   clear H
   go_enter Try.func101, Try.ntmps101
   go_wp2_with (first | ((with_reducible refine gate_callee (f := 109) rfl ?_); refine zL (some 9) Try.func109 #[.int .i64 a1] ?_; (with_reducible refine (chips_vertices.calls a1 t124 _ A3.out).mono ?_); rintro e w' ⟨rfl, ⟨nd, rfl⟩⟩; refine ⟨_, rfl, ?_⟩))
   go_loopg [19] k (fun kq v19 w' => ∃ (x19_1 : Int), v19 = .int .i64 x19_1 ∧ Aside0 (chips_Check.l0 kq l0 (l0.length : Int) x19_1 = some r) ∧ Aside0 (kq ≤ k) ∧ Drawn0 w w')
   case atStart => exact ⟨(0), zT, H', ⟨Nat.le_refl _⟩, by repeat (first | exact Drawn0.refl _ | apply Drawn0.step)⟩
   case round =>
    clear H'
    try clear c1
    try clear p2
    try clear c4
    try clear c4b0
    try clear c4b1
    try clear c5
    try clear c5b0
    try clear c5b1
    obtain ⟨x19_1, rfl, HA, HK1, ⟨m1, rfl⟩⟩ := hrel
    cases gk with
    | zero => exact absurd HA.out (by simp [chips_Check.l0])
    | succ k1 =>
     have H := HA.out
     clear HA
     simp only [chips_Check.l0] at H
     by_cases c6 : x19_1 < (l0.length : Int)
     ·rw [if_pos c6] at H
      have c6b0 : decide (x19_1 < (l0.length : Int)) = true := decide_eq_true c6
      clear c6
      by_cases c7 : 0 ≤ x19_1
      ·rw [if_pos c7] at H
       have c7b0 : decide (0 ≤ x19_1) = true := decide_eq_true c7
       clear c7
       by_cases c8 : x19_1 < (l0.length : Int)
       ·rw [if_pos c8] at H
        have c8b0 : decide (x19_1 < (l0.length : Int)) = true := decide_eq_true c8
        clear c8
        replace H := Option.bind_eq_some_iff.mp H
        obtain ⟨t126, A90, H⟩ := H
        replace H : (if t126 = true then (chips_Check.l0 k1 l0 (l0.length : Int) (wrap64 (x19_1 + 1))) else (some 2)) = some r := H
        have A9 := Aside0.mk A90
        clear A90
        by_cases c10 : t126 = true
        ·subst c10
         have H1 : (chips_Check.l0 k1 l0 (l0.length : Int) (wrap64 (x19_1 + 1))) = some r := by rw [if_pos rfl] at H; exact H
         clear H
         have H := H1
         clear H1
         have H' := Aside0.mk H
         clear H
         have p125 : 0 ≤ (x19_1 : Int) := of_decide_eq_true ‹_›
         have q125 : x19_1 < (l0.length : Int) := of_decide_eq_true ‹_›
         obtain ⟨ad125, e125, hx125_0⟩ := Kd.at_int HR0.out x19_1 p125 q125
         cases e125
         replace p125 := eq_true p125
         replace q125 := eq_true q125
         go_wp2_with (first | ((with_reducible refine gate_callee (f := 110) rfl ?_); refine zL (some 24) Try.func110 #[.int .i64 (rd l0 x19_1)] ?_; (with_reducible refine (chips_within.calls (rd l0 x19_1) true _ A9.out).mono ?_); rintro e w' ⟨rfl, ⟨nd, rfl⟩⟩; refine ⟨_, rfl, ?_⟩))
         go_roundg k1
         case measure => have := HK1.out; omega
         case rel => exact ⟨(wrap64 (x19_1 + 1)), zT, H', ⟨by have := HK1.out; omega⟩, by repeat (first | exact Drawn0.refl _ | apply Drawn0.step)⟩
        ·replace c10 := Bool.eq_false_iff.mpr c10
         subst c10
         have H1 : (some 2) = some r := by rw [if_neg (show ¬ (false = true) by decide)] at H; exact H
         clear H
         have H := H1
         clear H1
         obtain rfl := Option.some.inj H
         have p125 : 0 ≤ (x19_1 : Int) := of_decide_eq_true ‹_›
         have q125 : x19_1 < (l0.length : Int) := of_decide_eq_true ‹_›
         obtain ⟨ad125, e125, hx125_0⟩ := Kd.at_int HR0.out x19_1 p125 q125
         cases e125
         replace p125 := eq_true p125
         replace q125 := eq_true q125
         go_wp2_with (first | ((with_reducible refine gate_callee (f := 110) rfl ?_); refine zL (some 24) Try.func110 #[.int .i64 (rd l0 x19_1)] ?_; (with_reducible refine (chips_within.calls (rd l0 x19_1) false _ A9.out).mono ?_); rintro e w' ⟨rfl, ⟨nd, rfl⟩⟩; refine ⟨_, rfl, ?_⟩))
         go_ret
         exact ⟨zT, by repeat (first | exact Drawn0.refl _ | apply Drawn0.step)⟩
       ·rw [if_neg c8] at H
        exact absurd H (by simp)
      ·rw [if_neg c7] at H
       exact absurd H (by simp)
     ·rw [if_neg c6] at H
      have c6b0 : decide (x19_1 < (l0.length : Int)) = false := decide_eq_false c6
      clear c6
      obtain rfl := Option.some.inj H
      go_wp2
      go_ret
      exact ⟨zT, by repeat (first | exact Drawn0.refl _ | apply Drawn0.step)⟩
  ·rw [if_neg c5] at H
   have c5b0 : ((l0.length : Int) == a1) = false := beq_eq_false_iff_ne.mpr c5
   have c5b1 : ((l0.length : Int) != a1) = true := bne_iff_ne.mpr c5
   obtain rfl := Option.some.inj H
   go_enter Try.func101, Try.ntmps101
   go_wp2_with (first | ((with_reducible refine gate_callee (f := 109) rfl ?_); refine zL (some 9) Try.func109 #[.int .i64 a1] ?_; (with_reducible refine (chips_vertices.calls a1 t124 _ A3.out).mono ?_); rintro e w' ⟨rfl, ⟨nd, rfl⟩⟩; refine ⟨_, rfl, ?_⟩))
   go_ret
   exact ⟨zT, by repeat (first | exact Drawn0.refl _ | apply Drawn0.step)⟩
 ·rw [if_neg c4] at H
  have c4b0 : (t124 == 0) = false := beq_eq_false_iff_ne.mpr c4
  have c4b1 : (t124 != 0) = true := bne_iff_ne.mpr c4
  obtain rfl := Option.some.inj H
  go_enter Try.func101, Try.ntmps101
  go_wp2_with (first | ((with_reducible refine gate_callee (f := 109) rfl ?_); refine zL (some 9) Try.func109 #[.int .i64 a1] ?_; (with_reducible refine (chips_vertices.calls a1 t124 _ A3.out).mono ?_); rintro e w' ⟨rfl, ⟨nd, rfl⟩⟩; refine ⟨_, rfl, ?_⟩))
  go_ret
  exact ⟨zT, by repeat (first | exact Drawn0.refl _ | apply Drawn0.step)⟩
def stabilize_Check.l0 : Nat → Int → List Int → Int → Int → Option (Int)
 | 0, _, _, _, _ => none
 | k + 1, x1, x24, x25, x26 => if x26 < x25 then (if 0 ≤ x26 then (if x26 < (x24.length : Int) then (if x26 = x1 then (stabilize_Check.l0 k x1 x24 x25 (wrap64 (x26 + 1))) else (if (rd x24 x26) < 0 then (some 2) else (stabilize_Check.l0 k x1 x24 x25 (wrap64 (x26 + 1))))) else (none)) else (none)) else (some 0)
def stabilize_Check.f (k : Nat) (a0_0 : Int) (l0_1 : List (S66)) (a1 : Int) (l2 : List Int) : Option (Int) := (stabilize_rooted.f k a0_0 l0_1 a1).bind fun t128 => (if t128 = 0 then ((chips_Check.f k l2 a0_0).bind fun t129 => (if t129 = 0 then (stabilize_Check.l0 k a1 l2 (l2.length : Int) 0) else (some t129))) else (some t128))
theorem stabilize_Check.calls (k : Nat) (a0_0 : Int) (A0_1 : Option Addr) (c0_1 : Nat) (l0_1 : List (S66)) (a1 : Int) (A2 : Option Addr) (c2 : Nat) (l2 : List Int) (r : Int) (w : World) (hr0_1 : Kd.C k66 w A0_1 l0_1.length l0_1) (hc0_1 : l0_1.length ≤ c0_1) (hr2 : Kd.C (Kd.int .i64) w A2 l2.length l2) (hc2 : l2.length ≤ c2) (h : stabilize_Check.f k a0_0 l0_1 a1 l2 = some r) :
  Calls Try.prog 88 #[.agg #[.int .i64 a0_0, .slice A0_1 l0_1.length c0_1], .int .i64 a1, .slice A2 l2.length c2] w fun e w' => e = .returned (.int .i64 r) ∧ Below w.heap.size w w' := by
 have hu24 := Try.underlying24
 have HR0_1 := Aside0.mk hr0_1
 have HC0_1 := Aside0.mk hc0_1
 clear hr0_1 hc0_1
 have HR2 := Aside0.mk hr2
 have HC2 := Aside0.mk hc2
 clear hr2 hc2
 have HB := Aside0.mk (Below.refl w.heap.size w)
 have H : ((stabilize_rooted.f k a0_0 l0_1 a1).bind fun t128 => (if t128 = 0 then ((chips_Check.f k l2 a0_0).bind fun t129 => (if t129 = 0 then (stabilize_Check.l0 k a1 l2 (l2.length : Int) 0) else (some t129))) else (some t128))) = some r := h
 clear h
 replace H := Option.bind_eq_some_iff.mp H
 obtain ⟨t128, A40, H⟩ := H
 replace H : (if t128 = 0 then ((chips_Check.f k l2 a0_0).bind fun t129 => (if t129 = 0 then (stabilize_Check.l0 k a1 l2 (l2.length : Int) 0) else (some t129))) else (some t128)) = some r := H
 have A4 := Aside0.mk A40
 clear A40
 by_cases c5 : t128 = 0
 ·rw [if_pos c5] at H
  have c5b0 : (t128 == 0) = true := beq_iff_eq.mpr c5
  have c5b1 : (t128 != 0) = false := bne_eq_false_iff_eq.mpr c5
  clear c5
  replace H := Option.bind_eq_some_iff.mp H
  obtain ⟨t129, A60, H⟩ := H
  replace H : (if t129 = 0 then (stabilize_Check.l0 k a1 l2 (l2.length : Int) 0) else (some t129)) = some r := H
  have A6 := Aside0.mk A60
  clear A60
  by_cases c7 : t129 = 0
  ·rw [if_pos c7] at H
   have c7b0 : (t129 == 0) = true := beq_iff_eq.mpr c7
   have c7b1 : (t129 != 0) = false := bne_eq_false_iff_eq.mpr c7
   clear c7
   have H' := Aside0.mk H
   clear H
   go_enter Try.func88, Try.ntmps88
   go_wp2_with (first | ((with_reducible refine gate_dst (N := 3) rfl ?_); refine zX 3 #[.int .i64 a0_0, .slice A0_1 l0_1.length c0_1] 24 ?_; intro gb127 hg w8 hbox hb; have BK127 := Aside0.mk (hbox); have GW127 := zG HB hg; have GE127 := zG HB hg; replace HB := zS HB hb; clear hb hbox hg; obtain ⟨hcz9_0, hcz9_1, hfz9_0, hfz9_1⟩ := zD2 BK127) | ((with_reducible refine gate_callee (f := 91) rfl ?_); refine zL (some 13) Try.func91 #[.agg #[.int .i64 a0_0, .slice A0_1 l0_1.length c0_1], .int .i64 a1] ?_; (with_reducible refine (stabilize_rooted.calls k a0_0 _ _ l0_1 a1 t128 _ ?side1 ?side2 A4.out).mono ?_); (case side1 => exact Kd.C_below HR0_1.out zB); (case side2 => exact HC0_1.out); rintro e w10 ⟨rfl, hb⟩; refine ⟨_, rfl, ?_⟩; replace BK127 := zb BK127 hb; replace HB := zS HB hb; (try clear hb); obtain ⟨hcz11_0, hcz11_1, hfz11_0, hfz11_1⟩ := zD2 BK127) | ((with_reducible refine gate_callee (f := 101) rfl ?_); refine zL (some 20) Try.func101 #[.slice A2 l2.length c2, .int .i64 a0_0] ?_; (with_reducible refine (chips_Check.calls k _ _ l2 a0_0 t129 _ ?side1 ?side2 A6.out).mono ?_); (case side1 => exact Kd.C_below HR2.out zB); (case side2 => exact HC2.out); rintro e w' ⟨rfl, ⟨nd, rfl⟩⟩; refine ⟨_, rfl, ?_⟩))
   go_loopg [26] k (fun kq v26 w' => ∃ (x26_1 : Int), v26 = .int .i64 x26_1 ∧ Aside0 (stabilize_Check.l0 kq a1 l2 (l2.length : Int) x26_1 = some r) ∧ Aside0 (kq ≤ k) ∧ Aside0 (w'.heap[gb127]? = some (.cells #[.int .i64 a0_0, (.slice A0_1 l0_1.length c0_1)] 24 (0, 0))) ∧ Aside0 (Below w.heap.size w w'))
   case atStart => exact ⟨(0), zT, H', ⟨Nat.le_refl _⟩, ⟨zK BK127⟩, ⟨zB⟩⟩
   case round =>
    clear H'
    try clear c1
    try clear c2
    try clear p2
    try clear c5
    try clear c5b0
    try clear c5b1
    try clear c7
    try clear c7b0
    try clear c7b1
    try clear c8
    try clear c9
    try clear c10
    try clear hcz11_0
    try clear hcz11_1
    try clear hcz9_0
    try clear hcz9_1
    try clear hfz11_0
    try clear hfz11_1
    try clear hfz9_0
    try clear hfz9_1
    obtain ⟨x26_1, rfl, HA, HK1, BK127, HB⟩ := hrel
    cases gk with
    | zero => exact absurd HA.out (by simp [stabilize_Check.l0])
    | succ k1 =>
     have H := HA.out
     clear HA
     simp only [stabilize_Check.l0] at H
     by_cases c12 : x26_1 < (l2.length : Int)
     ·rw [if_pos c12] at H
      have c12b0 : decide (x26_1 < (l2.length : Int)) = true := decide_eq_true c12
      clear c12
      by_cases c13 : 0 ≤ x26_1
      ·rw [if_pos c13] at H
       have c13b0 : decide (0 ≤ x26_1) = true := decide_eq_true c13
       clear c13
       by_cases c14 : x26_1 < (l2.length : Int)
       ·rw [if_pos c14] at H
        have c14b0 : decide (x26_1 < (l2.length : Int)) = true := decide_eq_true c14
        clear c14
        by_cases c15 : x26_1 = a1
        ·rw [if_pos c15] at H
         have c15b0 : (x26_1 == a1) = true := beq_iff_eq.mpr c15
         have c15b1 : (x26_1 != a1) = false := bne_eq_false_iff_eq.mpr c15
         clear c15
         have H' := Aside0.mk H
         clear H
         have p130 : 0 ≤ (x26_1 : Int) := of_decide_eq_true ‹_›
         have q130 : x26_1 < (l2.length : Int) := of_decide_eq_true ‹_›
         obtain ⟨ad130, e130, hx130_0⟩ := Kd.at_int HR2.out x26_1 p130 q130
         cases e130
         replace hx130_0 := (HB.out.cell (World.block_lt_of_cell? w _ hx130_0)).trans hx130_0
         replace p130 := eq_true p130
         replace q130 := eq_true q130
         go_wp2
         go_roundg k1
         case measure => have := HK1.out; omega
         case rel => exact ⟨(wrap64 (x26_1 + 1)), zT, H', ⟨by have := HK1.out; omega⟩, ⟨zK BK127⟩, ⟨zB⟩⟩
        ·rw [if_neg c15] at H
         have c15b0 : (x26_1 == a1) = false := beq_eq_false_iff_ne.mpr c15
         have c15b1 : (x26_1 != a1) = true := bne_iff_ne.mpr c15
         by_cases c16 : (rd l2 x26_1) < 0
         ·rw [if_pos c16] at H
          have c16b0 : decide ((rd l2 x26_1) < 0) = true := decide_eq_true c16
          clear c16
          obtain rfl := Option.some.inj H
          have p130 : 0 ≤ (x26_1 : Int) := of_decide_eq_true ‹_›
          have q130 : x26_1 < (l2.length : Int) := of_decide_eq_true ‹_›
          obtain ⟨ad130, e130, hx130_0⟩ := Kd.at_int HR2.out x26_1 p130 q130
          cases e130
          replace hx130_0 := (HB.out.cell (World.block_lt_of_cell? w _ hx130_0)).trans hx130_0
          replace p130 := eq_true p130
          replace q130 := eq_true q130
          go_wp2
          go_ret
          exact ⟨zE, zB⟩
         ·rw [if_neg c16] at H
          have c16b0 : decide ((rd l2 x26_1) < 0) = false := decide_eq_false c16
          clear c16
          have H' := Aside0.mk H
          clear H
          have p130 : 0 ≤ (x26_1 : Int) := of_decide_eq_true ‹_›
          have q130 : x26_1 < (l2.length : Int) := of_decide_eq_true ‹_›
          obtain ⟨ad130, e130, hx130_0⟩ := Kd.at_int HR2.out x26_1 p130 q130
          cases e130
          replace hx130_0 := (HB.out.cell (World.block_lt_of_cell? w _ hx130_0)).trans hx130_0
          replace p130 := eq_true p130
          replace q130 := eq_true q130
          go_wp2
          go_roundg k1
          case measure => have := HK1.out; omega
          case rel => exact ⟨(wrap64 (x26_1 + 1)), zT, H', ⟨by have := HK1.out; omega⟩, ⟨zK BK127⟩, ⟨zB⟩⟩
       ·rw [if_neg c14] at H
        exact absurd H (by simp)
      ·rw [if_neg c13] at H
       exact absurd H (by simp)
     ·rw [if_neg c12] at H
      have c12b0 : decide (x26_1 < (l2.length : Int)) = false := decide_eq_false c12
      clear c12
      obtain rfl := Option.some.inj H
      go_wp2
      go_ret
      exact ⟨zE, zB⟩
  ·rw [if_neg c7] at H
   have c7b0 : (t129 == 0) = false := beq_eq_false_iff_ne.mpr c7
   have c7b1 : (t129 != 0) = true := bne_iff_ne.mpr c7
   obtain rfl := Option.some.inj H
   go_enter Try.func88, Try.ntmps88
   go_wp2_with (first | ((with_reducible refine gate_dst (N := 3) rfl ?_); refine zX 3 #[.int .i64 a0_0, .slice A0_1 l0_1.length c0_1] 24 ?_; intro gb127 hg w17 hbox hb; have BK127 := Aside0.mk (hbox); have GW127 := zG HB hg; have GE127 := zG HB hg; replace HB := zS HB hb; clear hb hbox hg; obtain ⟨hcz18_0, hcz18_1, hfz18_0, hfz18_1⟩ := zD2 BK127) | ((with_reducible refine gate_callee (f := 91) rfl ?_); refine zL (some 13) Try.func91 #[.agg #[.int .i64 a0_0, .slice A0_1 l0_1.length c0_1], .int .i64 a1] ?_; (with_reducible refine (stabilize_rooted.calls k a0_0 _ _ l0_1 a1 t128 _ ?side1 ?side2 A4.out).mono ?_); (case side1 => exact Kd.C_below HR0_1.out zB); (case side2 => exact HC0_1.out); rintro e w19 ⟨rfl, hb⟩; refine ⟨_, rfl, ?_⟩; replace BK127 := zb BK127 hb; replace HB := zS HB hb; (try clear hb); obtain ⟨hcz20_0, hcz20_1, hfz20_0, hfz20_1⟩ := zD2 BK127) | ((with_reducible refine gate_callee (f := 101) rfl ?_); refine zL (some 20) Try.func101 #[.slice A2 l2.length c2, .int .i64 a0_0] ?_; (with_reducible refine (chips_Check.calls k _ _ l2 a0_0 t129 _ ?side1 ?side2 A6.out).mono ?_); (case side1 => exact Kd.C_below HR2.out zB); (case side2 => exact HC2.out); rintro e w' ⟨rfl, ⟨nd, rfl⟩⟩; refine ⟨_, rfl, ?_⟩))
   go_ret
   exact ⟨zE, zB⟩
 ·rw [if_neg c5] at H
  have c5b0 : (t128 == 0) = false := beq_eq_false_iff_ne.mpr c5
  have c5b1 : (t128 != 0) = true := bne_iff_ne.mpr c5
  obtain rfl := Option.some.inj H
  go_enter Try.func88, Try.ntmps88
  go_wp2_with (first | ((with_reducible refine gate_dst (N := 3) rfl ?_); refine zX 3 #[.int .i64 a0_0, .slice A0_1 l0_1.length c0_1] 24 ?_; intro gb127 hg w21 hbox hb; have BK127 := Aside0.mk (hbox); have GW127 := zG HB hg; have GE127 := zG HB hg; replace HB := zS HB hb; clear hb hbox hg; obtain ⟨hcz22_0, hcz22_1, hfz22_0, hfz22_1⟩ := zD2 BK127) | ((with_reducible refine gate_callee (f := 91) rfl ?_); refine zL (some 13) Try.func91 #[.agg #[.int .i64 a0_0, .slice A0_1 l0_1.length c0_1], .int .i64 a1] ?_; (with_reducible refine (stabilize_rooted.calls k a0_0 _ _ l0_1 a1 t128 _ ?side1 ?side2 A4.out).mono ?_); (case side1 => exact Kd.C_below HR0_1.out zB); (case side2 => exact HC0_1.out); rintro e w23 ⟨rfl, hb⟩; refine ⟨_, rfl, ?_⟩; replace BK127 := zb BK127 hb; replace HB := zS HB hb; (try clear hb)))
  go_ret
  exact ⟨zE, zB⟩
def noneTo (waits : Nat → Bool) (k : Nat) : Bool := (List.range k).all fun i => !waits i
theorem noneTo_succ (waits : Nat → Bool) (k : Nat) : noneTo waits (k + 1) = (noneTo waits k && !waits k) := by simp [noneTo, List.range_succ, List.all_append]
theorem noneTo_false {waits : Nat → Bool} {k m : Nat} (h : waits k = true) (hk : k < m) : noneTo waits m = false := by
 unfold noneTo
 rw [List.all_eq_false]
 exact ⟨k, List.mem_range.2 hk, by simp [h]⟩
theorem index_calls (ad : Addr) (waits : Nat → Bool) (w : World) (hc : ∀ i, i < 12 → w.cell? (ad.add i) = some (.bool (waits i))) :
  Calls Try.prog 96 #[.slice (some ad) 12 12, .bool true] w fun e w' => ∃ r : Int, e = .returned (.int .i64 r) ∧ decide (r < 0) = noneTo waits 12 ∧ w = w' := by
 have HC := Aside0.mk hc
 clear hc
 go_enter Try.func96, Try.ntmps96
 go_wp2
 go_loop [8] (fun i => ∃ k : Nat, k ≤ 12 ∧ i = .int .i64 k ∧ Aside0 (noneTo waits k = true)) (fun i => 12 - (intOf i).toNat)
 case atStart => exact ⟨0, by omega, rfl, ⟨rfl⟩⟩
 case round =>
  obtain ⟨k, hk, rfl, HN⟩ := hrel
  by_cases hlt : k < 12
  ·have hc := HC.out k hlt
   have hi0 : (0 : Int) ≤ (k : Int) := by omega
   have hi1 : (k : Int) < 12 := by omega
   cases hb : waits k with
   | true =>
    have Hb := Lib.hid hb
    rw [hb] at hc
    clear hb
    go_wp2
    go_ret
    exact ⟨k, rfl, by rw [noneTo_false Hb.out hlt]; simp, rfl⟩
   | false =>
    have Hb := Lib.hid hb
    rw [hb] at hc
    clear hb
    go_wp2
    go_round
    case rel => exact ⟨k + 1, by omega, by go_num, ⟨by rw [noneTo_succ, HN.out, Hb.out]; rfl⟩⟩
    case measure => simp [intOf]; omega
  ·obtain rfl : k = 12 := by omega
   go_wp2
   go_ret
   exact ⟨-1, rfl, by rw [HN.out]; decide, rfl⟩
theorem next_calls (g : Nat) (d : Value) (q : Int) (rows val : Value) (waits : Nat → Bool) (w : World) (hw : PileAt w g d q rows val waits) :
  Calls Try.prog 78 #[.pointer (some ⟨g, 0, none⟩)] w fun e w' => ∃ r : Int, e = .returned (.int .i64 r) ∧ decide (r < 0) = noneTo waits 12 ∧ w = w' := by
 have hup := Try.underlying110
 have hub := Try.underlying108
 have HI := Aside0.mk (index_calls ⟨g, 6, none⟩ waits w (fun i hi => by
  have h := hw.cell_waits i hi
  rw [add_at]
  exact h))
 have hfz := hw.frozen 6
 have hlt := hw.lt
 go_enter Try.func78, Try.ntmps78
 go_wp2_with (go_at_call 96; refine HI.out.mono ?_; rintro e w1 ⟨r, rfl, hr, rfl⟩; have HR := Aside0.mk hr; clear hr)
 go_ret
 exact ⟨r, rfl, HR.out, rfl⟩
theorem rooted_zero {k : Nat} {N : Int} {E : List S66} {q : Int} (h : stabilize_rooted.f k N E q = some 0) : graph_Check.f k N E = some 0 ∧ (0 ≤ N ∧ N ≤ 12) ∧ rootsTo (forestOf E) N.toNat = 1 ∧ 0 ≤ q ∧ q < N := by
 unfold stabilize_rooted.f connect_Connected.f at h
 simp only [Option.bind_assoc] at h
 obtain ⟨t, ht, h⟩ := Option.bind_eq_some_iff.1 h
 by_cases h0 : t = 0
 ·subst h0
  rw [if_pos rfl] at h
  by_cases hk : okConn N E = true
  ·rw [if_pos hk] at h
   simp only [Option.bind_some, if_pos] at h
   simp only [okConn, Bool.and_eq_true, decide_eq_true_eq] at hk
   refine ⟨ht, hk.1, ?_⟩
   by_cases hr : rootsTo (forestOf E) N.toNat = 1
   ·simp only [hr, decide_true, if_true] at h
    by_cases h1 : q < 0
    ·rw [if_pos h1] at h; exact absurd (Option.some.inj h) (by decide)
    ·rw [if_neg h1] at h
     by_cases h2 : q ≥ N
     ·rw [if_pos h2] at h; exact absurd (Option.some.inj h) (by decide)
     ·exact ⟨hr, by omega, by omega⟩
   ·simp [hr] at h
  ·rw [if_neg hk] at h; cases h
 ·rw [if_neg h0] at h
  simp [h0] at h
def okList (N : Int) (E : List S66) : Bool := multsOk E && edgesInB N E
def stabilize_Stable.f (k : Nat) (N : Int) (E : List S66) (q : Int) (d : List Int) : Option (Bool × Int) :=
 (stabilize_Check.f k N E q d).bind fun t => if t = 0 then (if okList N E = true ∧ d.length = N.toNat then some (noneTo (looseB q (pileVal N.toNat E) d) N.toNat, 0) else none) else some (false, t)
theorem check_zero {k : Nat} {N : Int} {E : List S66} {q : Int} {d : List Int} (h : stabilize_Check.f k N E q d = some 0) : stabilize_rooted.f k N E q = some 0 := by
 unfold stabilize_Check.f at h
 obtain ⟨t, ht, h⟩ := Option.bind_eq_some_iff.1 h
 by_cases h0 : t = 0
 ·subst h0; exact ht
 ·rw [if_neg h0] at h; exact absurd (Option.some.inj h) h0
theorem noneTo_cut {f : Nat → Bool} {n m : Nat} (h : n ≤ m) : noneTo (fun x => if x < n then f x else false) m = noneTo f n := by
 unfold noneTo
 rw [Bool.eq_iff_iff, List.all_eq_true, List.all_eq_true]
 constructor
 ·intro h1 x hx
  have h2 := List.mem_range.1 hx
  have := h1 x (List.mem_range.2 (by omega))
  simpa [h2] using this
 ·intro h1 x hx
  by_cases hl : x < n
  ·have := h1 x (List.mem_range.2 hl); simpa [hl] using this
  ·simp [hl]
theorem given_good (k n : Nat) (A0 : Option Addr) (c0 : Nat) (E : List S66) (q : Int) (Ad : Option Addr) (cd : Nat) (dl : List Int) (w : World) (hr0 : Kd.C k66 w A0 E.length E) (hc0 : E.length ≤ c0) (hd : Kd.C (Kd.int .i64) w Ad dl.length dl) (hcd : dl.length ≤ cd)
  (hdl : dl.length = n) (hck : stabilize_Check.f k n E q dl = some 0) (hE : multsOk E = true) (hin : EdgesIn n E) :
  Calls Try.prog 77 #[.agg #[.int .i64 n, .slice A0 E.length c0], .int .i64 q, .slice Ad dl.length cd] w fun e w' => ∃ (gp : Nat) (Av1 Av2 : Option Addr) (cv1 cv2 : Nat) (rv : Value), e = .returned (.tuple #[.pointer (some ⟨gp, 0, none⟩), .int .i64 0]) ∧ PileAt w' gp (.slice Av1 dl.length cv1) q rv (.slice Av2 n cv2) (fun x => if x < dl.length then looseB q (pileVal n E) dl x else false) ∧ Below w.heap.size w w' := by
 have hu := Try.underlying24
 obtain ⟨hg, ⟨_, hn⟩, _, _⟩ := rooted_zero (check_zero hck)
 have Hdl := Aside0.mk hdl
 have Hck := Aside0.mk hck
 have Hg := Aside0.mk hg
 have HE := Aside0.mk hE
 have HI := Aside0.mk hin
 have hn12 : n ≤ 12 := by omega
 clear hdl hck hg hE hin hn
 have HX := Aside0.mk (heap_alloc_new w (.cells #[.int .i64 n, .slice A0 E.length c0] 24))
 go_enter Try.func77, Try.ntmps77
 go_wp2_with (first | (go_at_call 88; refine (stabilize_Check.calls k n A0 c0 E q Ad cd dl 0 _ (Kd.C_alloc hr0 _) hc0 (Kd.C_alloc hd _) hcd Hck.out).mono ?_; rintro e w1 ⟨rfl, hb⟩; have HB1 := Aside0.mk (below_step (below_alloc (Below.refl w.heap.size w) _) hb); have hx0 : w1.cell? ⟨w.heap.size, 0, none⟩ = some (.int .i64 n) := (blk_cell (blk_below HX.out hb) 0).trans rfl; have hx1 : w1.cell? ⟨w.heap.size, 1, none⟩ = some (.slice A0 E.length c0) := (blk_cell (blk_below HX.out hb) 1).trans rfl; clear hb) | (go_at_call 92; refine (pileOf_calls k n A0 c0 E q Ad cd dl _ (Kd.C_below hr0 HB1.out) hc0 (Kd.C_below hd HB1.out) hcd hn12 Hdl.out Hg.out HE.out HI.out).mono ?_; rintro e w2 ⟨gp, Av1, Av2, cv1, cv2, rv, rfl, hP, hR, hb⟩; have HP := Aside0.mk hP; have HB2 := Aside0.mk (below_step HB1.out hb); clear hP hR hb))
 go_ret2
 exact ⟨gp, Av1, Av2, cv1, cv2, rv, rfl, HP.out, HB2.out⟩
theorem given_bad (k : Nat) (N : Int) (A0 : Option Addr) (c0 : Nat) (E : List S66) (q : Int) (Ad : Option Addr) (cd : Nat) (dl : List Int) (t : Int) (w : World) (hr0 : Kd.C k66 w A0 E.length E) (hc0 : E.length ≤ c0) (hd : Kd.C (Kd.int .i64) w Ad dl.length dl) (hcd : dl.length ≤ cd)
  (hck : stabilize_Check.f k N E q dl = some t) (ht : t ≠ 0) :
  Calls Try.prog 77 #[.agg #[.int .i64 N, .slice A0 E.length c0], .int .i64 q, .slice Ad dl.length cd] w fun e w' => e = .returned (.tuple #[.pointer none, .int .i64 t]) ∧ Below w.heap.size w w' := by
 have hu := Try.underlying24
 have Hck := Aside0.mk hck
 have hne : (t != 0) = true := by simpa using ht
 clear hck ht
 go_enter Try.func77, Try.ntmps77
 go_wp2_with (go_at_call 88; refine (stabilize_Check.calls k N A0 c0 E q Ad cd dl t _ (Kd.C_alloc hr0 _) hc0 (Kd.C_alloc hd _) hcd Hck.out).mono ?_; rintro e w1 ⟨rfl, hb⟩; have HB1 := Aside0.mk (below_step (below_alloc (Below.refl w.heap.size w) _) hb); clear hb)
 go_ret2
 exact ⟨rfl, HB1.out⟩
theorem stabilize_Stable.calls (k : Nat) (a0_0 : Int) (A0_1 : Option Addr) (c0_1 : Nat) (l0_1 : List (S66)) (a1 : Int) (A2 : Option Addr) (c2 : Nat) (l2 : List Int) (r1 : Bool) (r2 : Int) (w : World) (hr0_1 : Kd.C k66 w A0_1 l0_1.length l0_1) (hc0_1 : l0_1.length ≤ c0_1) (hr2 : Kd.C (Kd.int .i64) w A2 l2.length l2) (hc2 : l2.length ≤ c2) (h : stabilize_Stable.f k a0_0 l0_1 a1 l2 = some (r1, r2)) :
  Calls Try.prog 56 #[.agg #[.int .i64 a0_0, .slice A0_1 l0_1.length c0_1], .int .i64 a1, .slice A2 l2.length c2] w fun e w' => e = .returned (.tuple #[.bool r1, .int .i64 r2]) ∧ Below w.heap.size w w' := by
 have hu := Try.underlying24
 unfold stabilize_Stable.f at h
 obtain ⟨t, ht, H⟩ := Option.bind_eq_some_iff.mp h
 clear h
 by_cases h0 : t = 0
 ·subst h0
  rw [if_pos rfl] at H
  by_cases hv : okList a0_0 l0_1 = true ∧ l2.length = a0_0.toNat
  ·rw [if_pos hv] at H
   simp only [Option.some.injEq, Prod.mk.injEq] at H
   obtain ⟨rfl, rfl⟩ := H
   obtain ⟨_, ⟨hN, hN12⟩, _, _⟩ := rooted_zero (check_zero ht)
   obtain ⟨n, rfl⟩ := Int.eq_ofNat_of_zero_le hN
   obtain ⟨hok, hlen⟩ := hv
   simp only [okList, Bool.and_eq_true] at hok
   rw [Int.toNat_natCast] at hlen ⊢
   have HG := Aside0.mk (fun W h1 h2 => given_good k n A0_1 c0_1 l0_1 a1 A2 c2 l2 W h1 hc0_1 h2 hc2 hlen ht hok.1 (edgesIn_of hok.2))
   have HL := Aside0.mk (show ∀ W : Nat → Bool, noneTo (fun x => if x < l2.length then W x else false) 12 = noneTo W n from fun W => by rw [hlen]; exact noneTo_cut (by omega))
   clear hlen hok ht
   go_enter Try.func56, Try.ntmps56
   go_wp2_with (first | (go_at_call 77; refine (HG.out _ (Kd.C_alloc hr0_1 _) (Kd.C_alloc hr2 _)).mono ?_; rintro e w1 ⟨gp, Av1, Av2, cv1, cv2, rv, rfl, hP, hb⟩; have HB := Aside0.mk (below_step (below_alloc (Below.refl w.heap.size w) _) hb); have HN := Aside0.mk (next_calls gp _ _ _ _ _ w1 hP); clear hP hb) | (go_at_call 78; refine HN.out.mono ?_; rintro e w2 ⟨r, rfl, hr, rfl⟩; rw [HL.out] at hr; have HR := Aside0.mk hr; clear hr))
   go_ret2
   refine ⟨?_, HB.out⟩
   show Ending.returned (.tuple #[.bool (decide (r < 0)), .int .i64 0]) = _
   rw [HR.out]
  ·rw [if_neg hv] at H; cases H
 ·rw [if_neg h0] at H
  simp only [Option.some.injEq, Prod.mk.injEq] at H
  obtain ⟨rfl, rfl⟩ := H
  have HG := Aside0.mk (fun W h1 h2 => given_bad k a0_0 A0_1 c0_1 l0_1 a1 A2 c2 l2 t W h1 hc0_1 h2 hc2 ht h0)
  have hne : (t == 0) = false := by simpa using h0
  clear ht h0
  go_enter Try.func56, Try.ntmps56
  go_wp2_with (go_at_call 77; refine (HG.out _ (Kd.C_alloc hr0_1 _) (Kd.C_alloc hr2 _)).mono ?_; rintro e w1 ⟨rfl, hb⟩; have HB := Aside0.mk (below_step (below_alloc (Below.refl w.heap.size w) _) hb); clear hb)
  go_ret2
  exact ⟨rfl, HB.out⟩
def sandpileref08_small.f (k : Nat) (a0_0 : Int) (l0_1 : List (S66)) (a1 : Int) (a2 : Int) : Option (Bool) := if (l0_1.length : Int) > 40 then (some false) else ((sandpileref08_Check.f k a0_0 l0_1).bind fun t112 => (if t112 = 0 then (if a0_0 ≤ a1 then ((sandpileref08_Size.f a0_0 l0_1).bind fun t113 => (some (decide (t113 ≤ a2)))) else (some false)) else (some true)))
theorem sandpileref08_small.calls (k : Nat) (a0_0 : Int) (A0_1 : Option Addr) (c0_1 : Nat) (l0_1 : List (S66)) (a1 : Int) (a2 : Int) (r : Bool) (w : World) (hr0_1 : Kd.C k66 w A0_1 l0_1.length l0_1) (hc0_1 : l0_1.length ≤ c0_1) (h : sandpileref08_small.f k a0_0 l0_1 a1 a2 = some r) :
  Calls Try.prog 41 #[.agg #[.int .i64 a0_0, .slice A0_1 l0_1.length c0_1], .int .i64 a1, .int .i64 a2] w fun e w' => e = .returned (.bool r) ∧ Below w.heap.size w w' := by
 have hu24 := Try.underlying24
 have HR0_1 := Aside0.mk hr0_1
 have HC0_1 := Aside0.mk hc0_1
 clear hr0_1 hc0_1
 have HB := Aside0.mk (Below.refl w.heap.size w)
 have H : (if (l0_1.length : Int) > 40 then (some false) else ((sandpileref08_Check.f k a0_0 l0_1).bind fun t112 => (if t112 = 0 then (if a0_0 ≤ a1 then ((sandpileref08_Size.f a0_0 l0_1).bind fun t113 => (some (decide (t113 ≤ a2)))) else (some false)) else (some true)))) = some r := h
 clear h
 by_cases c4 : (l0_1.length : Int) > 40
 ·rw [if_pos c4] at H
  have c4b0 : decide (40 < (l0_1.length : Int)) = true := decide_eq_true c4
  have c4b1 : decide (40 < l0_1.length) = true := decide_eq_true (by omega)
  clear c4
  obtain rfl := Option.some.inj H
  go_enter Try.func41, Try.ntmps41
  go_wp2_with (first | ((with_reducible refine gate_dst (N := 3) rfl ?_); refine zX 3 #[.int .i64 a0_0, .slice A0_1 l0_1.length c0_1] 24 ?_; intro gb111 hg w5 hbox hb; have BK111 := Aside0.mk (hbox); have GW111 := zG HB hg; have GE111 := zG HB hg; replace HB := zS HB hb; clear hb hbox hg; obtain ⟨hcz6_0, hcz6_1, hfz6_0, hfz6_1⟩ := zD2 BK111))
  go_ret
  exact ⟨zE, zB⟩
 ·rw [if_neg c4] at H
  have c4b0 : decide (40 < (l0_1.length : Int)) = false := decide_eq_false c4
  have c4b1 : decide (40 < l0_1.length) = false := decide_eq_false (by omega)
  clear c4
  replace H := Option.bind_eq_some_iff.mp H
  obtain ⟨t112, A70, H⟩ := H
  replace H : (if t112 = 0 then (if a0_0 ≤ a1 then ((sandpileref08_Size.f a0_0 l0_1).bind fun t113 => (some (decide (t113 ≤ a2)))) else (some false)) else (some true)) = some r := H
  have A7 := Aside0.mk A70
  clear A70
  by_cases c8 : t112 = 0
  ·rw [if_pos c8] at H
   have c8b0 : (t112 == 0) = true := beq_iff_eq.mpr c8
   have c8b1 : (t112 != 0) = false := bne_eq_false_iff_eq.mpr c8
   clear c8
   by_cases c9 : a0_0 ≤ a1
   ·rw [if_pos c9] at H
    have c9b0 : decide (a0_0 ≤ a1) = true := decide_eq_true c9
    clear c9
    replace H := Option.bind_eq_some_iff.mp H
    obtain ⟨t113, A100, H⟩ := H
    replace H : (some (decide (t113 ≤ a2))) = some r := H
    have A10 := Aside0.mk A100
    clear A100
    obtain rfl := Option.some.inj H
    go_enter Try.func41, Try.ntmps41
    go_wp2_with (first | ((with_reducible refine gate_dst (N := 3) rfl ?_); refine zX 3 #[.int .i64 a0_0, .slice A0_1 l0_1.length c0_1] 24 ?_; intro gb111 hg w11 hbox hb; have BK111 := Aside0.mk (hbox); have GW111 := zG HB hg; have GE111 := zG HB hg; replace HB := zS HB hb; clear hb hbox hg; obtain ⟨hcz12_0, hcz12_1, hfz12_0, hfz12_1⟩ := zD2 BK111) | ((with_reducible refine gate_callee (f := 46) rfl ?_); refine zL (some 12) Try.func46 #[.agg #[.int .i64 a0_0, .slice A0_1 l0_1.length c0_1]] ?_; (with_reducible refine (sandpileref08_Check.calls k a0_0 _ _ l0_1 t112 _ ?side1 ?side2 A7.out).mono ?_); (case side1 => exact Kd.C_below HR0_1.out zB); (case side2 => exact HC0_1.out); rintro e w13 ⟨rfl, hb⟩; refine ⟨_, rfl, ?_⟩; replace BK111 := zb BK111 hb; replace HB := zS HB hb; (try clear hb); obtain ⟨hcz14_0, hcz14_1, hfz14_0, hfz14_1⟩ := zD2 BK111) | (go_at_call 59; (with_reducible refine (sandpileref08_Size.calls a0_0 _ _ l0_1 t113 _ ?side1 ?side2 A10.out).mono ?_); (case side1 => exact Kd.C_below HR0_1.out zB); (case side2 => exact HC0_1.out); rintro e w15 ⟨rfl, hb⟩; replace BK111 := zb BK111 hb; replace HB := zS HB hb; (try clear hb)))
    go_ret
    exact ⟨zE, zB⟩
   ·rw [if_neg c9] at H
    have c9b0 : decide (a0_0 ≤ a1) = false := decide_eq_false c9
    clear c9
    obtain rfl := Option.some.inj H
    go_enter Try.func41, Try.ntmps41
    go_wp2_with (first | ((with_reducible refine gate_dst (N := 3) rfl ?_); refine zX 3 #[.int .i64 a0_0, .slice A0_1 l0_1.length c0_1] 24 ?_; intro gb111 hg w16 hbox hb; have BK111 := Aside0.mk (hbox); have GW111 := zG HB hg; have GE111 := zG HB hg; replace HB := zS HB hb; clear hb hbox hg; obtain ⟨hcz17_0, hcz17_1, hfz17_0, hfz17_1⟩ := zD2 BK111) | ((with_reducible refine gate_callee (f := 46) rfl ?_); refine zL (some 12) Try.func46 #[.agg #[.int .i64 a0_0, .slice A0_1 l0_1.length c0_1]] ?_; (with_reducible refine (sandpileref08_Check.calls k a0_0 _ _ l0_1 t112 _ ?side1 ?side2 A7.out).mono ?_); (case side1 => exact Kd.C_below HR0_1.out zB); (case side2 => exact HC0_1.out); rintro e w18 ⟨rfl, hb⟩; refine ⟨_, rfl, ?_⟩; replace BK111 := zb BK111 hb; replace HB := zS HB hb; (try clear hb); obtain ⟨hcz19_0, hcz19_1, hfz19_0, hfz19_1⟩ := zD2 BK111))
    go_ret
    exact ⟨zE, zB⟩
  ·rw [if_neg c8] at H
   have c8b0 : (t112 == 0) = false := beq_eq_false_iff_ne.mpr c8
   have c8b1 : (t112 != 0) = true := bne_iff_ne.mpr c8
   obtain rfl := Option.some.inj H
   go_enter Try.func41, Try.ntmps41
   go_wp2_with (first | ((with_reducible refine gate_dst (N := 3) rfl ?_); refine zX 3 #[.int .i64 a0_0, .slice A0_1 l0_1.length c0_1] 24 ?_; intro gb111 hg w20 hbox hb; have BK111 := Aside0.mk (hbox); have GW111 := zG HB hg; have GE111 := zG HB hg; replace HB := zS HB hb; clear hb hbox hg; obtain ⟨hcz21_0, hcz21_1, hfz21_0, hfz21_1⟩ := zD2 BK111) | ((with_reducible refine gate_callee (f := 46) rfl ?_); refine zL (some 12) Try.func46 #[.agg #[.int .i64 a0_0, .slice A0_1 l0_1.length c0_1]] ?_; (with_reducible refine (sandpileref08_Check.calls k a0_0 _ _ l0_1 t112 _ ?side1 ?side2 A7.out).mono ?_); (case side1 => exact Kd.C_below HR0_1.out zB); (case side2 => exact HC0_1.out); rintro e w22 ⟨rfl, hb⟩; refine ⟨_, rfl, ?_⟩; replace BK111 := zb BK111 hb; replace HB := zS HB hb; (try clear hb)))
   go_ret
   exact ⟨zE, zB⟩
def sandpileref08_FewTrees.f (k : Nat) (a0_0 : Int) (l0_1 : List (S66)) : Option (Bool) := (sandpileref08_small.f k a0_0 l0_1 5 8).bind fun t115 => (some t115)
theorem sandpileref08_FewTrees.calls (k : Nat) (a0_0 : Int) (A0_1 : Option Addr) (c0_1 : Nat) (l0_1 : List (S66)) (r : Bool) (w : World) (hr0_1 : Kd.C k66 w A0_1 l0_1.length l0_1) (hc0_1 : l0_1.length ≤ c0_1) (h : sandpileref08_FewTrees.f k a0_0 l0_1 = some r) :
  Calls Try.prog 10 #[.agg #[.int .i64 a0_0, .slice A0_1 l0_1.length c0_1]] w fun e w' => e = .returned (.bool r) ∧ Below w.heap.size w w' := by
 have hu24 := Try.underlying24
 have HR0_1 := Aside0.mk hr0_1
 have HC0_1 := Aside0.mk hc0_1
 clear hr0_1 hc0_1
 have HB := Aside0.mk (Below.refl w.heap.size w)
 have H : ((sandpileref08_small.f k a0_0 l0_1 5 8).bind fun t115 => (some t115)) = some r := h
 clear h
 replace H := Option.bind_eq_some_iff.mp H
 obtain ⟨t115, A20, H⟩ := H
 replace H : (some t115) = some r := H
 have A2 := Aside0.mk A20
 clear A20
 obtain rfl := Option.some.inj H
 go_enter Try.func10, Try.ntmps10
 go_wp2_with (first | ((with_reducible refine gate_dst (N := 1) rfl ?_); refine zX 1 #[.int .i64 a0_0, .slice A0_1 l0_1.length c0_1] 24 ?_; intro gb114 hg w3 hbox hb; have BK114 := Aside0.mk (hbox); have GW114 := zG HB hg; have GE114 := zG HB hg; replace HB := zS HB hb; clear hb hbox hg; obtain ⟨hcz4_0, hcz4_1, hfz4_0, hfz4_1⟩ := zD2 BK114) | ((with_reducible refine gate_callee (f := 41) rfl ?_); refine zL (some 4) Try.func41 #[.agg #[.int .i64 a0_0, .slice A0_1 l0_1.length c0_1], .int .i64 5, .int .i64 8] ?_; (with_reducible refine (sandpileref08_small.calls k a0_0 _ _ l0_1 5 8 t115 _ ?side1 ?side2 A2.out).mono ?_); (case side1 => exact Kd.C_below HR0_1.out zB); (case side2 => exact HC0_1.out); rintro e w5 ⟨rfl, hb⟩; refine ⟨_, rfl, ?_⟩; replace BK114 := zb BK114 hb; replace HB := zS HB hb; (try clear hb)))
 go_ret
 exact ⟨zE, zB⟩
end Go.Proofs.Ytffdiakgjakngaa.P
