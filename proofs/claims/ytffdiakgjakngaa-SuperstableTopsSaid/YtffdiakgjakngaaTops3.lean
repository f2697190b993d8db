/- A part of the proof that SuperstableTops answers true (text 3 of 15): own walks and plain laws; no conditions. -/
import Derived.Below
import Derived.BigQuiet
import Derived.Deep.AppendLies
import Derived.Deep.QuietTactic
import Derived.Deep.RegionHeld3
import Derived.Deep.RegionLaw
import Derived.Lib.Hide
import Derived.Outline
import Derived.RangeFuncBound
import Derived.RangeFuncCalls
import Derived.RangeFuncLeaves
import Derived.RangeFuncNested
import Derived.WalkSpells
import Derived.Test.YtffdiakgjakngaaTops2
namespace Go.Proofs.Ytffdiakgjakngaa.P
open Go.RowKit Go.Proofs.YtffdiakgjakngaaW.PrintWords Go.Proofs.YtffdiakgjakngaaW.PrintLast Go.Proofs.YtffdiakgjakngaaW.PrintMore
set_option linter.unusedVariables false
set_option linter.unusedSimpArgs false
set_option maxHeartbeats 8000000
set_option maxRecDepth 100000
mutual
def graph_Check.j0 : Nat → Bool → Int → List (S66) → Option (Int)
 | 0, _, _, _ => none
 | k + 1, x14, x413000, x413001 => if x14 = true then (some 2) else (graph_Check.l0 k x413001 (x413001.length : Int) 0 x413000 x413001 (-1) (-1))
def graph_Check.l0 : Nat → List (S66) → Int → Int → Int → List (S66) → Int → Int → Option (Int)
 | 0, _, _, _, _, _, _, _ => none
 | k + 1, x17, x18, x19, x413000, x413001, x414000, x414001 => if x19 < x18 then (if 0 ≤ x19 then (if x19 < (x17.length : Int) then ((graph_vertex.f x413000 ((rd_T66 x17 x19).f0)).bind fun t417 => (if t417 = true then ((graph_vertex.f x413000 ((rd_T66 x17 x19).f1)).bind fun t418 => (if t418 = true then (if ((rd_T66 x17 x19).f2) < 1 then (graph_Check.j2 k x17 x18 x19 true x413000 x413001 x414000 x414001 ((rd_T66 x17 x19).f0) ((rd_T66 x17 x19).f1) ((rd_T66 x17 x19).f2) ((rd_T66 x17 x19).f0) ((rd_T66 x17 x19).f1)) else (graph_Check.j2 k x17 x18 x19 (decide (((rd_T66 x17 x19).f2) > 50)) x413000 x413001 x414000 x414001 ((rd_T66 x17 x19).f0) ((rd_T66 x17 x19).f1) ((rd_T66 x17 x19).f2) ((rd_T66 x17 x19).f0) ((rd_T66 x17 x19).f1))) else (graph_Check.j2 k x17 x18 x19 true x413000 x413001 x414000 x414001 ((rd_T66 x17 x19).f0) ((rd_T66 x17 x19).f1) ((rd_T66 x17 x19).f2) ((rd_T66 x17 x19).f0) ((rd_T66 x17 x19).f1)))) else (graph_Check.j2 k x17 x18 x19 true x413000 x413001 x414000 x414001 ((rd_T66 x17 x19).f0) ((rd_T66 x17 x19).f1) ((rd_T66 x17 x19).f2) ((rd_T66 x17 x19).f0) ((rd_T66 x17 x19).f1)))) else (none)) else (none)) else (some 0)
def graph_Check.j2 : Nat → List (S66) → Int → Int → Bool → Int → List (S66) → Int → Int → Int → Int → Int → Int → Int → Option (Int)
 | 0, _, _, _, _, _, _, _, _, _, _, _, _, _ => none
 | k + 1, x17, x18, x19, x28, x413000, x413001, x414000, x414001, x416000, x416001, x416002, x417000, x417001 => if x28 = true then (some 2) else (if x416000 > x416001 then (some 9) else ((graph_pair_compare.f k x414000 x414001 x417000 x417001).bind fun t419 => (if t419 ≥ 0 then (some 9) else (graph_Check.l0 k x17 x18 (wrap64 (x19 + 1)) x413000 x413001 x417000 x417001))))
end
def graph_Check.f (k : Nat) (a0_0 : Int) (l0_1 : List (S66)) : Option (Int) := if a0_0 < 1 then (graph_Check.j0 k true a0_0 l0_1) else (graph_Check.j0 k (decide (a0_0 > 12)) a0_0 l0_1)
theorem graph_Check.mono_l : ∀ k, (∀ y0 y1 y2, LeO (graph_Check.j0 k y0 y1 y2) (graph_Check.j0 (k + 1) y0 y1 y2)) ∧ (∀ y0 y1 y2 y3 y4 y5 y6, LeO (graph_Check.l0 k y0 y1 y2 y3 y4 y5 y6) (graph_Check.l0 (k + 1) y0 y1 y2 y3 y4 y5 y6)) ∧ (∀ y0 y1 y2 y3 y4 y5 y6 y7 y8 y9 y10 y11 y12, LeO (graph_Check.j2 k y0 y1 y2 y3 y4 y5 y6 y7 y8 y9 y10 y11 y12) (graph_Check.j2 (k + 1) y0 y1 y2 y3 y4 y5 y6 y7 y8 y9 y10 y11 y12))
 | 0 => ⟨fun _ _ _ r h => by simp [graph_Check.j0] at h, fun _ _ _ _ _ _ _ r h => by simp [graph_Check.l0] at h, fun _ _ _ _ _ _ _ _ _ _ _ _ _ r h => by simp [graph_Check.j2] at h⟩
 | k + 1 => by
  obtain ⟨ih0, ih1, ih2⟩ := graph_Check.mono_l k
  refine ⟨?_, ?_, ?_⟩
  ·intro y0 y1 y2
   unfold graph_Check.j0
   repeat' first
   | (with_reducible exact ih0 _ _ _)
   | (with_reducible exact ih1 _ _ _ _ _ _ _)
   | (with_reducible exact ih2 _ _ _ _ _ _ _ _ _ _ _ _ _)
   | (with_reducible exact graph_pair_compare.mono _ _ _ _ _)
   | (with_reducible exact LeO.refl _)
   | (with_reducible exact LeO.none _)
   | (with_reducible refine LeO.ite ?_ ?_)
   | (with_reducible refine LeO.bind ?_ (fun _ => ?_))
   | exact ih0 _ _ _
   | exact ih1 _ _ _ _ _ _ _
   | exact ih2 _ _ _ _ _ _ _ _ _ _ _ _ _
   | exact graph_pair_compare.mono _ _ _ _ _
   | exact LeO.none _
   | refine LeO.ite ?_ ?_
   | refine LeO.bind ?_ (fun _ => ?_)
  ·intro y0 y1 y2 y3 y4 y5 y6
   unfold graph_Check.l0
   repeat' first
   | (with_reducible exact ih0 _ _ _)
   | (with_reducible exact ih1 _ _ _ _ _ _ _)
   | (with_reducible exact ih2 _ _ _ _ _ _ _ _ _ _ _ _ _)
   | (with_reducible exact graph_pair_compare.mono _ _ _ _ _)
   | (with_reducible exact LeO.refl _)
   | (with_reducible exact LeO.none _)
   | (with_reducible refine LeO.ite ?_ ?_)
   | (with_reducible refine LeO.bind ?_ (fun _ => ?_))
   | exact ih0 _ _ _
   | exact ih1 _ _ _ _ _ _ _
   | exact ih2 _ _ _ _ _ _ _ _ _ _ _ _ _
   | exact graph_pair_compare.mono _ _ _ _ _
   | exact LeO.none _
   | refine LeO.ite ?_ ?_
   | refine LeO.bind ?_ (fun _ => ?_)
  ·intro y0 y1 y2 y3 y4 y5 y6 y7 y8 y9 y10 y11 y12
   unfold graph_Check.j2
   repeat' first
   | (with_reducible exact ih0 _ _ _)
   | (with_reducible exact ih1 _ _ _ _ _ _ _)
   | (with_reducible exact ih2 _ _ _ _ _ _ _ _ _ _ _ _ _)
   | (with_reducible exact graph_pair_compare.mono _ _ _ _ _)
   | (with_reducible exact LeO.refl _)
   | (with_reducible exact LeO.none _)
   | (with_reducible refine LeO.ite ?_ ?_)
   | (with_reducible refine LeO.bind ?_ (fun _ => ?_))
   | exact ih0 _ _ _
   | exact ih1 _ _ _ _ _ _ _
   | exact ih2 _ _ _ _ _ _ _ _ _ _ _ _ _
   | exact graph_pair_compare.mono _ _ _ _ _
   | exact LeO.none _
   | refine LeO.ite ?_ ?_
   | refine LeO.bind ?_ (fun _ => ?_)
theorem graph_Check.mono : ∀ a0 a1 k, LeO (graph_Check.f k a0 a1) (graph_Check.f (k + 1) a0 a1) := by
 intro a0 a1 k
 obtain ⟨ih0, ih1, ih2⟩ := graph_Check.mono_l k
 unfold graph_Check.f
 repeat' first
   | (with_reducible exact ih0 _ _ _)
   | (with_reducible exact ih1 _ _ _ _ _ _ _)
   | (with_reducible exact ih2 _ _ _ _ _ _ _ _ _ _ _ _ _)
   | (with_reducible exact graph_pair_compare.mono _ _ _ _ _)
   | (with_reducible exact LeO.refl _)
   | (with_reducible exact LeO.none _)
   | (with_reducible refine LeO.ite ?_ ?_)
   | (with_reducible refine LeO.bind ?_ (fun _ => ?_))
   | exact ih0 _ _ _
   | exact ih1 _ _ _ _ _ _ _
   | exact ih2 _ _ _ _ _ _ _ _ _ _ _ _ _
   | exact graph_pair_compare.mono _ _ _ _ _
   | exact LeO.none _
   | refine LeO.ite ?_ ?_
   | refine LeO.bind ?_ (fun _ => ?_)
theorem graph_Check.calls (k : Nat) (a0_0 : Int) (A0_1 : Option Addr) (c0_1 : Nat) (l0_1 : List (S66)) (r : Int) (w : World) (hr0_1 : Kd.C k66 w A0_1 l0_1.length l0_1) (hc0_1 : l0_1.length ≤ c0_1) (h : graph_Check.f k a0_0 l0_1 = some r) :
  Calls Try.prog 113 #[.agg #[.int .i64 a0_0, .slice A0_1 l0_1.length c0_1]] w fun e w' => e = .returned (.int .i64 r) ∧ Below w.heap.size w w' := by
 have hu24 := Try.underlying24
 have hu137 := Try.underlying137
 have hu66 := Try.underlying66
 have HR0_1 := Aside0.mk hr0_1
 have HC0_1 := Aside0.mk hc0_1
 clear hr0_1 hc0_1
 have HB := Aside0.mk (Below.refl w.heap.size w)
 have H : (if a0_0 < 1 then (graph_Check.j0 k true a0_0 l0_1) else (graph_Check.j0 k (decide (a0_0 > 12)) a0_0 l0_1)) = some r := h
 clear h
 have HC2 := Aside0.mk H
 clear H
 go_enter Try.func113, Try.ntmps113
 go_upto_region 1 with (first | ((with_reducible refine gate_dst (N := 1) rfl ?_); refine zX 1 #[.int .i64 a0_0, .slice A0_1 l0_1.length c0_1] 24 ?_; intro gb412 hg w3 hbox hb; have BK412 := Aside0.mk (hbox); have GW412 := zG HB hg; have GE412 := zG HB hg; replace HB := zS HB hb; clear hb hbox hg))
 (try simp only [Act.put, List.setIfInBounds_toArray, List.set_cons_zero, List.set_cons_succ])
 go_cut [14] (fun v14 wc => ∃ (kq : Nat) (x14_1 : Bool), v14 = .bool x14_1 ∧ Aside0 (graph_Check.j0 kq x14_1 a0_0 l0_1 = some r) ∧ Aside0 (kq ≤ k) ∧ Aside0 (wc.heap[gb412]? = some (.cells #[.int .i64 a0_0, (.slice A0_1 l0_1.length c0_1)] 24 (0, 0))) ∧ Aside0 (Below w.heap.size w wc))
 case first =>
  have H := HC2.out
  clear HC2
  by_cases c4 : a0_0 < 1
  ·rw [if_pos c4] at H
   have c4b0 : decide (a0_0 < 1) = true := decide_eq_true c4
   clear c4
   (first | rw [c4b0] | (simp only [i64_w, i32_w]; rw [c4b0]) | skip)
   have H' := Aside0.mk H
   clear H
   obtain ⟨hcz5_0, hcz5_1, hfz5_0, hfz5_1⟩ := zD2 BK412
   go_wp2
   go_meet
   case rel => exact ⟨_, (true), zT, H', ⟨by first | omega | exact Nat.le_refl _⟩, ⟨zK BK412⟩, ⟨zB⟩⟩
  ·rw [if_neg c4] at H
   have c4b0 : decide (a0_0 < 1) = false := decide_eq_false c4
   clear c4
   (first | rw [c4b0] | (simp only [i64_w, i32_w]; rw [c4b0]) | skip)
   have H' := Aside0.mk H
   clear H
   obtain ⟨hcz6_0, hcz6_1, hfz6_0, hfz6_1⟩ := zD2 BK412
   go_wp2
   go_meet
   case rel => exact ⟨_, (decide (a0_0 > 12)), zT, H', ⟨by first | omega | exact Nat.le_refl _⟩, ⟨zK BK412⟩, ⟨zB⟩⟩
 case rest =>
  clear HC2
  try clear c1
  try clear p2
  try clear c4
  try clear c4b0
  try clear hcz5_0
  try clear hcz5_1
  try clear hcz6_0
  try clear hcz6_1
  try clear hfz5_0
  try clear hfz5_1
  try clear hfz6_0
  try clear hfz6_1
  obtain ⟨kq, x14_1, rfl, HA, HJ1, BK412, HB⟩ := hcut
  cases kq with
  | zero => exact absurd HA.out (by simp [graph_Check.j0])
  | succ kj1 =>
   have H := HA.out
   clear HA
   simp only [graph_Check.j0] at H
   by_cases c7 : x14_1 = true
   ·subst c7
    have H1 : (some 2) = some r := by rw [if_pos rfl] at H; exact H
    clear H
    have H := H1
    clear H1
    obtain rfl := Option.some.inj H
    go_wp2
    go_ret
    exact ⟨zE, zB⟩
   ·replace c7 := Bool.eq_false_iff.mpr c7
    subst c7
    have H1 : (graph_Check.l0 kj1 l0_1 (l0_1.length : Int) 0 a0_0 l0_1 (-1) (-1)) = some r := by rw [if_neg (show ¬ (false = true) by decide)] at H; exact H
    clear H
    have H := H1
    clear H1
    have H' := Aside0.mk H
    clear H
    go_wp2_with (first | ((with_reducible refine gate_dst (N := 3) rfl ?_); refine zX 3 #[.int .i64 0, .int .i64 0] 137 ?_; intro gb413 hg w8 hbox hb; have BK413 := Aside0.mk (hbox); have GW413 := zG HB hg; have GE413 := zG HB hg; replace HB := zS HB hb; have NB412_413 := Aside0.mk ((by rw [hg]; exact Nat.ne_of_lt (blk_lt (g := gb412) (o := .cells #[.int .i64 a0_0, .slice A0_1 l0_1.length c0_1] 24 (0, 0)) (zK BK412)) : gb412 ≠ gb413)); have NB413_412 := Aside0.mk ((by rw [hg]; exact Nat.ne_of_gt (blk_lt (g := gb412) (o := .cells #[.int .i64 a0_0, .slice A0_1 l0_1.length c0_1] 24 (0, 0)) (zK BK412)) : gb413 ≠ gb412)); replace BK412 := zb BK412 hb; clear hb hbox hg; have hnb9 := NB413_412.out; have hnc9 := NB412_413.out; obtain ⟨hcz10_0, hcz10_1, hfz10_0, hfz10_1⟩ := zD2 BK413; obtain ⟨hcz11_0, hcz11_1, hfz11_0, hfz11_1⟩ := zD2 BK412))
    go_loopg [19] kj1 (fun kq v19 w' => ∃ (x19_2 : Int) (x414000_2 : Int) (x414001_2 : Int), v19 = .int .i64 x19_2 ∧ Aside0 (graph_Check.l0 kq l0_1 (l0_1.length : Int) x19_2 a0_0 l0_1 x414000_2 x414001_2 = some r) ∧ Aside0 (kq ≤ kj1) ∧ Aside0 (w'.heap[gb412]? = some (.cells #[.int .i64 a0_0, (.slice A0_1 l0_1.length c0_1)] 24 (0, 0))) ∧ Aside0 (w'.heap[gb413]? = some (.cells #[.int .i64 x414000_2, .int .i64 x414001_2] 137 (0, 0))) ∧ Aside0 (Below w.heap.size w w'))
    case atStart => exact ⟨(0), ((-1)), ((-1)), zT, H', ⟨Nat.le_refl _⟩, ⟨by refine zk ?_; refine blk_far ?_ NB412_413.out _; refine zk ?_; refine blk_far ?_ NB412_413.out _; exact zK BK412⟩, ⟨by refine zk ?_; refine blk_put (cs := #[.int .i64 (-1), .int .i64 0]) ?_ 1 _ rfl; refine zk ?_; refine blk_put (cs := #[.int .i64 0, .int .i64 0]) ?_ 0 _ rfl; exact zK BK413⟩, ⟨zB⟩⟩
    case round =>
     clear H'
     try clear c1
     try clear p2
     try clear c4
     try clear c4b0
     try clear c7
     try clear c9
     try clear c11
     try clear hcz10_0
     try clear hcz10_1
     try clear hcz11_0
     try clear hcz11_1
     try clear hcz5_0
     try clear hcz5_1
     try clear hcz6_0
     try clear hcz6_1
     try clear hfz10_0
     try clear hfz10_1
     try clear hfz11_0
     try clear hfz11_1
     try clear hfz5_0
     try clear hfz5_1
     try clear hfz6_0
     try clear hfz6_1
     try clear p2
     obtain ⟨x19_2, x414000_2, x414001_2, rfl, HA, HK2, BK412, BK413, HB⟩ := hrel
     cases gk with
     | zero => exact absurd HA.out (by simp [graph_Check.l0])
     | succ k2 =>
      have H := HA.out
      clear HA
      simp only [graph_Check.l0] at H
      by_cases c12 : x19_2 < (l0_1.length : Int)
      ·rw [if_pos c12] at H
       have c12b0 : decide (x19_2 < (l0_1.length : Int)) = true := decide_eq_true c12
       clear c12
       by_cases c13 : 0 ≤ x19_2
       ·rw [if_pos c13] at H
        have c13b0 : decide (0 ≤ x19_2) = true := decide_eq_true c13
        clear c13
        by_cases c14 : x19_2 < (l0_1.length : Int)
        ·rw [if_pos c14] at H
         have c14b0 : decide (x19_2 < (l0_1.length : Int)) = true := decide_eq_true c14
         clear c14
         have HC15 := Aside0.mk H
         clear H
         have p414 : 0 ≤ (x19_2 : Int) := of_decide_eq_true ‹_›
         have q414 : x19_2 < (l0_1.length : Int) := of_decide_eq_true ‹_›
         obtain ⟨ad414, e414, hx414_0, hx414_1, hx414_2⟩ := at_T66 HR0_1.out x19_2 p414 q414
         cases e414
         replace hx414_0 := (HB.out.cell (World.block_lt_of_cell? w _ hx414_0)).trans hx414_0
         replace hx414_1 := (HB.out.cell (World.block_lt_of_cell? w _ hx414_1)).trans hx414_1
         replace hx414_2 := (HB.out.cell (World.block_lt_of_cell? w _ hx414_2)).trans hx414_2
         replace p414 := eq_true p414
         replace q414 := eq_true q414
         go_upto_region 8 with (first | ((with_reducible refine gate_dst (N := 5) rfl ?_); refine zX 5 #[.int .i64 0, .int .i64 0, .int .i64 0] 66 ?_; intro gb415 hg w16 hbox hb; have BK415 := Aside0.mk (hbox); have GW415 := zG HB hg; have GE415 := zG HB hg; replace HB := zS HB hb; have NB412_415 := Aside0.mk ((by rw [hg]; exact Nat.ne_of_lt (blk_lt (g := gb412) (o := .cells #[.int .i64 a0_0, .slice (some ad414) l0_1.length c0_1] 24 (0, 0)) (zK BK412)) : gb412 ≠ gb415)); have NB415_412 := Aside0.mk ((by rw [hg]; exact Nat.ne_of_gt (blk_lt (g := gb412) (o := .cells #[.int .i64 a0_0, .slice (some ad414) l0_1.length c0_1] 24 (0, 0)) (zK BK412)) : gb415 ≠ gb412)); replace BK412 := zb BK412 hb; have NB413_415 := Aside0.mk ((by rw [hg]; exact Nat.ne_of_lt (blk_lt (g := gb413) (o := .cells #[.int .i64 x414000_2, .int .i64 x414001_2] 137 (0, 0)) (zK BK413)) : gb413 ≠ gb415)); have NB415_413 := Aside0.mk ((by rw [hg]; exact Nat.ne_of_gt (blk_lt (g := gb413) (o := .cells #[.int .i64 x414000_2, .int .i64 x414001_2] 137 (0, 0)) (zK BK413)) : gb415 ≠ gb413)); replace BK413 := zb BK413 hb; clear hb hbox hg; have hnb17 := NB415_412.out; have hnc17 := NB412_415.out; have hnb18 := NB415_413.out; have hnc18 := NB413_415.out; obtain ⟨hcz19_0, hcz19_1, hcz19_2, hfz19_0, hfz19_1, hfz19_2⟩ := zD3 BK415) | ((with_reducible refine gate_dst (N := 6) rfl ?_); refine zX 6 #[.int .i64 0, .int .i64 0] 137 ?_; intro gb416 hg w20 hbox hb; have BK416 := Aside0.mk (hbox); have GW416 := zG HB hg; have GE416 := zG HB hg; replace HB := zS HB hb; have NB412_416 := Aside0.mk ((by rw [hg]; exact Nat.ne_of_lt (blk_lt (g := gb412) (o := .cells #[.int .i64 a0_0, .slice (some ad414) l0_1.length c0_1] 24 (0, 0)) (by refine zk ?_; refine blk_far ?_ NB412_415.out _; refine zk ?_; refine blk_far ?_ NB412_415.out _; refine zk ?_; refine blk_far ?_ NB412_415.out _; exact zK BK412)) : gb412 ≠ gb416)); have NB416_412 := Aside0.mk ((by rw [hg]; exact Nat.ne_of_gt (blk_lt (g := gb412) (o := .cells #[.int .i64 a0_0, .slice (some ad414) l0_1.length c0_1] 24 (0, 0)) (by refine zk ?_; refine blk_far ?_ NB412_415.out _; refine zk ?_; refine blk_far ?_ NB412_415.out _; refine zk ?_; refine blk_far ?_ NB412_415.out _; exact zK BK412)) : gb416 ≠ gb412)); replace BK412 := Aside0.mk (blk_below (g := gb412) (o := .cells #[.int .i64 a0_0, .slice (some ad414) l0_1.length c0_1] 24 (0, 0)) (by refine zk ?_; refine blk_far ?_ NB412_415.out _; refine zk ?_; refine blk_far ?_ NB412_415.out _; refine zk ?_; refine blk_far ?_ NB412_415.out _; exact zK BK412) hb); have NB413_416 := Aside0.mk ((by rw [hg]; exact Nat.ne_of_lt (blk_lt (g := gb413) (o := .cells #[.int .i64 x414000_2, .int .i64 x414001_2] 137 (0, 0)) (by refine zk ?_; refine blk_far ?_ NB413_415.out _; refine zk ?_; refine blk_far ?_ NB413_415.out _; refine zk ?_; refine blk_far ?_ NB413_415.out _; exact zK BK413)) : gb413 ≠ gb416)); have NB416_413 := Aside0.mk ((by rw [hg]; exact Nat.ne_of_gt (blk_lt (g := gb413) (o := .cells #[.int .i64 x414000_2, .int .i64 x414001_2] 137 (0, 0)) (by refine zk ?_; refine blk_far ?_ NB413_415.out _; refine zk ?_; refine blk_far ?_ NB413_415.out _; refine zk ?_; refine blk_far ?_ NB413_415.out _; exact zK BK413)) : gb416 ≠ gb413)); replace BK413 := Aside0.mk (blk_below (g := gb413) (o := .cells #[.int .i64 x414000_2, .int .i64 x414001_2] 137 (0, 0)) (by refine zk ?_; refine blk_far ?_ NB413_415.out _; refine zk ?_; refine blk_far ?_ NB413_415.out _; refine zk ?_; refine blk_far ?_ NB413_415.out _; exact zK BK413) hb); have NB415_416 := Aside0.mk ((by rw [hg]; exact Nat.ne_of_lt (blk_lt (g := gb415) (o := .cells #[.int .i64 ((rd_T66 l0_1 x19_2).f0), .int .i64 ((rd_T66 l0_1 x19_2).f1), .int .i64 ((rd_T66 l0_1 x19_2).f2)] 66 (0, 0)) (by refine zk ?_; refine blk_put (cs := #[.int .i64 ((rd_T66 l0_1 x19_2).f0), .int .i64 ((rd_T66 l0_1 x19_2).f1), .int .i64 0]) ?_ 2 _ rfl; refine zk ?_; refine blk_put (cs := #[.int .i64 ((rd_T66 l0_1 x19_2).f0), .int .i64 0, .int .i64 0]) ?_ 1 _ rfl; refine zk ?_; refine blk_put (cs := #[.int .i64 0, .int .i64 0, .int .i64 0]) ?_ 0 _ rfl; exact zK BK415)) : gb415 ≠ gb416)); have NB416_415 := Aside0.mk ((by rw [hg]; exact Nat.ne_of_gt (blk_lt (g := gb415) (o := .cells #[.int .i64 ((rd_T66 l0_1 x19_2).f0), .int .i64 ((rd_T66 l0_1 x19_2).f1), .int .i64 ((rd_T66 l0_1 x19_2).f2)] 66 (0, 0)) (by refine zk ?_; refine blk_put (cs := #[.int .i64 ((rd_T66 l0_1 x19_2).f0), .int .i64 ((rd_T66 l0_1 x19_2).f1), .int .i64 0]) ?_ 2 _ rfl; refine zk ?_; refine blk_put (cs := #[.int .i64 ((rd_T66 l0_1 x19_2).f0), .int .i64 0, .int .i64 0]) ?_ 1 _ rfl; refine zk ?_; refine blk_put (cs := #[.int .i64 0, .int .i64 0, .int .i64 0]) ?_ 0 _ rfl; exact zK BK415)) : gb416 ≠ gb415)); replace BK415 := Aside0.mk (blk_below (g := gb415) (o := .cells #[.int .i64 ((rd_T66 l0_1 x19_2).f0), .int .i64 ((rd_T66 l0_1 x19_2).f1), .int .i64 ((rd_T66 l0_1 x19_2).f2)] 66 (0, 0)) (by refine zk ?_; refine blk_put (cs := #[.int .i64 ((rd_T66 l0_1 x19_2).f0), .int .i64 ((rd_T66 l0_1 x19_2).f1), .int .i64 0]) ?_ 2 _ rfl; refine zk ?_; refine blk_put (cs := #[.int .i64 ((rd_T66 l0_1 x19_2).f0), .int .i64 0, .int .i64 0]) ?_ 1 _ rfl; refine zk ?_; refine blk_put (cs := #[.int .i64 0, .int .i64 0, .int .i64 0]) ?_ 0 _ rfl; exact zK BK415) hb); clear hb hbox hg; have hnb21 := NB416_412.out; have hnc21 := NB412_416.out; have hnb22 := NB416_413.out; have hnc22 := NB413_416.out; have hnb23 := NB416_415.out; have hnc23 := NB415_416.out; obtain ⟨hcz24_0, hcz24_1, hfz24_0, hfz24_1⟩ := zD2 BK416))
         (try simp only [Act.put, List.setIfInBounds_toArray, List.set_cons_zero, List.set_cons_succ])
         go_cut [28] (fun v28 wc => ∃ (kq : Nat) (x28_14 : Bool), v28 = .bool x28_14 ∧ Aside0 (graph_Check.j2 kq l0_1 (l0_1.length : Int) x19_2 x28_14 a0_0 l0_1 x414000_2 x414001_2 ((rd_T66 l0_1 x19_2).f0) ((rd_T66 l0_1 x19_2).f1) ((rd_T66 l0_1 x19_2).f2) ((rd_T66 l0_1 x19_2).f0) ((rd_T66 l0_1 x19_2).f1) = some r) ∧ Aside0 (kq ≤ k2) ∧ Aside0 (wc.heap[gb412]? = some (.cells #[.int .i64 a0_0, (.slice (some ad414) l0_1.length c0_1)] 24 (0, 0))) ∧ Aside0 (wc.heap[gb413]? = some (.cells #[.int .i64 x414000_2, .int .i64 x414001_2] 137 (0, 0))) ∧ Aside0 (wc.heap[gb415]? = some (.cells #[.int .i64 ((rd_T66 l0_1 x19_2).f0), .int .i64 ((rd_T66 l0_1 x19_2).f1), .int .i64 ((rd_T66 l0_1 x19_2).f2)] 66 (0, 0))) ∧ Aside0 (wc.heap[gb416]? = some (.cells #[.int .i64 ((rd_T66 l0_1 x19_2).f0), .int .i64 ((rd_T66 l0_1 x19_2).f1)] 137 (0, 0))) ∧ Aside0 (Below w.heap.size w wc))
         case first =>
          have H := HC15.out
          clear HC15
          replace H := Option.bind_eq_some_iff.mp H
          obtain ⟨t417, A250, H⟩ := H
          replace H : (if t417 = true then ((graph_vertex.f a0_0 ((rd_T66 l0_1 x19_2).f1)).bind fun t418 => (if t418 = true then (if ((rd_T66 l0_1 x19_2).f2) < 1 then (graph_Check.j2 k2 l0_1 (l0_1.length : Int) x19_2 true a0_0 l0_1 x414000_2 x414001_2 ((rd_T66 l0_1 x19_2).f0) ((rd_T66 l0_1 x19_2).f1) ((rd_T66 l0_1 x19_2).f2) ((rd_T66 l0_1 x19_2).f0) ((rd_T66 l0_1 x19_2).f1)) else (graph_Check.j2 k2 l0_1 (l0_1.length : Int) x19_2 (decide (((rd_T66 l0_1 x19_2).f2) > 50)) a0_0 l0_1 x414000_2 x414001_2 ((rd_T66 l0_1 x19_2).f0) ((rd_T66 l0_1 x19_2).f1) ((rd_T66 l0_1 x19_2).f2) ((rd_T66 l0_1 x19_2).f0) ((rd_T66 l0_1 x19_2).f1))) else (graph_Check.j2 k2 l0_1 (l0_1.length : Int) x19_2 true a0_0 l0_1 x414000_2 x414001_2 ((rd_T66 l0_1 x19_2).f0) ((rd_T66 l0_1 x19_2).f1) ((rd_T66 l0_1 x19_2).f2) ((rd_T66 l0_1 x19_2).f0) ((rd_T66 l0_1 x19_2).f1)))) else (graph_Check.j2 k2 l0_1 (l0_1.length : Int) x19_2 true a0_0 l0_1 x414000_2 x414001_2 ((rd_T66 l0_1 x19_2).f0) ((rd_T66 l0_1 x19_2).f1) ((rd_T66 l0_1 x19_2).f2) ((rd_T66 l0_1 x19_2).f0) ((rd_T66 l0_1 x19_2).f1))) = some r := H
          have A25 := Aside0.mk A250
          clear A250
          by_cases c26 : t417 = true
          ·subst c26
           have H1 : ((graph_vertex.f a0_0 ((rd_T66 l0_1 x19_2).f1)).bind fun t418 => (if t418 = true then (if ((rd_T66 l0_1 x19_2).f2) < 1 then (graph_Check.j2 k2 l0_1 (l0_1.length : Int) x19_2 true a0_0 l0_1 x414000_2 x414001_2 ((rd_T66 l0_1 x19_2).f0) ((rd_T66 l0_1 x19_2).f1) ((rd_T66 l0_1 x19_2).f2) ((rd_T66 l0_1 x19_2).f0) ((rd_T66 l0_1 x19_2).f1)) else (graph_Check.j2 k2 l0_1 (l0_1.length : Int) x19_2 (decide (((rd_T66 l0_1 x19_2).f2) > 50)) a0_0 l0_1 x414000_2 x414001_2 ((rd_T66 l0_1 x19_2).f0) ((rd_T66 l0_1 x19_2).f1) ((rd_T66 l0_1 x19_2).f2) ((rd_T66 l0_1 x19_2).f0) ((rd_T66 l0_1 x19_2).f1))) else (graph_Check.j2 k2 l0_1 (l0_1.length : Int) x19_2 true a0_0 l0_1 x414000_2 x414001_2 ((rd_T66 l0_1 x19_2).f0) ((rd_T66 l0_1 x19_2).f1) ((rd_T66 l0_1 x19_2).f2) ((rd_T66 l0_1 x19_2).f0) ((rd_T66 l0_1 x19_2).f1)))) = some r := by rw [if_pos rfl] at H; exact H
           clear H
           have H := H1
           clear H1
           replace H := Option.bind_eq_some_iff.mp H
           obtain ⟨t418, A270, H⟩ := H
           replace H : (if t418 = true then (if ((rd_T66 l0_1 x19_2).f2) < 1 then (graph_Check.j2 k2 l0_1 (l0_1.length : Int) x19_2 true a0_0 l0_1 x414000_2 x414001_2 ((rd_T66 l0_1 x19_2).f0) ((rd_T66 l0_1 x19_2).f1) ((rd_T66 l0_1 x19_2).f2) ((rd_T66 l0_1 x19_2).f0) ((rd_T66 l0_1 x19_2).f1)) else (graph_Check.j2 k2 l0_1 (l0_1.length : Int) x19_2 (decide (((rd_T66 l0_1 x19_2).f2) > 50)) a0_0 l0_1 x414000_2 x414001_2 ((rd_T66 l0_1 x19_2).f0) ((rd_T66 l0_1 x19_2).f1) ((rd_T66 l0_1 x19_2).f2) ((rd_T66 l0_1 x19_2).f0) ((rd_T66 l0_1 x19_2).f1))) else (graph_Check.j2 k2 l0_1 (l0_1.length : Int) x19_2 true a0_0 l0_1 x414000_2 x414001_2 ((rd_T66 l0_1 x19_2).f0) ((rd_T66 l0_1 x19_2).f1) ((rd_T66 l0_1 x19_2).f2) ((rd_T66 l0_1 x19_2).f0) ((rd_T66 l0_1 x19_2).f1))) = some r := H
           have A27 := Aside0.mk A270
           clear A270
           by_cases c28 : t418 = true
           ·subst c28
            have H1 : (if ((rd_T66 l0_1 x19_2).f2) < 1 then (graph_Check.j2 k2 l0_1 (l0_1.length : Int) x19_2 true a0_0 l0_1 x414000_2 x414001_2 ((rd_T66 l0_1 x19_2).f0) ((rd_T66 l0_1 x19_2).f1) ((rd_T66 l0_1 x19_2).f2) ((rd_T66 l0_1 x19_2).f0) ((rd_T66 l0_1 x19_2).f1)) else (graph_Check.j2 k2 l0_1 (l0_1.length : Int) x19_2 (decide (((rd_T66 l0_1 x19_2).f2) > 50)) a0_0 l0_1 x414000_2 x414001_2 ((rd_T66 l0_1 x19_2).f0) ((rd_T66 l0_1 x19_2).f1) ((rd_T66 l0_1 x19_2).f2) ((rd_T66 l0_1 x19_2).f0) ((rd_T66 l0_1 x19_2).f1))) = some r := by rw [if_pos rfl] at H; exact H
            clear H
            have H := H1
            clear H1
            by_cases c29 : ((rd_T66 l0_1 x19_2).f2) < 1
            ·rw [if_pos c29] at H
             have c29b0 : decide (((rd_T66 l0_1 x19_2).f2) < 1) = true := decide_eq_true c29
             clear c29
             (first | rw [c29b0] | (simp only [i64_w, i32_w]; rw [c29b0]) | skip)
             have H' := Aside0.mk H
             clear H
             have hnb30 := NB412_413.out
             have hnc30 := NB413_412.out
             have hnb31 := NB412_415.out
             have hnc31 := NB415_412.out
             have hnb32 := NB412_416.out
             have hnc32 := NB416_412.out
             obtain ⟨hcz33_0, hcz33_1, hfz33_0, hfz33_1⟩ := zD2 BK412
             have hnb34 := NB415_413.out
             have hnc34 := NB413_415.out
             have hnb35 := NB415_416.out
             have hnc35 := NB416_415.out
             obtain ⟨hcz36_0, hcz36_1, hcz36_2, hfz36_0, hfz36_1, hfz36_2⟩ := zD3 BK415
             go_wp2_with (first | ((with_reducible refine gate_callee (f := 119) rfl ?_); refine zL (some 33) Try.func119 #[.int .i64 a0_0, .int .i64 ((rd_T66 l0_1 x19_2).f0)] ?_; (with_reducible refine (graph_vertex.calls a0_0 ((rd_T66 l0_1 x19_2).f0) true _ A25.out).mono ?_); rintro e w' ⟨rfl, ⟨nd, rfl⟩⟩; refine ⟨_, rfl, ?_⟩) | (go_at_call 119; (with_reducible refine (graph_vertex.calls a0_0 ((rd_T66 l0_1 x19_2).f1) true _ A27.out).mono ?_); rintro e w' ⟨rfl, ⟨nd, rfl⟩⟩))
             go_meet
             case rel => exact ⟨_, (true), zT, H', ⟨by have := HJ1.out; have := HK2.out; first | omega | exact Nat.le_refl _⟩, ⟨by refine zk ?_; refine blk_far ?_ NB412_416.out _; refine zk ?_; refine blk_far ?_ NB412_416.out _; exact zK BK412⟩, ⟨by refine zk ?_; refine blk_far ?_ NB413_416.out _; refine zk ?_; refine blk_far ?_ NB413_416.out _; exact zK BK413⟩, ⟨by refine zk ?_; refine blk_far ?_ NB415_416.out _; refine zk ?_; refine blk_far ?_ NB415_416.out _; exact zK BK415⟩, ⟨by refine zk ?_; refine blk_put (cs := #[.int .i64 ((rd_T66 l0_1 x19_2).f0), .int .i64 0]) ?_ 1 _ rfl; refine zk ?_; refine blk_put (cs := #[.int .i64 0, .int .i64 0]) ?_ 0 _ rfl; exact zK BK416⟩, ⟨zB⟩⟩
            ·rw [if_neg c29] at H
             have c29b0 : decide (((rd_T66 l0_1 x19_2).f2) < 1) = false := decide_eq_false c29
             clear c29
             (first | rw [c29b0] | (simp only [i64_w, i32_w]; rw [c29b0]) | skip)
             have H' := Aside0.mk H
             clear H
             have hnb37 := NB412_413.out
             have hnc37 := NB413_412.out
             have hnb38 := NB412_415.out
             have hnc38 := NB415_412.out
             have hnb39 := NB412_416.out
             have hnc39 := NB416_412.out
             obtain ⟨hcz40_0, hcz40_1, hfz40_0, hfz40_1⟩ := zD2 BK412
             have hnb41 := NB415_413.out
             have hnc41 := NB413_415.out
             have hnb42 := NB415_416.out
             have hnc42 := NB416_415.out
             obtain ⟨hcz43_0, hcz43_1, hcz43_2, hfz43_0, hfz43_1, hfz43_2⟩ := zD3 BK415
             go_wp2_with (first | ((with_reducible refine gate_callee (f := 119) rfl ?_); refine zL (some 33) Try.func119 #[.int .i64 a0_0, .int .i64 ((rd_T66 l0_1 x19_2).f0)] ?_; (with_reducible refine (graph_vertex.calls a0_0 ((rd_T66 l0_1 x19_2).f0) true _ A25.out).mono ?_); rintro e w' ⟨rfl, ⟨nd, rfl⟩⟩; refine ⟨_, rfl, ?_⟩) | (go_at_call 119; (with_reducible refine (graph_vertex.calls a0_0 ((rd_T66 l0_1 x19_2).f1) true _ A27.out).mono ?_); rintro e w' ⟨rfl, ⟨nd, rfl⟩⟩))
             go_meet
             case rel => exact ⟨_, (decide (((rd_T66 l0_1 x19_2).f2) > 50)), zT, H', ⟨by have := HJ1.out; have := HK2.out; first | omega | exact Nat.le_refl _⟩, ⟨by refine zk ?_; refine blk_far ?_ NB412_416.out _; refine zk ?_; refine blk_far ?_ NB412_416.out _; exact zK BK412⟩, ⟨by refine zk ?_; refine blk_far ?_ NB413_416.out _; refine zk ?_; refine blk_far ?_ NB413_416.out _; exact zK BK413⟩, ⟨by refine zk ?_; refine blk_far ?_ NB415_416.out _; refine zk ?_; refine blk_far ?_ NB415_416.out _; exact zK BK415⟩, ⟨by refine zk ?_; refine blk_put (cs := #[.int .i64 ((rd_T66 l0_1 x19_2).f0), .int .i64 0]) ?_ 1 _ rfl; refine zk ?_; refine blk_put (cs := #[.int .i64 0, .int .i64 0]) ?_ 0 _ rfl; exact zK BK416⟩, ⟨zB⟩⟩
           ·replace c28 := Bool.eq_false_iff.mpr c28
            subst c28
            have H1 : (graph_Check.j2 k2 l0_1 (l0_1.length : Int) x19_2 true a0_0 l0_1 x414000_2 x414001_2 ((rd_T66 l0_1 x19_2).f0) ((rd_T66 l0_1 x19_2).f1) ((rd_T66 l0_1 x19_2).f2) ((rd_T66 l0_1 x19_2).f0) ((rd_T66 l0_1 x19_2).f1)) = some r := by rw [if_neg (show ¬ (false = true) by decide)] at H; exact H
            clear H
            have H := H1
            clear H1
            have H' := Aside0.mk H
            clear H
            have hnb44 := NB412_413.out
            have hnc44 := NB413_412.out
            have hnb45 := NB412_415.out
            have hnc45 := NB415_412.out
            have hnb46 := NB412_416.out
            have hnc46 := NB416_412.out
            obtain ⟨hcz47_0, hcz47_1, hfz47_0, hfz47_1⟩ := zD2 BK412
            have hnb48 := NB415_413.out
            have hnc48 := NB413_415.out
            have hnb49 := NB415_416.out
            have hnc49 := NB416_415.out
            obtain ⟨hcz50_0, hcz50_1, hcz50_2, hfz50_0, hfz50_1, hfz50_2⟩ := zD3 BK415
            go_wp2_with (first | ((with_reducible refine gate_callee (f := 119) rfl ?_); refine zL (some 33) Try.func119 #[.int .i64 a0_0, .int .i64 ((rd_T66 l0_1 x19_2).f0)] ?_; (with_reducible refine (graph_vertex.calls a0_0 ((rd_T66 l0_1 x19_2).f0) true _ A25.out).mono ?_); rintro e w' ⟨rfl, ⟨nd, rfl⟩⟩; refine ⟨_, rfl, ?_⟩) | (go_at_call 119; (with_reducible refine (graph_vertex.calls a0_0 ((rd_T66 l0_1 x19_2).f1) false _ A27.out).mono ?_); rintro e w' ⟨rfl, ⟨nd, rfl⟩⟩))
            go_meet
            case rel => exact ⟨_, (true), zT, H', ⟨by have := HJ1.out; have := HK2.out; first | omega | exact Nat.le_refl _⟩, ⟨by refine zk ?_; refine blk_far ?_ NB412_416.out _; refine zk ?_; refine blk_far ?_ NB412_416.out _; exact zK BK412⟩, ⟨by refine zk ?_; refine blk_far ?_ NB413_416.out _; refine zk ?_; refine blk_far ?_ NB413_416.out _; exact zK BK413⟩, ⟨by refine zk ?_; refine blk_far ?_ NB415_416.out _; refine zk ?_; refine blk_far ?_ NB415_416.out _; exact zK BK415⟩, ⟨by refine zk ?_; refine blk_put (cs := #[.int .i64 ((rd_T66 l0_1 x19_2).f0), .int .i64 0]) ?_ 1 _ rfl; refine zk ?_; refine blk_put (cs := #[.int .i64 0, .int .i64 0]) ?_ 0 _ rfl; exact zK BK416⟩, ⟨zB⟩⟩
          ·replace c26 := Bool.eq_false_iff.mpr c26
           subst c26
           have H1 : (graph_Check.j2 k2 l0_1 (l0_1.length : Int) x19_2 true a0_0 l0_1 x414000_2 x414001_2 ((rd_T66 l0_1 x19_2).f0) ((rd_T66 l0_1 x19_2).f1) ((rd_T66 l0_1 x19_2).f2) ((rd_T66 l0_1 x19_2).f0) ((rd_T66 l0_1 x19_2).f1)) = some r := by rw [if_neg (show ¬ (false = true) by decide)] at H; exact H
           clear H
           have H := H1
           clear H1
           have H' := Aside0.mk H
           clear H
           have hnb51 := NB412_413.out
           have hnc51 := NB413_412.out
           have hnb52 := NB412_415.out
           have hnc52 := NB415_412.out
           have hnb53 := NB412_416.out
           have hnc53 := NB416_412.out
           obtain ⟨hcz54_0, hcz54_1, hfz54_0, hfz54_1⟩ := zD2 BK412
           have hnb55 := NB415_413.out
           have hnc55 := NB413_415.out
           have hnb56 := NB415_416.out
           have hnc56 := NB416_415.out
           obtain ⟨hcz57_0, hcz57_1, hcz57_2, hfz57_0, hfz57_1, hfz57_2⟩ := zD3 BK415
           go_wp2_with (first | ((with_reducible refine gate_callee (f := 119) rfl ?_); refine zL (some 33) Try.func119 #[.int .i64 a0_0, .int .i64 ((rd_T66 l0_1 x19_2).f0)] ?_; (with_reducible refine (graph_vertex.calls a0_0 ((rd_T66 l0_1 x19_2).f0) false _ A25.out).mono ?_); rintro e w' ⟨rfl, ⟨nd, rfl⟩⟩; refine ⟨_, rfl, ?_⟩))
           go_meet
           case rel => exact ⟨_, (true), zT, H', ⟨by have := HJ1.out; have := HK2.out; first | omega | exact Nat.le_refl _⟩, ⟨by refine zk ?_; refine blk_far ?_ NB412_416.out _; refine zk ?_; refine blk_far ?_ NB412_416.out _; exact zK BK412⟩, ⟨by refine zk ?_; refine blk_far ?_ NB413_416.out _; refine zk ?_; refine blk_far ?_ NB413_416.out _; exact zK BK413⟩, ⟨by refine zk ?_; refine blk_far ?_ NB415_416.out _; refine zk ?_; refine blk_far ?_ NB415_416.out _; exact zK BK415⟩, ⟨by refine zk ?_; refine blk_put (cs := #[.int .i64 ((rd_T66 l0_1 x19_2).f0), .int .i64 0]) ?_ 1 _ rfl; refine zk ?_; refine blk_put (cs := #[.int .i64 0, .int .i64 0]) ?_ 0 _ rfl; exact zK BK416⟩, ⟨zB⟩⟩
         case rest =>
          clear HC15
          try clear c1
          try clear c2
          try clear p2
          try clear c3
          try clear c4
          try clear c4b0
          try clear p4
          try clear q4
          try clear hx4
          try clear c5
          try clear c7
          try clear c9
          try clear c11
          try clear c12
          try clear c12b0
          try clear c13
          try clear c13b0
          try clear c14
          try clear c14b0
          try clear c17
          try clear c18
          try clear c21
          try clear c22
          try clear c23
          try clear c26
          try clear c28
          try clear c29
          try clear c29b0
          try clear c30
          try clear c31
          try clear c32
          try clear c34
          try clear c35
          try clear c37
          try clear c38
          try clear c39
          try clear c41
          try clear p41
          try clear q41
          try clear hx41
          try clear c42
          try clear c44
          try clear c45
          try clear c46
          try clear c48
          try clear c49
          try clear c51
          try clear c52
          try clear c53
          try clear c55
          try clear c56
          try clear hcz10_0
          try clear hcz10_1
          try clear hcz11_0
          try clear hcz11_1
          try clear hcz19_0
          try clear hcz19_1
          try clear hcz19_2
          try clear hcz24_0
          try clear hcz24_1
          try clear hcz33_0
          try clear hcz33_1
          try clear hcz36_0
          try clear hcz36_1
          try clear hcz36_2
          try clear hcz40_0
          try clear hcz40_1
          try clear hcz43_0
          try clear hcz43_1
          try clear hcz43_2
          try clear hcz47_0
          try clear hcz47_1
          try clear hcz50_0
          try clear hcz50_1
          try clear hcz50_2
          try clear hcz54_0
          try clear hcz54_1
          try clear hcz57_0
          try clear hcz57_1
          try clear hcz57_2
          try clear hcz5_0
          try clear hcz5_1
          try clear hcz6_0
          try clear hcz6_1
          try clear hfz10_0
          try clear hfz10_1
          try clear hfz11_0
          try clear hfz11_1
          try clear hfz19_0
          try clear hfz19_1
          try clear hfz19_2
          try clear hfz24_0
          try clear hfz24_1
          try clear hfz33_0
          try clear hfz33_1
          try clear hfz36_0
          try clear hfz36_1
          try clear hfz36_2
          try clear hfz40_0
          try clear hfz40_1
          try clear hfz43_0
          try clear hfz43_1
          try clear hfz43_2
          try clear hfz47_0
          try clear hfz47_1
          try clear hfz50_0
          try clear hfz50_1
          try clear hfz50_2
          try clear hfz54_0
          try clear hfz54_1
          try clear hfz57_0
          try clear hfz57_1
          try clear hfz57_2
          try clear hfz5_0
          try clear hfz5_1
          try clear hfz6_0
          try clear hfz6_1
          try clear hx414_0
          try clear hx414_1
          try clear hx414_2
          try clear p2
          try clear p414
          try clear q414
          obtain ⟨kq, x28_14, rfl, HA, HJ14, BK412, BK413, BK415, BK416, HB⟩ := hcut
          cases kq with
          | zero => exact absurd HA.out (by simp [graph_Check.j2])
          | succ kj14 =>
           have H := HA.out
           clear HA
           simp only [graph_Check.j2] at H
           by_cases c58 : x28_14 = true
           ·subst c58
            have H1 : (some 2) = some r := by rw [if_pos rfl] at H; exact H
            clear H
            have H := H1
            clear H1
            obtain rfl := Option.some.inj H
            go_wp2
            go_ret
            exact ⟨zE, zB⟩
           ·replace c58 := Bool.eq_false_iff.mpr c58
            subst c58
            have H1 : (if ((rd_T66 l0_1 x19_2).f0) > ((rd_T66 l0_1 x19_2).f1) then (some 9) else ((graph_pair_compare.f kj14 x414000_2 x414001_2 ((rd_T66 l0_1 x19_2).f0) ((rd_T66 l0_1 x19_2).f1)).bind fun t419 => (if t419 ≥ 0 then (some 9) else (graph_Check.l0 kj14 l0_1 (l0_1.length : Int) (wrap64 (x19_2 + 1)) a0_0 l0_1 ((rd_T66 l0_1 x19_2).f0) ((rd_T66 l0_1 x19_2).f1))))) = some r := by rw [if_neg (show ¬ (false = true) by decide)] at H; exact H
            clear H
            have H := H1
            clear H1
            by_cases c59 : ((rd_T66 l0_1 x19_2).f0) > ((rd_T66 l0_1 x19_2).f1)
            ·rw [if_pos c59] at H
             have c59b0 : decide (((rd_T66 l0_1 x19_2).f1) < ((rd_T66 l0_1 x19_2).f0)) = true := decide_eq_true c59
             clear c59
             obtain rfl := Option.some.inj H
             have hnb60 := NB415_412.out
             have hnc60 := NB412_415.out
             have hnb61 := NB415_413.out
             have hnc61 := NB413_415.out
             have hnb62 := NB415_416.out
             have hnc62 := NB416_415.out
             obtain ⟨hcz63_0, hcz63_1, hcz63_2, hfz63_0, hfz63_1, hfz63_2⟩ := zD3 BK415
             go_wp2
             go_ret
             exact ⟨zE, zB⟩
            ·rw [if_neg c59] at H
             have c59b0 : decide (((rd_T66 l0_1 x19_2).f1) < ((rd_T66 l0_1 x19_2).f0)) = false := decide_eq_false c59
             clear c59
             replace H := Option.bind_eq_some_iff.mp H
             obtain ⟨t419, A640, H⟩ := H
             replace H : (if t419 ≥ 0 then (some 9) else (graph_Check.l0 kj14 l0_1 (l0_1.length : Int) (wrap64 (x19_2 + 1)) a0_0 l0_1 ((rd_T66 l0_1 x19_2).f0) ((rd_T66 l0_1 x19_2).f1))) = some r := H
             have A64 := Aside0.mk A640
             clear A640
             by_cases c65 : t419 ≥ 0
             ·rw [if_pos c65] at H
              have c65b0 : decide (0 ≤ t419) = true := decide_eq_true c65
              clear c65
              obtain rfl := Option.some.inj H
              have hnb66 := NB415_412.out
              have hnc66 := NB412_415.out
              have hnb67 := NB415_413.out
              have hnc67 := NB413_415.out
              have hnb68 := NB415_416.out
              have hnc68 := NB416_415.out
              obtain ⟨hcz69_0, hcz69_1, hcz69_2, hfz69_0, hfz69_1, hfz69_2⟩ := zD3 BK415
              have hnb70 := NB413_412.out
              have hnc70 := NB412_413.out
              have hnb71 := NB413_416.out
              have hnc71 := NB416_413.out
              obtain ⟨hcz72_0, hcz72_1, hfz72_0, hfz72_1⟩ := zD2 BK413
              have hnb73 := NB416_412.out
              have hnc73 := NB412_416.out
              obtain ⟨hcz74_0, hcz74_1, hfz74_0, hfz74_1⟩ := zD2 BK416
              go_wp2_with (first | (go_at_call 120; (with_reducible refine (graph_pair_compare.calls kj14 x414000_2 x414001_2 ((rd_T66 l0_1 x19_2).f0) ((rd_T66 l0_1 x19_2).f1) t419 _ A64.out).mono ?_); rintro e w75 ⟨rfl, hb⟩; replace BK412 := zb BK412 hb; replace BK413 := zb BK413 hb; replace BK415 := zb BK415 hb; replace BK416 := zb BK416 hb; replace HB := zS HB hb; (try clear hb)))
              go_ret
              exact ⟨zE, zB⟩
             ·rw [if_neg c65] at H
              have c65b0 : decide (0 ≤ t419) = false := decide_eq_false c65
              clear c65
              have H' := Aside0.mk H
              clear H
              have hnb76 := NB415_412.out
              have hnc76 := NB412_415.out
              have hnb77 := NB415_413.out
              have hnc77 := NB413_415.out
              have hnb78 := NB415_416.out
              have hnc78 := NB416_415.out
              obtain ⟨hcz79_0, hcz79_1, hcz79_2, hfz79_0, hfz79_1, hfz79_2⟩ := zD3 BK415
              have hnb80 := NB413_412.out
              have hnc80 := NB412_413.out
              have hnb81 := NB413_416.out
              have hnc81 := NB416_413.out
              obtain ⟨hcz82_0, hcz82_1, hfz82_0, hfz82_1⟩ := zD2 BK413
              have hnb83 := NB416_412.out
              have hnc83 := NB412_416.out
              obtain ⟨hcz84_0, hcz84_1, hfz84_0, hfz84_1⟩ := zD2 BK416
              go_wp2_with (first | (go_at_call 120; (with_reducible refine (graph_pair_compare.calls kj14 x414000_2 x414001_2 ((rd_T66 l0_1 x19_2).f0) ((rd_T66 l0_1 x19_2).f1) t419 _ A64.out).mono ?_); rintro e w85 ⟨rfl, hb⟩; replace BK412 := zb BK412 hb; replace BK413 := zb BK413 hb; replace BK415 := zb BK415 hb; replace BK416 := zb BK416 hb; replace HB := zS HB hb; (try clear hb); obtain ⟨hcz86_0, hcz86_1, hfz86_0, hfz86_1⟩ := zD2 BK416; obtain ⟨hcz87_0, hcz87_1, hfz87_0, hfz87_1⟩ := zD2 BK413))
              go_roundg kj14
              case measure => have := HJ1.out; have := HK2.out; have := HJ14.out; omega
              case rel => exact ⟨(wrap64 (x19_2 + 1)), (((rd_T66 l0_1 x19_2).f0)), (((rd_T66 l0_1 x19_2).f1)), zT, H', ⟨by have := HJ1.out; have := HK2.out; have := HJ14.out; omega⟩, ⟨by refine zk ?_; refine blk_far ?_ NB412_413.out _; refine zk ?_; refine blk_far ?_ NB412_413.out _; exact zK BK412⟩, ⟨by refine zk ?_; refine blk_put (cs := #[.int .i64 ((rd_T66 l0_1 x19_2).f0), .int .i64 x414001_2]) ?_ 1 _ rfl; refine zk ?_; refine blk_put (cs := #[.int .i64 x414000_2, .int .i64 x414001_2]) ?_ 0 _ rfl; exact zK BK413⟩, ⟨zB⟩⟩
        ·rw [if_neg c14] at H
         exact absurd H (by simp)
       ·rw [if_neg c13] at H
        exact absurd H (by simp)
      ·rw [if_neg c12] at H
       have c12b0 : decide (x19_2 < (l0_1.length : Int)) = false := decide_eq_false c12
       clear c12
       obtain rfl := Option.some.inj H
       go_wp2
       go_ret
       exact ⟨zE, zB⟩
def edgeOk (N : Int) (x : S66) : Bool := decide (0 ≤ x.f0 ∧ x.f0 < N ∧ 0 ≤ x.f1 ∧ x.f1 < N ∧ 1 ≤ x.f2 ∧ x.f2 ≤ 50)
def edgeErr (N : Int) (p0 p1 : Int) (x : S66) : Int := if edgeOk N x = false then 2 else if x.f0 < p0 ∨ x.f0 = p0 ∧ x.f1 ≤ p1 ∨ x.f0 > x.f1 then 9 else 0
def checkFrom (N : Int) : Int → Int → List S66 → Int
 | _, _, [] => 0
 | p0, p1, x :: E => if edgeErr N p0 p1 x = 0 then checkFrom N x.f0 x.f1 E else edgeErr N p0 p1 x
def checkG (N : Int) (E : List S66) : Int := if N < 1 ∨ N > 12 then 2 else checkFrom N (-1) (-1) E
theorem rd_T_drop {E : List S66} {i : Nat} (h : i < E.length) : E.drop i = rd_T66 E i :: E.drop (i + 1) := by
 rw [List.drop_eq_getElem_cons h]
 simp [rd_T66, List.getD_eq_getElem?_getD, List.getElem?_eq_getElem h]
theorem vertex_ok (N v : Int) : graph_vertex.f N v = some (decide (0 ≤ v ∧ v < N)) := by
 unfold graph_vertex.f
 by_cases h : v ≥ 0
 ·rw [if_pos h]; congr 1; simp [show 0 ≤ v from h]
 ·rw [if_neg h]; congr 1; simp; omega
theorem cmp_ok (a b : Int) : cmp_Compare_int.f a b = some (if a < b then -1 else if a > b then 1 else 0) := by
 unfold cmp_Compare_int.f cmp_isNaN_int.f
 simp only [bne_self_eq_false, Option.bind_some, Bool.false_eq_true, if_false]
 split
 ·rfl
 ·split <;> rfl
theorem or_ok (a b : Int) : Ev (fun k => cmp_Or_int.f k [a, b]) (if a = 0 then b else a) := by
 unfold cmp_Or_int.f
 refine Ev.of_succ ?_
 simp only [cmp_Or_int.l0, List.length_cons, List.length_nil, rd]
 by_cases ha : a = 0
 ·subst ha
  refine Ev.of_succ ?_
  simp only [cmp_Or_int.l0, List.length_cons, List.length_nil, rd, wrap64]
  simp
  by_cases hb : b = 0
  ·subst hb
   refine Ev.of_succ ?_
   simp [cmp_Or_int.l0, wrap64]
   exact Ev.const _
  ·simp [hb]; exact Ev.const _
 ·simp [ha]; exact Ev.const _
theorem compare_ok (a b c d : Int) : Ev (fun k => graph_pair_compare.f k a b c d) (if a < c then -1 else if a > c then 1 else if b < d then -1 else if b > d then 1 else 0) := by
 unfold graph_pair_compare.f
 simp only [cmp_ok, Option.bind_some]
 refine Ev.bind (or_ok _ _) ?_
 have e : (if (if a < c then (-1 : Int) else if a > c then 1 else 0) = 0 then (if b < d then (-1 : Int) else if b > d then 1 else 0) else (if a < c then (-1 : Int) else if a > c then 1 else 0)) = (if a < c then -1 else if a > c then 1 else if b < d then -1 else if b > d then 1 else 0) := by
  by_cases h1 : a < c
  ·simp [h1]
  ·by_cases h2 : a > c
   ·simp [h1, h2]
   ·simp [h1, h2]
 rw [e]
 exact Ev.const _
theorem check_l0 (N : Int) (E : List S66) (hE : E.length ≤ 1000) : ∀ (m i : Nat) (p0 p1 : Int), i + m = E.length → Ev (fun k => graph_Check.l0 k E E.length i N E p0 p1) (checkFrom N p0 p1 (E.drop i))
 | 0, i, p0, p1, hi => by
  refine Ev.of_succ ?_
  simp only [graph_Check.l0, if_neg (show ¬ ((i : Int) < (E.length : Int)) by omega)]
  rw [List.drop_eq_nil_of_le (by omega)]
  exact Ev.const _
 | m + 1, i, p0, p1, hi => by
  have ih := check_l0 N E hE m (i + 1) (rd_T66 E i).f0 (rd_T66 E i).f1 (by omega)
  refine Ev.of_succ ?_
  simp only [graph_Check.l0, if_pos (show (i : Int) < (E.length : Int) by omega), if_pos (show (0 : Int) ≤ (i : Int) by omega), vertex_ok, Option.bind_some]
  rw [rd_T_drop (by omega), checkFrom]
  generalize hx : rd_T66 E i = x at ih ⊢
  have key : ∀ b : Bool, b = !edgeOk N x → Ev (fun k => graph_Check.j2 k E E.length i b N E p0 p1 x.f0 x.f1 x.f2 x.f0 x.f1) (if edgeErr N p0 p1 x = 0 then checkFrom N x.f0 x.f1 (E.drop (i + 1)) else edgeErr N p0 p1 x) := by
   rintro b rfl
   refine Ev.of_succ ?_
   simp only [graph_Check.j2]
   cases hok : edgeOk N x with
   | false => simp [edgeErr, hok]; exact Ev.const _
   | true =>
    simp only [Bool.not_true, Bool.false_eq_true, if_false]
    by_cases hab : x.f0 > x.f1
    ·have e : edgeErr N p0 p1 x = 9 := by simp [edgeErr, hok, hab]
     rw [e]; simp only [if_pos hab]; exact Ev.const _
    ·simp only [if_neg hab]
     refine Ev.bind (compare_ok _ _ _ _) ?_
     by_cases hc : x.f0 < p0 ∨ x.f0 = p0 ∧ x.f1 ≤ p1
     ·have e : edgeErr N p0 p1 x = 9 := by
       unfold edgeErr
       rw [hok, if_neg (by decide), if_pos (by rcases hc with h | h; exact .inl h; exact .inr (.inl h))]
      rw [e]
      have h3 : (if p0 < x.f0 then (-1 : Int) else if p0 > x.f0 then 1 else if p1 < x.f1 then -1 else if p1 > x.f1 then 1 else 0) ≥ 0 := by
       rw [if_neg (by omega)]
       split
       ·decide
       ·rw [if_neg (by omega)]; split <;> decide
      simp only [if_pos h3]; exact Ev.const _
     ·have e : edgeErr N p0 p1 x = 0 := by
       unfold edgeErr
       rw [hok, if_neg (by decide), if_neg (by omega)]
      rw [e]
      have h3 : ¬ (if p0 < x.f0 then (-1 : Int) else if p0 > x.f0 then 1 else if p1 < x.f1 then -1 else if p1 > x.f1 then 1 else 0) ≥ 0 := by
       split
       ·decide
       ·rw [if_neg (by omega), if_pos (by omega)]; decide
      simp only [if_neg h3, wrap_succ (show i ≤ 1000000 by omega), if_true]
      exact ih
  by_cases h0 : 0 ≤ x.f0 ∧ x.f0 < N
  ·simp only [decide_eq_true h0, if_true]
   by_cases h1 : 0 ≤ x.f1 ∧ x.f1 < N
   ·simp only [decide_eq_true h1, if_true]
    by_cases h2 : x.f2 < 1
    ·simp only [if_pos h2]
     exact key true (by simp [edgeOk]; omega)
    ·simp only [if_neg h2]
     exact key _ (by unfold edgeOk; by_cases h3 : x.f2 > 50 <;> simp [h3] <;> omega)
   ·simp only [decide_eq_false h1, Bool.false_eq_true, if_false]
    exact key true (by simp [edgeOk]; omega)
  ·simp only [decide_eq_false h0, Bool.false_eq_true, if_false]
   exact key true (by simp [edgeOk]; omega)
theorem graph_check_ev (N : Int) (E : List S66) (hE : E.length ≤ 1000) : Ev (fun k => graph_Check.f k N E) (checkG N E) := by
 unfold graph_Check.f checkG
 have key : ∀ b : Bool, b = decide (N < 1 ∨ N > 12) → Ev (fun k => graph_Check.j0 k b N E) (if N < 1 ∨ N > 12 then 2 else checkFrom N (-1) (-1) E) := by
  rintro b rfl
  refine Ev.of_succ ?_
  simp only [graph_Check.j0]
  by_cases h : N < 1 ∨ N > 12
  ·simp [h]; exact Ev.const _
  ·simp only [decide_eq_false h, Bool.false_eq_true, if_false, if_neg h]
   have := check_l0 N E hE E.length 0 (-1) (-1) (by omega)
   simpa using this
 by_cases h : N < 1
 ·simp only [if_pos h]; exact key true (by simp [h])
 ·simp only [if_neg h]; exact key _ (by simp [h])
theorem vertex08_ok (N : Int) (E : List S66) (v : Int) : sandpileref08_Vertex.f N E v = some (decide (0 ≤ v ∧ v < N)) := by
 unfold sandpileref08_Vertex.f
 by_cases h : v ≥ 0
 ·rw [if_pos h]; congr 1; simp [show 0 ≤ v from h]
 ·rw [if_neg h]; congr 1; simp; omega
def prev0 (E : List S66) (i : Nat) : Int := if i = 0 then -1 else (rd_T66 E (i - 1 : Nat)).f0
def prev1 (E : List S66) (i : Nat) : Int := if i = 0 then -1 else (rd_T66 E (i - 1 : Nat)).f1
theorem edge08_ev (N : Int) (E : List S66) (hE : E.length ≤ 1000) (i : Nat) (hi : i < E.length) : Ev (fun k => sandpileref08_edge.f k N E i) (edgeErr N (prev0 E i) (prev1 E i) (rd_T66 E i)) := by
 unfold sandpileref08_edge.f
 simp only [if_pos (show (0 : Int) ≤ (i : Int) by omega), if_pos (show (i : Int) < (E.length : Int) by omega), vertex08_ok, Option.bind_some]
 generalize hx : rd_T66 E i = x
 have key : ∀ b : Bool, b = !edgeOk N x → Ev (fun k => sandpileref08_edge.j0 k i b N E x.f0 x.f1 x.f2) (edgeErr N (prev0 E i) (prev1 E i) x) := by
  rintro b rfl
  refine Ev.of_succ ?_
  simp only [sandpileref08_edge.j0]
  cases hok : edgeOk N x with
  | false => simp [edgeErr, hok]; exact Ev.const _
  | true =>
   simp only [Bool.not_true, Bool.false_eq_true, if_false]
   have hx0 : 0 ≤ x.f0 := by simp [edgeOk] at hok; omega
   by_cases hab : x.f0 > x.f1
   ·have e : edgeErr N (prev0 E i) (prev1 E i) x = 9 := by simp [edgeErr, hok, hab]
    rw [e]; simp only [if_pos hab]; exact Ev.const _
   ·simp only [if_neg hab]
    by_cases h0 : i = 0
    ·subst h0
     have e : edgeErr N (prev0 E 0) (prev1 E 0) x = 0 := by
      unfold edgeErr prev0 prev1
      rw [hok, if_neg (by decide), if_neg (by simp; omega)]
     rw [e]; simp; exact Ev.const _
    ·simp only [if_pos (show (i : Int) > 0 by omega), show wrap64 ((i : Int) - 1) = ((i - 1 : Nat) : Int) by rw [wrap_id (by omega)]; omega, if_pos (show (0 : Int) ≤ ((i - 1 : Nat) : Int) by omega), if_pos (show ((i - 1 : Nat) : Int) < (E.length : Int) by omega)]
     unfold prev0 prev1
     rw [if_neg h0, if_neg h0]
     generalize rd_T66 E (i - 1 : Nat) = y
     unfold edgeErr
     rw [hok, if_neg (show ¬ (true = false) by decide)]
     by_cases h1 : x.f0 < y.f0
     ·simp only [if_pos h1]; rw [if_pos (.inl h1)]; exact Ev.const _
     ·simp only [if_neg h1]
      by_cases h2 : x.f0 = y.f0
      ·simp only [if_pos h2]
       by_cases h3 : x.f1 ≤ y.f1
       ·simp only [if_pos h3]; rw [if_pos (.inr (.inl ⟨h2, h3⟩))]; exact Ev.const _
       ·simp only [if_neg h3]; rw [if_neg (by omega)]; exact Ev.const _
      ·simp only [if_neg h2]; rw [if_neg (by omega)]; exact Ev.const _
 by_cases h0 : 0 ≤ x.f0 ∧ x.f0 < N
 ·simp only [decide_eq_true h0, if_true]
  by_cases h1 : 0 ≤ x.f1 ∧ x.f1 < N
  ·simp only [decide_eq_true h1, if_true]
   by_cases h2 : x.f2 < 1
   ·simp only [if_pos h2]
    exact key true (by simp [edgeOk]; omega)
   ·simp only [if_neg h2]
    exact key _ (by unfold edgeOk; by_cases h3 : x.f2 > 50 <;> simp [h3] <;> omega)
  ·simp only [decide_eq_false h1, Bool.false_eq_true, if_false]
   exact key true (by simp [edgeOk]; omega)
 ·simp only [decide_eq_false h0, Bool.false_eq_true, if_false]
  exact key true (by simp [edgeOk]; omega)
theorem check08_l0 (N : Int) (E : List S66) (hE : E.length ≤ 1000) : ∀ (m i : Nat), i + m = E.length → Ev (fun k => sandpileref08_Check.l0 k i N E) (checkFrom N (prev0 E i) (prev1 E i) (E.drop i))
 | 0, i, hi => by
  refine Ev.of_succ ?_
  simp only [sandpileref08_Check.l0, if_neg (show ¬ ((i : Int) < (E.length : Int)) by omega)]
  rw [List.drop_eq_nil_of_le (by omega)]
  exact Ev.const _
 | m + 1, i, hi => by
  have ih := check08_l0 N E hE m (i + 1) (by omega)
  refine Ev.of_succ ?_
  simp only [sandpileref08_Check.l0, if_pos (show (i : Int) < (E.length : Int) by omega)]
  rw [rd_T_drop (by omega), checkFrom]
  refine Ev.bind (edge08_ev N E hE i (by omega)) ?_
  have e0 : prev0 E (i + 1) = (rd_T66 E i).f0 := by simp [prev0]
  have e1 : prev1 E (i + 1) = (rd_T66 E i).f1 := by simp [prev1]
  rw [e0, e1] at ih
  by_cases h : edgeErr N (prev0 E i) (prev1 E i) (rd_T66 E i) = 0
  ·simp only [if_pos h, wrap_succ (show i ≤ 1000000 by omega)]; exact ih
  ·simp only [if_neg h]; exact Ev.const _
theorem check08_ev (N : Int) (E : List S66) (hE : E.length ≤ 1000) : Ev (fun k => sandpileref08_Check.f k N E) (checkG N E) := by
 unfold sandpileref08_Check.f checkG
 have key : ∀ b : Bool, b = decide (N < 1 ∨ N > 12) → Ev (fun k => sandpileref08_Check.j0 k b N E) (if N < 1 ∨ N > 12 then 2 else checkFrom N (-1) (-1) E) := by
  rintro b rfl
  refine Ev.of_succ ?_
  simp only [sandpileref08_Check.j0]
  by_cases h : N < 1 ∨ N > 12
  ·simp [h]; exact Ev.const _
  ·simp only [decide_eq_false h, Bool.false_eq_true, if_false, if_neg h]
   have := check08_l0 N E hE E.length 0 (by omega)
   simpa [prev0, prev1] using this
 by_cases h : N < 1
 ·simp only [if_pos h]; exact key true (by simp [h])
 ·simp only [if_neg h]; exact key _ (by simp [h])
theorem R_made_empty (w : World) (ok : Nat → Prop) (hok : ok w.heap.size) (e : Nat) : (Kd.int .i64).R e (w.alloc (.cells #[] e)) w.heap.size ok (.slice (some ⟨w.heap.size, 0, none⟩) 0 0) [] :=
 ⟨fun k hk => by
  have : w.heap.size = k := by simpa [Value.ownBlock] using hk
  subst this; exact hok, [], by
  show World.ownsRow _ _ _ 1 _ _ _
  simpa using World.ownsRow_lit (base := w.heap.size) (e := e) (size := 1) w #[] 0 (Nat.le_refl _) (by decide) rfl, Reps.none _ _⟩
theorem reads_none {l : List Int} {w : World} (h : Kd.C (Kd.int .i64) w none l.length l) : l = [] := by
 cases l with
 | nil => rfl
 | cons x xs => obtain ⟨ad, e, _⟩ := h.2.2 (by simp); cases e
def clone.f (l0 : List Int) : Option (List Int) := if l0.length < 17592186044416 then some l0 else none
abbrev api_Divisor_int_36.f (l0 : List Int) : Option (List Int) := clone.f l0
abbrev slices_Clone_int_int.f (l0 : List Int) : Option (List Int) := clone.f l0
theorem api_Divisor_int_36.calls (A0 : Option Addr) (c0 : Nat) (l0 : List Int) (r : List Int) (w : World) (hr0 : Kd.C (Kd.int .i64) w A0 l0.length l0) (hc0 : l0.length ≤ c0) (h : api_Divisor_int_36.f l0 = some r) :
  Calls Try.prog 36 #[.slice A0 l0.length c0] w fun e w' => ∃ v0_ : Value, e = .returned (v0_) ∧ Kd.R (Kd.int .i64) 3 w' w.heap.size (fun _ => True) v0_ r ∧ Below w.heap.size w w' := by
 have hu := Try.underlying42
 have hnil := fun (w : World) (a : Option Addr) (n c : Nat) => Lib.run_eql_slice_nil (P := Try.prog) w 42 3 a n c 0 0 hu
 unfold api_Divisor_int_36.f clone.f at h
 split at h
 ·rename_i hl
  obtain rfl := Option.some.inj h
  cases A0 with
  | none =>
   go_enter Try.func36, Try.ntmps36
   go_wp2
   go_ret
   obtain rfl := reads_none hr0
   exact ⟨_, rfl, Kd.R_nil _ _ _ _ _, Below.refl _ _⟩
  | some ad =>
   go_enter Try.func36, Try.ntmps36
   go_wp2_with (at_builtin; refine Kd.R_append_row (w0 := w) (Value.int .i64) (0 : Int) (h1 := fun _ => rfl) w.heap.size rfl (.tmp 5) (.tmp 6) 42 3 (.int .i64 0) 8 rfl Try.underlying42 info3 rfl (by decide) (.slice (some ⟨w.heap.size, 0, none⟩) 0 0) [] l0 (some ad) l0.length c0 (fun _ => True) rfl rfl (fun _ _ => trivial) (R_made_empty w _ trivial 3) (Kd.C_below hr0 (below_alloc (Below.refl _ _) _)) (below_alloc (Below.refl _ _) _) (by simp) (by simp; omega) ?_; intro v1 w1 hown hb hg _)
   go_ret
   exact ⟨_, rfl, hown, hb⟩
 ·cases h
theorem slices_Clone_int_int.calls (A0 : Option Addr) (c0 : Nat) (l0 : List Int) (r : List Int) (w : World) (hr0 : Kd.C (Kd.int .i64) w A0 l0.length l0) (hc0 : l0.length ≤ c0) (h : slices_Clone_int_int.f l0 = some r) :
  Calls Try.prog 45 #[.slice A0 l0.length c0] w fun e w' => ∃ v0_ : Value, e = .returned (v0_) ∧ Kd.R (Kd.int .i64) 3 w' w.heap.size (fun _ => True) v0_ r ∧ Below w.heap.size w w' := by
 have hu := Try.underlying33
 have hnil := fun (w : World) (a : Option Addr) (n c : Nat) => Lib.run_eql_slice_nil (P := Try.prog) w 33 3 a n c 0 0 hu
 unfold slices_Clone_int_int.f clone.f at h
 split at h
 ·rename_i hl
  obtain rfl := Option.some.inj h
  cases A0 with
  | none =>
   go_enter Try.func45, Try.ntmps45
   go_wp2
   go_ret
   obtain rfl := reads_none hr0
   exact ⟨_, rfl, Kd.R_nil _ _ _ _ _, Below.refl _ _⟩
  | some ad =>
   go_enter Try.func45, Try.ntmps45
   go_wp2_with (at_builtin; refine Kd.R_append_row (w0 := w) (Value.int .i64) (0 : Int) (h1 := fun _ => rfl) w.heap.size rfl (.tmp 5) (.tmp 6) 33 3 (.int .i64 0) 8 rfl Try.underlying33 info3 rfl (by decide) (.slice (some ⟨w.heap.size, 0, none⟩) 0 0) [] l0 (some ad) l0.length c0 (fun _ => True) rfl rfl (fun _ _ => trivial) (R_made_empty w _ trivial 3) (Kd.C_below hr0 (below_alloc (Below.refl _ _) _)) (below_alloc (Below.refl _ _) _) (by simp) (by simp; omega) ?_; intro v1 w1 hown hb hg _)
   go_ret
   exact ⟨_, rfl, hown, hb⟩
 ·cases h
section
theorem grown_set1p {w w1 : World} {g j : Nat} {v : Value} (h : Below w.heap.size w w1) : w.grownBy (w1.setCell ⟨g, j, none⟩ v) (some g) :=
 ⟨h.os, h.tape, h.output, by simpa using h.size, fun k hk hne => (Below.heap_setCell w1 _ v k (fun e => hne (by rw [e]))).trans (h.block k hk)⟩
structure PileCells (cs : Array Value) (d : Value) (q : Int) (rows val : Value) (waits : Nat → Bool) : Prop where
 size : cs.size = 18
 d : cs[0]? = some d
 q : cs[1]? = some (.int .i64 q)
 rows : cs[2]? = some rows
 val : cs[3]? = some val
 waits : ∀ i, i < 12 → cs[6 + i]? = some (.bool (waits i))
def PileAt (w : World) (g : Nat) (d : Value) (q : Int) (rows val : Value) (waits : Nat → Bool) : Prop :=
 ∃ cs : Array Value, w.heap[g]? = some (.cells cs 110 (0, 0)) ∧ PileCells cs d q rows val waits
namespace PileAt
variable {w w' : World} {g : Nat} {d : Value} {q : Int} {rows val : Value} {waits : Nat → Bool}
theorem lt (h : PileAt w g d q rows val waits) : g < w.heap.size := by obtain ⟨cs, hb, _⟩ := h; exact blk_lt hb
theorem cell_d (h : PileAt w g d q rows val waits) : w.cell? ⟨g, 0, none⟩ = some d := by obtain ⟨cs, hb, hc⟩ := h; exact (blk_cell hb 0).trans hc.d
theorem cell_q (h : PileAt w g d q rows val waits) : w.cell? ⟨g, 1, none⟩ = some (.int .i64 q) := by obtain ⟨cs, hb, hc⟩ := h; exact (blk_cell hb 1).trans hc.q
theorem cell_rows (h : PileAt w g d q rows val waits) : w.cell? ⟨g, 2, none⟩ = some rows := by obtain ⟨cs, hb, hc⟩ := h; exact (blk_cell hb 2).trans hc.rows
theorem cell_val (h : PileAt w g d q rows val waits) : w.cell? ⟨g, 3, none⟩ = some val := by obtain ⟨cs, hb, hc⟩ := h; exact (blk_cell hb 3).trans hc.val
theorem cell_waits (h : PileAt w g d q rows val waits) (i : Nat) (hi : i < 12) : w.cell? ⟨g, 6 + i, none⟩ = some (.bool (waits i)) := by obtain ⟨cs, hb, hc⟩ := h; exact (blk_cell hb _).trans (hc.waits i hi)
theorem frozen (h : PileAt w g d q rows val waits) (k : Nat) : w.frozen? ⟨g, k, none⟩ = false := by obtain ⟨cs, hb, _⟩ := h; exact blk_frozen hb k
theorem below (h : PileAt w g d q rows val waits) (hb : Below w.heap.size w w') : PileAt w' g d q rows val waits := by obtain ⟨cs, hh, hc⟩ := h; exact ⟨cs, blk_below hh hb, hc⟩
theorem drew (h : PileAt w g d q rows val waits) : PileAt w.drew g d q rows val waits := h
theorem grown {row : Option Nat} (h : PileAt w g d q rows val waits) (hg : w.grownBy w' row) (hne : some g ≠ row) : PileAt w' g d q rows val waits := by obtain ⟨cs, hh, hc⟩ := h; exact ⟨cs, blk_grown hh hg hne, hc⟩
theorem set_waits (h : PileAt w g d q rows val waits) (i : Nat) (hi : i < 12) (b : Bool) : PileAt (w.setCell ⟨g, 6 + i, none⟩ (.bool b)) g d q rows val (fun j => if j = i then b else waits j) := by
 obtain ⟨cs, hh, hc⟩ := h
 refine ⟨cs.setIfInBounds (6 + i) (.bool b), by simpa using blk_set hh (6 + i) (.bool b), by simp [hc.size], ?_, ?_, ?_, ?_, ?_⟩
 ·rw [Array.getElem?_setIfInBounds_ne (by omega)]; exact hc.d
 ·rw [Array.getElem?_setIfInBounds_ne (by omega)]; exact hc.q
 ·rw [Array.getElem?_setIfInBounds_ne (by omega)]; exact hc.rows
 ·rw [Array.getElem?_setIfInBounds_ne (by omega)]; exact hc.val
 ·intro k hk
  have hs := hc.size
  by_cases e : k = i
  ·subst e
   rw [Array.getElem?_setIfInBounds_self_of_lt (by omega)]; simp
  ·rw [Array.getElem?_setIfInBounds_ne (by omega), hc.waits k hk]; simp [e]
theorem set_rows (h : PileAt w g d q rows val waits) (u : Value) : PileAt (w.setCell ⟨g, 2, none⟩ u) g d q u val waits := by
 obtain ⟨cs, hh, hc⟩ := h
 have hs := hc.size
 refine ⟨cs.setIfInBounds 2 u, by simpa using blk_set hh 2 u, by simp [hc.size], ?_, ?_, ?_, ?_, ?_⟩
 ·rw [Array.getElem?_setIfInBounds_ne (by omega)]; exact hc.d
 ·rw [Array.getElem?_setIfInBounds_ne (by omega)]; exact hc.q
 ·rw [Array.getElem?_setIfInBounds_self_of_lt (by omega)]
 ·rw [Array.getElem?_setIfInBounds_ne (by omega)]; exact hc.val
 ·intro k hk
  rw [Array.getElem?_setIfInBounds_ne (by omega)]; exact hc.waits k hk
theorem R_set (h : PileAt w g d q rows val waits) {α : Type} {k : Kd α} {e base : Nat} {ok : Nat → Prop} {v : Value} {xs : List α} (hR : k.R e w base ok v xs) (ht : ∀ q, q ∈ e :: k.E → q ≠ 110) (j : Nat) (u : Value) : k.R e (w.setCell ⟨g, j, none⟩ u) base ok v xs := by
 obtain ⟨cs, hb, _⟩ := h
 exact Kd.R_set hR hb ht j u
theorem S_set (h : PileAt w g d q rows val waits) {α : Type} {k : Kd α} {e base : Nat} {ok : Nat → Prop} {v : Value} {xs : List α} (hR : Kd.S k e w base ok v xs) (ht : ∀ q, q ∈ e :: k.E → q ≠ 110) (j : Nat) (u : Value) : Kd.S k e (w.setCell ⟨g, j, none⟩ u) base ok v xs := by
 obtain ⟨cs, hb, _⟩ := h
 exact Kd.S_set hR hb ht j u
theorem ne_of (h : PileAt w g d q rows val waits) {v : Value} {e : Nat} (hty : ∀ k, v.ownBlock = some k → ∃ cells, w.heap[k]? = some (.cells cells e (0, 0))) (ht : e ≠ 110) : some g ≠ v.ownBlock := fun he => by
 obtain ⟨cs, hb, _⟩ := h
 obtain ⟨cells, hc⟩ := hty g he.symm
 rw [hb] at hc
 injection hc with hc
 injection hc with _ hc _
 exact ht hc.symm
end PileAt
def looseB (q : Int) (vl dl : List Int) (v : Nat) : Bool := decide ((v : Int) ≠ q) && decide (rd vl v ≤ rd dl v)
theorem unstable_calls (g v : Nat) (q : Int) (Ad Av : Option Addr) (cd cv : Nat) (dl vl : List Int) (rows : Value) (waits : Nat → Bool) (w : World) (hvd : v < dl.length) (hvv : v < vl.length)
  (hw : PileAt w g (.slice Ad dl.length cd) q rows (.slice Av vl.length cv) waits) (hd : Kd.C (Kd.int .i64) w Ad dl.length dl) (hr : Kd.C (Kd.int .i64) w Av vl.length vl) :
  Calls Try.prog 115 #[.pointer (some ⟨g, 0, none⟩), .int .i64 v] w fun e w' => e = .returned (.bool (looseB q vl dl v)) ∧ Drawn0 w w' := by
 have hcd := hw.cell_d
 have hcq := hw.cell_q
 have hcv := hw.cell_val
 have hl1 := hd.2.1
 have hl2 := hr.2.1
 unfold looseB
 by_cases hq : (v : Int) = q
 ·rw [decide_eq_false (by simpa using hq), Bool.false_and]
  subst hq
  go_enter Try.func115, Try.ntmps115
  go_wp2_with fail
  go_quiet (fail)
  go_wp2
  go_ret
  exact ⟨rfl, by repeat (first | exact Drawn0.refl _ | apply Drawn0.step)⟩
 ·rw [decide_eq_true (by simpa using hq), Bool.true_and]
  obtain ⟨ad, rfl, hxd⟩ := Kd.at_int hd v (by omega) (by omega)
  obtain ⟨av, rfl, hxv⟩ := Kd.at_int hr v (by omega) (by omega)
  rw [Int.toNat_natCast] at hxd hxv
  have hi0 : (0 : Int) ≤ (v : Int) := by omega
  have hi1 : (v : Int) < (dl.length : Int) := by omega
  have hi2 : (v : Int) < (vl.length : Int) := by omega
  have hqb : ((v : Int) != q) = true := by simpa using hq
  have Hqb := Lib.hid hqb
  clear hqb
  go_enter Try.func115, Try.ntmps115
  go_wp2_with fail
  go_quiet (fail)
  go_wp2
  go_ret
  refine ⟨?_, by repeat (first | exact Drawn0.refl _ | apply Drawn0.step)⟩
  show Ending.returned (.bool ((v : Int) != q && decide (rd vl v ≤ rd dl v))) = _
  rw [Hqb.out, Bool.true_and]
theorem wait_calls (g v : Nat) (q : Int) (Ad Av : Option Addr) (cd cv : Nat) (dl vl : List Int) (rows : Value) (waits : Nat → Bool) (w : World) (hv : v < 12) (hvd : v < dl.length) (hvv : v < vl.length)
  (hw : PileAt w g (.slice Ad dl.length cd) q rows (.slice Av vl.length cv) waits) (hd : Kd.C (Kd.int .i64) w Ad dl.length dl) (hr : Kd.C (Kd.int .i64) w Av vl.length vl) :
  Calls Try.prog 106 #[.pointer (some ⟨g, 0, none⟩), .int .i64 v] w fun e w' => e = .returned (.tuple #[]) ∧ PileAt w' g (.slice Ad dl.length cd) q rows (.slice Av vl.length cv) (fun j => if j = v then looseB q vl dl v else waits j) ∧ w.grownBy w' (some g) := by
 have hi0 : (0 : Int) ≤ (v : Int) := by omega
 have hi1 : (v : Int) < 12 := by omega
 have HU := Aside0.mk (fun W h1 h2 h3 => unstable_calls g v q Ad Av cd cv dl vl rows waits W hvd hvv h1 h2 h3)
 have HW := Aside0.mk hw
 have HD := Aside0.mk hd
 have HR := Aside0.mk hr
 clear hw hd hr
 generalize looseB q vl dl v = b at HU ⊢
 go_enter Try.func106, Try.ntmps106
 go_wp2_with fail
 go_region_with ((go_at_call 115; refine (HU.out _ HW.out.drew (Kd.C_drew HD.out) (Kd.C_drew HR.out)).mono ?_; rintro e w1 ⟨rfl, hD⟩; have q1 : w1.cell? ⟨g, 6 + v, none⟩ = some (.bool (waits v)) := (by obtain ⟨m, rfl⟩ := hD.out; exact HW.out.cell_waits v hv); have q2 : w1.frozen? ⟨g, 6 + v, none⟩ = false := (by obtain ⟨m, rfl⟩ := hD.out; exact HW.out.frozen _); have q3 := Aside0.mk (show PileAt (w1.setCell ⟨g, 6 + v, none⟩ (.bool b)) g (.slice Ad dl.length cd) q rows (.slice Av vl.length cv) (fun j => if j = v then b else waits j) from by obtain ⟨m, rfl⟩ := hD.out; exact PileAt.set_waits (w := w.drew.drewN m) HW.out v hv b); have q4 := Aside0.mk (show w.grownBy (w1.setCell ⟨g, 6 + v, none⟩ (.bool b)) (some g) from by exact grown_set1p ((below_drew (Below.refl w.heap.size w)).trans hD.below)); clear hD))
 all_goals go_wp2
 all_goals go_end0
 all_goals exact ⟨rfl, q3.out, q4.out⟩
end
def timesStep (f : Nat → Nat → Int) (x : S66) : Nat → Nat → Int := if x.f0 = x.f1 then f else fun a b => if a = x.f1.toNat ∧ b = x.f0.toNat then x.f2 else if a = x.f0.toNat ∧ b = x.f1.toNat then x.f2 else f a b
def timesOf (E : List S66) : Nat → Nat → Int := E.foldl timesStep (fun _ _ => 0)
theorem timesOf_snoc (E : List S66) (k : Nat) (h : k < E.length) : timesOf (E.take (k + 1)) = timesStep (timesOf (E.take k)) (rd_T66 E k) := by
 unfold timesOf
 rw [List.take_succ_eq_append_getElem h, List.foldl_append]
 simp [rd_T66, List.getD_eq_getElem?_getD, List.getElem?_eq_getElem h]
def EdgesIn (n : Nat) (E : List S66) : Prop := ∀ x ∈ E, 0 ≤ x.f0 ∧ x.f0 < n ∧ 0 ≤ x.f1 ∧ x.f1 < n ∧ 1 ≤ x.f2 ∧ x.f2 ≤ 50
theorem EdgesIn.get {n : Nat} {E : List S66} (h : EdgesIn n E) (k : Nat) (hk : k < E.length) : 0 ≤ (rd_T66 E k).f0 ∧ (rd_T66 E k).f0 < n ∧ 0 ≤ (rd_T66 E k).f1 ∧ (rd_T66 E k).f1 < n ∧ 1 ≤ (rd_T66 E k).f2 ∧ (rd_T66 E k).f2 ≤ 50 := by
 have e : rd_T66 E k = E[k] := by simp [rd_T66, List.getD_eq_getElem?_getD, List.getElem?_eq_getElem hk]
 rw [e]; exact h _ (List.getElem_mem hk)
theorem timesOf_bound {n : Nat} : ∀ (E : List S66) (f : Nat → Nat → Int), (∀ x ∈ E, 1 ≤ x.f2 ∧ x.f2 ≤ 50) → (∀ i j, 0 ≤ f i j ∧ f i j ≤ 50) → ∀ i j, 0 ≤ E.foldl timesStep f i j ∧ E.foldl timesStep f i j ≤ 50
 | [], f, _, hf => hf
 | x :: E, f, h, hf => by
  refine timesOf_bound (n := n) E _ (fun y hy => h y (List.mem_cons_of_mem _ hy)) ?_
  intro i j
  have hx := h x (List.mem_cons_self ..)
  have hff := hf i j
  unfold timesStep
  split
  ·exact hff
  ·dsimp only
   split
   ·omega
   ·split
    ·omega
    ·exact hff
theorem EdgesIn.times {n : Nat} {E : List S66} (h : EdgesIn n E) (i j : Nat) : 0 ≤ timesOf E i j ∧ timesOf E i j ≤ 50 := timesOf_bound (n := n) E _ (fun x hx => ⟨(h x hx).2.2.2.2.1, (h x hx).2.2.2.2.2⟩) (fun _ _ => by simp) i j
def edgesInB (n : Int) (E : List S66) : Bool := E.all fun x => decide (0 ≤ x.f0 ∧ x.f0 < n ∧ 0 ≤ x.f1 ∧ x.f1 < n ∧ 1 ≤ x.f2 ∧ x.f2 ≤ 50)
theorem edgesIn_of {n : Nat} {E : List S66} (h : edgesInB n E = true) : EdgesIn n E := fun x hx => by simpa using List.all_eq_true.1 h x hx
theorem infoEnds : (Try.prog.info? 115).map (fun i => (i.zero, i.size, i.bytes)) = some (some (.agg #[.int .i64 0, .int .i64 0]), 2, 16) := by kernel_rfl
def sizeTo (E : List S66) : Nat → Nat
 | 0 => 0
 | i + 1 => sizeTo E i + (rd_T66 E i).f2.toNat
def multsOk (E : List S66) : Bool := decide (E.length ≤ 40) && E.all fun x => decide (1 ≤ x.f2 ∧ x.f2 ≤ 50)
theorem sizeTo_le {E : List S66} (h : ∀ k, k < E.length → 1 ≤ (rd_T66 E k).f2 ∧ (rd_T66 E k).f2 ≤ 50) : ∀ i, i ≤ E.length → sizeTo E i ≤ 50 * i
 | 0, _ => by simp [sizeTo]
 | i + 1, hi => by
  have h1 := sizeTo_le h i (by omega)
  have h2 := h i (by omega)
  simp only [sizeTo]; omega
theorem multsOk_get {E : List S66} (h : multsOk E = true) : E.length ≤ 40 ∧ ∀ k, k < E.length → 1 ≤ (rd_T66 E k).f2 ∧ (rd_T66 E k).f2 ≤ 50 := by
 simp only [multsOk, Bool.and_eq_true, decide_eq_true_eq, List.all_eq_true] at h
 refine ⟨h.1, fun k hk => ?_⟩
 have e : rd_T66 E k = E[k] := by simp [rd_T66, List.getD_eq_getElem?_getD, List.getElem?_eq_getElem hk]
 rw [e]; exact h.2 _ (List.getElem_mem hk)
def sandpileref08_Size.f (N : Int) (E : List S66) : Option Int := if multsOk E = true then some (sizeTo E E.length : Nat) else none
theorem ends08_calls (N : Int) (A0 : Option Addr) (c0 : Nat) (E : List S66) (w : World) (hr0 : Kd.C k66 w A0 E.length E) (hE : multsOk E = true) :
  Calls Try.prog 79 #[.agg #[.int .i64 N, .slice A0 E.length c0]] w fun e w' => ∃ A c, e = .returned (.slice A (sizeTo E E.length) c) ∧ Below w.heap.size w w' := by
 have hu := Try.underlying24
 have hue := Try.underlying66
 obtain ⟨hlen, hm⟩ := multsOk_get hE
 have hsz := fun i hi => sizeTo_le hm i hi
 have HM := Aside0.mk hm
 have HS := Aside0.mk hsz
 clear hm hsz hE
 obtain ⟨i0, hi0, hz0, hz1, hz2⟩ := info_parts infoEnds
 have HI := Aside0.mk hi0
 have HZ0 := Aside0.mk hz0
 have HZ1 := Aside0.mk hz1
 have HZ2 := Aside0.mk hz2
 clear hi0 hz0 hz1 hz2
 go_enter Try.func79, Try.ntmps79
 go_wp2
 have hBX : (w.alloc (.cells #[.int .i64 N, .slice A0 E.length c0] 24)).heap[w.heap.size]? = some (.cells #[.int .i64 N, .slice A0 E.length c0] 24 (0, 0)) := by simpa using heap_alloc_new w _
 have hB0 := below_alloc (Below.refl w.heap.size w) (.cells #[.int .i64 N, .slice A0 E.length c0] 24)
 have hbl : w.heap.size ≤ w.heap.size := Nat.le_refl _
 generalize hgb : w.heap.size = gb at hBX hbl ⊢
 rw [hgb] at hB0
 generalize (w.alloc (.cells #[.int .i64 N, .slice A0 E.length c0] 24)) = W0 at hBX hB0 ⊢
 go_loopw [3, 4] (fun v i wr => ∃ (k : Nat) (xs : List Value), k ≤ E.length ∧ i = .int .i64 k ∧ Aside0 (wr.ownsRow gb 115 2 v (sizeTo E k) xs) ∧ Aside0 (wr.heap[gb]? = some (.cells #[.int .i64 N, .slice A0 E.length c0] 24 (0, 0))) ∧ Aside0 (Below gb w wr)) (fun _ i _ => E.length - (intOf i).toNat)
 case atStart => exact ⟨0, [], Nat.zero_le _, rfl, ⟨own_nil _ _ _ _⟩, ⟨hBX⟩, ⟨hB0⟩⟩
 case round =>
  obtain ⟨k, xs, hk, rfl, HO, HX, HB⟩ := hrel
  have hc0 : wr.cell? ⟨gb, 0, none⟩ = some (.int .i64 N) := (blk_cell HX.out 0).trans rfl
  have hc1 : wr.cell? ⟨gb, 1, none⟩ = some (.slice A0 E.length c0) := (blk_cell HX.out 1).trans rfl
  by_cases hlt : k < E.length
  ·obtain ⟨wo, rfl⟩ : ∃ wo : World, wo = wr := ⟨_, rfl⟩
   have hmk := HM.out k hlt
   have hss : sizeTo E (k + 1) = sizeTo E k + (rd_T66 E k).f2.toNat := rfl
   have hsk := HS.out (k + 1) (by omega)
   have Hss := Lib.hid hss
   obtain ⟨ad, rfl, hx0, hx1, hx2⟩ := at_T66 hr0 k (by omega) (by omega)
   rw [Int.toNat_natCast] at hx0 hx1 hx2
   generalize rd_T66 E k = x at hmk hx0 hx1 hx2 Hss hss
   obtain ⟨a, b, m⟩ := x
   simp only at hmk hx0 hx1 hx2
   obtain ⟨m, rfl⟩ := Int.eq_ofNat_of_zero_le (show 0 ≤ m by omega)
   simp only [Int.toNat_natCast] at hss
   have hbig : sizeTo E k + m ≤ 2000 := by omega
   have hk0 : (0 : Int) ≤ (k : Int) := by omega
   have hk1 : (k : Int) < (E.length : Int) := by omega
   have HX0 := Aside0.mk hx0
   have HX1 := Aside0.mk hx1
   have HX2 := Aside0.mk hx2
   have hadl : (ad.add (k * 3)).block < gb := by rw [← hgb]; exact World.block_lt_of_cell? w _ hx0
   clear hx0 hx1 hx2 hss hsk
   go_wp2
   go_loopw [3, 5] (fun v i wr => ∃ (j : Nat) (xs : List Value), j ≤ m ∧ i = .int .i64 j ∧ Aside0 (wr.ownsRow gb 115 2 v (sizeTo E k + j) xs) ∧ Aside0 (wr.heap[gb]? = some (.cells #[.int .i64 N, .slice (some ad) E.length c0] 24 (0, 0))) ∧ Aside0 (Below gb w wr)) (fun _ i _ => m - (intOf i).toNat)
   case atStart => exact ⟨0, xs, Nat.zero_le _, rfl, HO, HX, HB⟩
   case round =>
    clear hc0 hc1 HO HX HB
    obtain ⟨j, ys, hj, rfl, HO, HX, HB⟩ := hrel
    have hc0 : wr.cell? ⟨gb, 0, none⟩ = some (.int .i64 N) := (blk_cell HX.out 0).trans rfl
    have hc1 : wr.cell? ⟨gb, 1, none⟩ = some (.slice (some ad) E.length c0) := (blk_cell HX.out 1).trans rfl
    have hx0 := (HB.out.cell (p := ad.add (k * 3)) hadl).trans HX0.out
    have hx1 := (HB.out.cell (p := ⟨(ad.add (k * 3)).block, (ad.add (k * 3)).off + 1, none⟩) hadl).trans HX1.out
    have hx2 := (HB.out.cell (p := ⟨(ad.add (k * 3)).block, (ad.add (k * 3)).off + 2, none⟩) hadl).trans HX2.out
    by_cases hjm : j < m
    ·have ag : u3.ownBlock ≠ some gb := fun e => own_ne HO.out HX.out (by decide) e.symm
     have ak : u3.ownBlock ≠ some (ad.add (k * 3)).block := fun e => by have := own_base HO.out _ e; omega
     have lg : gb < wr.heap.size := blk_lt HX.out
     have la : (ad.add (k * 3)).block < wr.heap.size := by omega
     go_wp2
     go_region_held3 (fun w' => w'.cell? ⟨gb, 1, none⟩ = some (.slice (some ad) E.length c0) ∧ w'.cell? (ad.add (k * 3)) = some (.int .i64 a) ∧ w'.cell? ⟨(ad.add (k * 3)).block, (ad.add (k * 3)).off + 1, none⟩ = some (.int .i64 b))
      (first
       | go_keep
       | (
         go_split_ands
         refine ⟨?_, ?_, ?_⟩
         ·(rw [hgrow.cell_far ⟨gb, 1, none⟩ (by simp; omega) (Ne.symm ag)]; assumption)
         ·(rw [hgrow.cell_far (ad.add (k * 3)) (by simp; omega) (Ne.symm ak)]; assumption)
         ·(rw [hgrow.cell_far ⟨(ad.add (k * 3)).block, (ad.add (k * 3)).off + 1, none⟩ (by simp; omega) (Ne.symm ak)]; assumption)))
      ((refine step_append_lies _ (by rfl) _ _ _ (by rfl) gb 115 i0 _ 2 16 Try.underlying95 HI.out HZ0.out HZ1.out HZ2.out rfl (by omega) u3 (sizeTo E k + j) ys (by rfl) ((HO.out.alloc _).drew) ⟨wr.heap.size, 0, none⟩ 1 1 [.int .i64 a, .int .i64 b] (by rfl) (by rfl) (World.news_of_block (cs := #[.int .i64 a, .int .i64 b]) (t := 115) (fr := (0, 0)) (heap_alloc_new wr _)) (by simp [Value.oneCell']) (by omega) (by unfold maxLen; omega) (by omega) (by simp; omega) (wr.heap.size + 1) (by simp) ?_; intro gg cap w1 hown1 hgrow hat hlt))
     have n1 := Aside0.mk (blk_grown (blk_drew (blk_alloc HX.out _)) hgrow (Ne.symm ag))
     have n2 := Aside0.mk (Below.grown (below_drew1 (HB.out.alloc (by omega) _)) hgrow (by simp; omega) (own_base HO.out))
     clear hgrow hat hlt hx0 hx1 hx2 hc0 hc1
     go_wp2
     go_roundw
     case rel => exact ⟨j + 1, _, by omega, by go_num, ⟨by rw [← Nat.add_assoc]; exact hown1⟩, n1, n2⟩
     case measure => (show m - ((j : Int) + 1).toNat < m - ((j : Int)).toNat; omega)
    ·obtain rfl : j = m := by omega
     go_wp2
     exact ⟨⟨k + 1, ys, by omega, by go_num, ⟨by rw [Hss.out, Int.toNat_natCast]; exact HO.out⟩, HX, HB⟩, (show E.length - ((k : Int) + 1).toNat < E.length - ((k : Int)).toNat by omega)⟩
  ·obtain rfl : k = E.length := by omega
   go_wp2
   go_ret
   obtain ⟨A, c, rfl⟩ := own_slice HO.out
   exact ⟨A, c, rfl, by rw [hgb]; exact HB.out⟩
theorem sandpileref08_Size.calls (a0_0 : Int) (A0_1 : Option Addr) (c0_1 : Nat) (l0_1 : List (S66)) (r : Int) (w : World) (hr0_1 : Kd.C k66 w A0_1 l0_1.length l0_1) (hc0_1 : l0_1.length ≤ c0_1) (h : sandpileref08_Size.f a0_0 l0_1 = some r) :
  Calls Try.prog 59 #[.agg #[.int .i64 a0_0, .slice A0_1 l0_1.length c0_1]] w fun e w' => e = .returned (.int .i64 r) ∧ Below w.heap.size w w' := by
 unfold sandpileref08_Size.f at h
 split at h
 case isFalse => cases h
 rename_i hE
 injection h with h
 subst h
 go_enter Try.func59, Try.ntmps59
 go_wp2_with (first | (go_at_call 79; refine (ends08_calls a0_0 A0_1 c0_1 l0_1 _ (Kd.C_alloc hr0_1 _) hE).mono ?_; rintro e w1 ⟨A, c, rfl, hb⟩; have HB := Aside0.mk (below_step (below_alloc (Below.refl w.heap.size w) _) hb); clear hb))
 go_ret
 exact ⟨rfl, HB.out⟩
section
structure WoodCells (cs : Array Value) (n : Int) (times : Nat → Nat → Int) (chips : Value) (burnt : Nat → Bool) : Prop where
 size : cs.size = 158
 n : cs[0]? = some (.int .i64 n)
 times : ∀ i j, i < 12 → j < 12 → cs[1 + i * 12 + j]? = some (.int .i64 (times i j))
 chips : cs[145]? = some chips
 burnt : ∀ i, i < 12 → cs[146 + i]? = some (.bool (burnt i))
def WoodAt (w : World) (g : Nat) (n : Int) (times : Nat → Nat → Int) (chips : Value) (burnt : Nat → Bool) : Prop :=
 ∃ cs : Array Value, w.heap[g]? = some (.cells cs 120 (0, 0)) ∧ WoodCells cs n times chips burnt
namespace WoodAt
variable {w w' : World} {g : Nat} {n : Int} {times : Nat → Nat → Int} {chips : Value} {burnt : Nat → Bool}
theorem lt (h : WoodAt w g n times chips burnt) : g < w.heap.size := by
 obtain ⟨cs, hb, _⟩ := h
 exact (Array.getElem?_eq_some_iff.1 hb).1
theorem cellAt {cs : Array Value} {k : Nat} {v : Value} (hb : w.heap[g]? = some (.cells cs 120 (0, 0))) (hv : cs[k]? = some v) : w.cell? ⟨g, k, none⟩ = some v := (blk_cell hb k).trans hv
theorem cell_n (h : WoodAt w g n times chips burnt) : w.cell? ⟨g, 0, none⟩ = some (.int .i64 n) := by
 obtain ⟨cs, hb, hc⟩ := h
 exact cellAt hb hc.n
theorem cell_times (h : WoodAt w g n times chips burnt) (i j : Nat) (hi : i < 12) (hj : j < 12) : w.cell? ⟨g, 1 + i * 12 + j, none⟩ = some (.int .i64 (times i j)) := by
 obtain ⟨cs, hb, hc⟩ := h
 exact cellAt hb (hc.times i j hi hj)
theorem cell_chips (h : WoodAt w g n times chips burnt) : w.cell? ⟨g, 145, none⟩ = some chips := by
 obtain ⟨cs, hb, hc⟩ := h
 exact cellAt hb hc.chips
theorem cell_burnt (h : WoodAt w g n times chips burnt) (i : Nat) (hi : i < 12) : w.cell? ⟨g, 146 + i, none⟩ = some (.bool (burnt i)) := by
 obtain ⟨cs, hb, hc⟩ := h
 exact cellAt hb (hc.burnt i hi)
theorem frozen (h : WoodAt w g n times chips burnt) (k : Nat) : w.frozen? ⟨g, k, none⟩ = false := by
 obtain ⟨cs, hb, _⟩ := h
 exact blk_frozen hb k
theorem below (h : WoodAt w g n times chips burnt) (hb : Below w.heap.size w w') : WoodAt w' g n times chips burnt := by
 obtain ⟨cs, hh, hc⟩ := h
 exact ⟨cs, blk_below hh hb, hc⟩
theorem drew (h : WoodAt w g n times chips burnt) : WoodAt w.drew g n times chips burnt := h
theorem R_set (h : WoodAt w g n times chips burnt) {α : Type} {d : Kd α} {e base : Nat} {ok : Nat → Prop} {v : Value} {xs : List α} (hR : d.R e w base ok v xs) (ht : ∀ q, q ∈ e :: d.E → q ≠ 120) (j : Nat) (u : Value) : d.R e (w.setCell ⟨g, j, none⟩ u) base ok v xs := by
 obtain ⟨cs, hb, _⟩ := h
 exact Kd.R_set hR hb ht j u
theorem drewN (h : WoodAt w g n times chips burnt) (m : Nat) : WoodAt (w.drewN m) g n times chips burnt := h
theorem set_burnt (h : WoodAt w g n times chips burnt) (i : Nat) (hi : i < 12) (b : Bool) : WoodAt (w.setCell ⟨g, 146 + i, none⟩ (.bool b)) g n times chips (fun j => if j = i then b else burnt j) := by
 obtain ⟨cs, hh, hc⟩ := h
 refine ⟨cs.setIfInBounds (146 + i) (.bool b), by simpa using blk_set hh (146 + i) (.bool b), ?_, ?_, ?_, ?_, ?_⟩
 ·simp [hc.size]
 ·rw [Array.getElem?_setIfInBounds_ne (by omega)]; exact hc.n
 ·intro k j hk hj
  rw [Array.getElem?_setIfInBounds_ne (by omega)]; exact hc.times k j hk hj
 ·rw [Array.getElem?_setIfInBounds_ne (by omega)]; exact hc.chips
 ·intro k hk
  have hs := hc.size
  by_cases e : k = i
  ·subst e
   rw [Array.getElem?_setIfInBounds_self_of_lt (by omega)]; simp
  ·rw [Array.getElem?_setIfInBounds_ne (by omega), if_neg e]; exact hc.burnt k hk
theorem set_times (h : WoodAt w g n times chips burnt) (i j : Nat) (hi : i < 12) (hj : j < 12) (x : Int) : WoodAt (w.setCell ⟨g, 1 + i * 12 + j, none⟩ (.int .i64 x)) g n (fun a b => if a = i ∧ b = j then x else times a b) chips burnt := by
 obtain ⟨cs, hh, hc⟩ := h
 refine ⟨cs.setIfInBounds (1 + i * 12 + j) (.int .i64 x), by simpa using blk_set hh (1 + i * 12 + j) (.int .i64 x), ?_, ?_, ?_, ?_, ?_⟩
 ·simp [hc.size]
 ·rw [Array.getElem?_setIfInBounds_ne (by omega)]; exact hc.n
 ·intro k l hk hl
  have hs := hc.size
  by_cases e : k = i ∧ l = j
  ·obtain ⟨rfl, rfl⟩ := e
   rw [Array.getElem?_setIfInBounds_self_of_lt (by omega)]; simp
  ·rw [Array.getElem?_setIfInBounds_ne (by omega), if_neg e]; exact hc.times k l hk hl
 ·rw [Array.getElem?_setIfInBounds_ne (by omega)]; exact hc.chips
 ·intro k hk
  rw [Array.getElem?_setIfInBounds_ne (by omega)]; exact hc.burnt k hk
end WoodAt
theorem ret_int {k : IntKind} {a b : Int} (h : a = b) : Ending.returned (.int k a) = .returned (.int k b) := by rw [h]
def flamesTo (times : Nat → Nat → Int) (burnt : Nat → Bool) (v : Nat) : Nat → Int
 | 0 => 0
 | u + 1 => flamesTo times burnt v u + (if burnt u then times v u else 0)
theorem flamesTo_bound {times : Nat → Nat → Int} {burnt : Nat → Bool} (h : ∀ i j, 0 ≤ times i j ∧ times i j ≤ 50) (v : Nat) : ∀ u : Nat, 0 ≤ flamesTo times burnt v u ∧ flamesTo times burnt v u ≤ 50 * u
 | 0 => by simp [flamesTo]
 | u + 1 => by
  have h1 := flamesTo_bound h v u (burnt := burnt)
  have h2 := h v u
  simp only [flamesTo]
  split <;> omega
theorem flames_calls (g : Nat) (n v : Nat) (times : Nat → Nat → Int) (chips : Value) (burnt : Nat → Bool) (w : World) (hn : n ≤ 12) (hv : v < 12) (ht : ∀ i j, 0 ≤ times i j ∧ times i j ≤ 50) (hw : WoodAt w g n times chips burnt) :
  Calls Try.prog 108 #[.pointer (some ⟨g, 0, none⟩), .int .i64 v] w fun e w' => e = .returned (.int .i64 (flamesTo times burnt v n)) ∧ w = w' := by
 have hcn := hw.cell_n
 go_enter Try.func108, Try.ntmps108
 go_wp2
 go_loop [5, 6, 11] (fun s _ u => ∃ k : Nat, k ≤ n ∧ u = .int .i64 k ∧ s = .int .i64 (flamesTo times burnt v k)) (fun _ _ u => n - (intOf u).toNat)
 case atStart => exact ⟨0, Nat.zero_le _, rfl, rfl⟩
 case round =>
  obtain ⟨k, hk, rfl, rfl⟩ := hrel
  have hb := flamesTo_bound (burnt := burnt) ht v k
  by_cases hlt : k < n
  ·have hcb := hw.cell_burnt k (by omega)
   have hct := hw.cell_times v k hv (by omega)
   have hx := ht v k
   have hs : flamesTo times burnt v (k + 1) = flamesTo times burnt v k + (if burnt k then times v k else 0) := rfl
   have Hs := Lib.hid hs
   clear hs
   cases hbk : burnt k with
   | true =>
    rw [hbk] at hcb
    have Hbk := Lib.hid hbk
    clear hbk
    go_wp2
    go_round
    case rel => exact ⟨k + 1, by omega, by go_num, by rw [Hs.out, Hbk.out]; rfl⟩
    case measure => simp [intOf]; omega
   | false =>
    rw [hbk] at hcb
    have Hbk := Lib.hid hbk
    clear hbk
    go_wp2
    go_round
    case rel => exact ⟨k + 1, by omega, by go_num, by rw [Hs.out, Hbk.out]; simp⟩
    case measure => simp [intOf]; omega
  ·go_wp2
   go_ret
   exact ⟨ret_int (by rw [show k = n from by omega]), rfl⟩
theorem catches_burnt (g : Nat) (n v : Nat) (times : Nat → Nat → Int) (chips : Value) (burnt : Nat → Bool) (w : World) (hv : v < 12) (hw : WoodAt w g n times chips burnt) (hb : burnt v = true) :
  Calls Try.prog 99 #[.pointer (some ⟨g, 0, none⟩), .int .i64 v] w fun e w' => e = .returned (.bool false) ∧ Drawn0 w w' := by
 have hcb := hw.cell_burnt v hv
 rw [hb] at hcb
 clear hb
 have hi0 : (0 : Int) ≤ (v : Int) := by omega
 have hi2 : (v : Int) < 12 := by omega
 go_enter Try.func99, Try.ntmps99
 go_wp2_with fail
 go_quiet (fail)
 go_wp2
 go_ret
 exact ⟨rfl, by repeat (first | exact Drawn0.refl _ | apply Drawn0.step)⟩
theorem catches_not (g : Nat) (n v : Nat) (times : Nat → Nat → Int) (A : Option Addr) (c : Nat) (l : List Int) (burnt : Nat → Bool) (w : World) (hn : n ≤ 12) (hv : v < 12) (hvl : v < l.length) (ht : ∀ i j, 0 ≤ times i j ∧ times i j ≤ 50) (hw : WoodAt w g n times (.slice A l.length c) burnt) (hr : Kd.C (Kd.int .i64) w A l.length l) (hb : burnt v = false) :
  Calls Try.prog 99 #[.pointer (some ⟨g, 0, none⟩), .int .i64 v] w fun e w' => e = .returned (.bool (decide (rd l v < flamesTo times burnt v n))) ∧ Drawn0 w w' := by
 have hcb := hw.cell_burnt v hv
 have hcc := hw.cell_chips
 rw [hb] at hcb
 clear hb
 have hl1 := hr.2.1
 obtain ⟨ad, rfl, hcl⟩ := Kd.at_int hr v (by omega) (by omega)
 rw [Int.toNat_natCast] at hcl
 have hi0 : (0 : Int) ≤ (v : Int) := by omega
 have hi1 : (v : Int) < (l.length : Int) := by omega
 have hi2 : (v : Int) < 12 := by omega
 go_enter Try.func99, Try.ntmps99
 go_wp2_with fail
 go_quiet ((go_at_call 108; refine Calls.quiet_of_same ((flames_calls g n v times _ burnt (w.drewN _) hn hv ht (hw.drewN _)).mono (fun e w' h => ⟨h.1, h.2.symm⟩))))
 go_wp2
 go_ret
 exact ⟨rfl, by repeat (first | exact Drawn0.refl _ | apply Drawn0.step)⟩
def unbTo (burnt : Nat → Bool) : Nat → List Int
 | 0 => []
 | u + 1 => unbTo burnt u ++ (if burnt u then [] else [(u : Int)])
theorem unbTo_length (burnt : Nat → Bool) : ∀ u, (unbTo burnt u).length ≤ u
 | 0 => by simp [unbTo]
 | u + 1 => by
  have := unbTo_length burnt u
  simp only [unbTo, List.length_append]
  split <;> simp <;> omega
theorem unburnt_calls (g : Nat) (n : Nat) (times : Nat → Nat → Int) (chips : Value) (burnt : Nat → Bool) (w : World) (hn : n ≤ 12) (hw : WoodAt w g n times chips burnt) :
  Calls Try.prog 85 #[.pointer (some ⟨g, 0, none⟩)] w fun e w' => ∃ v0_ : Value, e = .returned v0_ ∧ Kd.R (Kd.int .i64) 3 w' w.heap.size (fun _ => True) v0_ (unbTo burnt n) ∧ Below w.heap.size w w' := by
 have hcn := hw.cell_n
 go_enter Try.func85, Try.ntmps85
 go_wp2
 go_loopw [3, 4, 9] (fun s _ u wr => ∃ k : Nat, k ≤ n ∧ u = .int .i64 k ∧ Aside0 (Kd.R (Kd.int .i64) 3 wr w.heap.size (fun _ => True) s (unbTo burnt k)) ∧ Aside0 (Below w.heap.size w wr)) (fun _ _ u _ => n - (intOf u).toNat)
 case atStart => exact ⟨0, Nat.zero_le _, rfl, ⟨Kd.R_nil _ _ _ _ _⟩, ⟨Below.refl _ _⟩⟩
 case round =>
  obtain ⟨k, hk, rfl, HR, HB⟩ := hrel
  have hlen := unbTo_length burnt k
  by_cases hlt : k < n
  ·have hwr := hw.below HB.out
   have hcb := hwr.cell_burnt k (by omega)
   have hcn := hwr.cell_n
   clear hwr
   have hs : unbTo burnt (k + 1) = unbTo burnt k ++ (if burnt k then [] else [(k : Int)]) := rfl
   have Hs := Lib.hid hs
   clear hs
   cases hbk : burnt k with
   | true =>
    rw [hbk] at hcb
    have Hbk := Lib.hid hbk
    clear hbk
    go_wp2
    go_roundw
    case rel => exact ⟨k + 1, by omega, by go_num, ⟨by rw [Hs.out, Hbk.out]; simpa using HR.out⟩, HB⟩
    case measure => simp [intOf]; omega
   | false =>
    rw [hbk] at hcb
    have Hbk := Lib.hid hbk
    clear hbk
    go_wp2_with (at_builtin; refine Kd.R_append (Kd.int .i64) (w0 := w) w.heap.size rfl (.tmp 19) (.tmp 21) 33 3 (.int .i64 0) 8 rfl Try.underlying33 info3 rfl (by decide) (by omega) _ (unbTo burnt k) (k : Int) [.int .i64 k] (fun _ => True) (fun _ => False) rfl rfl rfl (fun _ hk => hk.elim) (fun _ _ => trivial) HR.out HB.out HB.out.size (by omega) ?_; intro v1 w1 hown hb _ _; have HR1 := Aside0.mk hown; have HB1 := Aside0.mk hb; clear hown hb)
    go_roundw
    case rel => exact ⟨k + 1, by omega, by go_num, ⟨by rw [Hs.out, Hbk.out]; exact HR1.out⟩, HB1⟩
    case measure => simp [intOf]; omega
  ·go_wp2
   go_ret
   obtain rfl : k = n := by omega
   exact ⟨_, rfl, HR.out, HB.out⟩
end
end Go.Proofs.Ytffdiakgjakngaa.P
namespace Go.Proofs.Ytffdiakgjakngaa.P
open Go Go.RowKit
set_option linter.unusedVariables false
set_option linter.unusedSimpArgs false
set_option maxHeartbeats 8000000
set_option maxRecDepth 100000
section
def Bk (l : Nat) (A B : World) : Prop := ∃ o o', A.heap[l]? = some o ∧ o.isCells = false ∧ B = A.putObj l o'
theorem Bk.cells {l : Nat} {A B : World} (h : Bk l A B) {k : Nat} {cs : Array Value} {t : TypeId} {fr : Nat × Nat} (hk : A.heap[k]? = some (.cells cs t fr)) : B.heap[k]? = some (.cells cs t fr) := by
 obtain ⟨o, o', hl, ho, rfl⟩ := h
 rw [World.putObj_heap_other]; · exact hk
 rintro rfl; rw [hl] at hk; injection hk with hk; subst hk; simp [Obj.isCells] at ho
theorem Bk.size {l : Nat} {A B : World} (h : Bk l A B) : B.heap.size = A.heap.size := by
 obtain ⟨o, o', hl, ho, rfl⟩ := h; simp [World.putObj]
theorem Bk.heap {l : Nat} {A B : World} (h : Bk l A B) (k : Nat) (hk : k ≠ l) : B.heap[k]? = A.heap[k]? := by
 obtain ⟨o, o', hl, ho, rfl⟩ := h; exact World.putObj_heap_other hk
theorem Bk.below {l : Nat} {A B : World} (h : Bk l A B) (n : Nat) (hn : n ≤ l) : Below n A B := by
 obtain ⟨o, o', hl, ho, rfl⟩ := h
 exact (Below.refl n A).grown (grownBy_putObj' A l o') (by have := (Array.getElem?_eq_some_iff.1 hl).1; omega) (fun k e => by cases e; omega)
def KeepLD (n : Nat) (A B : World) : Prop := ∀ k o, n ≤ k → k < n + 2 → A.heap[k]? = some o → o.isCells = false → B.heap[k]? = some o
theorem KeepLD.refl (n : Nat) (A : World) : KeepLD n A A := fun _ _ _ _ h _ => h
theorem KeepLD.trans {n : Nat} {A B C : World} (h : KeepLD n A B) (k : KeepLD n B C) : KeepLD n A C := fun j o h1 h2 h3 h4 => k j o h1 h2 (h j o h1 h2 h3 h4) h4
def postSt {σ α : Type} (nw : Nat) (Kp : World → World → Prop) (I : List α → World → Prop) (Ix : Code → List α → World → Prop) (xs : List α) (W : World) : Exit → Act → World → Prop
 | .normal, _, W' => KeepLD nw W W' ∧ Kp W W' ∧ I xs W'
 | .ret, _, W' => KeepLD nw W W' ∧ Ix .ret xs W'
 | _, _, _ => False
variable {F : Fence} {n : Nat} {P : Program}
def SeqSt {σ α : Type} (F : Fence) (n : Nat) (P : Program) (gf : Nat) (lb : Array Value) (encs : α → Array Value) (Start : σ → World → World → Prop) (St : σ → World → World → Prop) (Ar : σ → α → World → World → Prop) (Kp : σ → World → World → Prop) (S : σ → List α → World → Prop) (Sp : σ → List α → World → Prop) (Bd : List α → Prop) (W : World) : Prop :=
 ∀ (l : Nat) (J Jx : σ → List α → World → Prop), (∀ s pre A B, J s pre A → St s A B → J s pre B) → (∀ s pre A B, Jx s pre A → St s A B → Jx s pre B) →
  (∀ s W1, Start s W W1 → J s [] W1) →
  (∀ s pre x Wb W1, J s pre Wb → Ar s x Wb W1 → Bd pre → YieldAt F (n - 1) P l (encs x) W1 fun e W' =>
   (e = .returned (.bool true) ∧ J s (pre ++ [x]) W' ∧ Kp s W1 W') ∨ (e = .returned (.bool false) ∧ Jx s (pre ++ [x]) W')) →
  CallsIn F n P gf (#[.func (.yield l) #[] #[]] ++ lb) W fun e W' => (∃ v, e = .returned v) ∧ ((∃ s xs, S s xs W' ∧ J s xs W') ∨ (∃ s pre, Sp s pre W' ∧ Jx s pre W'))
theorem wpIn_rangeFunc_st {σ α : Type} {g : Operand} {ps : Array Tmp} {assign body : Code} {Q : Exit → Act → World → Prop} {a : Act} {w : World}
  (hro : F.round = none) (h1 : 1 ≤ n) {gf : Nat} {lb : Array Value} (hg : a.eval g = .func (.func gf) #[] lb) (hFg : F.fn gf) (eg : ∀ args w, (callFunc gf args).run P w = .ok (.enter gf args) w)
  {encs : α → Array Value} {Start : σ → World → World → Prop} {St : σ → World → World → Prop} {Ar : σ → α → World → World → Prop} {Kp : σ → World → World → Prop} {S Sp : σ → List α → World → Prop} {Bd : List α → Prop}
  (hseq : ∀ o, SeqSt F (n - 1) P gf lb encs Start St Ar Kp S Sp Bd ((w.alloc (.deferred (some []))).alloc (.loop o))) (hps : ∀ x, (encs x).size = ps.size)
  (Adm : σ → Prop) (hAdm : ∀ o s W1, Start s ((w.alloc (.deferred (some []))).alloc (.loop o)) W1 → Adm s ∧ KeepLD w.heap.size ((w.alloc (.deferred (some []))).alloc (.loop o)) W1)
  (hSt : ∀ s A B, Adm s → St s A B → KeepLD w.heap.size A B) (hAr : ∀ s x A B, Adm s → Ar s x A B → KeepLD w.heap.size A B)
  (I : σ → List α → World → Prop) (Ix : Code → σ → List α → World → Prop)
  (hIs : ∀ s pre A B, Adm s → I s pre A → St s A B → I s pre B) (hIxs : ∀ c s pre A B, Adm s → Ix c s pre A → St s A B → Ix c s pre B)
  (hIb : ∀ s pre A B, I s pre A → Bk (w.heap.size + 1) A B → I s pre B) (hIxb : ∀ c s pre A B, Ix c s pre A → Bk (w.heap.size + 1) A B → Ix c s pre B)
  (hKt : ∀ s A B C D, Bk (w.heap.size + 1) A B → Kp s B C → Bk (w.heap.size + 1) C D → Kp s A D)
  (h0 : ∀ o s W1, Start s ((w.alloc (.deferred (some []))).alloc (.loop o)) W1 → I s [] W1) (a₁ : α → Act)
  (hassign : ∀ (l : Nat) (x : α) (W : World) (K : Act → World → Prop), K (a₁ x) W →
   assign.wpIn (F.inRound l) (n - 1 - 1) P (Exit.then K (fun _ _ _ => False)) { tmps := (ps.zip (encs x)).foldl (fun t (p, v) => t.setIfInBounds p v) a.tmps, defers := [] } W)
  (hbody : ∀ (l : Nat) (s : σ) (pre : List α) (x : α) (Wb W1 W : World), Adm s → I s pre Wb → Ar s x Wb W1 → Bd pre → Bk (w.heap.size + 1) W1 W → body.wpIn (F.inRound l) (n - 1 - 1) P (postSt (σ := σ) w.heap.size (Kp s) (I s) (fun c => Ix c s) (pre ++ [x]) W) (a₁ x) W)
  (hdone : ∀ (s : σ) (xs : List α) (W W' : World), Adm s → S s xs W → I s xs W → Bk (w.heap.size + 1) W W' → W'.heap[w.heap.size]? = some (.deferred (some [])) → Q .normal { a with defers := { target := .collected w.heap.size, args := #[] } :: a.defers } W')
  (hstop : ∀ (c : Code) (s : σ) (pre : List α) (W W' : World), Adm s → Sp s pre W → Ix c s pre W → Bk (w.heap.size + 1) W W' → W'.heap[w.heap.size]? = some (.deferred (some [])) → c.wpIn F n P Q { a with defers := { target := .collected w.heap.size, args := #[] } :: a.defers } W') :
  (Code.rangeFunc g ps assign body).wpIn F n P Q a w := by
 refine wpIn_rangeFunc ?_
 intro fn hfn
 rw [hro]
 obtain ⟨rec, hrec⟩ : ∃ rec : LoopState → Option Code → Loop, rec = fun st pe => { state := st, pending := pe, fn, tmps := a.tmps, params := ps, assign, body, defers := w.heap.size } := ⟨_, rfl⟩
 obtain ⟨W1, hW1⟩ : ∃ W1, (w.alloc (.deferred (some []))).alloc (.loop (rec .ready none)) = W1 := ⟨_, rfl⟩
 have hL1 : W1.heap[w.heap.size + 1]? = some (.loop (rec .ready none)) := by
  rw [← hW1]; have := World.alloc_heap_new (w.alloc (.deferred (some []))) (.loop (rec .ready none)); rwa [World.size_alloc] at this
 have hK1 : W1.heap[w.heap.size]? = some (.deferred (some [])) := by
  rw [← hW1]; exact (Below.heap_alloc _ _ _ (by simp)).trans (World.alloc_heap_new w _)
 refine ⟨w.heap.size + 1, [{ target := .collected w.heap.size, args := #[] }], W1, { target := .fn (.func gf) lb, args := #[.func (.yield (w.heap.size + 1)) #[] #[]] }, W1, gf,
  #[.func (.yield (w.heap.size + 1)) #[] #[]] ++ lb, W1, ?_, ?_, ?_, ?_, fun _ => h1, ?_⟩
 ·rw [← hW1, hrec]; exact run_enterLoop_outer _ _ _ _ _
 ·simp only [resolve, hg]
  simp [go_sem]
 ·intro f' hf'; simp [Target.leads] at hf'; subst hf'; exact hFg
 ·simp [invoke, go_sem, eg]
 ·have hs := hseq (rec .ready none)
  rw [hW1] at hs
  have ld : ∀ {A B : World} {r : Loop}, KeepLD w.heap.size A B → A.heap[w.heap.size + 1]? = some (.loop r) → B.heap[w.heap.size + 1]? = some (.loop r) := fun h ho => h _ _ (by omega) (by omega) ho rfl
  have ldd : ∀ {A B : World}, KeepLD w.heap.size A B → A.heap[w.heap.size]? = some (.deferred (some [])) → B.heap[w.heap.size]? = some (.deferred (some [])) := fun h ho => h _ _ (by omega) (by omega) ho rfl
  refine (hs (w.heap.size + 1)
   (fun s pre W => Adm s ∧ I s pre W ∧ W.heap[w.heap.size + 1]? = some (.loop (rec .ready none)) ∧ W.heap[w.heap.size]? = some (.deferred (some [])))
   (fun s pre W => Adm s ∧ ∃ c, Ix c s pre W ∧ W.heap[w.heap.size + 1]? = some (.loop (rec .done (some c))) ∧ W.heap[w.heap.size]? = some (.deferred (some [])))
   (fun s pre A B h hst => ⟨h.1, hIs s pre A B h.1 h.2.1 hst, ld (hSt s A B h.1 hst) h.2.2.1, ldd (hSt s A B h.1 hst) h.2.2.2⟩)
   (fun s pre A B h hst => by
    obtain ⟨ha, c, hc, hl, hk⟩ := h
    exact ⟨ha, c, hIxs c s pre A B ha hc hst, ld (hSt s A B ha hst) hl, ldd (hSt s A B ha hst) hk⟩)
   (fun s W2 hst => by
    rw [← hW1] at hst
    have hk := hAdm (rec .ready none) s W2 hst
    have hkk := hk.2
    rw [hW1] at hkk
    exact ⟨hk.1, h0 _ s W2 hst, ld hkk hL1, ldd hkk hK1⟩)
   ?_).mono ?_
  ·rintro s pre x Wb W ⟨ha, hi, hl0, hk0⟩ har hbd
   have hkk := hAr s x Wb W ha har
   have hl := ld hkk hl0
   have hk := ldd hkk hk0
   have hlt : w.heap.size + 1 < W.heap.size := (Array.getElem?_eq_some_iff.1 hl).1
   have hy := run_yield (P := P) (args := encs x) hl (by rw [hrec]; exact hps x)
   rw [hrec] at hy
   have hbk : Bk (w.heap.size + 1) W (W.putObj (w.heap.size + 1) (.loop { rec .ready none with state := .busy })) := ⟨_, _, hl, rfl, rfl⟩
   refine ⟨fn, _, assign, body, hy, roundIn_of_wpIn hfn (hassign _ x W _ ⟨_, run_beginRound hl (by rw [hrec]), ?_⟩)⟩
   have hl2 : (W.putObj (w.heap.size + 1) (.loop { rec .ready none with state := .busy })).heap[w.heap.size + 1]? = some (.loop { rec .ready none with state := .busy }) := World.putObj_heap_same hlt
   have hk2 : (W.putObj (w.heap.size + 1) (.loop { rec .ready none with state := .busy })).heap[w.heap.size]? = some (.deferred (some [])) := (World.putObj_heap_other (by omega)).trans hk
   refine wpIn_mono (hbody _ s pre x Wb W _ ha hi har hbd hbk) ?_
   have fin : ∀ (jump : Option Code) (W3 : World), KeepLD w.heap.size (W.putObj (w.heap.size + 1) (.loop { rec .ready none with state := .busy })) W3 →
     (Instr.endRound (w.heap.size + 1) jump).run P W3 = .ok (.bool jump.isNone) (W3.putObj (w.heap.size + 1) (.loop (rec (if jump.isNone then .ready else .done) jump))) ∧
     Bk (w.heap.size + 1) W3 (W3.putObj (w.heap.size + 1) (.loop (rec (if jump.isNone then .ready else .done) jump))) ∧
     (W3.putObj (w.heap.size + 1) (.loop (rec (if jump.isNone then .ready else .done) jump))).heap[w.heap.size + 1]? = some (.loop (rec (if jump.isNone then .ready else .done) jump)) ∧
     (W3.putObj (w.heap.size + 1) (.loop (rec (if jump.isNone then .ready else .done) jump))).heap[w.heap.size]? = some (.deferred (some [])) := fun jump W3 hk3 => by
    have hl3 := ld hk3 hl2
    have := run_endRound (P := P) jump hl3
    rw [hrec] at this ⊢
    exact ⟨this, ⟨_, _, hl3, rfl, rfl⟩, World.putObj_heap_same (Array.getElem?_eq_some_iff.1 hl3).1, (World.putObj_heap_other (by omega)).trans (ldd hk3 hk2)⟩
   rintro e a3 W3 hp
   cases e with
   | normal =>
    obtain ⟨hk3, hkp3, hi3⟩ := hp
    obtain ⟨hr, hb4, hl4, hk4⟩ := fin none W3 hk3
    exact ⟨_, _, hr, .inl ⟨rfl, ⟨ha, hIb s _ _ _ hi3 hb4, hl4, hk4⟩, hKt s _ _ _ _ hbk hkp3 hb4⟩⟩
   | ret =>
    obtain ⟨hk3, hi3⟩ := hp
    obtain ⟨hr, hb4, hl4, hk4⟩ := fin (some .ret) W3 hk3
    exact ⟨_, _, hr, .inr ⟨rfl, ha, .ret, hIxb _ s _ _ _ hi3 hb4, hl4, hk4⟩⟩
   | exit id => exact hp.elim
   | goto t => exact hp.elim
   | panic ch => exact hp.elim
   | outgrown => exact hp.elim
  ·rintro e W2 ⟨⟨v, rfl⟩, (⟨s, xs, hS, ha, hi, hl, hk⟩ | ⟨s, pre, hSp, ha, c, hi, hl, hk⟩)⟩
   ·exact ⟨none, _, by have := run_endLoop (P := P) hl (by rw [hrec]; simp); rw [hrec] at this; exact this, hdone s xs W2 _ ha hS hi ⟨_, _, hl, rfl, rfl⟩ ((World.putObj_heap_other (by omega)).trans hk)⟩
   ·exact ⟨some c, _, by have := run_endLoop (P := P) hl (by rw [hrec]; simp); rw [hrec] at this; exact this, hstop c s pre W2 _ ha hSp hi ⟨_, _, hl, rfl, rfl⟩ ((World.putObj_heap_other (by omega)).trans hk)⟩
end
end Go.Proofs.Ytffdiakgjakngaa.P
