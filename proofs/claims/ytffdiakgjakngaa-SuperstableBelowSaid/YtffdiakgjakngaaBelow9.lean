/- A part of the proof that SuperstableBelow answers true (text 9 of 12): own walks and plain laws; no conditions. -/
import Derived.Test.YtffdiakgjakngaaBelow8
namespace Go.Proofs.Ytffdiakgjakngaa.P
open Go.RowKit Go.Proofs.YtffdiakgjakngaaW.PrintWords Go.Proofs.YtffdiakgjakngaaW.PrintLast Go.Proofs.YtffdiakgjakngaaW.PrintMore
set_option linter.unusedVariables false
set_option linter.unusedSimpArgs false
set_option maxHeartbeats 8000000
set_option maxRecDepth 100000
section
set_option maxRecDepth 100000
theorem awake28_true : awake28.f 60 = some true := by kernel_rfl
def sandpilelaw28_awake.f : Option (Bool) := some true
theorem sandpilelaw28_awake.calls (r : Bool) (w : World) (h : sandpilelaw28_awake.f = some r) :
  Calls Try.prog 11 #[] w fun e w' => e = .returned (.bool r) ∧ Below w.heap.size w w' := by
 obtain rfl := Option.some.inj h
 exact awake28.calls 60 true rfl w awake28_true
end
def sandpileref08_Vertex.f (a0_0 : Int) (l0_1 : List (S66)) (a1 : Int) : Option (Bool) := if a1 ≥ 0 then (some (decide (a1 < a0_0))) else (some false)
theorem sandpileref08_Vertex.calls (a0_0 : Int) (A0_1 : Option Addr) (c0_1 : Nat) (l0_1 : List (S66)) (a1 : Int) (r : Bool) (w : World) (hr0_1 : Kd.C k66 w A0_1 l0_1.length l0_1) (hc0_1 : l0_1.length ≤ c0_1) (h : sandpileref08_Vertex.f a0_0 l0_1 a1 = some r) :
  Calls Try.prog 48 #[.agg #[.int .i64 a0_0, .slice A0_1 l0_1.length c0_1], .int .i64 a1] w fun e w' => e = .returned (.bool r) ∧ Below w.heap.size w w' := by
 have hu24 := Try.underlying24
 have HR0_1 := Aside0.mk hr0_1
 have HC0_1 := Aside0.mk hc0_1
 clear hr0_1 hc0_1
 have HB := Aside0.mk (Below.refl w.heap.size w)
 have H : (if a1 ≥ 0 then (some (decide (a1 < a0_0))) else (some false)) = some r := h
 clear h
 by_cases c3 : a1 ≥ 0
 ·rw [if_pos c3] at H
  have c3b0 : decide (0 ≤ a1) = true := decide_eq_true c3
  clear c3
  obtain rfl := Option.some.inj H
  go_enter Try.func48, Try.ntmps48
  go_wp2_with (first | ((with_reducible refine gate_dst (N := 2) rfl ?_); refine zX 2 #[.int .i64 a0_0, .slice A0_1 l0_1.length c0_1] 24 ?_; intro gb101 hg w4 hbox hb; have BK101 := Aside0.mk (hbox); have GW101 := zG HB hg; have GE101 := zG HB hg; replace HB := zS HB hb; clear hb hbox hg; obtain ⟨hcz5_0, hcz5_1, hfz5_0, hfz5_1⟩ := zD2 BK101))
  go_ret
  exact ⟨zE, zB⟩
 ·rw [if_neg c3] at H
  have c3b0 : decide (0 ≤ a1) = false := decide_eq_false c3
  clear c3
  obtain rfl := Option.some.inj H
  go_enter Try.func48, Try.ntmps48
  go_wp2_with (first | ((with_reducible refine gate_dst (N := 2) rfl ?_); refine zX 2 #[.int .i64 a0_0, .slice A0_1 l0_1.length c0_1] 24 ?_; intro gb101 hg w6 hbox hb; have BK101 := Aside0.mk (hbox); have GW101 := zG HB hg; have GE101 := zG HB hg; replace HB := zS HB hb; clear hb hbox hg))
  go_ret
  exact ⟨zE, zB⟩
def sandpileref08_edge.j0 : Nat → Int → Bool → Int → List (S66) → Int → Int → Int → Option (Int)
 | 0, _, _, _, _, _, _, _ => none
 | k + 1, x1, x33, x103000, x103001, x105000, x105001, x105002 => if x33 = true then (some 2) else (if x105000 > x105001 then (some 9) else (if x1 > 0 then (if 0 ≤ (wrap64 (x1 - 1)) then (if (wrap64 (x1 - 1)) < (x103001.length : Int) then (if x105000 < ((rd_T66 x103001 (wrap64 (x1 - 1))).f0) then (some 9) else (if x105000 = ((rd_T66 x103001 (wrap64 (x1 - 1))).f0) then (if x105001 ≤ ((rd_T66 x103001 (wrap64 (x1 - 1))).f1) then (some 9) else (some 0)) else (some 0))) else (none)) else (none)) else (some 0)))
def sandpileref08_edge.f (k : Nat) (a0_0 : Int) (l0_1 : List (S66)) (a1 : Int) : Option (Int) := if 0 ≤ a1 then (if a1 < (l0_1.length : Int) then ((sandpileref08_Vertex.f a0_0 l0_1 ((rd_T66 l0_1 a1).f0)).bind fun t105 => (if t105 = true then ((sandpileref08_Vertex.f a0_0 l0_1 ((rd_T66 l0_1 a1).f1)).bind fun t106 => (if t106 = true then (if ((rd_T66 l0_1 a1).f2) < 1 then (sandpileref08_edge.j0 k a1 true a0_0 l0_1 ((rd_T66 l0_1 a1).f0) ((rd_T66 l0_1 a1).f1) ((rd_T66 l0_1 a1).f2)) else (sandpileref08_edge.j0 k a1 (decide (((rd_T66 l0_1 a1).f2) > 50)) a0_0 l0_1 ((rd_T66 l0_1 a1).f0) ((rd_T66 l0_1 a1).f1) ((rd_T66 l0_1 a1).f2))) else (sandpileref08_edge.j0 k a1 true a0_0 l0_1 ((rd_T66 l0_1 a1).f0) ((rd_T66 l0_1 a1).f1) ((rd_T66 l0_1 a1).f2)))) else (sandpileref08_edge.j0 k a1 true a0_0 l0_1 ((rd_T66 l0_1 a1).f0) ((rd_T66 l0_1 a1).f1) ((rd_T66 l0_1 a1).f2)))) else (none)) else (none)
theorem sandpileref08_edge.calls (k : Nat) (a0_0 : Int) (A0_1 : Option Addr) (c0_1 : Nat) (l0_1 : List (S66)) (a1 : Int) (r : Int) (w : World) (hr0_1 : Kd.C k66 w A0_1 l0_1.length l0_1) (hc0_1 : l0_1.length ≤ c0_1) (h : sandpileref08_edge.f k a0_0 l0_1 a1 = some r) :
  Calls Try.prog 73 #[.agg #[.int .i64 a0_0, .slice A0_1 l0_1.length c0_1], .int .i64 a1] w fun e w' => e = .returned (.int .i64 r) ∧ Below w.heap.size w w' := by
 have hu24 := Try.underlying24
 have hu66 := Try.underlying66
 have HR0_1 := Aside0.mk hr0_1
 have HC0_1 := Aside0.mk hc0_1
 clear hr0_1 hc0_1
 have HB := Aside0.mk (Below.refl w.heap.size w)
 have H : (if 0 ≤ a1 then (if a1 < (l0_1.length : Int) then ((sandpileref08_Vertex.f a0_0 l0_1 ((rd_T66 l0_1 a1).f0)).bind fun t105 => (if t105 = true then ((sandpileref08_Vertex.f a0_0 l0_1 ((rd_T66 l0_1 a1).f1)).bind fun t106 => (if t106 = true then (if ((rd_T66 l0_1 a1).f2) < 1 then (sandpileref08_edge.j0 k a1 true a0_0 l0_1 ((rd_T66 l0_1 a1).f0) ((rd_T66 l0_1 a1).f1) ((rd_T66 l0_1 a1).f2)) else (sandpileref08_edge.j0 k a1 (decide (((rd_T66 l0_1 a1).f2) > 50)) a0_0 l0_1 ((rd_T66 l0_1 a1).f0) ((rd_T66 l0_1 a1).f1) ((rd_T66 l0_1 a1).f2))) else (sandpileref08_edge.j0 k a1 true a0_0 l0_1 ((rd_T66 l0_1 a1).f0) ((rd_T66 l0_1 a1).f1) ((rd_T66 l0_1 a1).f2)))) else (sandpileref08_edge.j0 k a1 true a0_0 l0_1 ((rd_T66 l0_1 a1).f0) ((rd_T66 l0_1 a1).f1) ((rd_T66 l0_1 a1).f2)))) else (none)) else (none)) = some r := h
 clear h
 by_cases c3 : 0 ≤ a1
 ·rw [if_pos c3] at H
  have c3b0 : decide (0 ≤ a1) = true := decide_eq_true c3
  clear c3
  by_cases c4 : a1 < (l0_1.length : Int)
  ·rw [if_pos c4] at H
   have c4b0 : decide (a1 < (l0_1.length : Int)) = true := decide_eq_true c4
   clear c4
   have HC5 := Aside0.mk H
   clear H
   go_enter Try.func73, Try.ntmps73
   go_upto_region 2 with (first | ((with_reducible refine gate_dst (N := 2) rfl ?_); refine zX 2 #[.int .i64 a0_0, .slice A0_1 l0_1.length c0_1] 24 ?_; intro gb102 hg w6 hbox hb; have BK102 := Aside0.mk (hbox); have GW102 := zG HB hg; have GE102 := zG HB hg; replace HB := zS HB hb; clear hb hbox hg; obtain ⟨hcz7_0, hcz7_1, hfz7_0, hfz7_1⟩ := zD2 BK102; have p103 : 0 ≤ (a1 : Int) := of_decide_eq_true ‹_›; have q103 : a1 < (l0_1.length : Int) := of_decide_eq_true ‹_›; obtain ⟨ad103, e103, hx103_0, hx103_1, hx103_2⟩ := at_T66 HR0_1.out a1 p103 q103; cases e103; replace hx103_0 := (HB.out.cell (World.block_lt_of_cell? w _ hx103_0)).trans hx103_0; replace hx103_1 := (HB.out.cell (World.block_lt_of_cell? w _ hx103_1)).trans hx103_1; replace hx103_2 := (HB.out.cell (World.block_lt_of_cell? w _ hx103_2)).trans hx103_2; replace p103 := eq_true p103; replace q103 := eq_true q103) | ((with_reducible refine gate_dst (N := 5) rfl ?_); refine zX 5 #[.int .i64 0, .int .i64 0, .int .i64 0] 66 ?_; intro gb104 hg w8 hbox hb; have BK104 := Aside0.mk (hbox); have GW104 := zG HB hg; have GE104 := zG HB hg; replace HB := zS HB hb; have NB102_104 := Aside0.mk ((by rw [hg]; exact Nat.ne_of_lt (blk_lt (g := gb102) (o := .cells #[.int .i64 a0_0, .slice (some ad103) l0_1.length c0_1] 24 (0, 0)) (zK BK102)) : gb102 ≠ gb104)); have NB104_102 := Aside0.mk ((by rw [hg]; exact Nat.ne_of_gt (blk_lt (g := gb102) (o := .cells #[.int .i64 a0_0, .slice (some ad103) l0_1.length c0_1] 24 (0, 0)) (zK BK102)) : gb104 ≠ gb102)); replace BK102 := zb BK102 hb; clear hb hbox hg; have hnb9 := NB104_102.out; have hnc9 := NB102_104.out; obtain ⟨hcz10_0, hcz10_1, hcz10_2, hfz10_0, hfz10_1, hfz10_2⟩ := zD3 BK104))
   (try simp only [Act.put, List.setIfInBounds_toArray, List.set_cons_zero, List.set_cons_succ])
   go_cut [33] (fun v33 wc => ∃ (kq : Nat) (x33_4 : Bool), v33 = .bool x33_4 ∧ Aside0 (sandpileref08_edge.j0 kq a1 x33_4 a0_0 l0_1 ((rd_T66 l0_1 a1).f0) ((rd_T66 l0_1 a1).f1) ((rd_T66 l0_1 a1).f2) = some r) ∧ Aside0 (kq ≤ k) ∧ Aside0 (wc.heap[gb102]? = some (.cells #[.int .i64 a0_0, (.slice (some ad103) l0_1.length c0_1)] 24 (0, 0))) ∧ Aside0 (wc.heap[gb104]? = some (.cells #[.int .i64 ((rd_T66 l0_1 a1).f0), .int .i64 ((rd_T66 l0_1 a1).f1), .int .i64 ((rd_T66 l0_1 a1).f2)] 66 (0, 0))) ∧ Aside0 (Below w.heap.size w wc))
   case first =>
    have H := HC5.out
    clear HC5
    replace H := Option.bind_eq_some_iff.mp H
    obtain ⟨t105, A110, H⟩ := H
    replace H : (if t105 = true then ((sandpileref08_Vertex.f a0_0 l0_1 ((rd_T66 l0_1 a1).f1)).bind fun t106 => (if t106 = true then (if ((rd_T66 l0_1 a1).f2) < 1 then (sandpileref08_edge.j0 k a1 true a0_0 l0_1 ((rd_T66 l0_1 a1).f0) ((rd_T66 l0_1 a1).f1) ((rd_T66 l0_1 a1).f2)) else (sandpileref08_edge.j0 k a1 (decide (((rd_T66 l0_1 a1).f2) > 50)) a0_0 l0_1 ((rd_T66 l0_1 a1).f0) ((rd_T66 l0_1 a1).f1) ((rd_T66 l0_1 a1).f2))) else (sandpileref08_edge.j0 k a1 true a0_0 l0_1 ((rd_T66 l0_1 a1).f0) ((rd_T66 l0_1 a1).f1) ((rd_T66 l0_1 a1).f2)))) else (sandpileref08_edge.j0 k a1 true a0_0 l0_1 ((rd_T66 l0_1 a1).f0) ((rd_T66 l0_1 a1).f1) ((rd_T66 l0_1 a1).f2))) = some r := H
    have A11 := Aside0.mk A110
    clear A110
    by_cases c12 : t105 = true
    ·subst c12
     have H1 : ((sandpileref08_Vertex.f a0_0 l0_1 ((rd_T66 l0_1 a1).f1)).bind fun t106 => (if t106 = true then (if ((rd_T66 l0_1 a1).f2) < 1 then (sandpileref08_edge.j0 k a1 true a0_0 l0_1 ((rd_T66 l0_1 a1).f0) ((rd_T66 l0_1 a1).f1) ((rd_T66 l0_1 a1).f2)) else (sandpileref08_edge.j0 k a1 (decide (((rd_T66 l0_1 a1).f2) > 50)) a0_0 l0_1 ((rd_T66 l0_1 a1).f0) ((rd_T66 l0_1 a1).f1) ((rd_T66 l0_1 a1).f2))) else (sandpileref08_edge.j0 k a1 true a0_0 l0_1 ((rd_T66 l0_1 a1).f0) ((rd_T66 l0_1 a1).f1) ((rd_T66 l0_1 a1).f2)))) = some r := by rw [if_pos rfl] at H; exact H
     clear H
     have H := H1
     clear H1
     replace H := Option.bind_eq_some_iff.mp H
     obtain ⟨t106, A130, H⟩ := H
     replace H : (if t106 = true then (if ((rd_T66 l0_1 a1).f2) < 1 then (sandpileref08_edge.j0 k a1 true a0_0 l0_1 ((rd_T66 l0_1 a1).f0) ((rd_T66 l0_1 a1).f1) ((rd_T66 l0_1 a1).f2)) else (sandpileref08_edge.j0 k a1 (decide (((rd_T66 l0_1 a1).f2) > 50)) a0_0 l0_1 ((rd_T66 l0_1 a1).f0) ((rd_T66 l0_1 a1).f1) ((rd_T66 l0_1 a1).f2))) else (sandpileref08_edge.j0 k a1 true a0_0 l0_1 ((rd_T66 l0_1 a1).f0) ((rd_T66 l0_1 a1).f1) ((rd_T66 l0_1 a1).f2))) = some r := H
     have A13 := Aside0.mk A130
     clear A130
     by_cases c14 : t106 = true
     ·subst c14
      have H1 : (if ((rd_T66 l0_1 a1).f2) < 1 then (sandpileref08_edge.j0 k a1 true a0_0 l0_1 ((rd_T66 l0_1 a1).f0) ((rd_T66 l0_1 a1).f1) ((rd_T66 l0_1 a1).f2)) else (sandpileref08_edge.j0 k a1 (decide (((rd_T66 l0_1 a1).f2) > 50)) a0_0 l0_1 ((rd_T66 l0_1 a1).f0) ((rd_T66 l0_1 a1).f1) ((rd_T66 l0_1 a1).f2))) = some r := by rw [if_pos rfl] at H; exact H
      clear H
      have H := H1
      clear H1
      by_cases c15 : ((rd_T66 l0_1 a1).f2) < 1
      ·rw [if_pos c15] at H
       have c15b0 : decide (((rd_T66 l0_1 a1).f2) < 1) = true := decide_eq_true c15
       clear c15
       (first | rw [c15b0] | (simp only [i64_w, i32_w]; rw [c15b0]) | skip)
       have H' := Aside0.mk H
       clear H
       have hnb16 := NB102_104.out
       have hnc16 := NB104_102.out
       obtain ⟨hcz17_0, hcz17_1, hfz17_0, hfz17_1⟩ := zD2 BK102
       obtain ⟨hcz18_0, hcz18_1, hcz18_2, hfz18_0, hfz18_1, hfz18_2⟩ := zD3 BK104
       go_wp2_with (first | ((with_reducible refine gate_callee (f := 48) rfl ?_); refine zL (some 15) Try.func48 #[.agg #[.int .i64 a0_0, .slice (some ad103) l0_1.length c0_1], .int .i64 ((rd_T66 l0_1 a1).f0)] ?_; (with_reducible refine (sandpileref08_Vertex.calls a0_0 _ _ l0_1 ((rd_T66 l0_1 a1).f0) true _ ?side1 ?side2 A11.out).mono ?_); (case side1 => exact Kd.C_below HR0_1.out zB); (case side2 => exact HC0_1.out); rintro e w19 ⟨rfl, hb⟩; refine ⟨_, rfl, ?_⟩; replace BK102 := Aside0.mk (blk_below (g := gb102) (o := .cells #[.int .i64 a0_0, .slice (some ad103) l0_1.length c0_1] 24 (0, 0)) (by refine zk ?_; refine blk_far ?_ NB102_104.out _; refine zk ?_; refine blk_far ?_ NB102_104.out _; refine zk ?_; refine blk_far ?_ NB102_104.out _; exact zK BK102) hb); replace BK104 := Aside0.mk (blk_below (g := gb104) (o := .cells #[.int .i64 ((rd_T66 l0_1 a1).f0), .int .i64 ((rd_T66 l0_1 a1).f1), .int .i64 ((rd_T66 l0_1 a1).f2)] 66 (0, 0)) (by refine zk ?_; refine blk_put (cs := #[.int .i64 ((rd_T66 l0_1 a1).f0), .int .i64 ((rd_T66 l0_1 a1).f1), .int .i64 0]) ?_ 2 _ rfl; refine zk ?_; refine blk_put (cs := #[.int .i64 ((rd_T66 l0_1 a1).f0), .int .i64 0, .int .i64 0]) ?_ 1 _ rfl; refine zk ?_; refine blk_put (cs := #[.int .i64 0, .int .i64 0, .int .i64 0]) ?_ 0 _ rfl; exact zK BK104) hb); replace HB := zS HB hb; (try clear hb); obtain ⟨hcz20_0, hcz20_1, hfz20_0, hfz20_1⟩ := zD2 BK102; obtain ⟨hcz21_0, hcz21_1, hcz21_2, hfz21_0, hfz21_1, hfz21_2⟩ := zD3 BK104) | (go_at_call 48; (with_reducible refine (sandpileref08_Vertex.calls a0_0 _ _ l0_1 ((rd_T66 l0_1 a1).f1) true _ ?side1 ?side2 A13.out).mono ?_); (case side1 => exact Kd.C_below HR0_1.out zB); (case side2 => exact HC0_1.out); rintro e w22 ⟨rfl, hb⟩; replace BK102 := zb BK102 hb; replace BK104 := zb BK104 hb; replace HB := zS HB hb; (try clear hb); obtain ⟨hcz23_0, hcz23_1, hcz23_2, hfz23_0, hfz23_1, hfz23_2⟩ := zD3 BK104))
       go_meet
       case rel => exact ⟨_, (true), zT, H', ⟨by first | omega | exact Nat.le_refl _⟩, ⟨zK BK102⟩, ⟨zK BK104⟩, ⟨zB⟩⟩
      ·rw [if_neg c15] at H
       have c15b0 : decide (((rd_T66 l0_1 a1).f2) < 1) = false := decide_eq_false c15
       clear c15
       (first | rw [c15b0] | (simp only [i64_w, i32_w]; rw [c15b0]) | skip)
       have H' := Aside0.mk H
       clear H
       have hnb24 := NB102_104.out
       have hnc24 := NB104_102.out
       obtain ⟨hcz25_0, hcz25_1, hfz25_0, hfz25_1⟩ := zD2 BK102
       obtain ⟨hcz26_0, hcz26_1, hcz26_2, hfz26_0, hfz26_1, hfz26_2⟩ := zD3 BK104
       go_wp2_with (first | ((with_reducible refine gate_callee (f := 48) rfl ?_); refine zL (some 15) Try.func48 #[.agg #[.int .i64 a0_0, .slice (some ad103) l0_1.length c0_1], .int .i64 ((rd_T66 l0_1 a1).f0)] ?_; (with_reducible refine (sandpileref08_Vertex.calls a0_0 _ _ l0_1 ((rd_T66 l0_1 a1).f0) true _ ?side1 ?side2 A11.out).mono ?_); (case side1 => exact Kd.C_below HR0_1.out zB); (case side2 => exact HC0_1.out); rintro e w27 ⟨rfl, hb⟩; refine ⟨_, rfl, ?_⟩; replace BK102 := Aside0.mk (blk_below (g := gb102) (o := .cells #[.int .i64 a0_0, .slice (some ad103) l0_1.length c0_1] 24 (0, 0)) (by refine zk ?_; refine blk_far ?_ NB102_104.out _; refine zk ?_; refine blk_far ?_ NB102_104.out _; refine zk ?_; refine blk_far ?_ NB102_104.out _; exact zK BK102) hb); replace BK104 := Aside0.mk (blk_below (g := gb104) (o := .cells #[.int .i64 ((rd_T66 l0_1 a1).f0), .int .i64 ((rd_T66 l0_1 a1).f1), .int .i64 ((rd_T66 l0_1 a1).f2)] 66 (0, 0)) (by refine zk ?_; refine blk_put (cs := #[.int .i64 ((rd_T66 l0_1 a1).f0), .int .i64 ((rd_T66 l0_1 a1).f1), .int .i64 0]) ?_ 2 _ rfl; refine zk ?_; refine blk_put (cs := #[.int .i64 ((rd_T66 l0_1 a1).f0), .int .i64 0, .int .i64 0]) ?_ 1 _ rfl; refine zk ?_; refine blk_put (cs := #[.int .i64 0, .int .i64 0, .int .i64 0]) ?_ 0 _ rfl; exact zK BK104) hb); replace HB := zS HB hb; (try clear hb); obtain ⟨hcz28_0, hcz28_1, hfz28_0, hfz28_1⟩ := zD2 BK102; obtain ⟨hcz29_0, hcz29_1, hcz29_2, hfz29_0, hfz29_1, hfz29_2⟩ := zD3 BK104) | (go_at_call 48; (with_reducible refine (sandpileref08_Vertex.calls a0_0 _ _ l0_1 ((rd_T66 l0_1 a1).f1) true _ ?side1 ?side2 A13.out).mono ?_); (case side1 => exact Kd.C_below HR0_1.out zB); (case side2 => exact HC0_1.out); rintro e w30 ⟨rfl, hb⟩; replace BK102 := zb BK102 hb; replace BK104 := zb BK104 hb; replace HB := zS HB hb; (try clear hb); obtain ⟨hcz31_0, hcz31_1, hcz31_2, hfz31_0, hfz31_1, hfz31_2⟩ := zD3 BK104))
       go_meet
       case rel => exact ⟨_, (decide (((rd_T66 l0_1 a1).f2) > 50)), zT, H', ⟨by first | omega | exact Nat.le_refl _⟩, ⟨zK BK102⟩, ⟨zK BK104⟩, ⟨zB⟩⟩
     ·replace c14 := Bool.eq_false_iff.mpr c14
      subst c14
      have H1 : (sandpileref08_edge.j0 k a1 true a0_0 l0_1 ((rd_T66 l0_1 a1).f0) ((rd_T66 l0_1 a1).f1) ((rd_T66 l0_1 a1).f2)) = some r := by rw [if_neg (show ¬ (false = true) by decide)] at H; exact H
      clear H
      have H := H1
      clear H1
      have H' := Aside0.mk H
      clear H
      have hnb32 := NB102_104.out
      have hnc32 := NB104_102.out
      obtain ⟨hcz33_0, hcz33_1, hfz33_0, hfz33_1⟩ := zD2 BK102
      obtain ⟨hcz34_0, hcz34_1, hcz34_2, hfz34_0, hfz34_1, hfz34_2⟩ := zD3 BK104
      go_wp2_with (first | ((with_reducible refine gate_callee (f := 48) rfl ?_); refine zL (some 15) Try.func48 #[.agg #[.int .i64 a0_0, .slice (some ad103) l0_1.length c0_1], .int .i64 ((rd_T66 l0_1 a1).f0)] ?_; (with_reducible refine (sandpileref08_Vertex.calls a0_0 _ _ l0_1 ((rd_T66 l0_1 a1).f0) true _ ?side1 ?side2 A11.out).mono ?_); (case side1 => exact Kd.C_below HR0_1.out zB); (case side2 => exact HC0_1.out); rintro e w35 ⟨rfl, hb⟩; refine ⟨_, rfl, ?_⟩; replace BK102 := Aside0.mk (blk_below (g := gb102) (o := .cells #[.int .i64 a0_0, .slice (some ad103) l0_1.length c0_1] 24 (0, 0)) (by refine zk ?_; refine blk_far ?_ NB102_104.out _; refine zk ?_; refine blk_far ?_ NB102_104.out _; refine zk ?_; refine blk_far ?_ NB102_104.out _; exact zK BK102) hb); replace BK104 := Aside0.mk (blk_below (g := gb104) (o := .cells #[.int .i64 ((rd_T66 l0_1 a1).f0), .int .i64 ((rd_T66 l0_1 a1).f1), .int .i64 ((rd_T66 l0_1 a1).f2)] 66 (0, 0)) (by refine zk ?_; refine blk_put (cs := #[.int .i64 ((rd_T66 l0_1 a1).f0), .int .i64 ((rd_T66 l0_1 a1).f1), .int .i64 0]) ?_ 2 _ rfl; refine zk ?_; refine blk_put (cs := #[.int .i64 ((rd_T66 l0_1 a1).f0), .int .i64 0, .int .i64 0]) ?_ 1 _ rfl; refine zk ?_; refine blk_put (cs := #[.int .i64 0, .int .i64 0, .int .i64 0]) ?_ 0 _ rfl; exact zK BK104) hb); replace HB := zS HB hb; (try clear hb); obtain ⟨hcz36_0, hcz36_1, hfz36_0, hfz36_1⟩ := zD2 BK102; obtain ⟨hcz37_0, hcz37_1, hcz37_2, hfz37_0, hfz37_1, hfz37_2⟩ := zD3 BK104) | (go_at_call 48; (with_reducible refine (sandpileref08_Vertex.calls a0_0 _ _ l0_1 ((rd_T66 l0_1 a1).f1) false _ ?side1 ?side2 A13.out).mono ?_); (case side1 => exact Kd.C_below HR0_1.out zB); (case side2 => exact HC0_1.out); rintro e w38 ⟨rfl, hb⟩; replace BK102 := zb BK102 hb; replace BK104 := zb BK104 hb; replace HB := zS HB hb; (try clear hb)))
      go_meet
      case rel => exact ⟨_, (true), zT, H', ⟨by first | omega | exact Nat.le_refl _⟩, ⟨zK BK102⟩, ⟨zK BK104⟩, ⟨zB⟩⟩
    ·replace c12 := Bool.eq_false_iff.mpr c12
     subst c12
     have H1 : (sandpileref08_edge.j0 k a1 true a0_0 l0_1 ((rd_T66 l0_1 a1).f0) ((rd_T66 l0_1 a1).f1) ((rd_T66 l0_1 a1).f2)) = some r := by rw [if_neg (show ¬ (false = true) by decide)] at H; exact H
     clear H
     have H := H1
     clear H1
     have H' := Aside0.mk H
     clear H
     have hnb39 := NB102_104.out
     have hnc39 := NB104_102.out
     obtain ⟨hcz40_0, hcz40_1, hfz40_0, hfz40_1⟩ := zD2 BK102
     obtain ⟨hcz41_0, hcz41_1, hcz41_2, hfz41_0, hfz41_1, hfz41_2⟩ := zD3 BK104
     go_wp2_with (first | ((with_reducible refine gate_callee (f := 48) rfl ?_); refine zL (some 15) Try.func48 #[.agg #[.int .i64 a0_0, .slice (some ad103) l0_1.length c0_1], .int .i64 ((rd_T66 l0_1 a1).f0)] ?_; (with_reducible refine (sandpileref08_Vertex.calls a0_0 _ _ l0_1 ((rd_T66 l0_1 a1).f0) false _ ?side1 ?side2 A11.out).mono ?_); (case side1 => exact Kd.C_below HR0_1.out zB); (case side2 => exact HC0_1.out); rintro e w42 ⟨rfl, hb⟩; refine ⟨_, rfl, ?_⟩; replace BK102 := Aside0.mk (blk_below (g := gb102) (o := .cells #[.int .i64 a0_0, .slice (some ad103) l0_1.length c0_1] 24 (0, 0)) (by refine zk ?_; refine blk_far ?_ NB102_104.out _; refine zk ?_; refine blk_far ?_ NB102_104.out _; refine zk ?_; refine blk_far ?_ NB102_104.out _; exact zK BK102) hb); replace BK104 := Aside0.mk (blk_below (g := gb104) (o := .cells #[.int .i64 ((rd_T66 l0_1 a1).f0), .int .i64 ((rd_T66 l0_1 a1).f1), .int .i64 ((rd_T66 l0_1 a1).f2)] 66 (0, 0)) (by refine zk ?_; refine blk_put (cs := #[.int .i64 ((rd_T66 l0_1 a1).f0), .int .i64 ((rd_T66 l0_1 a1).f1), .int .i64 0]) ?_ 2 _ rfl; refine zk ?_; refine blk_put (cs := #[.int .i64 ((rd_T66 l0_1 a1).f0), .int .i64 0, .int .i64 0]) ?_ 1 _ rfl; refine zk ?_; refine blk_put (cs := #[.int .i64 0, .int .i64 0, .int .i64 0]) ?_ 0 _ rfl; exact zK BK104) hb); replace HB := zS HB hb; (try clear hb)))
     go_meet
     case rel => exact ⟨_, (true), zT, H', ⟨by first | omega | exact Nat.le_refl _⟩, ⟨zK BK102⟩, ⟨zK BK104⟩, ⟨zB⟩⟩
   case rest =>
    clear HC5
    try clear c1
    try clear p1
    try clear q1
    try clear hx1
    try clear c2
    try clear p2
    try clear c3
    try clear c3b0
    try clear c4
    try clear c4b0
    try clear c7
    try clear c9
    try clear p10
    try clear q10
    try clear hx10
    try clear c12
    try clear c14
    try clear c15
    try clear c15b0
    try clear c16
    try clear c24
    try clear c32
    try clear c39
    try clear hcz10_0
    try clear hcz10_1
    try clear hcz10_2
    try clear hcz17_0
    try clear hcz17_1
    try clear hcz18_0
    try clear hcz18_1
    try clear hcz18_2
    try clear hcz20_0
    try clear hcz20_1
    try clear hcz21_0
    try clear hcz21_1
    try clear hcz21_2
    try clear hcz23_0
    try clear hcz23_1
    try clear hcz23_2
    try clear hcz25_0
    try clear hcz25_1
    try clear hcz26_0
    try clear hcz26_1
    try clear hcz26_2
    try clear hcz28_0
    try clear hcz28_1
    try clear hcz29_0
    try clear hcz29_1
    try clear hcz29_2
    try clear hcz31_0
    try clear hcz31_1
    try clear hcz31_2
    try clear hcz33_0
    try clear hcz33_1
    try clear hcz34_0
    try clear hcz34_1
    try clear hcz34_2
    try clear hcz36_0
    try clear hcz36_1
    try clear hcz37_0
    try clear hcz37_1
    try clear hcz37_2
    try clear hcz40_0
    try clear hcz40_1
    try clear hcz41_0
    try clear hcz41_1
    try clear hcz41_2
    try clear hcz7_0
    try clear hcz7_1
    try clear hfz10_0
    try clear hfz10_1
    try clear hfz10_2
    try clear hfz17_0
    try clear hfz17_1
    try clear hfz18_0
    try clear hfz18_1
    try clear hfz18_2
    try clear hfz20_0
    try clear hfz20_1
    try clear hfz21_0
    try clear hfz21_1
    try clear hfz21_2
    try clear hfz23_0
    try clear hfz23_1
    try clear hfz23_2
    try clear hfz25_0
    try clear hfz25_1
    try clear hfz26_0
    try clear hfz26_1
    try clear hfz26_2
    try clear hfz28_0
    try clear hfz28_1
    try clear hfz29_0
    try clear hfz29_1
    try clear hfz29_2
    try clear hfz31_0
    try clear hfz31_1
    try clear hfz31_2
    try clear hfz33_0
    try clear hfz33_1
    try clear hfz34_0
    try clear hfz34_1
    try clear hfz34_2
    try clear hfz36_0
    try clear hfz36_1
    try clear hfz37_0
    try clear hfz37_1
    try clear hfz37_2
    try clear hfz40_0
    try clear hfz40_1
    try clear hfz41_0
    try clear hfz41_1
    try clear hfz41_2
    try clear hfz7_0
    try clear hfz7_1
    try clear hx103_0
    try clear hx103_1
    try clear hx103_2
    try clear p103
    try clear q103
    obtain ⟨kq, x33_4, rfl, HA, HJ4, BK102, BK104, HB⟩ := hcut
    cases kq with
    | zero => exact absurd HA.out (by simp [sandpileref08_edge.j0])
    | succ kj4 =>
     have H := HA.out
     clear HA
     simp only [sandpileref08_edge.j0] at H
     by_cases c43 : x33_4 = true
     ·subst c43
      have H1 : (some 2) = some r := by rw [if_pos rfl] at H; exact H
      clear H
      have H := H1
      clear H1
      obtain rfl := Option.some.inj H
      go_wp2
      go_ret
      exact ⟨zE, zB⟩
     ·replace c43 := Bool.eq_false_iff.mpr c43
      subst c43
      have H1 : (if ((rd_T66 l0_1 a1).f0) > ((rd_T66 l0_1 a1).f1) then (some 9) else (if a1 > 0 then (if 0 ≤ (wrap64 (a1 - 1)) then (if (wrap64 (a1 - 1)) < (l0_1.length : Int) then (if ((rd_T66 l0_1 a1).f0) < ((rd_T66 l0_1 (wrap64 (a1 - 1))).f0) then (some 9) else (if ((rd_T66 l0_1 a1).f0) = ((rd_T66 l0_1 (wrap64 (a1 - 1))).f0) then (if ((rd_T66 l0_1 a1).f1) ≤ ((rd_T66 l0_1 (wrap64 (a1 - 1))).f1) then (some 9) else (some 0)) else (some 0))) else (none)) else (none)) else (some 0))) = some r := by rw [if_neg (show ¬ (false = true) by decide)] at H; exact H
      clear H
      have H := H1
      clear H1
      by_cases c44 : ((rd_T66 l0_1 a1).f0) > ((rd_T66 l0_1 a1).f1)
      ·rw [if_pos c44] at H
       have c44b0 : decide (((rd_T66 l0_1 a1).f1) < ((rd_T66 l0_1 a1).f0)) = true := decide_eq_true c44
       clear c44
       obtain rfl := Option.some.inj H
       have hnb45 := NB104_102.out
       have hnc45 := NB102_104.out
       obtain ⟨hcz46_0, hcz46_1, hcz46_2, hfz46_0, hfz46_1, hfz46_2⟩ := zD3 BK104
       go_wp2
       go_ret
       exact ⟨zE, zB⟩
      ·rw [if_neg c44] at H
       have c44b0 : decide (((rd_T66 l0_1 a1).f1) < ((rd_T66 l0_1 a1).f0)) = false := decide_eq_false c44
       clear c44
       by_cases c47 : a1 > 0
       ·rw [if_pos c47] at H
        have c47b0 : decide (0 < a1) = true := decide_eq_true c47
        clear c47
        obtain ⟨ji48, hji48⟩ : ∃ j_ : Int, (wrap64 (a1 - 1)) = j_ := ⟨_, rfl⟩
        replace H : (if 0 ≤ (ji48) then (if (ji48) < (l0_1.length : Int) then (if ((rd_T66 l0_1 a1).f0) < ((rd_T66 l0_1 (ji48)).f0) then (some 9) else (if ((rd_T66 l0_1 a1).f0) = ((rd_T66 l0_1 (ji48)).f0) then (if ((rd_T66 l0_1 a1).f1) ≤ ((rd_T66 l0_1 (ji48)).f1) then (some 9) else (some 0)) else (some 0))) else (none)) else (none)) = some r := by first | (rw [hji48] at H; exact H) | (simp only [hji48] at H ⊢; exact H)
        have hji48w : (IntKind.i64.wrap (a1 - 1)) = ji48 := (i64_w _).trans hji48
        by_cases c49 : 0 ≤ (ji48)
        ·rw [if_pos c49] at H
         have c49b0 : decide (0 ≤ (ji48)) = true := decide_eq_true c49
         clear c49
         by_cases c50 : (ji48) < (l0_1.length : Int)
         ·rw [if_pos c50] at H
          have c50b0 : decide ((ji48) < (l0_1.length : Int)) = true := decide_eq_true c50
          clear c50
          by_cases c51 : ((rd_T66 l0_1 a1).f0) < ((rd_T66 l0_1 (ji48)).f0)
          ·rw [if_pos c51] at H
           have c51b0 : decide (((rd_T66 l0_1 a1).f0) < ((rd_T66 l0_1 (ji48)).f0)) = true := decide_eq_true c51
           clear c51
           obtain rfl := Option.some.inj H
           have hnb52 := NB104_102.out
           have hnc52 := NB102_104.out
           obtain ⟨hcz53_0, hcz53_1, hcz53_2, hfz53_0, hfz53_1, hfz53_2⟩ := zD3 BK104
           obtain ⟨hcz54_0, hcz54_1, hfz54_0, hfz54_1⟩ := zD2 BK102
           have p107 : 0 ≤ ((ji48) : Int) := of_decide_eq_true ‹_›
           have q107 : (ji48) < (l0_1.length : Int) := of_decide_eq_true ‹_›
           obtain ⟨ad107, e107, hx107_0, hx107_1, hx107_2⟩ := at_T66 HR0_1.out (ji48) p107 q107
           obtain rfl : ad103 = ad107 := (by injection e107)
           replace hx107_0 := (HB.out.cell (World.block_lt_of_cell? w _ hx107_0)).trans hx107_0
           replace hx107_1 := (HB.out.cell (World.block_lt_of_cell? w _ hx107_1)).trans hx107_1
           replace hx107_2 := (HB.out.cell (World.block_lt_of_cell? w _ hx107_2)).trans hx107_2
           replace p107 := eq_true p107
           replace q107 := eq_true q107
           go_wp2_with (first | ((with_reducible refine gate_dst (N := 6) rfl ?_); refine zX 6 #[.int .i64 0, .int .i64 0, .int .i64 0] 66 ?_; intro gb108 hg w55 hbox hb; have BK108 := Aside0.mk (hbox); have GW108 := zG HB hg; have GE108 := zG HB hg; replace HB := zS HB hb; have NB102_108 := Aside0.mk ((by rw [hg]; exact Nat.ne_of_lt (blk_lt (g := gb102) (o := .cells #[.int .i64 a0_0, .slice (some ad103) l0_1.length c0_1] 24 (0, 0)) (zK BK102)) : gb102 ≠ gb108)); have NB108_102 := Aside0.mk ((by rw [hg]; exact Nat.ne_of_gt (blk_lt (g := gb102) (o := .cells #[.int .i64 a0_0, .slice (some ad103) l0_1.length c0_1] 24 (0, 0)) (zK BK102)) : gb108 ≠ gb102)); replace BK102 := zb BK102 hb; have NB104_108 := Aside0.mk ((by rw [hg]; exact Nat.ne_of_lt (blk_lt (g := gb104) (o := .cells #[.int .i64 ((rd_T66 l0_1 a1).f0), .int .i64 ((rd_T66 l0_1 a1).f1), .int .i64 ((rd_T66 l0_1 a1).f2)] 66 (0, 0)) (zK BK104)) : gb104 ≠ gb108)); have NB108_104 := Aside0.mk ((by rw [hg]; exact Nat.ne_of_gt (blk_lt (g := gb104) (o := .cells #[.int .i64 ((rd_T66 l0_1 a1).f0), .int .i64 ((rd_T66 l0_1 a1).f1), .int .i64 ((rd_T66 l0_1 a1).f2)] 66 (0, 0)) (zK BK104)) : gb108 ≠ gb104)); replace BK104 := zb BK104 hb; clear hb hbox hg; have hnb56 := NB108_102.out; have hnc56 := NB102_108.out; have hnb57 := NB108_104.out; have hnc57 := NB104_108.out; obtain ⟨hcz58_0, hcz58_1, hcz58_2, hfz58_0, hfz58_1, hfz58_2⟩ := zD3 BK108; obtain ⟨hcz59_0, hcz59_1, hcz59_2, hfz59_0, hfz59_1, hfz59_2⟩ := zD3 BK104))
           go_ret
           exact ⟨by first | rfl | (simp [errW_none, errW_some] <;> rfl) | (simp only [← hji48]; first | rfl | (simp [errW_none, errW_some] <;> rfl)) | (simp [*, errW_none, errW_some] <;> rfl), zB⟩
          ·rw [if_neg c51] at H
           have c51b0 : decide (((rd_T66 l0_1 a1).f0) < ((rd_T66 l0_1 (ji48)).f0)) = false := decide_eq_false c51
           clear c51
           by_cases c60 : ((rd_T66 l0_1 a1).f0) = ((rd_T66 l0_1 (ji48)).f0)
           ·rw [if_pos c60] at H
            have c60b0 : (((rd_T66 l0_1 a1).f0) == ((rd_T66 l0_1 (ji48)).f0)) = true := beq_iff_eq.mpr c60
            have c60b1 : (((rd_T66 l0_1 a1).f0) != ((rd_T66 l0_1 (ji48)).f0)) = false := bne_eq_false_iff_eq.mpr c60
            clear c60
            by_cases c61 : ((rd_T66 l0_1 a1).f1) ≤ ((rd_T66 l0_1 (ji48)).f1)
            ·rw [if_pos c61] at H
             have c61b0 : decide (((rd_T66 l0_1 a1).f1) ≤ ((rd_T66 l0_1 (ji48)).f1)) = true := decide_eq_true c61
             clear c61
             obtain rfl := Option.some.inj H
             have hnb62 := NB104_102.out
             have hnc62 := NB102_104.out
             obtain ⟨hcz63_0, hcz63_1, hcz63_2, hfz63_0, hfz63_1, hfz63_2⟩ := zD3 BK104
             obtain ⟨hcz64_0, hcz64_1, hfz64_0, hfz64_1⟩ := zD2 BK102
             have p107 : 0 ≤ ((ji48) : Int) := of_decide_eq_true ‹_›
             have q107 : (ji48) < (l0_1.length : Int) := of_decide_eq_true ‹_›
             obtain ⟨ad107, e107, hx107_0, hx107_1, hx107_2⟩ := at_T66 HR0_1.out (ji48) p107 q107
             obtain rfl : ad103 = ad107 := (by injection e107)
             replace hx107_0 := (HB.out.cell (World.block_lt_of_cell? w _ hx107_0)).trans hx107_0
             replace hx107_1 := (HB.out.cell (World.block_lt_of_cell? w _ hx107_1)).trans hx107_1
             replace hx107_2 := (HB.out.cell (World.block_lt_of_cell? w _ hx107_2)).trans hx107_2
             replace p107 := eq_true p107
             replace q107 := eq_true q107
             go_wp2_with (first | ((with_reducible refine gate_dst (N := 6) rfl ?_); refine zX 6 #[.int .i64 0, .int .i64 0, .int .i64 0] 66 ?_; intro gb108 hg w65 hbox hb; have BK108 := Aside0.mk (hbox); have GW108 := zG HB hg; have GE108 := zG HB hg; replace HB := zS HB hb; have NB102_108 := Aside0.mk ((by rw [hg]; exact Nat.ne_of_lt (blk_lt (g := gb102) (o := .cells #[.int .i64 a0_0, .slice (some ad103) l0_1.length c0_1] 24 (0, 0)) (zK BK102)) : gb102 ≠ gb108)); have NB108_102 := Aside0.mk ((by rw [hg]; exact Nat.ne_of_gt (blk_lt (g := gb102) (o := .cells #[.int .i64 a0_0, .slice (some ad103) l0_1.length c0_1] 24 (0, 0)) (zK BK102)) : gb108 ≠ gb102)); replace BK102 := zb BK102 hb; have NB104_108 := Aside0.mk ((by rw [hg]; exact Nat.ne_of_lt (blk_lt (g := gb104) (o := .cells #[.int .i64 ((rd_T66 l0_1 a1).f0), .int .i64 ((rd_T66 l0_1 a1).f1), .int .i64 ((rd_T66 l0_1 a1).f2)] 66 (0, 0)) (zK BK104)) : gb104 ≠ gb108)); have NB108_104 := Aside0.mk ((by rw [hg]; exact Nat.ne_of_gt (blk_lt (g := gb104) (o := .cells #[.int .i64 ((rd_T66 l0_1 a1).f0), .int .i64 ((rd_T66 l0_1 a1).f1), .int .i64 ((rd_T66 l0_1 a1).f2)] 66 (0, 0)) (zK BK104)) : gb108 ≠ gb104)); replace BK104 := zb BK104 hb; clear hb hbox hg; have hnb66 := NB108_102.out; have hnc66 := NB102_108.out; have hnb67 := NB108_104.out; have hnc67 := NB104_108.out; obtain ⟨hcz68_0, hcz68_1, hcz68_2, hfz68_0, hfz68_1, hfz68_2⟩ := zD3 BK108; obtain ⟨hcz69_0, hcz69_1, hcz69_2, hfz69_0, hfz69_1, hfz69_2⟩ := zD3 BK104))
             go_ret
             exact ⟨by first | rfl | (simp [errW_none, errW_some] <;> rfl) | (simp only [← hji48]; first | rfl | (simp [errW_none, errW_some] <;> rfl)) | (simp [*, errW_none, errW_some] <;> rfl), zB⟩
            ·rw [if_neg c61] at H
             have c61b0 : decide (((rd_T66 l0_1 a1).f1) ≤ ((rd_T66 l0_1 (ji48)).f1)) = false := decide_eq_false c61
             clear c61
             obtain rfl := Option.some.inj H
             have hnb70 := NB104_102.out
             have hnc70 := NB102_104.out
             obtain ⟨hcz71_0, hcz71_1, hcz71_2, hfz71_0, hfz71_1, hfz71_2⟩ := zD3 BK104
             obtain ⟨hcz72_0, hcz72_1, hfz72_0, hfz72_1⟩ := zD2 BK102
             have p107 : 0 ≤ ((ji48) : Int) := of_decide_eq_true ‹_›
             have q107 : (ji48) < (l0_1.length : Int) := of_decide_eq_true ‹_›
             obtain ⟨ad107, e107, hx107_0, hx107_1, hx107_2⟩ := at_T66 HR0_1.out (ji48) p107 q107
             obtain rfl : ad103 = ad107 := (by injection e107)
             replace hx107_0 := (HB.out.cell (World.block_lt_of_cell? w _ hx107_0)).trans hx107_0
             replace hx107_1 := (HB.out.cell (World.block_lt_of_cell? w _ hx107_1)).trans hx107_1
             replace hx107_2 := (HB.out.cell (World.block_lt_of_cell? w _ hx107_2)).trans hx107_2
             replace p107 := eq_true p107
             replace q107 := eq_true q107
             go_wp2_with (first | ((with_reducible refine gate_dst (N := 6) rfl ?_); refine zX 6 #[.int .i64 0, .int .i64 0, .int .i64 0] 66 ?_; intro gb108 hg w73 hbox hb; have BK108 := Aside0.mk (hbox); have GW108 := zG HB hg; have GE108 := zG HB hg; replace HB := zS HB hb; have NB102_108 := Aside0.mk ((by rw [hg]; exact Nat.ne_of_lt (blk_lt (g := gb102) (o := .cells #[.int .i64 a0_0, .slice (some ad103) l0_1.length c0_1] 24 (0, 0)) (zK BK102)) : gb102 ≠ gb108)); have NB108_102 := Aside0.mk ((by rw [hg]; exact Nat.ne_of_gt (blk_lt (g := gb102) (o := .cells #[.int .i64 a0_0, .slice (some ad103) l0_1.length c0_1] 24 (0, 0)) (zK BK102)) : gb108 ≠ gb102)); replace BK102 := zb BK102 hb; have NB104_108 := Aside0.mk ((by rw [hg]; exact Nat.ne_of_lt (blk_lt (g := gb104) (o := .cells #[.int .i64 ((rd_T66 l0_1 a1).f0), .int .i64 ((rd_T66 l0_1 a1).f1), .int .i64 ((rd_T66 l0_1 a1).f2)] 66 (0, 0)) (zK BK104)) : gb104 ≠ gb108)); have NB108_104 := Aside0.mk ((by rw [hg]; exact Nat.ne_of_gt (blk_lt (g := gb104) (o := .cells #[.int .i64 ((rd_T66 l0_1 a1).f0), .int .i64 ((rd_T66 l0_1 a1).f1), .int .i64 ((rd_T66 l0_1 a1).f2)] 66 (0, 0)) (zK BK104)) : gb108 ≠ gb104)); replace BK104 := zb BK104 hb; clear hb hbox hg; have hnb74 := NB108_102.out; have hnc74 := NB102_108.out; have hnb75 := NB108_104.out; have hnc75 := NB104_108.out; obtain ⟨hcz76_0, hcz76_1, hcz76_2, hfz76_0, hfz76_1, hfz76_2⟩ := zD3 BK108; obtain ⟨hcz77_0, hcz77_1, hcz77_2, hfz77_0, hfz77_1, hfz77_2⟩ := zD3 BK104))
             go_ret
             exact ⟨by first | rfl | (simp [errW_none, errW_some] <;> rfl) | (simp only [← hji48]; first | rfl | (simp [errW_none, errW_some] <;> rfl)) | (simp [*, errW_none, errW_some] <;> rfl), zB⟩
           ·rw [if_neg c60] at H
            have c60b0 : (((rd_T66 l0_1 a1).f0) == ((rd_T66 l0_1 (ji48)).f0)) = false := beq_eq_false_iff_ne.mpr c60
            have c60b1 : (((rd_T66 l0_1 a1).f0) != ((rd_T66 l0_1 (ji48)).f0)) = true := bne_iff_ne.mpr c60
            obtain rfl := Option.some.inj H
            have hnb78 := NB104_102.out
            have hnc78 := NB102_104.out
            obtain ⟨hcz79_0, hcz79_1, hcz79_2, hfz79_0, hfz79_1, hfz79_2⟩ := zD3 BK104
            obtain ⟨hcz80_0, hcz80_1, hfz80_0, hfz80_1⟩ := zD2 BK102
            have p107 : 0 ≤ ((ji48) : Int) := of_decide_eq_true ‹_›
            have q107 : (ji48) < (l0_1.length : Int) := of_decide_eq_true ‹_›
            obtain ⟨ad107, e107, hx107_0, hx107_1, hx107_2⟩ := at_T66 HR0_1.out (ji48) p107 q107
            obtain rfl : ad103 = ad107 := (by injection e107)
            replace hx107_0 := (HB.out.cell (World.block_lt_of_cell? w _ hx107_0)).trans hx107_0
            replace hx107_1 := (HB.out.cell (World.block_lt_of_cell? w _ hx107_1)).trans hx107_1
            replace hx107_2 := (HB.out.cell (World.block_lt_of_cell? w _ hx107_2)).trans hx107_2
            replace p107 := eq_true p107
            replace q107 := eq_true q107
            go_wp2_with (first | ((with_reducible refine gate_dst (N := 6) rfl ?_); refine zX 6 #[.int .i64 0, .int .i64 0, .int .i64 0] 66 ?_; intro gb108 hg w81 hbox hb; have BK108 := Aside0.mk (hbox); have GW108 := zG HB hg; have GE108 := zG HB hg; replace HB := zS HB hb; have NB102_108 := Aside0.mk ((by rw [hg]; exact Nat.ne_of_lt (blk_lt (g := gb102) (o := .cells #[.int .i64 a0_0, .slice (some ad103) l0_1.length c0_1] 24 (0, 0)) (zK BK102)) : gb102 ≠ gb108)); have NB108_102 := Aside0.mk ((by rw [hg]; exact Nat.ne_of_gt (blk_lt (g := gb102) (o := .cells #[.int .i64 a0_0, .slice (some ad103) l0_1.length c0_1] 24 (0, 0)) (zK BK102)) : gb108 ≠ gb102)); replace BK102 := zb BK102 hb; have NB104_108 := Aside0.mk ((by rw [hg]; exact Nat.ne_of_lt (blk_lt (g := gb104) (o := .cells #[.int .i64 ((rd_T66 l0_1 a1).f0), .int .i64 ((rd_T66 l0_1 a1).f1), .int .i64 ((rd_T66 l0_1 a1).f2)] 66 (0, 0)) (zK BK104)) : gb104 ≠ gb108)); have NB108_104 := Aside0.mk ((by rw [hg]; exact Nat.ne_of_gt (blk_lt (g := gb104) (o := .cells #[.int .i64 ((rd_T66 l0_1 a1).f0), .int .i64 ((rd_T66 l0_1 a1).f1), .int .i64 ((rd_T66 l0_1 a1).f2)] 66 (0, 0)) (zK BK104)) : gb108 ≠ gb104)); replace BK104 := zb BK104 hb; clear hb hbox hg; have hnb82 := NB108_102.out; have hnc82 := NB102_108.out; have hnb83 := NB108_104.out; have hnc83 := NB104_108.out; obtain ⟨hcz84_0, hcz84_1, hcz84_2, hfz84_0, hfz84_1, hfz84_2⟩ := zD3 BK108; obtain ⟨hcz85_0, hcz85_1, hcz85_2, hfz85_0, hfz85_1, hfz85_2⟩ := zD3 BK104))
            go_ret
            exact ⟨by first | rfl | (simp [errW_none, errW_some] <;> rfl) | (simp only [← hji48]; first | rfl | (simp [errW_none, errW_some] <;> rfl)) | (simp [*, errW_none, errW_some] <;> rfl), zB⟩
         ·rw [if_neg c50] at H
          exact absurd H (by simp)
        ·rw [if_neg c49] at H
         exact absurd H (by simp)
       ·rw [if_neg c47] at H
        have c47b0 : decide (0 < a1) = false := decide_eq_false c47
        clear c47
        obtain rfl := Option.some.inj H
        have hnb86 := NB104_102.out
        have hnc86 := NB102_104.out
        obtain ⟨hcz87_0, hcz87_1, hcz87_2, hfz87_0, hfz87_1, hfz87_2⟩ := zD3 BK104
        go_wp2
        go_ret
        exact ⟨zE, zB⟩
  ·rw [if_neg c4] at H
   exact absurd H (by simp)
 ·rw [if_neg c3] at H
  exact absurd H (by simp)
mutual
def sandpileref08_Check.j0 : Nat → Bool → Int → List (S66) → Option (Int)
 | 0, _, _, _ => none
 | k + 1, x12, x110000, x110001 => if x12 = true then (some 2) else (sandpileref08_Check.l0 k 0 x110000 x110001)
def sandpileref08_Check.l0 : Nat → Int → Int → List (S66) → Option (Int)
 | 0, _, _, _ => none
 | k + 1, x3, x110000, x110001 => if x3 < (x110001.length : Int) then ((sandpileref08_edge.f k x110000 x110001 x3).bind fun t110 => (if t110 = 0 then (sandpileref08_Check.l0 k (wrap64 (x3 + 1)) x110000 x110001) else (some t110))) else (some 0)
end
def sandpileref08_Check.f (k : Nat) (a0_0 : Int) (l0_1 : List (S66)) : Option (Int) := if a0_0 < 1 then (sandpileref08_Check.j0 k true a0_0 l0_1) else (sandpileref08_Check.j0 k (decide (a0_0 > 12)) a0_0 l0_1)
theorem sandpileref08_Check.calls (k : Nat) (a0_0 : Int) (A0_1 : Option Addr) (c0_1 : Nat) (l0_1 : List (S66)) (r : Int) (w : World) (hr0_1 : Kd.C k66 w A0_1 l0_1.length l0_1) (hc0_1 : l0_1.length ≤ c0_1) (h : sandpileref08_Check.f k a0_0 l0_1 = some r) :
  Calls Try.prog 46 #[.agg #[.int .i64 a0_0, .slice A0_1 l0_1.length c0_1]] w fun e w' => e = .returned (.int .i64 r) ∧ Below w.heap.size w w' := by
 have hu24 := Try.underlying24
 have HR0_1 := Aside0.mk hr0_1
 have HC0_1 := Aside0.mk hc0_1
 clear hr0_1 hc0_1
 have HB := Aside0.mk (Below.refl w.heap.size w)
 have H : (if a0_0 < 1 then (sandpileref08_Check.j0 k true a0_0 l0_1) else (sandpileref08_Check.j0 k (decide (a0_0 > 12)) a0_0 l0_1)) = some r := h
 clear h
 have HC2 := Aside0.mk H
 clear H
 go_enter Try.func46, Try.ntmps46
 go_upto_region 1 with (first | ((with_reducible refine gate_dst (N := 1) rfl ?_); refine zX 1 #[.int .i64 a0_0, .slice A0_1 l0_1.length c0_1] 24 ?_; intro gb109 hg w3 hbox hb; have BK109 := Aside0.mk (hbox); have GW109 := zG HB hg; have GE109 := zG HB hg; replace HB := zS HB hb; clear hb hbox hg))
 (try simp only [Act.put, List.setIfInBounds_toArray, List.set_cons_zero, List.set_cons_succ])
 go_cut [12] (fun v12 wc => ∃ (kq : Nat) (x12_1 : Bool), v12 = .bool x12_1 ∧ Aside0 (sandpileref08_Check.j0 kq x12_1 a0_0 l0_1 = some r) ∧ Aside0 (kq ≤ k) ∧ Aside0 (wc.heap[gb109]? = some (.cells #[.int .i64 a0_0, (.slice A0_1 l0_1.length c0_1)] 24 (0, 0))) ∧ Aside0 (Below w.heap.size w wc))
 case first =>
  have H := HC2.out
  clear HC2
  by_cases c4 : a0_0 < 1
  ·rw [if_pos c4] at H
   have c4b0 : decide (a0_0 < 1) = true := decide_eq_true c4
   clear c4
   (first | rw [c4b0] | (simp only [i64_w, i32_w]; rw [c4b0]) | skip)
   have H' := Aside0.mk H
   clear H
   obtain ⟨hcz5_0, hcz5_1, hfz5_0, hfz5_1⟩ := zD2 BK109
   go_wp2
   go_meet
   case rel => exact ⟨_, (true), zT, H', ⟨by first | omega | exact Nat.le_refl _⟩, ⟨zK BK109⟩, ⟨zB⟩⟩
  ·rw [if_neg c4] at H
   have c4b0 : decide (a0_0 < 1) = false := decide_eq_false c4
   clear c4
   (first | rw [c4b0] | (simp only [i64_w, i32_w]; rw [c4b0]) | skip)
   have H' := Aside0.mk H
   clear H
   obtain ⟨hcz6_0, hcz6_1, hfz6_0, hfz6_1⟩ := zD2 BK109
   go_wp2
   go_meet
   case rel => exact ⟨_, (decide (a0_0 > 12)), zT, H', ⟨by first | omega | exact Nat.le_refl _⟩, ⟨zK BK109⟩, ⟨zB⟩⟩
 case rest =>
  clear HC2
  try clear p2
  try clear c4
  try clear c4b0
  try clear hcz5_0
  try clear hcz5_1
  try clear hcz6_0
  try clear hcz6_1
  try clear hfz5_0
  try clear hfz5_1
  try clear hfz6_0
  try clear hfz6_1
  obtain ⟨kq, x12_1, rfl, HA, HJ1, BK109, HB⟩ := hcut
  cases kq with
  | zero => exact absurd HA.out (by simp [sandpileref08_Check.j0])
  | succ kj1 =>
   have H := HA.out
   clear HA
   simp only [sandpileref08_Check.j0] at H
   by_cases c7 : x12_1 = true
   ·subst c7
    have H1 : (some 2) = some r := by rw [if_pos rfl] at H; exact H
    clear H
    have H := H1
    clear H1
    obtain rfl := Option.some.inj H
    go_wp2
    go_ret
    exact ⟨zE, zB⟩
   ·replace c7 := Bool.eq_false_iff.mpr c7
    subst c7
    have H1 : (sandpileref08_Check.l0 kj1 0 a0_0 l0_1) = some r := by rw [if_neg (show ¬ (false = true) by decide)] at H; exact H
    clear H
    have H := H1
    clear H1
    have H' := Aside0.mk H
    clear H
    go_wp2
    go_loopg [3] kj1 (fun kq v3 w' => ∃ (x3_2 : Int), v3 = .int .i64 x3_2 ∧ Aside0 (sandpileref08_Check.l0 kq x3_2 a0_0 l0_1 = some r) ∧ Aside0 (kq ≤ kj1) ∧ Aside0 (w'.heap[gb109]? = some (.cells #[.int .i64 a0_0, (.slice A0_1 l0_1.length c0_1)] 24 (0, 0))) ∧ Aside0 (Below w.heap.size w w'))
    case atStart => exact ⟨(0), zT, H', ⟨Nat.le_refl _⟩, ⟨zK BK109⟩, ⟨zB⟩⟩
    case round =>
     clear H'
     try clear p2
     try clear c4
     try clear c4b0
     try clear c7
     try clear hcz5_0
     try clear hcz5_1
     try clear hcz6_0
     try clear hcz6_1
     try clear hfz5_0
     try clear hfz5_1
     try clear hfz6_0
     try clear hfz6_1
     try clear p2
     obtain ⟨x3_2, rfl, HA, HK2, BK109, HB⟩ := hrel
     cases gk with
     | zero => exact absurd HA.out (by simp [sandpileref08_Check.l0])
     | succ k2 =>
      have H := HA.out
      clear HA
      simp only [sandpileref08_Check.l0] at H
      by_cases c8 : x3_2 < (l0_1.length : Int)
      ·rw [if_pos c8] at H
       have c8b0 : decide (x3_2 < (l0_1.length : Int)) = true := decide_eq_true c8
       clear c8
       replace H := Option.bind_eq_some_iff.mp H
       obtain ⟨t110, A90, H⟩ := H
       replace H : (if t110 = 0 then (sandpileref08_Check.l0 k2 (wrap64 (x3_2 + 1)) a0_0 l0_1) else (some t110)) = some r := H
       have A9 := Aside0.mk A90
       clear A90
       by_cases c10 : t110 = 0
       ·rw [if_pos c10] at H
        have c10b0 : (t110 == 0) = true := beq_iff_eq.mpr c10
        have c10b1 : (t110 != 0) = false := bne_eq_false_iff_eq.mpr c10
        clear c10
        have H' := Aside0.mk H
        clear H
        obtain ⟨hcz11_0, hcz11_1, hfz11_0, hfz11_1⟩ := zD2 BK109
        go_wp2_with (first | ((with_reducible refine gate_callee (f := 73) rfl ?_); refine zL (some 22) Try.func73 #[.agg #[.int .i64 a0_0, .slice A0_1 l0_1.length c0_1], .int .i64 x3_2] ?_; (with_reducible refine (sandpileref08_edge.calls k2 a0_0 _ _ l0_1 x3_2 t110 _ ?side1 ?side2 A9.out).mono ?_); (case side1 => exact Kd.C_below HR0_1.out zB); (case side2 => exact HC0_1.out); rintro e w12 ⟨rfl, hb⟩; refine ⟨_, rfl, ?_⟩; replace BK109 := zb BK109 hb; replace HB := zS HB hb; (try clear hb)))
        go_roundg k2
        case measure => have := HJ1.out; have := HK2.out; omega
        case rel => exact ⟨(wrap64 (x3_2 + 1)), zT, H', ⟨by have := HJ1.out; have := HK2.out; omega⟩, ⟨zK BK109⟩, ⟨zB⟩⟩
       ·rw [if_neg c10] at H
        have c10b0 : (t110 == 0) = false := beq_eq_false_iff_ne.mpr c10
        have c10b1 : (t110 != 0) = true := bne_iff_ne.mpr c10
        obtain rfl := Option.some.inj H
        obtain ⟨hcz13_0, hcz13_1, hfz13_0, hfz13_1⟩ := zD2 BK109
        go_wp2_with (first | ((with_reducible refine gate_callee (f := 73) rfl ?_); refine zL (some 22) Try.func73 #[.agg #[.int .i64 a0_0, .slice A0_1 l0_1.length c0_1], .int .i64 x3_2] ?_; (with_reducible refine (sandpileref08_edge.calls k2 a0_0 _ _ l0_1 x3_2 t110 _ ?side1 ?side2 A9.out).mono ?_); (case side1 => exact Kd.C_below HR0_1.out zB); (case side2 => exact HC0_1.out); rintro e w14 ⟨rfl, hb⟩; refine ⟨_, rfl, ?_⟩; replace BK109 := zb BK109 hb; replace HB := zS HB hb; (try clear hb)))
        go_ret
        exact ⟨zE, zB⟩
      ·rw [if_neg c8] at H
       have c8b0 : decide (x3_2 < (l0_1.length : Int)) = false := decide_eq_false c8
       clear c8
       obtain rfl := Option.some.inj H
       obtain ⟨hcz15_0, hcz15_1, hfz15_0, hfz15_1⟩ := zD2 BK109
       go_wp2
       go_ret
       exact ⟨zE, zB⟩
def sandpileref08_small.f (k : Nat) (a0_0 : Int) (l0_1 : List (S66)) (a1 : Int) (a2 : Int) : Option (Bool) := if (l0_1.length : Int) > 40 then (some false) else ((sandpileref08_Check.f k a0_0 l0_1).bind fun t112 => (if t112 = 0 then (if a0_0 ≤ a1 then ((sandpileref08_Size.f a0_0 l0_1).bind fun t113 => (some (decide (t113 ≤ a2)))) else (some false)) else (some true)))
theorem sandpileref08_small.calls (k : Nat) (a0_0 : Int) (A0_1 : Option Addr) (c0_1 : Nat) (l0_1 : List (S66)) (a1 : Int) (a2 : Int) (r : Bool) (w : World) (hr0_1 : Kd.C k66 w A0_1 l0_1.length l0_1) (hc0_1 : l0_1.length ≤ c0_1) (h : sandpileref08_small.f k a0_0 l0_1 a1 a2 = some r) :
  Calls Try.prog 41 #[.agg #[.int .i64 a0_0, .slice A0_1 l0_1.length c0_1], .int .i64 a1, .int .i64 a2] w fun e w' => e = .returned (.bool r) ∧ Below w.heap.size w w' := by
 have hu24 := Try.underlying24
 have HR0_1 := Aside0.mk hr0_1
 have HC0_1 := Aside0.mk hc0_1
 clear hr0_1 hc0_1
 have HB := Aside0.mk (Below.refl w.heap.size w)
 have H : (if (l0_1.length : Int) > 40 then (some false) else ((sandpileref08_Check.f k a0_0 l0_1).bind fun t112 => (if t112 = 0 then (if a0_0 ≤ a1 then ((sandpileref08_Size.f a0_0 l0_1).bind fun t113 => (some (decide (t113 ≤ a2)))) else (some false)) else (some true)))) = some r := h
 clear h
 by_cases c4 : (l0_1.length : Int) > 40
 ·rw [if_pos c4] at H
  have c4b0 : decide (40 < (l0_1.length : Int)) = true := decide_eq_true c4
  have c4b1 : decide (40 < l0_1.length) = true := decide_eq_true (by omega)
  clear c4
  obtain rfl := Option.some.inj H
  go_enter Try.func41, Try.ntmps41
  go_wp2_with (first | ((with_reducible refine gate_dst (N := 3) rfl ?_); refine zX 3 #[.int .i64 a0_0, .slice A0_1 l0_1.length c0_1] 24 ?_; intro gb111 hg w5 hbox hb; have BK111 := Aside0.mk (hbox); have GW111 := zG HB hg; have GE111 := zG HB hg; replace HB := zS HB hb; clear hb hbox hg; obtain ⟨hcz6_0, hcz6_1, hfz6_0, hfz6_1⟩ := zD2 BK111))
  go_ret
  exact ⟨zE, zB⟩
 ·rw [if_neg c4] at H
  have c4b0 : decide (40 < (l0_1.length : Int)) = false := decide_eq_false c4
  have c4b1 : decide (40 < l0_1.length) = false := decide_eq_false (by omega)
  clear c4
  replace H := Option.bind_eq_some_iff.mp H
  obtain ⟨t112, A70, H⟩ := H
  replace H : (if t112 = 0 then (if a0_0 ≤ a1 then ((sandpileref08_Size.f a0_0 l0_1).bind fun t113 => (some (decide (t113 ≤ a2)))) else (some false)) else (some true)) = some r := H
  have A7 := Aside0.mk A70
  clear A70
  by_cases c8 : t112 = 0
  ·rw [if_pos c8] at H
   have c8b0 : (t112 == 0) = true := beq_iff_eq.mpr c8
   have c8b1 : (t112 != 0) = false := bne_eq_false_iff_eq.mpr c8
   clear c8
   by_cases c9 : a0_0 ≤ a1
   ·rw [if_pos c9] at H
    have c9b0 : decide (a0_0 ≤ a1) = true := decide_eq_true c9
    clear c9
    replace H := Option.bind_eq_some_iff.mp H
    obtain ⟨t113, A100, H⟩ := H
    replace H : (some (decide (t113 ≤ a2))) = some r := H
    have A10 := Aside0.mk A100
    clear A100
    obtain rfl := Option.some.inj H
    go_enter Try.func41, Try.ntmps41
    go_wp2_with (first | ((with_reducible refine gate_dst (N := 3) rfl ?_); refine zX 3 #[.int .i64 a0_0, .slice A0_1 l0_1.length c0_1] 24 ?_; intro gb111 hg w11 hbox hb; have BK111 := Aside0.mk (hbox); have GW111 := zG HB hg; have GE111 := zG HB hg; replace HB := zS HB hb; clear hb hbox hg; obtain ⟨hcz12_0, hcz12_1, hfz12_0, hfz12_1⟩ := zD2 BK111) | ((with_reducible refine gate_callee (f := 46) rfl ?_); refine zL (some 12) Try.func46 #[.agg #[.int .i64 a0_0, .slice A0_1 l0_1.length c0_1]] ?_; (with_reducible refine (sandpileref08_Check.calls k a0_0 _ _ l0_1 t112 _ ?side1 ?side2 A7.out).mono ?_); (case side1 => exact Kd.C_below HR0_1.out zB); (case side2 => exact HC0_1.out); rintro e w13 ⟨rfl, hb⟩; refine ⟨_, rfl, ?_⟩; replace BK111 := zb BK111 hb; replace HB := zS HB hb; (try clear hb); obtain ⟨hcz14_0, hcz14_1, hfz14_0, hfz14_1⟩ := zD2 BK111) | (go_at_call 59; (with_reducible refine (sandpileref08_Size.calls a0_0 _ _ l0_1 t113 _ ?side1 ?side2 A10.out).mono ?_); (case side1 => exact Kd.C_below HR0_1.out zB); (case side2 => exact HC0_1.out); rintro e w15 ⟨rfl, hb⟩; replace BK111 := zb BK111 hb; replace HB := zS HB hb; (try clear hb)))
    go_ret
    exact ⟨zE, zB⟩
   ·rw [if_neg c9] at H
    have c9b0 : decide (a0_0 ≤ a1) = false := decide_eq_false c9
    clear c9
    obtain rfl := Option.some.inj H
    go_enter Try.func41, Try.ntmps41
    go_wp2_with (first | ((with_reducible refine gate_dst (N := 3) rfl ?_); refine zX 3 #[.int .i64 a0_0, .slice A0_1 l0_1.length c0_1] 24 ?_; intro gb111 hg w16 hbox hb; have BK111 := Aside0.mk (hbox); have GW111 := zG HB hg; have GE111 := zG HB hg; replace HB := zS HB hb; clear hb hbox hg; obtain ⟨hcz17_0, hcz17_1, hfz17_0, hfz17_1⟩ := zD2 BK111) | ((with_reducible refine gate_callee (f := 46) rfl ?_); refine zL (some 12) Try.func46 #[.agg #[.int .i64 a0_0, .slice A0_1 l0_1.length c0_1]] ?_; (with_reducible refine (sandpileref08_Check.calls k a0_0 _ _ l0_1 t112 _ ?side1 ?side2 A7.out).mono ?_); (case side1 => exact Kd.C_below HR0_1.out zB); (case side2 => exact HC0_1.out); rintro e w18 ⟨rfl, hb⟩; refine ⟨_, rfl, ?_⟩; replace BK111 := zb BK111 hb; replace HB := zS HB hb; (try clear hb); obtain ⟨hcz19_0, hcz19_1, hfz19_0, hfz19_1⟩ := zD2 BK111))
    go_ret
    exact ⟨zE, zB⟩
  ·rw [if_neg c8] at H
   have c8b0 : (t112 == 0) = false := beq_eq_false_iff_ne.mpr c8
   have c8b1 : (t112 != 0) = true := bne_iff_ne.mpr c8
   obtain rfl := Option.some.inj H
   go_enter Try.func41, Try.ntmps41
   go_wp2_with (first | ((with_reducible refine gate_dst (N := 3) rfl ?_); refine zX 3 #[.int .i64 a0_0, .slice A0_1 l0_1.length c0_1] 24 ?_; intro gb111 hg w20 hbox hb; have BK111 := Aside0.mk (hbox); have GW111 := zG HB hg; have GE111 := zG HB hg; replace HB := zS HB hb; clear hb hbox hg; obtain ⟨hcz21_0, hcz21_1, hfz21_0, hfz21_1⟩ := zD2 BK111) | ((with_reducible refine gate_callee (f := 46) rfl ?_); refine zL (some 12) Try.func46 #[.agg #[.int .i64 a0_0, .slice A0_1 l0_1.length c0_1]] ?_; (with_reducible refine (sandpileref08_Check.calls k a0_0 _ _ l0_1 t112 _ ?side1 ?side2 A7.out).mono ?_); (case side1 => exact Kd.C_below HR0_1.out zB); (case side2 => exact HC0_1.out); rintro e w22 ⟨rfl, hb⟩; refine ⟨_, rfl, ?_⟩; replace BK111 := zb BK111 hb; replace HB := zS HB hb; (try clear hb)))
   go_ret
   exact ⟨zE, zB⟩
def sandpileref08_FewTrees.f (k : Nat) (a0_0 : Int) (l0_1 : List (S66)) : Option (Bool) := (sandpileref08_small.f k a0_0 l0_1 5 8).bind fun t115 => (some t115)
theorem sandpileref08_FewTrees.calls (k : Nat) (a0_0 : Int) (A0_1 : Option Addr) (c0_1 : Nat) (l0_1 : List (S66)) (r : Bool) (w : World) (hr0_1 : Kd.C k66 w A0_1 l0_1.length l0_1) (hc0_1 : l0_1.length ≤ c0_1) (h : sandpileref08_FewTrees.f k a0_0 l0_1 = some r) :
  Calls Try.prog 10 #[.agg #[.int .i64 a0_0, .slice A0_1 l0_1.length c0_1]] w fun e w' => e = .returned (.bool r) ∧ Below w.heap.size w w' := by
 have hu24 := Try.underlying24
 have HR0_1 := Aside0.mk hr0_1
 have HC0_1 := Aside0.mk hc0_1
 clear hr0_1 hc0_1
 have HB := Aside0.mk (Below.refl w.heap.size w)
 have H : ((sandpileref08_small.f k a0_0 l0_1 5 8).bind fun t115 => (some t115)) = some r := h
 clear h
 replace H := Option.bind_eq_some_iff.mp H
 obtain ⟨t115, A20, H⟩ := H
 replace H : (some t115) = some r := H
 have A2 := Aside0.mk A20
 clear A20
 obtain rfl := Option.some.inj H
 go_enter Try.func10, Try.ntmps10
 go_wp2_with (first | ((with_reducible refine gate_dst (N := 1) rfl ?_); refine zX 1 #[.int .i64 a0_0, .slice A0_1 l0_1.length c0_1] 24 ?_; intro gb114 hg w3 hbox hb; have BK114 := Aside0.mk (hbox); have GW114 := zG HB hg; have GE114 := zG HB hg; replace HB := zS HB hb; clear hb hbox hg; obtain ⟨hcz4_0, hcz4_1, hfz4_0, hfz4_1⟩ := zD2 BK114) | ((with_reducible refine gate_callee (f := 41) rfl ?_); refine zL (some 4) Try.func41 #[.agg #[.int .i64 a0_0, .slice A0_1 l0_1.length c0_1], .int .i64 5, .int .i64 8] ?_; (with_reducible refine (sandpileref08_small.calls k a0_0 _ _ l0_1 5 8 t115 _ ?side1 ?side2 A2.out).mono ?_); (case side1 => exact Kd.C_below HR0_1.out zB); (case side2 => exact HC0_1.out); rintro e w5 ⟨rfl, hb⟩; refine ⟨_, rfl, ?_⟩; replace BK114 := zb BK114 hb; replace HB := zS HB hb; (try clear hb)))
 go_ret
 exact ⟨zE, zB⟩
section
attribute [local go_sem] max2_int min2_int max_two min_two max_three min_three max_four min_four
def sandpileref08_Between.l0 : Nat → Int → Int → Int → Int → List (S66) → Option (Int)
 | 0, _, _, _, _, _ => none
 | k + 1, x1, x2, x7, x151000, x151001 => if x7 < (x151001.length : Int) then (if 0 ≤ x7 then (if ((rd_T66 x151001 x7).f0) = (mn x1 x2) then (if ((rd_T66 x151001 x7).f1) = (mx x1 x2) then (some ((rd_T66 x151001 x7).f2)) else (sandpileref08_Between.l0 k x1 x2 (wrap64 (x7 + 1)) x151000 x151001)) else (sandpileref08_Between.l0 k x1 x2 (wrap64 (x7 + 1)) x151000 x151001)) else (none)) else (some 0)
def sandpileref08_Between.f (k : Nat) (a0_0 : Int) (l0_1 : List (S66)) (a1 : Int) (a2 : Int) : Option (Int) := sandpileref08_Between.l0 k a1 a2 0 a0_0 l0_1
theorem sandpileref08_Between.calls (k : Nat) (a0_0 : Int) (A0_1 : Option Addr) (c0_1 : Nat) (l0_1 : List (S66)) (a1 : Int) (a2 : Int) (r : Int) (w : World) (hr0_1 : Kd.C k66 w A0_1 l0_1.length l0_1) (hc0_1 : l0_1.length ≤ c0_1) (h : sandpileref08_Between.f k a0_0 l0_1 a1 a2 = some r) :
  Calls Try.prog 97 #[.agg #[.int .i64 a0_0, .slice A0_1 l0_1.length c0_1], .int .i64 a1, .int .i64 a2] w fun e w' => e = .returned (.int .i64 r) ∧ Below w.heap.size w w' := by
 have hu24 := Try.underlying24
 have hu66 := Try.underlying66
 have HR0_1 := Aside0.mk hr0_1
 have HC0_1 := Aside0.mk hc0_1
 clear hr0_1 hc0_1
 have HB := Aside0.mk (Below.refl w.heap.size w)
 have H : (sandpileref08_Between.l0 k a1 a2 0 a0_0 l0_1) = some r := h
 clear h
 have H' := Aside0.mk H
 clear H
 go_enter Try.func97, Try.ntmps97
 go_wp2_with (first | ((with_reducible refine gate_dst (N := 3) rfl ?_); (try (refine gate_guard (by rfl) ?_; dsimp only)); refine zX 3 #[.int .i64 a0_0, .slice A0_1 l0_1.length c0_1] 24 ?_; intro gb150 hg w4 hbox hb; have BK150 := Aside0.mk (hbox); have GW150 := zG HB hg; have GE150 := zG HB hg; replace HB := zS HB hb; clear hb hbox hg))
 go_loopg [7] k (fun kq v7 w' => ∃ (x7_1 : Int), v7 = .int .i64 x7_1 ∧ Aside0 (sandpileref08_Between.l0 kq a1 a2 x7_1 a0_0 l0_1 = some r) ∧ Aside0 (kq ≤ k) ∧ Aside0 (w'.heap[gb150]? = some (.cells #[.int .i64 a0_0, (.slice A0_1 l0_1.length c0_1)] 24 (0, 0))) ∧ Aside0 (Below w.heap.size w w'))
 case atStart => exact ⟨(0), zT, H', ⟨Nat.le_refl _⟩, ⟨zK BK150⟩, ⟨zB⟩⟩
 case round =>
  clear H'
  try clear p2
  obtain ⟨x7_1, rfl, HA, HK1, BK150, HB⟩ := hrel
  cases gk with
  | zero => exact absurd HA.out (by simp [sandpileref08_Between.l0])
  | succ k1 =>
   have H := HA.out
   clear HA
   simp only [sandpileref08_Between.l0] at H
   by_cases c5 : x7_1 < (l0_1.length : Int)
   ·rw [if_pos c5] at H
    have c5b0 : decide (x7_1 < (l0_1.length : Int)) = true := decide_eq_true c5
    clear c5
    by_cases c6 : 0 ≤ x7_1
    ·rw [if_pos c6] at H
     have c6b0 : decide (0 ≤ x7_1) = true := decide_eq_true c6
     clear c6
     obtain ⟨ji7, hji7⟩ : ∃ j_ : Int, (mn a1 a2) = j_ := ⟨_, rfl⟩
     replace H : (if ((rd_T66 l0_1 x7_1).f0) = (ji7) then (if ((rd_T66 l0_1 x7_1).f1) = (mx a1 a2) then (some ((rd_T66 l0_1 x7_1).f2)) else (sandpileref08_Between.l0 k1 a1 a2 (wrap64 (x7_1 + 1)) a0_0 l0_1)) else (sandpileref08_Between.l0 k1 a1 a2 (wrap64 (x7_1 + 1)) a0_0 l0_1)) = some r := by first | (rw [hji7] at H; exact H) | (simp only [hji7] at H ⊢; exact H)
     have hji7_ : (if a2 < a1 then a2 else a1) = ji7 := hji7
     by_cases c8 : ((rd_T66 l0_1 x7_1).f0) = (ji7)
     ·rw [if_pos c8] at H
      have c8b0 : (((rd_T66 l0_1 x7_1).f0) == (ji7)) = true := beq_iff_eq.mpr c8
      have c8b1 : (((rd_T66 l0_1 x7_1).f0) != (ji7)) = false := bne_eq_false_iff_eq.mpr c8
      clear c8
      obtain ⟨ji9, hji9⟩ : ∃ j_ : Int, (mx a1 a2) = j_ := ⟨_, rfl⟩
      replace H : (if ((rd_T66 l0_1 x7_1).f1) = (ji9) then (some ((rd_T66 l0_1 x7_1).f2)) else (sandpileref08_Between.l0 k1 a1 a2 (wrap64 (x7_1 + 1)) a0_0 l0_1)) = some r := by first | (rw [hji9] at H; exact H) | (simp only [hji9] at H ⊢; exact H)
      have hji9_ : (if a1 < a2 then a2 else a1) = ji9 := hji9
      by_cases c10 : ((rd_T66 l0_1 x7_1).f1) = (ji9)
      ·rw [if_pos c10] at H
       have c10b0 : (((rd_T66 l0_1 x7_1).f1) == (ji9)) = true := beq_iff_eq.mpr c10
       have c10b1 : (((rd_T66 l0_1 x7_1).f1) != (ji9)) = false := bne_eq_false_iff_eq.mpr c10
       clear c10
       obtain rfl := Option.some.inj H
       obtain ⟨hcz11_0, hcz11_1, hfz11_0, hfz11_1⟩ := zD2 BK150
       have p151 : 0 ≤ (x7_1 : Int) := of_decide_eq_true ‹_›
       have q151 : x7_1 < (l0_1.length : Int) := of_decide_eq_true ‹_›
       obtain ⟨ad151, e151, hx151_0, hx151_1, hx151_2⟩ := at_T66 HR0_1.out x7_1 p151 q151
       cases e151
       replace hx151_0 := (HB.out.cell (World.block_lt_of_cell? w _ hx151_0)).trans hx151_0
       replace hx151_1 := (HB.out.cell (World.block_lt_of_cell? w _ hx151_1)).trans hx151_1
       replace hx151_2 := (HB.out.cell (World.block_lt_of_cell? w _ hx151_2)).trans hx151_2
       replace p151 := eq_true p151
       replace q151 := eq_true q151
       go_wp2_with (first | ((with_reducible refine gate_dst (N := 8) rfl ?_); (try (refine gate_guard (by rfl) ?_; dsimp only)); refine zX 8 #[.int .i64 0, .int .i64 0, .int .i64 0] 66 ?_; intro gb152 hg w12 hbox hb; have BK152 := Aside0.mk (hbox); have GW152 := zG HB hg; have GE152 := zG HB hg; replace HB := zS HB hb; have NB150_152 := Aside0.mk ((by rw [hg]; exact Nat.ne_of_lt (blk_lt (g := gb150) (o := .cells #[.int .i64 a0_0, .slice (some ad151) l0_1.length c0_1] 24 (0, 0)) (zK BK150)) : gb150 ≠ gb152)); have NB152_150 := Aside0.mk ((by rw [hg]; exact Nat.ne_of_gt (blk_lt (g := gb150) (o := .cells #[.int .i64 a0_0, .slice (some ad151) l0_1.length c0_1] 24 (0, 0)) (zK BK150)) : gb152 ≠ gb150)); replace BK150 := zb BK150 hb; clear hb hbox hg; have hnb13 := NB152_150.out; have hnc13 := NB150_152.out; obtain ⟨hcz14_0, hcz14_1, hcz14_2, hfz14_0, hfz14_1, hfz14_2⟩ := zD3 BK152))
       go_ret
       exact ⟨by first | rfl | (simp [errW_none, errW_some] <;> rfl) | (simp only [← hji7, ← hji9]; first | rfl | (simp [errW_none, errW_some] <;> rfl)) | (simp [*, errW_none, errW_some] <;> rfl), zB⟩
      ·rw [if_neg c10] at H
       have c10b0 : (((rd_T66 l0_1 x7_1).f1) == (ji9)) = false := beq_eq_false_iff_ne.mpr c10
       have c10b1 : (((rd_T66 l0_1 x7_1).f1) != (ji9)) = true := bne_iff_ne.mpr c10
       have H' := Aside0.mk H
       clear H
       obtain ⟨hcz15_0, hcz15_1, hfz15_0, hfz15_1⟩ := zD2 BK150
       have p151 : 0 ≤ (x7_1 : Int) := of_decide_eq_true ‹_›
       have q151 : x7_1 < (l0_1.length : Int) := of_decide_eq_true ‹_›
       obtain ⟨ad151, e151, hx151_0, hx151_1, hx151_2⟩ := at_T66 HR0_1.out x7_1 p151 q151
       cases e151
       replace hx151_0 := (HB.out.cell (World.block_lt_of_cell? w _ hx151_0)).trans hx151_0
       replace hx151_1 := (HB.out.cell (World.block_lt_of_cell? w _ hx151_1)).trans hx151_1
       replace hx151_2 := (HB.out.cell (World.block_lt_of_cell? w _ hx151_2)).trans hx151_2
       replace p151 := eq_true p151
       replace q151 := eq_true q151
       go_wp2_with (first | ((with_reducible refine gate_dst (N := 8) rfl ?_); (try (refine gate_guard (by rfl) ?_; dsimp only)); refine zX 8 #[.int .i64 0, .int .i64 0, .int .i64 0] 66 ?_; intro gb152 hg w16 hbox hb; have BK152 := Aside0.mk (hbox); have GW152 := zG HB hg; have GE152 := zG HB hg; replace HB := zS HB hb; have NB150_152 := Aside0.mk ((by rw [hg]; exact Nat.ne_of_lt (blk_lt (g := gb150) (o := .cells #[.int .i64 a0_0, .slice (some ad151) l0_1.length c0_1] 24 (0, 0)) (zK BK150)) : gb150 ≠ gb152)); have NB152_150 := Aside0.mk ((by rw [hg]; exact Nat.ne_of_gt (blk_lt (g := gb150) (o := .cells #[.int .i64 a0_0, .slice (some ad151) l0_1.length c0_1] 24 (0, 0)) (zK BK150)) : gb152 ≠ gb150)); replace BK150 := zb BK150 hb; clear hb hbox hg; have hnb17 := NB152_150.out; have hnc17 := NB150_152.out; obtain ⟨hcz18_0, hcz18_1, hcz18_2, hfz18_0, hfz18_1, hfz18_2⟩ := zD3 BK152))
       go_roundg k1
       case measure => have := HK1.out; omega
       case rel => exact ⟨(wrap64 (x7_1 + 1)), zT, H', ⟨by have := HK1.out; omega⟩, ⟨by refine zk ?_; refine blk_far ?_ NB150_152.out _; refine zk ?_; refine blk_far ?_ NB150_152.out _; refine zk ?_; refine blk_far ?_ NB150_152.out _; exact zK BK150⟩, ⟨zB⟩⟩
     ·rw [if_neg c8] at H
      have c8b0 : (((rd_T66 l0_1 x7_1).f0) == (ji7)) = false := beq_eq_false_iff_ne.mpr c8
      have c8b1 : (((rd_T66 l0_1 x7_1).f0) != (ji7)) = true := bne_iff_ne.mpr c8
      have H' := Aside0.mk H
      clear H
      obtain ⟨hcz19_0, hcz19_1, hfz19_0, hfz19_1⟩ := zD2 BK150
      have p151 : 0 ≤ (x7_1 : Int) := of_decide_eq_true ‹_›
      have q151 : x7_1 < (l0_1.length : Int) := of_decide_eq_true ‹_›
      obtain ⟨ad151, e151, hx151_0, hx151_1, hx151_2⟩ := at_T66 HR0_1.out x7_1 p151 q151
      cases e151
      replace hx151_0 := (HB.out.cell (World.block_lt_of_cell? w _ hx151_0)).trans hx151_0
      replace hx151_1 := (HB.out.cell (World.block_lt_of_cell? w _ hx151_1)).trans hx151_1
      replace hx151_2 := (HB.out.cell (World.block_lt_of_cell? w _ hx151_2)).trans hx151_2
      replace p151 := eq_true p151
      replace q151 := eq_true q151
      go_wp2_with (first | ((with_reducible refine gate_dst (N := 8) rfl ?_); (try (refine gate_guard (by rfl) ?_; dsimp only)); refine zX 8 #[.int .i64 0, .int .i64 0, .int .i64 0] 66 ?_; intro gb152 hg w20 hbox hb; have BK152 := Aside0.mk (hbox); have GW152 := zG HB hg; have GE152 := zG HB hg; replace HB := zS HB hb; have NB150_152 := Aside0.mk ((by rw [hg]; exact Nat.ne_of_lt (blk_lt (g := gb150) (o := .cells #[.int .i64 a0_0, .slice (some ad151) l0_1.length c0_1] 24 (0, 0)) (zK BK150)) : gb150 ≠ gb152)); have NB152_150 := Aside0.mk ((by rw [hg]; exact Nat.ne_of_gt (blk_lt (g := gb150) (o := .cells #[.int .i64 a0_0, .slice (some ad151) l0_1.length c0_1] 24 (0, 0)) (zK BK150)) : gb152 ≠ gb150)); replace BK150 := zb BK150 hb; clear hb hbox hg; have hnb21 := NB152_150.out; have hnc21 := NB150_152.out; obtain ⟨hcz22_0, hcz22_1, hcz22_2, hfz22_0, hfz22_1, hfz22_2⟩ := zD3 BK152))
      go_roundg k1
      case measure => have := HK1.out; omega
      case rel => exact ⟨(wrap64 (x7_1 + 1)), zT, H', ⟨by have := HK1.out; omega⟩, ⟨by refine zk ?_; refine blk_far ?_ NB150_152.out _; refine zk ?_; refine blk_far ?_ NB150_152.out _; refine zk ?_; refine blk_far ?_ NB150_152.out _; exact zK BK150⟩, ⟨zB⟩⟩
    ·rw [if_neg c6] at H
     exact absurd H (by simp)
   ·rw [if_neg c5] at H
    have c5b0 : decide (x7_1 < (l0_1.length : Int)) = false := decide_eq_false c5
    clear c5
    obtain rfl := Option.some.inj H
    obtain ⟨hcz23_0, hcz23_1, hfz23_0, hfz23_1⟩ := zD2 BK150
    go_wp2
    go_ret
    exact ⟨zE, zB⟩
end
mutual
def sandpileref08_Reached.l0 : Nat → List Bool → Int → Int → List (S66) → Option (List Bool)
 | 0, _, _, _, _ => none
 | k + 1, x5, x6, x154000, x154001 => if x6 < x154000 then (sandpileref08_Reached.l1 k x5 x6 0 x154000 x154001) else (some x5)
def sandpileref08_Reached.l1 : Nat → List Bool → Int → Int → Int → List (S66) → Option (List Bool)
 | 0, _, _, _, _, _ => none
 | k + 1, x5, x6, x7, x154000, x154001 => if x7 < x154000 then (sandpileref08_Reached.l2 k x5 x6 x7 0 x154000 x154001) else (sandpileref08_Reached.l0 k x5 (wrap64 (x6 + 1)) x154000 x154001)
def sandpileref08_Reached.l2 : Nat → List Bool → Int → Int → Int → Int → List (S66) → Option (List Bool)
 | 0, _, _, _, _, _, _ => none
 | k + 1, x5, x6, x7, x8, x154000, x154001 => if x8 < x154000 then (if 0 ≤ x7 then (if x7 < (x5.length : Int) then (if rdOf false x5 x7 = true then ((sandpileref08_Between.f k x154000 x154001 x7 x8).bind fun t159 => (if t159 > 0 then (if 0 ≤ x8 then (if x8 < (x5.length : Int) then (sandpileref08_Reached.l2 k (x5.set (x8 : Int).toNat true) x6 x7 (wrap64 (x8 + 1)) x154000 x154001) else (none)) else (none)) else (sandpileref08_Reached.l2 k x5 x6 x7 (wrap64 (x8 + 1)) x154000 x154001))) else (sandpileref08_Reached.l2 k x5 x6 x7 (wrap64 (x8 + 1)) x154000 x154001)) else (none)) else (none)) else (sandpileref08_Reached.l1 k x5 x6 (wrap64 (x7 + 1)) x154000 x154001)
end
def sandpileref08_Reached.f (k : Nat) (a0_0 : Int) (l0_1 : List (S66)) (a1 : Int) : Option (List Bool) := if 0 ≤ a0_0 then (if (a0_0 : Int).toNat ≤ 281474976710656 then ((some (List.replicate (a0_0 : Int).toNat false : List Bool)).bind fun y154 => (if 0 ≤ a1 then (if a1 < (y154.length : Int) then (sandpileref08_Reached.l0 k (y154.set (a1 : Int).toNat true) 0 a0_0 l0_1) else (none)) else (none))) else (none)) else (none)
theorem sandpileref08_Reached.calls (k : Nat) (a0_0 : Int) (A0_1 : Option Addr) (c0_1 : Nat) (l0_1 : List (S66)) (a1 : Int) (r : List Bool) (w : World) (hr0_1 : Kd.C k66 w A0_1 l0_1.length l0_1) (hc0_1 : l0_1.length ≤ c0_1) (h : sandpileref08_Reached.f k a0_0 l0_1 a1 = some r) :
  Calls Try.prog 80 #[.agg #[.int .i64 a0_0, .slice A0_1 l0_1.length c0_1], .int .i64 a1] w fun e w' => ∃ v0_ : Value, e = .returned (v0_) ∧ Kd.R Kd.bool 4 w' w.heap.size (fun _ => True) v0_ r ∧ Below w.heap.size w w' := by
 have hu24 := Try.underlying24
 have HR0_1 := Aside0.mk hr0_1
 have HC0_1 := Aside0.mk hc0_1
 clear hr0_1 hc0_1
 have HB := Aside0.mk (Below.refl w.heap.size w)
 have H : (if 0 ≤ a0_0 then (if (a0_0 : Int).toNat ≤ 281474976710656 then ((some (List.replicate (a0_0 : Int).toNat false : List Bool)).bind fun y154 => (if 0 ≤ a1 then (if a1 < (y154.length : Int) then (sandpileref08_Reached.l0 k (y154.set (a1 : Int).toNat true) 0 a0_0 l0_1) else (none)) else (none))) else (none)) else (none)) = some r := h
 clear h
 by_cases c3 : 0 ≤ a0_0
 ·rw [if_pos c3] at H
  have c3b0 := eq_true c3
  have c3b1 : decide (0 ≤ a0_0) = true := decide_eq_true c3
  clear c3
  by_cases c4 : (a0_0 : Int).toNat ≤ 281474976710656
  ·rw [if_pos c4] at H
   have c4b0 := eq_true c4
   have c4b1 : decide ((a0_0 : Int).toNat ≤ 281474976710656) = true := decide_eq_true c4
   clear c4
   obtain ⟨y154, hy154⟩ : ∃ y_ : List Bool, y_ = (List.replicate (a0_0 : Int).toNat false) := ⟨_, rfl⟩
   replace H : (if 0 ≤ a1 then (if a1 < (y154.length : Int) then (sandpileref08_Reached.l0 k (y154.set (a1 : Int).toNat true) 0 a0_0 l0_1) else (none)) else (none)) = some r := by first | (rw [hy154]; with_reducible exact H) | (have H2_ := (Option.bind_some _ _).symm.trans H; rw [hy154]; with_reducible exact H2_) | (have H2_ := (Option.bind_some _ _).symm.trans H; with_reducible exact H2_) | with_reducible exact H | (rw [hy154]; exact H) | exact H
   have Ny154 := Aside0.mk hy154
   clear hy154
   by_cases c5 : 0 ≤ a1
   ·rw [if_pos c5] at H
    have c5b0 : decide (0 ≤ a1) = true := decide_eq_true c5
    clear c5
    by_cases c6 : a1 < (y154.length : Int)
    ·rw [if_pos c6] at H
     have c6b0 : decide (a1 < (y154.length : Int)) = true := decide_eq_true c6
     clear c6
     obtain ⟨y157, hy157⟩ : ∃ y_ : List Bool, y_ = (y154.set (a1 : Int).toNat true) := ⟨_, rfl⟩
     replace H : (sandpileref08_Reached.l0 k y157 0 a0_0 l0_1) = some r := by first | (rw [hy157]; with_reducible exact H) | (have H2_ := (Option.bind_some _ _).symm.trans H; rw [hy157]; with_reducible exact H2_) | (have H2_ := (Option.bind_some _ _).symm.trans H; with_reducible exact H2_) | with_reducible exact H | (rw [hy157]; exact H) | exact H
     have Ny157 := Aside0.mk hy157
     clear hy157
     have H' := Aside0.mk H
     clear H
     go_enter Try.func80, Try.ntmps80
     go_wp2_with (first | ((with_reducible refine gate_dst (N := 2) rfl ?_); refine zX 2 #[.int .i64 a0_0, .slice A0_1 l0_1.length c0_1] 24 ?_; intro gb153 hg w8 hbox hb; have BK153 := Aside0.mk (hbox); have GW153 := zG HB hg; have GE153 := zG HB hg; replace HB := zS HB hb; clear hb hbox hg; obtain ⟨hcz9_0, hcz9_1, hfz9_0, hfz9_1⟩ := zD2 BK153) | ((with_reducible refine gate_dst (N := 11) rfl ?_); refine Kd.R_make Kd.bool _ 4 rfl (N := 11) rfl 97 _ _ rfl a0_0 rfl rfl Try.underlying97 (.bool false) 1 info4 rfl (by decide) (by omega) false (ok := fun _ => True) (okp := fun _ => True) rfl (fun _ hk => hk) trivial (of_decide_eq_true ‹_›) (Nat.le_trans (Nat.mul_le_mul_right _ (of_decide_eq_true ‹_› : a0_0.toNat ≤ 281474976710656)) (by omega)) (Below.refl _ _) (Nat.le_refl _) ?_; intro v155 w10 ho11 hb hg_ hnew_; clear hg_ hnew_; (first | rw [← Ny154.out] at ho11 | (simp only [Int.reduceToNat] at ho11; rw [← Ny154.out] at ho11)); have HO156 := Aside0.mk (Kd.R_lower ho11 (below_size zB)); replace BK153 := zb BK153 hb; replace HB := zS HB hb; clear hb ho11; have p7 : 0 ≤ (a1 : Int) := of_decide_eq_true ‹_›; have q7 : (a1 : Int) < ((y154.length : Int) : Int) := of_decide_eq_true ‹_›; obtain ⟨go7, co7, eo7, gb7, gl7, cl7, HG7⟩ := Kd.R_form HO156.out (by omega); (first | cases eo7 | (injection eo7 with ea_ en_ ec_; (first | subst ea_ | (injection ea_ with ea_; subst ea_)); subst ec_; clear en_)); have GB7 := Aside0.mk gb7; have GG7 := Aside0.mk HG7; clear gb7 gl7 HG7; obtain ⟨hx7_0, hf7_0⟩ := Kd.R_celln false HO156.out (a1 : Int) p7 q7; replace p7 := eq_true p7; replace q7 := eq_true q7; obtain ⟨hy12_, hz12_⟩ := Kd.R_celln false HO156.out (a1 : Int) (of_decide_eq_true ‹_›) (of_decide_eq_true ‹_›); have HP12 := Kd.R_putg HO156.out (a1 : Int) true) | ((with_reducible refine gate_store (t := 4) (p := 14) rfl ?_); refine store_event (t := 4) (p := 14) (v := ?vo_w13) (w1 := (w10.setCell ⟨go7, (a1 : Int).toNat, none⟩ (.bool true))) ?hg ?ho ?hn ?hr ?_; (case ho => rfl); (case hg => rfl); (case hn => rfl); (case hr => first | (go_simp; done) | (go_simp; rfl)); intro w13 hw; have hg : w10.grownBy w13 (some go7) := (by rw [hw]; exact HP12.2); have hp_ : Kd.R Kd.bool 4 w13 w.heap.size (fun _ => True) (.slice (some ⟨go7, 0, none⟩) y154.length co7) y157 := (by rw [hw, Ny157.out]; exact HP12.1); clear HP12; replace BK153 := Aside0.mk (blk_grown (zK BK153) hg (Kd.R_ne HO156.out BK153.out (by decide))); replace HO156 := Aside0.mk (hp_); replace HB := Aside0.mk ((by rw [hw]; exact below_set (HB.out) GB7.out : Below w.heap.size w w13)); clear hg hw hp_))
     go_loopg [6] k (fun kq v6 w' => ∃ (x5_1 : List Bool) (x6_1 : Int), v6 = .int .i64 x6_1 ∧ Aside0 (sandpileref08_Reached.l0 kq x5_1 x6_1 a0_0 l0_1 = some r) ∧ Aside0 (kq ≤ k) ∧ Aside0 (Kd.R Kd.bool 4 w' w.heap.size (fun _ => True) (.slice (some ⟨go7, 0, none⟩) y154.length co7) x5_1) ∧ Aside0 (w'.heap[gb153]? = some (.cells #[.int .i64 a0_0, (.slice A0_1 l0_1.length c0_1)] 24 (0, 0))) ∧ Aside0 (Below w.heap.size w w'))
     case atStart => exact ⟨(y157), (0), zT, H', ⟨Nat.le_refl _⟩, ⟨zR HO156⟩, ⟨zK BK153⟩, ⟨zB⟩⟩
     case round =>
      clear H'
      try clear p2
      try clear c3
      try clear c3b0
      try clear c3b1
      try clear c4
      try clear c4b0
      try clear c4b1
      try clear c5
      try clear c5b0
      try clear c6
      try clear c6b0
      try clear p7
      try clear q7
      try clear hx7
      try clear hf7
      try clear c8
      try clear hcz9_0
      try clear hcz9_1
      try clear hfz9_0
      try clear hfz9_1
      try clear hx7_0
      try clear p7
      try clear q7
      obtain ⟨x5_1, x6_1, rfl, HA, HK1, HO_5, BK153, HB⟩ := hrel
      have hl5_1 := (Kd.R_reads' HO_5.out).1
      rw [hl5_1] at HO_5
      (try simp only [hl5_1])
      (try simp only [hl5_1] at BK153)
      cases gk with
      | zero => exact absurd HA.out (by simp [sandpileref08_Reached.l0])
      | succ k1 =>
       have H := HA.out
       clear HA
       simp only [sandpileref08_Reached.l0] at H
       by_cases c14 : x6_1 < a0_0
       ·rw [if_pos c14] at H
        have c14b0 : decide (x6_1 < a0_0) = true := decide_eq_true c14
        clear c14
        have H' := Aside0.mk H
        clear H
        obtain ⟨hcz15_0, hcz15_1, hfz15_0, hfz15_1⟩ := zD2 BK153
        go_wp2
        go_loopg [7] k1 (fun kq v7 w' => ∃ (x5_2 : List Bool) (x7_2 : Int), v7 = .int .i64 x7_2 ∧ Aside0 (sandpileref08_Reached.l1 kq x5_2 x6_1 x7_2 a0_0 l0_1 = some r) ∧ Aside0 (kq ≤ k1) ∧ Aside0 (Kd.R Kd.bool 4 w' w.heap.size (fun _ => True) (.slice (some ⟨go7, 0, none⟩) x5_1.length co7) x5_2) ∧ Aside0 (w'.heap[gb153]? = some (.cells #[.int .i64 a0_0, (.slice A0_1 l0_1.length c0_1)] 24 (0, 0))) ∧ Aside0 (Below w.heap.size w w'))
        case atStart => exact ⟨(x5_1), (0), zT, H', ⟨Nat.le_refl _⟩, ⟨by (try simp only [hl5_1]); (with_reducible repeat (first | apply Kd.R_alloc | apply Kd.R_drewN | apply Kd.R_drew)); exact HO_5.out⟩, ⟨by (try simp only [hl5_1]); exact zK BK153⟩, ⟨zB⟩⟩
        case round =>
         clear H'
         try clear c1
         try clear p2
         try clear c3
         try clear c3b0
         try clear c3b1
         try clear c4
         try clear c4b0
         try clear c4b1
         try clear c5
         try clear c5b0
         try clear c6
         try clear c6b0
         try clear p7
         try clear q7
         try clear hx7
         try clear hf7
         try clear c8
         try clear c14
         try clear c14b0
         try clear hcz15_0
         try clear hcz15_1
         try clear hcz9_0
         try clear hcz9_1
         try clear hfz15_0
         try clear hfz15_1
         try clear hfz9_0
         try clear hfz9_1
         try clear hx7_0
         try clear p2
         try clear p7
         try clear q7
         obtain ⟨x5_2, x7_2, rfl, HA, HK2, HO_5, BK153, HB⟩ := hrel
         have hl5_2 := (Kd.R_reads' HO_5.out).1
         rw [hl5_2] at HO_5
         (try simp only [hl5_2])
         (try simp only [hl5_2] at BK153)
         cases gk with
         | zero => exact absurd HA.out (by simp [sandpileref08_Reached.l1])
         | succ k2 =>
          have H := HA.out
          clear HA
          simp only [sandpileref08_Reached.l1] at H
          by_cases c16 : x7_2 < a0_0
          ·rw [if_pos c16] at H
           have c16b0 : decide (x7_2 < a0_0) = true := decide_eq_true c16
           clear c16
           have H' := Aside0.mk H
           clear H
           obtain ⟨hcz17_0, hcz17_1, hfz17_0, hfz17_1⟩ := zD2 BK153
           go_wp2
           go_loopg [8] k2 (fun kq v8 w' => ∃ (x5_3 : List Bool) (x8_3 : Int), v8 = .int .i64 x8_3 ∧ Aside0 (sandpileref08_Reached.l2 kq x5_3 x6_1 x7_2 x8_3 a0_0 l0_1 = some r) ∧ Aside0 (kq ≤ k2) ∧ Aside0 (Kd.R Kd.bool 4 w' w.heap.size (fun _ => True) (.slice (some ⟨go7, 0, none⟩) x5_2.length co7) x5_3) ∧ Aside0 (w'.heap[gb153]? = some (.cells #[.int .i64 a0_0, (.slice A0_1 l0_1.length c0_1)] 24 (0, 0))) ∧ Aside0 (Below w.heap.size w w'))
           case atStart => exact ⟨(x5_2), (0), zT, H', ⟨Nat.le_refl _⟩, ⟨by (try simp only [hl5_1]); (try simp only [hl5_2]); (with_reducible repeat (first | apply Kd.R_alloc | apply Kd.R_drewN | apply Kd.R_drew)); exact HO_5.out⟩, ⟨by (try simp only [hl5_1]); (try simp only [hl5_2]); exact zK BK153⟩, ⟨zB⟩⟩
           case round =>
            clear H'
            try clear c1
            try clear p2
            try clear c3
            try clear c3b0
            try clear c3b1
            try clear c4
            try clear c4b0
            try clear c4b1
            try clear c5
            try clear c5b0
            try clear c6
            try clear c6b0
            try clear p7
            try clear q7
            try clear hx7
            try clear hf7
            try clear c8
            try clear c14
            try clear c14b0
            try clear c16
            try clear c16b0
            try clear hcz15_0
            try clear hcz15_1
            try clear hcz17_0
            try clear hcz17_1
            try clear hcz9_0
            try clear hcz9_1
            try clear hfz15_0
            try clear hfz15_1
            try clear hfz17_0
            try clear hfz17_1
            try clear hfz9_0
            try clear hfz9_1
            try clear hx7_0
            try clear p2
            try clear p7
            try clear q7
            obtain ⟨x5_3, x8_3, rfl, HA, HK3, HO_5, BK153, HB⟩ := hrel
            have hl5_3 := (Kd.R_reads' HO_5.out).1
            rw [hl5_3] at HO_5
            (try simp only [hl5_3])
            (try simp only [hl5_3] at BK153)
            cases gk with
            | zero => exact absurd HA.out (by simp [sandpileref08_Reached.l2])
            | succ k3 =>
             have H := HA.out
             clear HA
             simp only [sandpileref08_Reached.l2] at H
             by_cases c18 : x8_3 < a0_0
             ·rw [if_pos c18] at H
              have c18b0 : decide (x8_3 < a0_0) = true := decide_eq_true c18
              clear c18
              by_cases c19 : 0 ≤ x7_2
              ·rw [if_pos c19] at H
               have c19b0 : decide (0 ≤ x7_2) = true := decide_eq_true c19
               clear c19
               by_cases c20 : x7_2 < (x5_3.length : Int)
               ·rw [if_pos c20] at H
                have c20b0 : decide (x7_2 < (x5_3.length : Int)) = true := decide_eq_true c20
                clear c20
                obtain ⟨bq21, hbq21⟩ : ∃ b_ : Bool, b_ = (rdOf false x5_3 x7_2) := ⟨_, rfl⟩
                replace H : (if bq21 = true then ((sandpileref08_Between.f k3 a0_0 l0_1 x7_2 x8_3).bind fun t159 => (if t159 > 0 then (if 0 ≤ x8_3 then (if x8_3 < (x5_3.length : Int) then (sandpileref08_Reached.l2 k3 (x5_3.set (x8_3 : Int).toNat true) x6_1 x7_2 (wrap64 (x8_3 + 1)) a0_0 l0_1) else (none)) else (none)) else (sandpileref08_Reached.l2 k3 x5_3 x6_1 x7_2 (wrap64 (x8_3 + 1)) a0_0 l0_1))) else (sandpileref08_Reached.l2 k3 x5_3 x6_1 x7_2 (wrap64 (x8_3 + 1)) a0_0 l0_1)) = some r := by rw [← hbq21] at H; exact H
                have Nbq21 := Aside0.mk hbq21
                clear hbq21
                by_cases c22 : bq21 = true
                ·subst c22
                 have H1 : ((sandpileref08_Between.f k3 a0_0 l0_1 x7_2 x8_3).bind fun t159 => (if t159 > 0 then (if 0 ≤ x8_3 then (if x8_3 < (x5_3.length : Int) then (sandpileref08_Reached.l2 k3 (x5_3.set (x8_3 : Int).toNat true) x6_1 x7_2 (wrap64 (x8_3 + 1)) a0_0 l0_1) else (none)) else (none)) else (sandpileref08_Reached.l2 k3 x5_3 x6_1 x7_2 (wrap64 (x8_3 + 1)) a0_0 l0_1))) = some r := by rw [if_pos rfl] at H; exact H
                 clear H
                 have H := H1
                 clear H1
                 replace H := Option.bind_eq_some_iff.mp H
                 obtain ⟨t159, A230, H⟩ := H
                 replace H : (if t159 > 0 then (if 0 ≤ x8_3 then (if x8_3 < (x5_3.length : Int) then (sandpileref08_Reached.l2 k3 (x5_3.set (x8_3 : Int).toNat true) x6_1 x7_2 (wrap64 (x8_3 + 1)) a0_0 l0_1) else (none)) else (none)) else (sandpileref08_Reached.l2 k3 x5_3 x6_1 x7_2 (wrap64 (x8_3 + 1)) a0_0 l0_1)) = some r := H
                 have A23 := Aside0.mk A230
                 clear A230
                 by_cases c24 : t159 > 0
                 ·rw [if_pos c24] at H
                  have c24b0 : decide (0 < t159) = true := decide_eq_true c24
                  clear c24
                  by_cases c25 : 0 ≤ x8_3
                  ·rw [if_pos c25] at H
                   have c25b0 : decide (0 ≤ x8_3) = true := decide_eq_true c25
                   clear c25
                   by_cases c26 : x8_3 < (x5_3.length : Int)
                   ·rw [if_pos c26] at H
                    have c26b0 : decide (x8_3 < (x5_3.length : Int)) = true := decide_eq_true c26
                    clear c26
                    obtain ⟨y160, hy160⟩ : ∃ y_ : List Bool, y_ = (x5_3.set (x8_3 : Int).toNat true) := ⟨_, rfl⟩
                    replace H : (sandpileref08_Reached.l2 k3 y160 x6_1 x7_2 (wrap64 (x8_3 + 1)) a0_0 l0_1) = some r := by first | (rw [hy160]; with_reducible exact H) | (have H2_ := (Option.bind_some _ _).symm.trans H; rw [hy160]; with_reducible exact H2_) | (have H2_ := (Option.bind_some _ _).symm.trans H; with_reducible exact H2_) | with_reducible exact H | (rw [hy160]; exact H) | exact H
                    have Ny160 := Aside0.mk hy160
                    clear hy160
                    have H' := Aside0.mk H
                    clear H
                    obtain ⟨hcz28_0, hcz28_1, hfz28_0, hfz28_1⟩ := zD2 BK153
                    have p158 : 0 ≤ (x7_2 : Int) := of_decide_eq_true ‹_›
                    have q158 : x7_2 < (x5_3.length : Int) := of_decide_eq_true ‹_›
                    obtain ⟨ad158, e158, hx158_0⟩ := Kd.at_bool (Kd.R_reads' HO_5.out).2.2 x7_2 p158 q158
                    (try rw [← Nbq21.out] at hx158_0)
                    obtain rfl : (⟨go7, 0, none⟩ : Addr) = ad158 := (by injection e158)
                    (first | simp only [add_plain] at hx158_0 | simp only [add_at] at hx158_0 | simp only [Addr.add, Nat.zero_add] at hx158_0 | skip)
                    replace p158 := eq_true p158
                    replace q158 := eq_true q158
                    go_wp2_with (first | (go_at_call 97; (with_reducible refine (sandpileref08_Between.calls k3 a0_0 _ _ l0_1 x7_2 x8_3 t159 _ ?side1 ?side2 A23.out).mono ?_); (case side1 => exact Kd.C_below HR0_1.out zB); (case side2 => exact HC0_1.out); rintro e w29 ⟨rfl, hb⟩; replace HO_5 := zbR HO_5 hb; replace BK153 := zb BK153 hb; replace HB := zS HB hb; (try clear hb); have p27 : 0 ≤ (x8_3 : Int) := of_decide_eq_true ‹_›; have q27 : (x8_3 : Int) < ((x5_3.length : Int) : Int) := of_decide_eq_true ‹_›; obtain ⟨hx27_0, hf27_0⟩ := Kd.R_celln false HO_5.out (x8_3 : Int) p27 q27; replace p27 := eq_true p27; replace q27 := eq_true q27; obtain ⟨hy30_, hz30_⟩ := Kd.R_celln false HO_5.out (x8_3 : Int) (of_decide_eq_true ‹_›) (of_decide_eq_true ‹_›); have HP30 := Kd.R_putg HO_5.out (x8_3 : Int) true) | ((with_reducible refine gate_store (t := 4) (p := 46) rfl ?_); refine store_event (t := 4) (p := 46) (v := ?vo_w31) (w1 := (w29.setCell ⟨go7, (x8_3 : Int).toNat, none⟩ (.bool true))) ?hg ?ho ?hn ?hr ?_; (case ho => rfl); (case hg => rfl); (case hn => rfl); (case hr => first | (go_simp; done) | (go_simp; rfl)); intro w31 hw; have hg : w29.grownBy w31 (some go7) := (by rw [hw]; exact HP30.2); have hp_ : Kd.R Kd.bool 4 w31 w.heap.size (fun _ => True) (.slice (some ⟨go7, 0, none⟩) x5_3.length co7) y160 := (by rw [hw, Ny160.out]; exact HP30.1); clear HP30; replace BK153 := Aside0.mk (blk_grown (zK BK153) hg (Kd.R_ne HO_5.out BK153.out (by decide))); replace HO_5 := Aside0.mk (hp_); replace HB := Aside0.mk ((by rw [hw]; exact below_set (HB.out) GB7.out : Below w.heap.size w w31)); clear hg hw hp_))
                    (try simp only [← hl5_3])
                    go_roundg k3
                    case measure => have := HK1.out; have := HK2.out; have := HK3.out; omega
                    case rel => exact ⟨(y160), (wrap64 (x8_3 + 1)), zT, H', ⟨by have := HK1.out; have := HK2.out; have := HK3.out; omega⟩, ⟨by (try simp only [hl5_1]); (try simp only [hl5_2]); (try simp only [hl5_3]); (with_reducible repeat (first | apply Kd.R_alloc | apply Kd.R_drewN | apply Kd.R_drew)); exact HO_5.out⟩, ⟨by (try simp only [hl5_1]); (try simp only [hl5_2]); (try simp only [hl5_3]); exact zK BK153⟩, ⟨zB⟩⟩
                   ·rw [if_neg c26] at H
                    exact absurd H (by simp)
                  ·rw [if_neg c25] at H
                   exact absurd H (by simp)
                 ·rw [if_neg c24] at H
                  have c24b0 : decide (0 < t159) = false := decide_eq_false c24
                  clear c24
                  have H' := Aside0.mk H
                  clear H
                  obtain ⟨hcz32_0, hcz32_1, hfz32_0, hfz32_1⟩ := zD2 BK153
                  have p158 : 0 ≤ (x7_2 : Int) := of_decide_eq_true ‹_›
                  have q158 : x7_2 < (x5_3.length : Int) := of_decide_eq_true ‹_›
                  obtain ⟨ad158, e158, hx158_0⟩ := Kd.at_bool (Kd.R_reads' HO_5.out).2.2 x7_2 p158 q158
                  (try rw [← Nbq21.out] at hx158_0)
                  obtain rfl : (⟨go7, 0, none⟩ : Addr) = ad158 := (by injection e158)
                  (first | simp only [add_plain] at hx158_0 | simp only [add_at] at hx158_0 | simp only [Addr.add, Nat.zero_add] at hx158_0 | skip)
                  replace p158 := eq_true p158
                  replace q158 := eq_true q158
                  go_wp2_with (first | (go_at_call 97; (with_reducible refine (sandpileref08_Between.calls k3 a0_0 _ _ l0_1 x7_2 x8_3 t159 _ ?side1 ?side2 A23.out).mono ?_); (case side1 => exact Kd.C_below HR0_1.out zB); (case side2 => exact HC0_1.out); rintro e w33 ⟨rfl, hb⟩; replace HO_5 := zbR HO_5 hb; replace BK153 := zb BK153 hb; replace HB := zS HB hb; (try clear hb)))
                  (try simp only [← hl5_3])
                  go_roundg k3
                  case measure => have := HK1.out; have := HK2.out; have := HK3.out; omega
                  case rel => exact ⟨(x5_3), (wrap64 (x8_3 + 1)), zT, H', ⟨by have := HK1.out; have := HK2.out; have := HK3.out; omega⟩, ⟨by (try simp only [hl5_1]); (try simp only [hl5_2]); (try simp only [hl5_3]); (with_reducible repeat (first | apply Kd.R_alloc | apply Kd.R_drewN | apply Kd.R_drew)); exact HO_5.out⟩, ⟨by (try simp only [hl5_1]); (try simp only [hl5_2]); (try simp only [hl5_3]); exact zK BK153⟩, ⟨zB⟩⟩
                ·replace c22 := Bool.eq_false_iff.mpr c22
                 subst c22
                 have H1 : (sandpileref08_Reached.l2 k3 x5_3 x6_1 x7_2 (wrap64 (x8_3 + 1)) a0_0 l0_1) = some r := by rw [if_neg (show ¬ (false = true) by decide)] at H; exact H
                 clear H
                 have H := H1
                 clear H1
                 have H' := Aside0.mk H
                 clear H
                 obtain ⟨hcz34_0, hcz34_1, hfz34_0, hfz34_1⟩ := zD2 BK153
                 have p158 : 0 ≤ (x7_2 : Int) := of_decide_eq_true ‹_›
                 have q158 : x7_2 < (x5_3.length : Int) := of_decide_eq_true ‹_›
                 obtain ⟨ad158, e158, hx158_0⟩ := Kd.at_bool (Kd.R_reads' HO_5.out).2.2 x7_2 p158 q158
                 (try rw [← Nbq21.out] at hx158_0)
                 obtain rfl : (⟨go7, 0, none⟩ : Addr) = ad158 := (by injection e158)
                 (first | simp only [add_plain] at hx158_0 | simp only [add_at] at hx158_0 | simp only [Addr.add, Nat.zero_add] at hx158_0 | skip)
                 replace p158 := eq_true p158
                 replace q158 := eq_true q158
                 go_wp2
                 (try simp only [← hl5_3])
                 go_roundg k3
                 case measure => have := HK1.out; have := HK2.out; have := HK3.out; omega
                 case rel => exact ⟨(x5_3), (wrap64 (x8_3 + 1)), zT, H', ⟨by have := HK1.out; have := HK2.out; have := HK3.out; omega⟩, ⟨by (try simp only [hl5_1]); (try simp only [hl5_2]); (try simp only [hl5_3]); (with_reducible repeat (first | apply Kd.R_alloc | apply Kd.R_drewN | apply Kd.R_drew)); exact HO_5.out⟩, ⟨by (try simp only [hl5_1]); (try simp only [hl5_2]); (try simp only [hl5_3]); exact zK BK153⟩, ⟨zB⟩⟩
               ·rw [if_neg c20] at H
                exact absurd H (by simp)
              ·rw [if_neg c19] at H
               exact absurd H (by simp)
             ·rw [if_neg c18] at H
              have c18b0 : decide (x8_3 < a0_0) = false := decide_eq_false c18
              clear c18
              have H' := Aside0.mk H
              clear H
              obtain ⟨hcz35_0, hcz35_1, hfz35_0, hfz35_1⟩ := zD2 BK153
              go_wp2
              (try simp only [← hl5_2, ← hl5_3])
              go_roundg k3
              case measure => have := HK1.out; have := HK2.out; have := HK3.out; omega
              case rel => exact ⟨(x5_3), (wrap64 (x7_2 + 1)), zT, H', ⟨by have := HK1.out; have := HK2.out; have := HK3.out; omega⟩, ⟨by (try simp only [hl5_1]); (try simp only [hl5_2]); (try simp only [hl5_3]); (with_reducible repeat (first | apply Kd.R_alloc | apply Kd.R_drewN | apply Kd.R_drew)); exact HO_5.out⟩, ⟨by (try simp only [hl5_1]); (try simp only [hl5_2]); (try simp only [hl5_3]); exact zK BK153⟩, ⟨zB⟩⟩
          ·rw [if_neg c16] at H
           have c16b0 : decide (x7_2 < a0_0) = false := decide_eq_false c16
           clear c16
           have H' := Aside0.mk H
           clear H
           obtain ⟨hcz36_0, hcz36_1, hfz36_0, hfz36_1⟩ := zD2 BK153
           go_wp2
           (try simp only [← hl5_1, ← hl5_2])
           go_roundg k2
           case measure => have := HK1.out; have := HK2.out; omega
           case rel => exact ⟨(x5_2), (wrap64 (x6_1 + 1)), zT, H', ⟨by have := HK1.out; have := HK2.out; omega⟩, ⟨by (try simp only [hl5_1]); (try simp only [hl5_2]); (with_reducible repeat (first | apply Kd.R_alloc | apply Kd.R_drewN | apply Kd.R_drew)); exact HO_5.out⟩, ⟨by (try simp only [hl5_1]); (try simp only [hl5_2]); exact zK BK153⟩, ⟨zB⟩⟩
       ·rw [if_neg c14] at H
        have c14b0 : decide (x6_1 < a0_0) = false := decide_eq_false c14
        clear c14
        obtain rfl := Option.some.inj H
        obtain ⟨hcz37_0, hcz37_1, hfz37_0, hfz37_1⟩ := zD2 BK153
        go_wp2
        go_ret
        exact ⟨_, zE, by (with_reducible repeat (first | apply Kd.R_alloc | apply Kd.R_drewN | apply Kd.R_drew)); exact HO_5.out, zB⟩
    ·rw [if_neg c6] at H
     exact absurd H (by simp)
   ·rw [if_neg c5] at H
    exact absurd H (by simp)
  ·rw [if_neg c4] at H
   exact absurd H (by simp)
 ·rw [if_neg c3] at H
  exact absurd H (by simp)
end Go.Proofs.Ytffdiakgjakngaa.P
