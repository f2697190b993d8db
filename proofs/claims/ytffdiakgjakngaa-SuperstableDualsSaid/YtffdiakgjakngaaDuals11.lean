/- A part of the proof that SuperstableDuals answers true (text 11 of 15): own walks and plain laws; no conditions. -/
import Derived.Test.YtffdiakgjakngaaDuals10
namespace Go.Proofs.Ytffdiakgjakngaa.P
open Go.RowKit Go.Proofs.YtffdiakgjakngaaW.PrintWords Go.Proofs.YtffdiakgjakngaaW.PrintLast Go.Proofs.YtffdiakgjakngaaW.PrintMore
set_option linter.unusedVariables false
set_option linter.unusedSimpArgs false
set_option maxHeartbeats 8000000
set_option maxRecDepth 100000
def recurrent_pile_joins.l0 : Nat → Int → List Bool → Int → List (S66) → Int → Int → Option (Int)
 | 0, _, _, _, _, _, _ => none
 | k + 1, x1, x2, x7, x12, x13, x14 => if x14 < x13 then (if 0 ≤ x14 then (if x14 < (x12.length : Int) then (if ((rd_T66 x12 x14).f0) = ((rd_T66 x12 x14).f1) then (recurrent_pile_joins.l0 k x1 x2 x7 x12 x13 (wrap64 (x14 + 1))) else (if ((rd_T66 x12 x14).f0) = x1 then (if 0 ≤ ((rd_T66 x12 x14).f1) then (if ((rd_T66 x12 x14).f1) < (x2.length : Int) then (if rdOf false x2 ((rd_T66 x12 x14).f1) = true then (recurrent_pile_joins.l0 k x1 x2 (wrap64 (x7 + ((rd_T66 x12 x14).f2))) x12 x13 (wrap64 (x14 + 1))) else (if ((rd_T66 x12 x14).f1) = x1 then (if 0 ≤ ((rd_T66 x12 x14).f0) then (if ((rd_T66 x12 x14).f0) < (x2.length : Int) then (if rdOf false x2 ((rd_T66 x12 x14).f0) = true then (recurrent_pile_joins.l0 k x1 x2 (wrap64 (x7 + ((rd_T66 x12 x14).f2))) x12 x13 (wrap64 (x14 + 1))) else (recurrent_pile_joins.l0 k x1 x2 x7 x12 x13 (wrap64 (x14 + 1)))) else (none)) else (none)) else (recurrent_pile_joins.l0 k x1 x2 x7 x12 x13 (wrap64 (x14 + 1))))) else (none)) else (none)) else (if ((rd_T66 x12 x14).f1) = x1 then (if 0 ≤ ((rd_T66 x12 x14).f0) then (if ((rd_T66 x12 x14).f0) < (x2.length : Int) then (if rdOf false x2 ((rd_T66 x12 x14).f0) = true then (recurrent_pile_joins.l0 k x1 x2 (wrap64 (x7 + ((rd_T66 x12 x14).f2))) x12 x13 (wrap64 (x14 + 1))) else (recurrent_pile_joins.l0 k x1 x2 x7 x12 x13 (wrap64 (x14 + 1)))) else (none)) else (none)) else (recurrent_pile_joins.l0 k x1 x2 x7 x12 x13 (wrap64 (x14 + 1)))))) else (none)) else (none)) else (some x7)
def recurrent_pile_joins.f (k : Nat) (a0_0 : Int) (l0_1 : List (S66)) (a0_2 : Int) (l0_3 : List Int) (a1 : Int) (l2 : List Bool) : Option (Int) := recurrent_pile_joins.l0 k a1 l2 0 l0_1 (l0_1.length : Int) 0
theorem recurrent_pile_joins.calls (k : Nat) (a0_0 : Int) (A0_1 : Option Addr) (c0_1 : Nat) (l0_1 : List (S66)) (a0_2 : Int) (A0_3 : Option Addr) (c0_3 : Nat) (l0_3 : List Int) (a1 : Int) (A2 : Option Addr) (c2 : Nat) (l2 : List Bool) (r : Int) (w : World) (hr0_1 : Kd.C k66 w A0_1 l0_1.length l0_1) (hc0_1 : l0_1.length ≤ c0_1) (hr0_3 : Kd.C (Kd.int .i64) w A0_3 l0_3.length l0_3) (hc0_3 : l0_3.length ≤ c0_3) (hr2 : Kd.C Kd.bool w A2 l2.length l2) (hc2 : l2.length ≤ c2) (h : recurrent_pile_joins.f k a0_0 l0_1 a0_2 l0_3 a1 l2 = some r) :
  Calls Try.prog 103 #[.agg #[.int .i64 a0_0, .slice A0_1 l0_1.length c0_1, .int .i64 a0_2, .slice A0_3 l0_3.length c0_3], .int .i64 a1, .slice A2 l2.length c2] w fun e w' => e = .returned (.int .i64 r) ∧ Below w.heap.size w w' := by
 have hu84 := Try.underlying84
 have hu66 := Try.underlying66
 have HR0_1 := Aside0.mk hr0_1
 have HC0_1 := Aside0.mk hc0_1
 clear hr0_1 hc0_1
 have HR0_3 := Aside0.mk hr0_3
 have HC0_3 := Aside0.mk hc0_3
 clear hr0_3 hc0_3
 have HR2 := Aside0.mk hr2
 have HC2 := Aside0.mk hc2
 clear hr2 hc2
 have HB := Aside0.mk (Below.refl w.heap.size w)
 have H : (recurrent_pile_joins.l0 k a1 l2 0 l0_1 (l0_1.length : Int) 0) = some r := h
 clear h
 have H' := Aside0.mk H
 clear H
 go_enter Try.func103, Try.ntmps103
 go_wp2_with (first | ((with_reducible refine gate_dst (N := 3) rfl ?_); refine zX 3 #[.int .i64 a0_0, .slice A0_1 l0_1.length c0_1, .int .i64 a0_2, .slice A0_3 l0_3.length c0_3] 84 ?_; intro gb434 hg w4 hbox hb; have BK434 := Aside0.mk (hbox); have GW434 := zG HB hg; have GE434 := zG HB hg; replace HB := zS HB hb; clear hb hbox hg; have hcz5_0 := z0 BK434; have hcz5_1 := z1 BK434; have hcz5_2 := z2 BK434; have hcz5_3 : w4.cell? ⟨gb434, 3, none⟩ = some (.slice A0_3 l0_3.length c0_3) := (blk_cell BK434.out 3).trans rfl; have hfz5_0 := blk_frozen BK434.out 0; have hfz5_1 := blk_frozen BK434.out 1; have hfz5_2 := blk_frozen BK434.out 2; have hfz5_3 := blk_frozen BK434.out 3))
 go_loopg [7, 14] k (fun kq v7 v14 w' => ∃ (x7_1 : Int) (x14_1 : Int), v7 = .int .i64 x7_1 ∧ v14 = .int .i64 x14_1 ∧ Aside0 (recurrent_pile_joins.l0 kq a1 l2 x7_1 l0_1 (l0_1.length : Int) x14_1 = some r) ∧ Aside0 (kq ≤ k) ∧ Aside0 (w'.heap[gb434]? = some (.cells #[.int .i64 a0_0, (.slice A0_1 l0_1.length c0_1), .int .i64 a0_2, (.slice A0_3 l0_3.length c0_3)] 84 (0, 0))) ∧ Aside0 (Below w.heap.size w w'))
 case atStart => exact ⟨(0), (0), zT, zT, H', ⟨Nat.le_refl _⟩, ⟨zK BK434⟩, ⟨zB⟩⟩
 case round =>
  clear H'
  try clear c1
  try clear c2
  try clear p2
  try clear hcz5_0
  try clear hcz5_1
  try clear hcz5_2
  try clear hcz5_3
  try clear hfz5_0
  try clear hfz5_1
  try clear hfz5_2
  try clear hfz5_3
  obtain ⟨x7_1, x14_1, rfl, rfl, HA, HK1, BK434, HB⟩ := hrel
  cases gk with
  | zero => exact absurd HA.out (by simp [recurrent_pile_joins.l0])
  | succ k1 =>
   have H := HA.out
   clear HA
   simp only [recurrent_pile_joins.l0] at H
   by_cases c6 : x14_1 < (l0_1.length : Int)
   ·rw [if_pos c6] at H
    have c6b0 : decide (x14_1 < (l0_1.length : Int)) = true := decide_eq_true c6
    clear c6
    by_cases c7 : 0 ≤ x14_1
    ·rw [if_pos c7] at H
     have c7b0 : decide (0 ≤ x14_1) = true := decide_eq_true c7
     clear c7
     by_cases c8 : x14_1 < (l0_1.length : Int)
     ·rw [if_pos c8] at H
      have c8b0 : decide (x14_1 < (l0_1.length : Int)) = true := decide_eq_true c8
      clear c8
      by_cases c9 : ((rd_T66 l0_1 x14_1).f0) = ((rd_T66 l0_1 x14_1).f1)
      ·rw [if_pos c9] at H
       have c9b0 : (((rd_T66 l0_1 x14_1).f0) == ((rd_T66 l0_1 x14_1).f1)) = true := beq_iff_eq.mpr c9
       have c9b1 : (((rd_T66 l0_1 x14_1).f0) != ((rd_T66 l0_1 x14_1).f1)) = false := bne_eq_false_iff_eq.mpr c9
       clear c9
       have H' := Aside0.mk H
       clear H
       have p435 : 0 ≤ (x14_1 : Int) := of_decide_eq_true ‹_›
       have q435 : x14_1 < (l0_1.length : Int) := of_decide_eq_true ‹_›
       obtain ⟨ad435, e435, hx435_0, hx435_1, hx435_2⟩ := at_T66 HR0_1.out x14_1 p435 q435
       cases e435
       replace hx435_0 := (HB.out.cell (World.block_lt_of_cell? w _ hx435_0)).trans hx435_0
       replace hx435_1 := (HB.out.cell (World.block_lt_of_cell? w _ hx435_1)).trans hx435_1
       replace hx435_2 := (HB.out.cell (World.block_lt_of_cell? w _ hx435_2)).trans hx435_2
       replace p435 := eq_true p435
       replace q435 := eq_true q435
       go_wp2_with (first | ((with_reducible refine gate_dst (N := 9) rfl ?_); refine zX 9 #[.int .i64 0, .int .i64 0, .int .i64 0] 66 ?_; intro gb436 hg w10 hbox hb; have BK436 := Aside0.mk (hbox); have GW436 := zG HB hg; have GE436 := zG HB hg; replace HB := zS HB hb; have NB434_436 := Aside0.mk ((by rw [hg]; exact Nat.ne_of_lt (blk_lt (g := gb434) (o := .cells #[.int .i64 a0_0, .slice (some ad435) l0_1.length c0_1, .int .i64 a0_2, .slice A0_3 l0_3.length c0_3] 84 (0, 0)) (zK BK434)) : gb434 ≠ gb436)); have NB436_434 := Aside0.mk ((by rw [hg]; exact Nat.ne_of_gt (blk_lt (g := gb434) (o := .cells #[.int .i64 a0_0, .slice (some ad435) l0_1.length c0_1, .int .i64 a0_2, .slice A0_3 l0_3.length c0_3] 84 (0, 0)) (zK BK434)) : gb436 ≠ gb434)); replace BK434 := zb BK434 hb; clear hb hbox hg; have hnb11 := NB436_434.out; have hnc11 := NB434_436.out; obtain ⟨hcz12_0, hcz12_1, hcz12_2, hfz12_0, hfz12_1, hfz12_2⟩ := zD3 BK436))
       go_roundg k1
       case measure => have := HK1.out; omega
       case rel => exact ⟨(x7_1), (wrap64 (x14_1 + 1)), zT, zT, H', ⟨by have := HK1.out; omega⟩, ⟨by refine zk ?_; refine blk_far ?_ NB434_436.out _; refine zk ?_; refine blk_far ?_ NB434_436.out _; refine zk ?_; refine blk_far ?_ NB434_436.out _; exact zK BK434⟩, ⟨zB⟩⟩
      ·rw [if_neg c9] at H
       have c9b0 : (((rd_T66 l0_1 x14_1).f0) == ((rd_T66 l0_1 x14_1).f1)) = false := beq_eq_false_iff_ne.mpr c9
       have c9b1 : (((rd_T66 l0_1 x14_1).f0) != ((rd_T66 l0_1 x14_1).f1)) = true := bne_iff_ne.mpr c9
       by_cases c13 : ((rd_T66 l0_1 x14_1).f0) = a1
       ·rw [if_pos c13] at H
        have c13b0 : (((rd_T66 l0_1 x14_1).f0) == a1) = true := beq_iff_eq.mpr c13
        have c13b1 : (((rd_T66 l0_1 x14_1).f0) != a1) = false := bne_eq_false_iff_eq.mpr c13
        clear c13
        by_cases c14 : 0 ≤ ((rd_T66 l0_1 x14_1).f1)
        ·rw [if_pos c14] at H
         have c14b0 : decide (0 ≤ ((rd_T66 l0_1 x14_1).f1)) = true := decide_eq_true c14
         clear c14
         by_cases c15 : ((rd_T66 l0_1 x14_1).f1) < (l2.length : Int)
         ·rw [if_pos c15] at H
          have c15b0 : decide (((rd_T66 l0_1 x14_1).f1) < (l2.length : Int)) = true := decide_eq_true c15
          clear c15
          obtain ⟨bq16, hbq16⟩ : ∃ b_ : Bool, b_ = (rdOf false l2 ((rd_T66 l0_1 x14_1).f1)) := ⟨_, rfl⟩
          replace H : (if bq16 = true then (recurrent_pile_joins.l0 k1 a1 l2 (wrap64 (x7_1 + ((rd_T66 l0_1 x14_1).f2))) l0_1 (l0_1.length : Int) (wrap64 (x14_1 + 1))) else (if ((rd_T66 l0_1 x14_1).f1) = a1 then (if 0 ≤ ((rd_T66 l0_1 x14_1).f0) then (if ((rd_T66 l0_1 x14_1).f0) < (l2.length : Int) then (if rdOf false l2 ((rd_T66 l0_1 x14_1).f0) = true then (recurrent_pile_joins.l0 k1 a1 l2 (wrap64 (x7_1 + ((rd_T66 l0_1 x14_1).f2))) l0_1 (l0_1.length : Int) (wrap64 (x14_1 + 1))) else (recurrent_pile_joins.l0 k1 a1 l2 x7_1 l0_1 (l0_1.length : Int) (wrap64 (x14_1 + 1)))) else (none)) else (none)) else (recurrent_pile_joins.l0 k1 a1 l2 x7_1 l0_1 (l0_1.length : Int) (wrap64 (x14_1 + 1))))) = some r := by rw [← hbq16] at H; exact H
          have Nbq16 := Aside0.mk hbq16
          clear hbq16
          by_cases c17 : bq16 = true
          ·subst c17
           have H1 : (recurrent_pile_joins.l0 k1 a1 l2 (wrap64 (x7_1 + ((rd_T66 l0_1 x14_1).f2))) l0_1 (l0_1.length : Int) (wrap64 (x14_1 + 1))) = some r := by rw [if_pos rfl] at H; exact H
           clear H
           have H := H1
           clear H1
           have H' := Aside0.mk H
           clear H
           have p435 : 0 ≤ (x14_1 : Int) := of_decide_eq_true ‹_›
           have q435 : x14_1 < (l0_1.length : Int) := of_decide_eq_true ‹_›
           obtain ⟨ad435, e435, hx435_0, hx435_1, hx435_2⟩ := at_T66 HR0_1.out x14_1 p435 q435
           cases e435
           replace hx435_0 := (HB.out.cell (World.block_lt_of_cell? w _ hx435_0)).trans hx435_0
           replace hx435_1 := (HB.out.cell (World.block_lt_of_cell? w _ hx435_1)).trans hx435_1
           replace hx435_2 := (HB.out.cell (World.block_lt_of_cell? w _ hx435_2)).trans hx435_2
           replace p435 := eq_true p435
           replace q435 := eq_true q435
           go_wp2_with (first | ((with_reducible refine gate_dst (N := 9) rfl ?_); refine zX 9 #[.int .i64 0, .int .i64 0, .int .i64 0] 66 ?_; intro gb436 hg w18 hbox hb; have BK436 := Aside0.mk (hbox); have GW436 := zG HB hg; have GE436 := zG HB hg; replace HB := zS HB hb; have NB434_436 := Aside0.mk ((by rw [hg]; exact Nat.ne_of_lt (blk_lt (g := gb434) (o := .cells #[.int .i64 a0_0, .slice (some ad435) l0_1.length c0_1, .int .i64 a0_2, .slice A0_3 l0_3.length c0_3] 84 (0, 0)) (zK BK434)) : gb434 ≠ gb436)); have NB436_434 := Aside0.mk ((by rw [hg]; exact Nat.ne_of_gt (blk_lt (g := gb434) (o := .cells #[.int .i64 a0_0, .slice (some ad435) l0_1.length c0_1, .int .i64 a0_2, .slice A0_3 l0_3.length c0_3] 84 (0, 0)) (zK BK434)) : gb436 ≠ gb434)); replace BK434 := zb BK434 hb; clear hb hbox hg; have hnb19 := NB436_434.out; have hnc19 := NB434_436.out; obtain ⟨hcz20_0, hcz20_1, hcz20_2, hfz20_0, hfz20_1, hfz20_2⟩ := zD3 BK436; have p437 : 0 ≤ (((rd_T66 l0_1 x14_1).f1) : Int) := of_decide_eq_true ‹_›; have q437 : ((rd_T66 l0_1 x14_1).f1) < (l2.length : Int) := of_decide_eq_true ‹_›; obtain ⟨ad437, e437, hx437_0⟩ := Kd.at_bool HR2.out ((rd_T66 l0_1 x14_1).f1) p437 q437; (try rw [← Nbq16.out] at hx437_0); cases e437; have hn437_0 : ad437.block ≠ gb436 := Nat.ne_of_lt (Nat.lt_of_lt_of_le (by have := World.block_lt_of_cell? _ _ hx437_0; first | rwa [add_block] at this | exact this) GW436.out); have hn437_1 : ad437.block ≠ gb436 := Nat.ne_of_lt (Nat.lt_of_lt_of_le (by have := World.block_lt_of_cell? _ _ hx437_0; first | rwa [add_block] at this | exact this) GW436.out); have hn437_2 : ad437.block ≠ gb436 := Nat.ne_of_lt (Nat.lt_of_lt_of_le (by have := World.block_lt_of_cell? _ _ hx437_0; first | rwa [add_block] at this | exact this) GW436.out); replace hx437_0 := (HB.out.cell (World.block_lt_of_cell? w _ hx437_0)).trans hx437_0; replace hx437_0 := (cell_far (p := ⟨gb436, 0, none⟩) (by first | (rw [add_block]; exact hn437_0) | (show (Addr.add _ _).block ≠ _; rw [add_block]; exact hn437_0) | exact hn437_0) (.int .i64 ((rd_T66 l0_1 x14_1).f0))).trans hx437_0; replace hx437_0 := (cell_far (p := ⟨gb436, 1, none⟩) (by first | (rw [add_block]; exact hn437_1) | (show (Addr.add _ _).block ≠ _; rw [add_block]; exact hn437_1) | exact hn437_1) (.int .i64 ((rd_T66 l0_1 x14_1).f1))).trans hx437_0; replace hx437_0 := (cell_far (p := ⟨gb436, 2, none⟩) (by first | (rw [add_block]; exact hn437_2) | (show (Addr.add _ _).block ≠ _; rw [add_block]; exact hn437_2) | exact hn437_2) (.int .i64 ((rd_T66 l0_1 x14_1).f2))).trans hx437_0; clear hn437_0; clear hn437_1; clear hn437_2; replace p437 := eq_true p437; replace q437 := eq_true q437))
           go_roundg k1
           case measure => have := HK1.out; omega
           case rel => exact ⟨(wrap64 (x7_1 + ((rd_T66 l0_1 x14_1).f2))), (wrap64 (x14_1 + 1)), zT, zT, H', ⟨by have := HK1.out; omega⟩, ⟨by refine zk ?_; refine blk_far ?_ NB434_436.out _; refine zk ?_; refine blk_far ?_ NB434_436.out _; refine zk ?_; refine blk_far ?_ NB434_436.out _; exact zK BK434⟩, ⟨zB⟩⟩
          ·replace c17 := Bool.eq_false_iff.mpr c17
           subst c17
           have H1 : (if ((rd_T66 l0_1 x14_1).f1) = a1 then (if 0 ≤ ((rd_T66 l0_1 x14_1).f0) then (if ((rd_T66 l0_1 x14_1).f0) < (l2.length : Int) then (if rdOf false l2 ((rd_T66 l0_1 x14_1).f0) = true then (recurrent_pile_joins.l0 k1 a1 l2 (wrap64 (x7_1 + ((rd_T66 l0_1 x14_1).f2))) l0_1 (l0_1.length : Int) (wrap64 (x14_1 + 1))) else (recurrent_pile_joins.l0 k1 a1 l2 x7_1 l0_1 (l0_1.length : Int) (wrap64 (x14_1 + 1)))) else (none)) else (none)) else (recurrent_pile_joins.l0 k1 a1 l2 x7_1 l0_1 (l0_1.length : Int) (wrap64 (x14_1 + 1)))) = some r := by rw [if_neg (show ¬ (false = true) by decide)] at H; exact H
           clear H
           have H := H1
           clear H1
           by_cases c21 : ((rd_T66 l0_1 x14_1).f1) = a1
           ·rw [if_pos c21] at H
            have c21b0 : (((rd_T66 l0_1 x14_1).f1) == a1) = true := beq_iff_eq.mpr c21
            have c21b1 : (((rd_T66 l0_1 x14_1).f1) != a1) = false := bne_eq_false_iff_eq.mpr c21
            clear c21
            by_cases c22 : 0 ≤ ((rd_T66 l0_1 x14_1).f0)
            ·rw [if_pos c22] at H
             have c22b0 : decide (0 ≤ ((rd_T66 l0_1 x14_1).f0)) = true := decide_eq_true c22
             clear c22
             by_cases c23 : ((rd_T66 l0_1 x14_1).f0) < (l2.length : Int)
             ·rw [if_pos c23] at H
              have c23b0 : decide (((rd_T66 l0_1 x14_1).f0) < (l2.length : Int)) = true := decide_eq_true c23
              clear c23
              obtain ⟨bq24, hbq24⟩ : ∃ b_ : Bool, b_ = (rdOf false l2 ((rd_T66 l0_1 x14_1).f0)) := ⟨_, rfl⟩
              replace H : (if bq24 = true then (recurrent_pile_joins.l0 k1 a1 l2 (wrap64 (x7_1 + ((rd_T66 l0_1 x14_1).f2))) l0_1 (l0_1.length : Int) (wrap64 (x14_1 + 1))) else (recurrent_pile_joins.l0 k1 a1 l2 x7_1 l0_1 (l0_1.length : Int) (wrap64 (x14_1 + 1)))) = some r := by rw [← hbq24] at H; exact H
              have Nbq24 := Aside0.mk hbq24
              clear hbq24
              by_cases c25 : bq24 = true
              ·subst c25
               have H1 : (recurrent_pile_joins.l0 k1 a1 l2 (wrap64 (x7_1 + ((rd_T66 l0_1 x14_1).f2))) l0_1 (l0_1.length : Int) (wrap64 (x14_1 + 1))) = some r := by rw [if_pos rfl] at H; exact H
               clear H
               have H := H1
               clear H1
               have H' := Aside0.mk H
               clear H
               have p435 : 0 ≤ (x14_1 : Int) := of_decide_eq_true ‹_›
               have q435 : x14_1 < (l0_1.length : Int) := of_decide_eq_true ‹_›
               obtain ⟨ad435, e435, hx435_0, hx435_1, hx435_2⟩ := at_T66 HR0_1.out x14_1 p435 q435
               cases e435
               replace hx435_0 := (HB.out.cell (World.block_lt_of_cell? w _ hx435_0)).trans hx435_0
               replace hx435_1 := (HB.out.cell (World.block_lt_of_cell? w _ hx435_1)).trans hx435_1
               replace hx435_2 := (HB.out.cell (World.block_lt_of_cell? w _ hx435_2)).trans hx435_2
               replace p435 := eq_true p435
               replace q435 := eq_true q435
               go_wp2_with (first | ((with_reducible refine gate_dst (N := 9) rfl ?_); refine zX 9 #[.int .i64 0, .int .i64 0, .int .i64 0] 66 ?_; intro gb436 hg w26 hbox hb; have BK436 := Aside0.mk (hbox); have GW436 := zG HB hg; have GE436 := zG HB hg; replace HB := zS HB hb; have NB434_436 := Aside0.mk ((by rw [hg]; exact Nat.ne_of_lt (blk_lt (g := gb434) (o := .cells #[.int .i64 a0_0, .slice (some ad435) l0_1.length c0_1, .int .i64 a0_2, .slice A0_3 l0_3.length c0_3] 84 (0, 0)) (zK BK434)) : gb434 ≠ gb436)); have NB436_434 := Aside0.mk ((by rw [hg]; exact Nat.ne_of_gt (blk_lt (g := gb434) (o := .cells #[.int .i64 a0_0, .slice (some ad435) l0_1.length c0_1, .int .i64 a0_2, .slice A0_3 l0_3.length c0_3] 84 (0, 0)) (zK BK434)) : gb436 ≠ gb434)); replace BK434 := zb BK434 hb; clear hb hbox hg; have hnb27 := NB436_434.out; have hnc27 := NB434_436.out; obtain ⟨hcz28_0, hcz28_1, hcz28_2, hfz28_0, hfz28_1, hfz28_2⟩ := zD3 BK436; have p437 : 0 ≤ (((rd_T66 l0_1 x14_1).f1) : Int) := of_decide_eq_true ‹_›; have q437 : ((rd_T66 l0_1 x14_1).f1) < (l2.length : Int) := of_decide_eq_true ‹_›; obtain ⟨ad437, e437, hx437_0⟩ := Kd.at_bool HR2.out ((rd_T66 l0_1 x14_1).f1) p437 q437; (try rw [← Nbq16.out] at hx437_0); (try rw [← Nbq24.out] at hx437_0); cases e437; have hn437_0 : ad437.block ≠ gb436 := Nat.ne_of_lt (Nat.lt_of_lt_of_le (by have := World.block_lt_of_cell? _ _ hx437_0; first | rwa [add_block] at this | exact this) GW436.out); have hn437_1 : ad437.block ≠ gb436 := Nat.ne_of_lt (Nat.lt_of_lt_of_le (by have := World.block_lt_of_cell? _ _ hx437_0; first | rwa [add_block] at this | exact this) GW436.out); have hn437_2 : ad437.block ≠ gb436 := Nat.ne_of_lt (Nat.lt_of_lt_of_le (by have := World.block_lt_of_cell? _ _ hx437_0; first | rwa [add_block] at this | exact this) GW436.out); replace hx437_0 := (HB.out.cell (World.block_lt_of_cell? w _ hx437_0)).trans hx437_0; replace hx437_0 := (cell_far (p := ⟨gb436, 0, none⟩) (by first | (rw [add_block]; exact hn437_0) | (show (Addr.add _ _).block ≠ _; rw [add_block]; exact hn437_0) | exact hn437_0) (.int .i64 ((rd_T66 l0_1 x14_1).f0))).trans hx437_0; replace hx437_0 := (cell_far (p := ⟨gb436, 1, none⟩) (by first | (rw [add_block]; exact hn437_1) | (show (Addr.add _ _).block ≠ _; rw [add_block]; exact hn437_1) | exact hn437_1) (.int .i64 ((rd_T66 l0_1 x14_1).f1))).trans hx437_0; replace hx437_0 := (cell_far (p := ⟨gb436, 2, none⟩) (by first | (rw [add_block]; exact hn437_2) | (show (Addr.add _ _).block ≠ _; rw [add_block]; exact hn437_2) | exact hn437_2) (.int .i64 ((rd_T66 l0_1 x14_1).f2))).trans hx437_0; clear hn437_0; clear hn437_1; clear hn437_2; replace p437 := eq_true p437; replace q437 := eq_true q437; have p438 : 0 ≤ (((rd_T66 l0_1 x14_1).f0) : Int) := of_decide_eq_true ‹_›; have q438 : ((rd_T66 l0_1 x14_1).f0) < (l2.length : Int) := of_decide_eq_true ‹_›; obtain ⟨ad438, e438, hx438_0⟩ := Kd.at_bool HR2.out ((rd_T66 l0_1 x14_1).f0) p438 q438; (try rw [← Nbq16.out] at hx438_0); (try rw [← Nbq24.out] at hx438_0); obtain rfl : ad437 = ad438 := (by injection e438); have hn438_0 : ad437.block ≠ gb436 := Nat.ne_of_lt (Nat.lt_of_lt_of_le (by have := World.block_lt_of_cell? _ _ hx438_0; first | rwa [add_block] at this | exact this) GW436.out); have hn438_1 : ad437.block ≠ gb436 := Nat.ne_of_lt (Nat.lt_of_lt_of_le (by have := World.block_lt_of_cell? _ _ hx438_0; first | rwa [add_block] at this | exact this) GW436.out); have hn438_2 : ad437.block ≠ gb436 := Nat.ne_of_lt (Nat.lt_of_lt_of_le (by have := World.block_lt_of_cell? _ _ hx438_0; first | rwa [add_block] at this | exact this) GW436.out); replace hx438_0 := (HB.out.cell (World.block_lt_of_cell? w _ hx438_0)).trans hx438_0; replace hx438_0 := (cell_far (p := ⟨gb436, 0, none⟩) (by first | (rw [add_block]; exact hn438_0) | (show (Addr.add _ _).block ≠ _; rw [add_block]; exact hn438_0) | exact hn438_0) (.int .i64 ((rd_T66 l0_1 x14_1).f0))).trans hx438_0; replace hx438_0 := (cell_far (p := ⟨gb436, 1, none⟩) (by first | (rw [add_block]; exact hn438_1) | (show (Addr.add _ _).block ≠ _; rw [add_block]; exact hn438_1) | exact hn438_1) (.int .i64 ((rd_T66 l0_1 x14_1).f1))).trans hx438_0; replace hx438_0 := (cell_far (p := ⟨gb436, 2, none⟩) (by first | (rw [add_block]; exact hn438_2) | (show (Addr.add _ _).block ≠ _; rw [add_block]; exact hn438_2) | exact hn438_2) (.int .i64 ((rd_T66 l0_1 x14_1).f2))).trans hx438_0; clear hn438_0; clear hn438_1; clear hn438_2; replace p438 := eq_true p438; replace q438 := eq_true q438))
               go_roundg k1
               case measure => have := HK1.out; omega
               case rel => exact ⟨(wrap64 (x7_1 + ((rd_T66 l0_1 x14_1).f2))), (wrap64 (x14_1 + 1)), zT, zT, H', ⟨by have := HK1.out; omega⟩, ⟨by refine zk ?_; refine blk_far ?_ NB434_436.out _; refine zk ?_; refine blk_far ?_ NB434_436.out _; refine zk ?_; refine blk_far ?_ NB434_436.out _; exact zK BK434⟩, ⟨zB⟩⟩
              ·replace c25 := Bool.eq_false_iff.mpr c25
               subst c25
               have H1 : (recurrent_pile_joins.l0 k1 a1 l2 x7_1 l0_1 (l0_1.length : Int) (wrap64 (x14_1 + 1))) = some r := by rw [if_neg (show ¬ (false = true) by decide)] at H; exact H
               clear H
               have H := H1
               clear H1
               have H' := Aside0.mk H
               clear H
               have p435 : 0 ≤ (x14_1 : Int) := of_decide_eq_true ‹_›
               have q435 : x14_1 < (l0_1.length : Int) := of_decide_eq_true ‹_›
               obtain ⟨ad435, e435, hx435_0, hx435_1, hx435_2⟩ := at_T66 HR0_1.out x14_1 p435 q435
               cases e435
               replace hx435_0 := (HB.out.cell (World.block_lt_of_cell? w _ hx435_0)).trans hx435_0
               replace hx435_1 := (HB.out.cell (World.block_lt_of_cell? w _ hx435_1)).trans hx435_1
               replace hx435_2 := (HB.out.cell (World.block_lt_of_cell? w _ hx435_2)).trans hx435_2
               replace p435 := eq_true p435
               replace q435 := eq_true q435
               go_wp2_with (first | ((with_reducible refine gate_dst (N := 9) rfl ?_); refine zX 9 #[.int .i64 0, .int .i64 0, .int .i64 0] 66 ?_; intro gb436 hg w29 hbox hb; have BK436 := Aside0.mk (hbox); have GW436 := zG HB hg; have GE436 := zG HB hg; replace HB := zS HB hb; have NB434_436 := Aside0.mk ((by rw [hg]; exact Nat.ne_of_lt (blk_lt (g := gb434) (o := .cells #[.int .i64 a0_0, .slice (some ad435) l0_1.length c0_1, .int .i64 a0_2, .slice A0_3 l0_3.length c0_3] 84 (0, 0)) (zK BK434)) : gb434 ≠ gb436)); have NB436_434 := Aside0.mk ((by rw [hg]; exact Nat.ne_of_gt (blk_lt (g := gb434) (o := .cells #[.int .i64 a0_0, .slice (some ad435) l0_1.length c0_1, .int .i64 a0_2, .slice A0_3 l0_3.length c0_3] 84 (0, 0)) (zK BK434)) : gb436 ≠ gb434)); replace BK434 := zb BK434 hb; clear hb hbox hg; have hnb30 := NB436_434.out; have hnc30 := NB434_436.out; obtain ⟨hcz31_0, hcz31_1, hcz31_2, hfz31_0, hfz31_1, hfz31_2⟩ := zD3 BK436; have p437 : 0 ≤ (((rd_T66 l0_1 x14_1).f1) : Int) := of_decide_eq_true ‹_›; have q437 : ((rd_T66 l0_1 x14_1).f1) < (l2.length : Int) := of_decide_eq_true ‹_›; obtain ⟨ad437, e437, hx437_0⟩ := Kd.at_bool HR2.out ((rd_T66 l0_1 x14_1).f1) p437 q437; (try rw [← Nbq16.out] at hx437_0); (try rw [← Nbq24.out] at hx437_0); cases e437; have hn437_0 : ad437.block ≠ gb436 := Nat.ne_of_lt (Nat.lt_of_lt_of_le (by have := World.block_lt_of_cell? _ _ hx437_0; first | rwa [add_block] at this | exact this) GW436.out); have hn437_1 : ad437.block ≠ gb436 := Nat.ne_of_lt (Nat.lt_of_lt_of_le (by have := World.block_lt_of_cell? _ _ hx437_0; first | rwa [add_block] at this | exact this) GW436.out); have hn437_2 : ad437.block ≠ gb436 := Nat.ne_of_lt (Nat.lt_of_lt_of_le (by have := World.block_lt_of_cell? _ _ hx437_0; first | rwa [add_block] at this | exact this) GW436.out); replace hx437_0 := (HB.out.cell (World.block_lt_of_cell? w _ hx437_0)).trans hx437_0; replace hx437_0 := (cell_far (p := ⟨gb436, 0, none⟩) (by first | (rw [add_block]; exact hn437_0) | (show (Addr.add _ _).block ≠ _; rw [add_block]; exact hn437_0) | exact hn437_0) (.int .i64 ((rd_T66 l0_1 x14_1).f0))).trans hx437_0; replace hx437_0 := (cell_far (p := ⟨gb436, 1, none⟩) (by first | (rw [add_block]; exact hn437_1) | (show (Addr.add _ _).block ≠ _; rw [add_block]; exact hn437_1) | exact hn437_1) (.int .i64 ((rd_T66 l0_1 x14_1).f1))).trans hx437_0; replace hx437_0 := (cell_far (p := ⟨gb436, 2, none⟩) (by first | (rw [add_block]; exact hn437_2) | (show (Addr.add _ _).block ≠ _; rw [add_block]; exact hn437_2) | exact hn437_2) (.int .i64 ((rd_T66 l0_1 x14_1).f2))).trans hx437_0; clear hn437_0; clear hn437_1; clear hn437_2; replace p437 := eq_true p437; replace q437 := eq_true q437; have p438 : 0 ≤ (((rd_T66 l0_1 x14_1).f0) : Int) := of_decide_eq_true ‹_›; have q438 : ((rd_T66 l0_1 x14_1).f0) < (l2.length : Int) := of_decide_eq_true ‹_›; obtain ⟨ad438, e438, hx438_0⟩ := Kd.at_bool HR2.out ((rd_T66 l0_1 x14_1).f0) p438 q438; (try rw [← Nbq16.out] at hx438_0); (try rw [← Nbq24.out] at hx438_0); obtain rfl : ad437 = ad438 := (by injection e438); have hn438_0 : ad437.block ≠ gb436 := Nat.ne_of_lt (Nat.lt_of_lt_of_le (by have := World.block_lt_of_cell? _ _ hx438_0; first | rwa [add_block] at this | exact this) GW436.out); have hn438_1 : ad437.block ≠ gb436 := Nat.ne_of_lt (Nat.lt_of_lt_of_le (by have := World.block_lt_of_cell? _ _ hx438_0; first | rwa [add_block] at this | exact this) GW436.out); have hn438_2 : ad437.block ≠ gb436 := Nat.ne_of_lt (Nat.lt_of_lt_of_le (by have := World.block_lt_of_cell? _ _ hx438_0; first | rwa [add_block] at this | exact this) GW436.out); replace hx438_0 := (HB.out.cell (World.block_lt_of_cell? w _ hx438_0)).trans hx438_0; replace hx438_0 := (cell_far (p := ⟨gb436, 0, none⟩) (by first | (rw [add_block]; exact hn438_0) | (show (Addr.add _ _).block ≠ _; rw [add_block]; exact hn438_0) | exact hn438_0) (.int .i64 ((rd_T66 l0_1 x14_1).f0))).trans hx438_0; replace hx438_0 := (cell_far (p := ⟨gb436, 1, none⟩) (by first | (rw [add_block]; exact hn438_1) | (show (Addr.add _ _).block ≠ _; rw [add_block]; exact hn438_1) | exact hn438_1) (.int .i64 ((rd_T66 l0_1 x14_1).f1))).trans hx438_0; replace hx438_0 := (cell_far (p := ⟨gb436, 2, none⟩) (by first | (rw [add_block]; exact hn438_2) | (show (Addr.add _ _).block ≠ _; rw [add_block]; exact hn438_2) | exact hn438_2) (.int .i64 ((rd_T66 l0_1 x14_1).f2))).trans hx438_0; clear hn438_0; clear hn438_1; clear hn438_2; replace p438 := eq_true p438; replace q438 := eq_true q438))
               go_roundg k1
               case measure => have := HK1.out; omega
               case rel => exact ⟨(x7_1), (wrap64 (x14_1 + 1)), zT, zT, H', ⟨by have := HK1.out; omega⟩, ⟨by refine zk ?_; refine blk_far ?_ NB434_436.out _; refine zk ?_; refine blk_far ?_ NB434_436.out _; refine zk ?_; refine blk_far ?_ NB434_436.out _; exact zK BK434⟩, ⟨zB⟩⟩
             ·rw [if_neg c23] at H
              exact absurd H (by simp)
            ·rw [if_neg c22] at H
             exact absurd H (by simp)
           ·rw [if_neg c21] at H
            have c21b0 : (((rd_T66 l0_1 x14_1).f1) == a1) = false := beq_eq_false_iff_ne.mpr c21
            have c21b1 : (((rd_T66 l0_1 x14_1).f1) != a1) = true := bne_iff_ne.mpr c21
            have H' := Aside0.mk H
            clear H
            have p435 : 0 ≤ (x14_1 : Int) := of_decide_eq_true ‹_›
            have q435 : x14_1 < (l0_1.length : Int) := of_decide_eq_true ‹_›
            obtain ⟨ad435, e435, hx435_0, hx435_1, hx435_2⟩ := at_T66 HR0_1.out x14_1 p435 q435
            cases e435
            replace hx435_0 := (HB.out.cell (World.block_lt_of_cell? w _ hx435_0)).trans hx435_0
            replace hx435_1 := (HB.out.cell (World.block_lt_of_cell? w _ hx435_1)).trans hx435_1
            replace hx435_2 := (HB.out.cell (World.block_lt_of_cell? w _ hx435_2)).trans hx435_2
            replace p435 := eq_true p435
            replace q435 := eq_true q435
            go_wp2_with (first | ((with_reducible refine gate_dst (N := 9) rfl ?_); refine zX 9 #[.int .i64 0, .int .i64 0, .int .i64 0] 66 ?_; intro gb436 hg w32 hbox hb; have BK436 := Aside0.mk (hbox); have GW436 := zG HB hg; have GE436 := zG HB hg; replace HB := zS HB hb; have NB434_436 := Aside0.mk ((by rw [hg]; exact Nat.ne_of_lt (blk_lt (g := gb434) (o := .cells #[.int .i64 a0_0, .slice (some ad435) l0_1.length c0_1, .int .i64 a0_2, .slice A0_3 l0_3.length c0_3] 84 (0, 0)) (zK BK434)) : gb434 ≠ gb436)); have NB436_434 := Aside0.mk ((by rw [hg]; exact Nat.ne_of_gt (blk_lt (g := gb434) (o := .cells #[.int .i64 a0_0, .slice (some ad435) l0_1.length c0_1, .int .i64 a0_2, .slice A0_3 l0_3.length c0_3] 84 (0, 0)) (zK BK434)) : gb436 ≠ gb434)); replace BK434 := zb BK434 hb; clear hb hbox hg; have hnb33 := NB436_434.out; have hnc33 := NB434_436.out; obtain ⟨hcz34_0, hcz34_1, hcz34_2, hfz34_0, hfz34_1, hfz34_2⟩ := zD3 BK436; have p437 : 0 ≤ (((rd_T66 l0_1 x14_1).f1) : Int) := of_decide_eq_true ‹_›; have q437 : ((rd_T66 l0_1 x14_1).f1) < (l2.length : Int) := of_decide_eq_true ‹_›; obtain ⟨ad437, e437, hx437_0⟩ := Kd.at_bool HR2.out ((rd_T66 l0_1 x14_1).f1) p437 q437; (try rw [← Nbq16.out] at hx437_0); cases e437; have hn437_0 : ad437.block ≠ gb436 := Nat.ne_of_lt (Nat.lt_of_lt_of_le (by have := World.block_lt_of_cell? _ _ hx437_0; first | rwa [add_block] at this | exact this) GW436.out); have hn437_1 : ad437.block ≠ gb436 := Nat.ne_of_lt (Nat.lt_of_lt_of_le (by have := World.block_lt_of_cell? _ _ hx437_0; first | rwa [add_block] at this | exact this) GW436.out); have hn437_2 : ad437.block ≠ gb436 := Nat.ne_of_lt (Nat.lt_of_lt_of_le (by have := World.block_lt_of_cell? _ _ hx437_0; first | rwa [add_block] at this | exact this) GW436.out); replace hx437_0 := (HB.out.cell (World.block_lt_of_cell? w _ hx437_0)).trans hx437_0; replace hx437_0 := (cell_far (p := ⟨gb436, 0, none⟩) (by first | (rw [add_block]; exact hn437_0) | (show (Addr.add _ _).block ≠ _; rw [add_block]; exact hn437_0) | exact hn437_0) (.int .i64 ((rd_T66 l0_1 x14_1).f0))).trans hx437_0; replace hx437_0 := (cell_far (p := ⟨gb436, 1, none⟩) (by first | (rw [add_block]; exact hn437_1) | (show (Addr.add _ _).block ≠ _; rw [add_block]; exact hn437_1) | exact hn437_1) (.int .i64 ((rd_T66 l0_1 x14_1).f1))).trans hx437_0; replace hx437_0 := (cell_far (p := ⟨gb436, 2, none⟩) (by first | (rw [add_block]; exact hn437_2) | (show (Addr.add _ _).block ≠ _; rw [add_block]; exact hn437_2) | exact hn437_2) (.int .i64 ((rd_T66 l0_1 x14_1).f2))).trans hx437_0; clear hn437_0; clear hn437_1; clear hn437_2; replace p437 := eq_true p437; replace q437 := eq_true q437))
            go_roundg k1
            case measure => have := HK1.out; omega
            case rel => exact ⟨(x7_1), (wrap64 (x14_1 + 1)), zT, zT, H', ⟨by have := HK1.out; omega⟩, ⟨by refine zk ?_; refine blk_far ?_ NB434_436.out _; refine zk ?_; refine blk_far ?_ NB434_436.out _; refine zk ?_; refine blk_far ?_ NB434_436.out _; exact zK BK434⟩, ⟨zB⟩⟩
         ·rw [if_neg c15] at H
          exact absurd H (by simp)
        ·rw [if_neg c14] at H
         exact absurd H (by simp)
       ·rw [if_neg c13] at H
        have c13b0 : (((rd_T66 l0_1 x14_1).f0) == a1) = false := beq_eq_false_iff_ne.mpr c13
        have c13b1 : (((rd_T66 l0_1 x14_1).f0) != a1) = true := bne_iff_ne.mpr c13
        by_cases c35 : ((rd_T66 l0_1 x14_1).f1) = a1
        ·rw [if_pos c35] at H
         have c35b0 : (((rd_T66 l0_1 x14_1).f1) == a1) = true := beq_iff_eq.mpr c35
         have c35b1 : (((rd_T66 l0_1 x14_1).f1) != a1) = false := bne_eq_false_iff_eq.mpr c35
         clear c35
         by_cases c36 : 0 ≤ ((rd_T66 l0_1 x14_1).f0)
         ·rw [if_pos c36] at H
          have c36b0 : decide (0 ≤ ((rd_T66 l0_1 x14_1).f0)) = true := decide_eq_true c36
          clear c36
          by_cases c37 : ((rd_T66 l0_1 x14_1).f0) < (l2.length : Int)
          ·rw [if_pos c37] at H
           have c37b0 : decide (((rd_T66 l0_1 x14_1).f0) < (l2.length : Int)) = true := decide_eq_true c37
           clear c37
           obtain ⟨bq38, hbq38⟩ : ∃ b_ : Bool, b_ = (rdOf false l2 ((rd_T66 l0_1 x14_1).f0)) := ⟨_, rfl⟩
           replace H : (if bq38 = true then (recurrent_pile_joins.l0 k1 a1 l2 (wrap64 (x7_1 + ((rd_T66 l0_1 x14_1).f2))) l0_1 (l0_1.length : Int) (wrap64 (x14_1 + 1))) else (recurrent_pile_joins.l0 k1 a1 l2 x7_1 l0_1 (l0_1.length : Int) (wrap64 (x14_1 + 1)))) = some r := by rw [← hbq38] at H; exact H
           have Nbq38 := Aside0.mk hbq38
           clear hbq38
           by_cases c39 : bq38 = true
           ·subst c39
            have H1 : (recurrent_pile_joins.l0 k1 a1 l2 (wrap64 (x7_1 + ((rd_T66 l0_1 x14_1).f2))) l0_1 (l0_1.length : Int) (wrap64 (x14_1 + 1))) = some r := by rw [if_pos rfl] at H; exact H
            clear H
            have H := H1
            clear H1
            have H' := Aside0.mk H
            clear H
            have p435 : 0 ≤ (x14_1 : Int) := of_decide_eq_true ‹_›
            have q435 : x14_1 < (l0_1.length : Int) := of_decide_eq_true ‹_›
            obtain ⟨ad435, e435, hx435_0, hx435_1, hx435_2⟩ := at_T66 HR0_1.out x14_1 p435 q435
            cases e435
            replace hx435_0 := (HB.out.cell (World.block_lt_of_cell? w _ hx435_0)).trans hx435_0
            replace hx435_1 := (HB.out.cell (World.block_lt_of_cell? w _ hx435_1)).trans hx435_1
            replace hx435_2 := (HB.out.cell (World.block_lt_of_cell? w _ hx435_2)).trans hx435_2
            replace p435 := eq_true p435
            replace q435 := eq_true q435
            go_wp2_with (first | ((with_reducible refine gate_dst (N := 9) rfl ?_); refine zX 9 #[.int .i64 0, .int .i64 0, .int .i64 0] 66 ?_; intro gb436 hg w40 hbox hb; have BK436 := Aside0.mk (hbox); have GW436 := zG HB hg; have GE436 := zG HB hg; replace HB := zS HB hb; have NB434_436 := Aside0.mk ((by rw [hg]; exact Nat.ne_of_lt (blk_lt (g := gb434) (o := .cells #[.int .i64 a0_0, .slice (some ad435) l0_1.length c0_1, .int .i64 a0_2, .slice A0_3 l0_3.length c0_3] 84 (0, 0)) (zK BK434)) : gb434 ≠ gb436)); have NB436_434 := Aside0.mk ((by rw [hg]; exact Nat.ne_of_gt (blk_lt (g := gb434) (o := .cells #[.int .i64 a0_0, .slice (some ad435) l0_1.length c0_1, .int .i64 a0_2, .slice A0_3 l0_3.length c0_3] 84 (0, 0)) (zK BK434)) : gb436 ≠ gb434)); replace BK434 := zb BK434 hb; clear hb hbox hg; have hnb41 := NB436_434.out; have hnc41 := NB434_436.out; obtain ⟨hcz42_0, hcz42_1, hcz42_2, hfz42_0, hfz42_1, hfz42_2⟩ := zD3 BK436; have p439 : 0 ≤ (((rd_T66 l0_1 x14_1).f0) : Int) := of_decide_eq_true ‹_›; have q439 : ((rd_T66 l0_1 x14_1).f0) < (l2.length : Int) := of_decide_eq_true ‹_›; obtain ⟨ad439, e439, hx439_0⟩ := Kd.at_bool HR2.out ((rd_T66 l0_1 x14_1).f0) p439 q439; (try rw [← Nbq38.out] at hx439_0); cases e439; have hn439_0 : ad439.block ≠ gb436 := Nat.ne_of_lt (Nat.lt_of_lt_of_le (by have := World.block_lt_of_cell? _ _ hx439_0; first | rwa [add_block] at this | exact this) GW436.out); have hn439_1 : ad439.block ≠ gb436 := Nat.ne_of_lt (Nat.lt_of_lt_of_le (by have := World.block_lt_of_cell? _ _ hx439_0; first | rwa [add_block] at this | exact this) GW436.out); have hn439_2 : ad439.block ≠ gb436 := Nat.ne_of_lt (Nat.lt_of_lt_of_le (by have := World.block_lt_of_cell? _ _ hx439_0; first | rwa [add_block] at this | exact this) GW436.out); replace hx439_0 := (HB.out.cell (World.block_lt_of_cell? w _ hx439_0)).trans hx439_0; replace hx439_0 := (cell_far (p := ⟨gb436, 0, none⟩) (by first | (rw [add_block]; exact hn439_0) | (show (Addr.add _ _).block ≠ _; rw [add_block]; exact hn439_0) | exact hn439_0) (.int .i64 ((rd_T66 l0_1 x14_1).f0))).trans hx439_0; replace hx439_0 := (cell_far (p := ⟨gb436, 1, none⟩) (by first | (rw [add_block]; exact hn439_1) | (show (Addr.add _ _).block ≠ _; rw [add_block]; exact hn439_1) | exact hn439_1) (.int .i64 ((rd_T66 l0_1 x14_1).f1))).trans hx439_0; replace hx439_0 := (cell_far (p := ⟨gb436, 2, none⟩) (by first | (rw [add_block]; exact hn439_2) | (show (Addr.add _ _).block ≠ _; rw [add_block]; exact hn439_2) | exact hn439_2) (.int .i64 ((rd_T66 l0_1 x14_1).f2))).trans hx439_0; clear hn439_0; clear hn439_1; clear hn439_2; replace p439 := eq_true p439; replace q439 := eq_true q439))
            go_roundg k1
            case measure => have := HK1.out; omega
            case rel => exact ⟨(wrap64 (x7_1 + ((rd_T66 l0_1 x14_1).f2))), (wrap64 (x14_1 + 1)), zT, zT, H', ⟨by have := HK1.out; omega⟩, ⟨by refine zk ?_; refine blk_far ?_ NB434_436.out _; refine zk ?_; refine blk_far ?_ NB434_436.out _; refine zk ?_; refine blk_far ?_ NB434_436.out _; exact zK BK434⟩, ⟨zB⟩⟩
           ·replace c39 := Bool.eq_false_iff.mpr c39
            subst c39
            have H1 : (recurrent_pile_joins.l0 k1 a1 l2 x7_1 l0_1 (l0_1.length : Int) (wrap64 (x14_1 + 1))) = some r := by rw [if_neg (show ¬ (false = true) by decide)] at H; exact H
            clear H
            have H := H1
            clear H1
            have H' := Aside0.mk H
            clear H
            have p435 : 0 ≤ (x14_1 : Int) := of_decide_eq_true ‹_›
            have q435 : x14_1 < (l0_1.length : Int) := of_decide_eq_true ‹_›
            obtain ⟨ad435, e435, hx435_0, hx435_1, hx435_2⟩ := at_T66 HR0_1.out x14_1 p435 q435
            cases e435
            replace hx435_0 := (HB.out.cell (World.block_lt_of_cell? w _ hx435_0)).trans hx435_0
            replace hx435_1 := (HB.out.cell (World.block_lt_of_cell? w _ hx435_1)).trans hx435_1
            replace hx435_2 := (HB.out.cell (World.block_lt_of_cell? w _ hx435_2)).trans hx435_2
            replace p435 := eq_true p435
            replace q435 := eq_true q435
            go_wp2_with (first | ((with_reducible refine gate_dst (N := 9) rfl ?_); refine zX 9 #[.int .i64 0, .int .i64 0, .int .i64 0] 66 ?_; intro gb436 hg w43 hbox hb; have BK436 := Aside0.mk (hbox); have GW436 := zG HB hg; have GE436 := zG HB hg; replace HB := zS HB hb; have NB434_436 := Aside0.mk ((by rw [hg]; exact Nat.ne_of_lt (blk_lt (g := gb434) (o := .cells #[.int .i64 a0_0, .slice (some ad435) l0_1.length c0_1, .int .i64 a0_2, .slice A0_3 l0_3.length c0_3] 84 (0, 0)) (zK BK434)) : gb434 ≠ gb436)); have NB436_434 := Aside0.mk ((by rw [hg]; exact Nat.ne_of_gt (blk_lt (g := gb434) (o := .cells #[.int .i64 a0_0, .slice (some ad435) l0_1.length c0_1, .int .i64 a0_2, .slice A0_3 l0_3.length c0_3] 84 (0, 0)) (zK BK434)) : gb436 ≠ gb434)); replace BK434 := zb BK434 hb; clear hb hbox hg; have hnb44 := NB436_434.out; have hnc44 := NB434_436.out; obtain ⟨hcz45_0, hcz45_1, hcz45_2, hfz45_0, hfz45_1, hfz45_2⟩ := zD3 BK436; have p439 : 0 ≤ (((rd_T66 l0_1 x14_1).f0) : Int) := of_decide_eq_true ‹_›; have q439 : ((rd_T66 l0_1 x14_1).f0) < (l2.length : Int) := of_decide_eq_true ‹_›; obtain ⟨ad439, e439, hx439_0⟩ := Kd.at_bool HR2.out ((rd_T66 l0_1 x14_1).f0) p439 q439; (try rw [← Nbq38.out] at hx439_0); cases e439; have hn439_0 : ad439.block ≠ gb436 := Nat.ne_of_lt (Nat.lt_of_lt_of_le (by have := World.block_lt_of_cell? _ _ hx439_0; first | rwa [add_block] at this | exact this) GW436.out); have hn439_1 : ad439.block ≠ gb436 := Nat.ne_of_lt (Nat.lt_of_lt_of_le (by have := World.block_lt_of_cell? _ _ hx439_0; first | rwa [add_block] at this | exact this) GW436.out); have hn439_2 : ad439.block ≠ gb436 := Nat.ne_of_lt (Nat.lt_of_lt_of_le (by have := World.block_lt_of_cell? _ _ hx439_0; first | rwa [add_block] at this | exact this) GW436.out); replace hx439_0 := (HB.out.cell (World.block_lt_of_cell? w _ hx439_0)).trans hx439_0; replace hx439_0 := (cell_far (p := ⟨gb436, 0, none⟩) (by first | (rw [add_block]; exact hn439_0) | (show (Addr.add _ _).block ≠ _; rw [add_block]; exact hn439_0) | exact hn439_0) (.int .i64 ((rd_T66 l0_1 x14_1).f0))).trans hx439_0; replace hx439_0 := (cell_far (p := ⟨gb436, 1, none⟩) (by first | (rw [add_block]; exact hn439_1) | (show (Addr.add _ _).block ≠ _; rw [add_block]; exact hn439_1) | exact hn439_1) (.int .i64 ((rd_T66 l0_1 x14_1).f1))).trans hx439_0; replace hx439_0 := (cell_far (p := ⟨gb436, 2, none⟩) (by first | (rw [add_block]; exact hn439_2) | (show (Addr.add _ _).block ≠ _; rw [add_block]; exact hn439_2) | exact hn439_2) (.int .i64 ((rd_T66 l0_1 x14_1).f2))).trans hx439_0; clear hn439_0; clear hn439_1; clear hn439_2; replace p439 := eq_true p439; replace q439 := eq_true q439))
            go_roundg k1
            case measure => have := HK1.out; omega
            case rel => exact ⟨(x7_1), (wrap64 (x14_1 + 1)), zT, zT, H', ⟨by have := HK1.out; omega⟩, ⟨by refine zk ?_; refine blk_far ?_ NB434_436.out _; refine zk ?_; refine blk_far ?_ NB434_436.out _; refine zk ?_; refine blk_far ?_ NB434_436.out _; exact zK BK434⟩, ⟨zB⟩⟩
          ·rw [if_neg c37] at H
           exact absurd H (by simp)
         ·rw [if_neg c36] at H
          exact absurd H (by simp)
        ·rw [if_neg c35] at H
         have c35b0 : (((rd_T66 l0_1 x14_1).f1) == a1) = false := beq_eq_false_iff_ne.mpr c35
         have c35b1 : (((rd_T66 l0_1 x14_1).f1) != a1) = true := bne_iff_ne.mpr c35
         have H' := Aside0.mk H
         clear H
         have p435 : 0 ≤ (x14_1 : Int) := of_decide_eq_true ‹_›
         have q435 : x14_1 < (l0_1.length : Int) := of_decide_eq_true ‹_›
         obtain ⟨ad435, e435, hx435_0, hx435_1, hx435_2⟩ := at_T66 HR0_1.out x14_1 p435 q435
         cases e435
         replace hx435_0 := (HB.out.cell (World.block_lt_of_cell? w _ hx435_0)).trans hx435_0
         replace hx435_1 := (HB.out.cell (World.block_lt_of_cell? w _ hx435_1)).trans hx435_1
         replace hx435_2 := (HB.out.cell (World.block_lt_of_cell? w _ hx435_2)).trans hx435_2
         replace p435 := eq_true p435
         replace q435 := eq_true q435
         go_wp2_with (first | ((with_reducible refine gate_dst (N := 9) rfl ?_); refine zX 9 #[.int .i64 0, .int .i64 0, .int .i64 0] 66 ?_; intro gb436 hg w46 hbox hb; have BK436 := Aside0.mk (hbox); have GW436 := zG HB hg; have GE436 := zG HB hg; replace HB := zS HB hb; have NB434_436 := Aside0.mk ((by rw [hg]; exact Nat.ne_of_lt (blk_lt (g := gb434) (o := .cells #[.int .i64 a0_0, .slice (some ad435) l0_1.length c0_1, .int .i64 a0_2, .slice A0_3 l0_3.length c0_3] 84 (0, 0)) (zK BK434)) : gb434 ≠ gb436)); have NB436_434 := Aside0.mk ((by rw [hg]; exact Nat.ne_of_gt (blk_lt (g := gb434) (o := .cells #[.int .i64 a0_0, .slice (some ad435) l0_1.length c0_1, .int .i64 a0_2, .slice A0_3 l0_3.length c0_3] 84 (0, 0)) (zK BK434)) : gb436 ≠ gb434)); replace BK434 := zb BK434 hb; clear hb hbox hg; have hnb47 := NB436_434.out; have hnc47 := NB434_436.out; obtain ⟨hcz48_0, hcz48_1, hcz48_2, hfz48_0, hfz48_1, hfz48_2⟩ := zD3 BK436))
         go_roundg k1
         case measure => have := HK1.out; omega
         case rel => exact ⟨(x7_1), (wrap64 (x14_1 + 1)), zT, zT, H', ⟨by have := HK1.out; omega⟩, ⟨by refine zk ?_; refine blk_far ?_ NB434_436.out _; refine zk ?_; refine blk_far ?_ NB434_436.out _; refine zk ?_; refine blk_far ?_ NB434_436.out _; exact zK BK434⟩, ⟨zB⟩⟩
     ·rw [if_neg c8] at H
      exact absurd H (by simp)
    ·rw [if_neg c7] at H
     exact absurd H (by simp)
   ·rw [if_neg c6] at H
    have c6b0 : decide (x14_1 < (l0_1.length : Int)) = false := decide_eq_false c6
    clear c6
    obtain rfl := Option.some.inj H
    go_wp2
    go_ret
    exact ⟨zE, zB⟩
def recurrent_pile_catches.f (k : Nat) (a0_0 : Int) (l0_1 : List (S66)) (a0_2 : Int) (l0_3 : List Int) (a1 : Int) (l2 : List Bool) : Option (Bool) := if 0 ≤ a1 then (if a1 < (l0_3.length : Int) then ((recurrent_pile_joins.f k a0_0 l0_1 a0_2 l0_3 a1 l2).bind fun t442 => ((recurrent_pile_valence.f k a0_0 l0_1 a0_2 l0_3 a1).bind fun t443 => (some (decide ((wrap64 ((rd l0_3 a1) + t442)) ≥ t443))))) else (none)) else (none)
def recurrent_pile_catches.T1 : Bool × List (List Nat × List Nat) := (true, [([], []), ([0], [0]), ([], []), ([1, 2], [1, 2]), ([3], [3]), ([], []), ([], []), ([], []), ([5, 6, 7], [5, 6, 7]), ([4, 8], [4, 8]), ([], []), ([], []), ([10, 11, 8], [10, 11]), ([9, 12], [9, 12]), ([13, 12, 0, 1, 2, 3, 4, 5, 6, 7, 8, 9, 10, 11, 12, 13], [13])])
def recurrent_pile_catches.B1 : List Nat := [0, 1, 0, 7, 15, 0, 0, 0, 224, 511, 0, 0, 3552, 8191, 16383]
theorem recurrent_pile_catches.tab1 : rtab .any (opsOf Try.f90 1) = recurrent_pile_catches.T1 := by kernel_rfl
theorem recurrent_pile_catches.bits1 : waitsOk recurrent_pile_catches.T1.2 recurrent_pile_catches.B1 = true := by kernel_rfl
theorem recurrent_pile_catches.calls (k : Nat) (a0_0 : Int) (A0_1 : Option Addr) (c0_1 : Nat) (l0_1 : List (S66)) (a0_2 : Int) (A0_3 : Option Addr) (c0_3 : Nat) (l0_3 : List Int) (a1 : Int) (A2 : Option Addr) (c2 : Nat) (l2 : List Bool) (r : Bool) (w : World) (hr0_1 : Kd.C k66 w A0_1 l0_1.length l0_1) (hc0_1 : l0_1.length ≤ c0_1) (hr0_3 : Kd.C (Kd.int .i64) w A0_3 l0_3.length l0_3) (hc0_3 : l0_3.length ≤ c0_3) (hr2 : Kd.C Kd.bool w A2 l2.length l2) (hc2 : l2.length ≤ c2) (h : recurrent_pile_catches.f k a0_0 l0_1 a0_2 l0_3 a1 l2 = some r) :
  Calls Try.prog 90 #[.agg #[.int .i64 a0_0, .slice A0_1 l0_1.length c0_1, .int .i64 a0_2, .slice A0_3 l0_3.length c0_3], .int .i64 a1, .slice A2 l2.length c2] w fun e w' => e = .returned (.bool r) ∧ Below w.heap.size w w' := by
 have hu84 := Try.underlying84
 have HR0_1 := Aside0.mk hr0_1
 have HC0_1 := Aside0.mk hc0_1
 clear hr0_1 hc0_1
 have HR0_3 := Aside0.mk hr0_3
 have HC0_3 := Aside0.mk hc0_3
 clear hr0_3 hc0_3
 have HR2 := Aside0.mk hr2
 have HC2 := Aside0.mk hc2
 clear hr2 hc2
 have HB := Aside0.mk (Below.refl w.heap.size w)
 have H : (if 0 ≤ a1 then (if a1 < (l0_3.length : Int) then ((recurrent_pile_joins.f k a0_0 l0_1 a0_2 l0_3 a1 l2).bind fun t442 => ((recurrent_pile_valence.f k a0_0 l0_1 a0_2 l0_3 a1).bind fun t443 => (some (decide ((wrap64 ((rd l0_3 a1) + t442)) ≥ t443))))) else (none)) else (none)) = some r := h
 clear h
 by_cases c4 : 0 ≤ a1
 ·rw [if_pos c4] at H
  have c4b0 : decide (0 ≤ a1) = true := decide_eq_true c4
  clear c4
  by_cases c5 : a1 < (l0_3.length : Int)
  ·rw [if_pos c5] at H
   have c5b0 : decide (a1 < (l0_3.length : Int)) = true := decide_eq_true c5
   clear c5
   replace H := Option.bind_eq_some_iff.mp H
   obtain ⟨t442, A60, H⟩ := H
   replace H : ((recurrent_pile_valence.f k a0_0 l0_1 a0_2 l0_3 a1).bind fun t443 => (some (decide ((wrap64 ((rd l0_3 a1) + t442)) ≥ t443)))) = some r := H
   have A6 := Aside0.mk A60
   clear A60
   replace H := Option.bind_eq_some_iff.mp H
   obtain ⟨t443, A70, H⟩ := H
   replace H : (some (decide ((wrap64 ((rd l0_3 a1) + t442)) ≥ t443))) = some r := H
   have A7 := Aside0.mk A70
   clear A70
   obtain rfl := Option.some.inj H
   go_enter Try.func90, Try.ntmps90
   try go_wp2_with (first | ((with_reducible refine gate_dst (N := 3) rfl ?_); refine zX 3 #[.int .i64 a0_0, .slice A0_1 l0_1.length c0_1, .int .i64 a0_2, .slice A0_3 l0_3.length c0_3] 84 ?_; intro gb440 hg w8 hbox hb; have BK440 := Aside0.mk (hbox); have GW440 := zG HB hg; have GE440 := zG HB hg; replace HB := zS HB hb; clear hb hbox hg))
   have n0_ := Aside0.mk (blk_drew BK440.out)
   have n1_ := Aside0.mk (below_drew1 HB.out)
   clear BK440
   clear HB
   have BK440 := n0_
   have HB := n1_
   clear n0_ n1_
   have p441 : 0 ≤ (a1 : Int) := of_decide_eq_true ‹_›
   have q441 : a1 < (l0_3.length : Int) := of_decide_eq_true ‹_›
   obtain ⟨ad441, e441, hx441_0⟩ := Kd.at_int HR0_3.out a1 p441 q441
   have hw441_0 := hx441_0
   cases e441
   replace hx441_0 := (HB.out.cell (World.block_lt_of_cell? w _ hx441_0)).trans hx441_0
   replace p441 := eq_true p441
   replace q441 := eq_true q441
   refine start_ (n := 15) (S := fun w' => w'.cell? ⟨gb440, 0, none⟩ = some (.int .i64 a0_0) ∧ w'.cell? ⟨gb440, 1, none⟩ = some (.slice A0_1 l0_1.length c0_1) ∧ w'.cell? ⟨gb440, 2, none⟩ = some (.int .i64 a0_2) ∧ w'.cell? ⟨gb440, 3, none⟩ = some (.slice (some ad441) l0_3.length c0_3) ∧ w'.cell? (ad441.add (a1).toNat) = some (.int .i64 (rd l0_3 a1))) (ds := []) #[false, false, false, false, false, false, false, false, false, false, false, false, false, false, false] (by kernel_rfl) rfl rfl ⟨(blk_cell BK440.out 0).trans rfl, (blk_cell BK440.out 1).trans rfl, (blk_cell BK440.out 2).trans rfl, (blk_cell BK440.out 3).trans rfl, ((HB.out.cell (World.block_lt_of_cell? w _ hw441_0)).trans hw441_0)⟩ (fun hHeld => ?_); refine with_tabW recurrent_pile_catches.tab1 recurrent_pile_catches.bits1 (fun HT_ HW_ => ?_)
   generalize w8.drew = w9 at BK440 HB hx441_0 hHeld ⊢
   refine pure_ (i := 0) (N := some 7) (v := ?_) (a' := ?_) #[true, false, false, false, false, false, false, false, false, false, false, false, false, false, false] rfl rfl (any_of HT_.out (by kernel_rfl)) (fun _ _ _ h => h) (Or.inl ⟨by rfl, ?_⟩) ?_ ?_
   rotate_left
   ·intro w'
    go_simp
    with_reducible rfl
   rotate_left
   ·simp only [Act.put, List.setIfInBounds_toArray, List.set_cons_zero, List.set_cons_succ, i64_w, i32_w]
    rfl
   refine pure_ (i := 2) (N := some 9) (v := ?_) (a' := ?_) #[true, false, true, false, false, false, false, false, false, false, false, false, false, false, false] rfl rfl (any_of HT_.out (by kernel_rfl)) (fun _ _ _ h => h) (Or.inl ⟨by rfl, ?_⟩) ?_ ?_
   rotate_left
   ·intro w'
    go_simp
    with_reducible rfl
   rotate_left
   ·simp only [Act.put, List.setIfInBounds_toArray, List.set_cons_zero, List.set_cons_succ, i64_w, i32_w]
    rfl
   refine pure_ (i := 6) (N := some 13) (v := ?_) (a' := ?_) #[true, false, true, false, false, false, true, false, false, false, false, false, false, false, false] rfl rfl (any_of HT_.out (by kernel_rfl)) (fun _ _ _ h => h) (Or.inl ⟨by rfl, ?_⟩) ?_ ?_
   rotate_left
   ·intro w'
    go_simp
    with_reducible rfl
   rotate_left
   ·simp only [Act.put, List.setIfInBounds_toArray, List.set_cons_zero, List.set_cons_succ, i64_w, i32_w]
    rfl
   refine pure_ (i := 7) (N := some 14) (v := ?_) (a' := ?_) #[true, false, true, false, false, false, true, true, false, false, false, false, false, false, false] rfl rfl (any_of HT_.out (by kernel_rfl)) (fun _ _ _ h => h) (Or.inl ⟨by rfl, ?_⟩) ?_ ?_
   rotate_left
   ·intro w'
    go_simp
    with_reducible rfl
   rotate_left
   ·simp only [Act.put, List.setIfInBounds_toArray, List.set_cons_zero, List.set_cons_succ, i64_w, i32_w]
    rfl
   refine pure_ (i := 11) (N := some 18) (v := ?_) (a' := ?_) #[true, false, true, false, false, false, true, true, false, false, false, true, false, false, false] rfl rfl (any_of HT_.out (by kernel_rfl)) (fun _ _ _ h => h) (Or.inl ⟨by rfl, ?_⟩) ?_ ?_
   rotate_left
   ·intro w'
    go_simp
    with_reducible rfl
   rotate_left
   ·simp only [Act.put, List.setIfInBounds_toArray, List.set_cons_zero, List.set_cons_succ, i64_w, i32_w]
    rfl
   refine take_ (i := 1) (N := some 8) (v := ?_) (a' := ?_) #[true, true, true, false, false, false, true, true, false, false, false, true, false, false, false] rfl rfl (take_ofW HT_.out HW_.out (by kernel_rfl)) (fun _ _ _ h => h) (Or.inl ⟨by rfl, ?_⟩) hHeld ?_ ?_
   rotate_left
   ·rintro w' ⟨s0, s1, s2, s3, s4⟩
    go_simp
    with_reducible rfl
   rotate_left
   ·simp only [Act.put, List.setIfInBounds_toArray, List.set_cons_zero, List.set_cons_succ, i64_w, i32_w]
    rfl
   refine pure_ (i := 3) (N := some 10) (v := ?_) (a' := ?_) #[true, true, true, true, false, false, true, true, false, false, false, true, false, false, false] rfl rfl (any_of HT_.out (by kernel_rfl)) (fun _ _ _ h => h) (Or.inl ⟨by rfl, ?_⟩) ?_ ?_
   rotate_left
   ·intro w'
    go_simp
    with_reducible rfl
   rotate_left
   ·simp only [Act.put, List.setIfInBounds_toArray, List.set_cons_zero, List.set_cons_succ, i64_w, i32_w]
    rfl
   refine take_ (i := 4) (N := some 11) (v := ?_) (a' := ?_) #[true, true, true, true, true, false, true, true, false, false, false, true, false, false, false] rfl rfl (take_ofW HT_.out HW_.out (by kernel_rfl)) (fun _ _ _ h => h) (Or.inl ⟨by rfl, ?_⟩) hHeld ?_ ?_
   rotate_left
   ·rintro w' ⟨s0, s1, s2, s3, s4⟩
    go_simp
    with_reducible rfl
   rotate_left
   ·simp only [Act.put, List.setIfInBounds_toArray, List.set_cons_zero, List.set_cons_succ, i64_w, i32_w]
    rfl
   refine take_ (i := 5) (N := some 12) (v := ?_) (a' := ?_) #[true, true, true, true, true, true, true, true, false, false, false, true, false, false, false] rfl rfl (take_ofW HT_.out HW_.out (by kernel_rfl)) (fun _ _ _ h => h) (Or.inl ⟨by rfl, ?_⟩) hHeld ?_ ?_
   rotate_left
   ·rintro w' ⟨s0, s1, s2, s3, s4⟩
    go_simp
    with_reducible rfl
   rotate_left
   ·simp only [Act.put, List.setIfInBounds_toArray, List.set_cons_zero, List.set_cons_succ, i64_w, i32_w]
    rfl
   refine take_ (i := 10) (N := some 17) (v := ?_) (a' := ?_) #[true, true, true, true, true, true, true, true, false, false, true, true, false, false, false] rfl rfl (take_ofW HT_.out HW_.out (by kernel_rfl)) (fun _ _ _ h => h) (Or.inl ⟨by rfl, ?_⟩) hHeld ?_ ?_
   rotate_left
   ·rintro w' ⟨s0, s1, s2, s3, s4⟩
    go_simp
    with_reducible rfl
   rotate_left
   ·simp only [Act.put, List.setIfInBounds_toArray, List.set_cons_zero, List.set_cons_succ, i64_w, i32_w]
    rfl
   refine one_ (i := 8) (N := some 15) #[true, true, true, true, true, true, true, true, true, false, true, true, false, false, false] rfl rfl (one_of HT_.out (by kernel_rfl)) (by decide) (fun K hK => ?_)
   refine goes_ Try.func103 (by kernel_rfl) rfl #[.agg #[.int .i64 a0_0, .slice A0_1 l0_1.length c0_1, .int .i64 a0_2, .slice (some ad441) l0_3.length c0_3], .int .i64 a1, .slice A2 l2.length c2] (by rfl) rfl rfl (by (try simp only [List.map_toArray, List.map_cons, List.map_nil]); first | done | rfl | (simp only [List.length_drop, List.length_take]; rfl)) ?_
   with_reducible refine (recurrent_pile_joins.calls k a0_0 _ _ l0_1 a0_2 _ _ l0_3 a1 _ _ l2 t442 _ ?side1 ?side2 ?side3 ?side4 ?side5 ?side6 A6.out).mono ?_
   (case side1 => exact Kd.C_below HR0_1.out zB)
   (case side2 => exact HC0_1.out)
   (case side3 => exact Kd.C_below HR0_3.out zB)
   (case side4 => exact HC0_3.out)
   (case side5 => exact Kd.C_below HR2.out zB)
   (case side6 => exact HC2.out)
   rintro e w10 ⟨rfl, hb⟩
   refine ⟨_, rfl, ?_⟩
   have n0_ := zb BK440 hb
   have n1_ := zS HB hb
   clear BK440
   clear HB
   have BK440 := n0_
   have HB := n1_
   clear n0_ n1_
   (try clear hb)
   skip
   skip
   skip
   refine hK.out _ _ ⟨(blk_cell BK440.out 0).trans rfl, (blk_cell BK440.out 1).trans rfl, (blk_cell BK440.out 2).trans rfl, (blk_cell BK440.out 3).trans rfl, ((HB.out.cell (World.block_lt_of_cell? w _ hw441_0)).trans hw441_0)⟩ (fun hHeld => ?_)
   clear hK K
   refine norm_ (a' := ?_) ?_ ?_
   rotate_left
   ·show Act.put _ (some 15) _ = _
    simp only [Act.put, List.setIfInBounds_toArray, List.set_cons_zero, List.set_cons_succ, i64_w, i32_w]
    rfl
   refine pure_ (i := 9) (N := some 16) (v := ?_) (a' := ?_) #[true, true, true, true, true, true, true, true, true, true, true, true, false, false, false] rfl rfl (any_of HT_.out (by kernel_rfl)) (fun _ _ _ h => h) (Or.inl ⟨by rfl, ?_⟩) ?_ ?_
   rotate_left
   ·intro w'
    go_simp
    with_reducible rfl
   rotate_left
   ·simp only [Act.put, List.setIfInBounds_toArray, List.set_cons_zero, List.set_cons_succ, i64_w, i32_w]
    rfl
   refine one_ (i := 12) (N := some 19) #[true, true, true, true, true, true, true, true, true, true, true, true, true, false, false] rfl rfl (one_of HT_.out (by kernel_rfl)) (by decide) (fun K hK => ?_)
   refine goes_ Try.func102 (by kernel_rfl) rfl #[.agg #[.int .i64 a0_0, .slice A0_1 l0_1.length c0_1, .int .i64 a0_2, .slice (some ad441) l0_3.length c0_3], .int .i64 a1] (by rfl) rfl rfl (by (try simp only [List.map_toArray, List.map_cons, List.map_nil]); first | done | rfl | (simp only [List.length_drop, List.length_take]; rfl)) ?_
   with_reducible refine (recurrent_pile_valence.calls k a0_0 _ _ l0_1 a0_2 _ _ l0_3 a1 t443 _ ?side1 ?side2 ?side3 ?side4 A7.out).mono ?_
   (case side1 => exact Kd.C_below HR0_1.out zB)
   (case side2 => exact HC0_1.out)
   (case side3 => exact Kd.C_below HR0_3.out zB)
   (case side4 => exact HC0_3.out)
   rintro e w11 ⟨rfl, hb⟩
   refine ⟨_, rfl, ?_⟩
   have n0_ := zb BK440 hb
   have n1_ := zS HB hb
   clear BK440
   clear HB
   have BK440 := n0_
   have HB := n1_
   clear n0_ n1_
   (try clear hb)
   skip
   skip
   skip
   refine hK.out _ _ ⟨(blk_cell BK440.out 0).trans rfl, (blk_cell BK440.out 1).trans rfl, (blk_cell BK440.out 2).trans rfl, (blk_cell BK440.out 3).trans rfl, ((HB.out.cell (World.block_lt_of_cell? w _ hw441_0)).trans hw441_0)⟩ (fun hHeld => ?_)
   clear hK K
   refine norm_ (a' := ?_) ?_ ?_
   rotate_left
   ·show Act.put _ (some 19) _ = _
    simp only [Act.put, List.setIfInBounds_toArray, List.set_cons_zero, List.set_cons_succ, i64_w, i32_w]
    rfl
   refine pure_ (i := 13) (N := some 20) (v := ?_) (a' := ?_) #[true, true, true, true, true, true, true, true, true, true, true, true, true, true, false] rfl rfl (any_of HT_.out (by kernel_rfl)) (fun _ _ _ h => h) (Or.inl ⟨by rfl, ?_⟩) ?_ ?_
   rotate_left
   ·intro w'
    go_simp
    with_reducible rfl
   rotate_left
   ·simp only [Act.put, List.setIfInBounds_toArray, List.set_cons_zero, List.set_cons_succ, i64_w, i32_w]
    rfl
   refine pure_ (i := 14) (N := some 6) (v := ?_) (a' := ?_) #[true, true, true, true, true, true, true, true, true, true, true, true, true, true, true] rfl rfl (any_of HT_.out (by kernel_rfl)) (fun _ _ _ h => h) (Or.inl ⟨by rfl, ?_⟩) ?_ ?_
   rotate_left
   ·intro w'
    go_simp
    with_reducible rfl
   rotate_left
   ·simp only [Act.put, List.setIfInBounds_toArray, List.set_cons_zero, List.set_cons_succ, i64_w, i32_w]
    rfl
   refine done_ (done_of HT_.out (by kernel_rfl)) ?_
   try go_wp2
   go_ret
   exact ⟨zE, zB⟩
  ·rw [if_neg c5] at H
   exact absurd H (by simp)
 ·rw [if_neg c4] at H
  exact absurd H (by simp)
mutual
def recurrent_pile_fire.l0 : Nat → List Bool → List Int → Int → List (S66) → Int → List Int → Option (List Int)
 | 0, _, _, _, _, _, _ => none
 | k + 1, x3, x4, x445000, x445001, x445002, x445003 => if (x4.length : Int) < x445000 then (recurrent_pile_fire.l1 k x3 x4 (-1) x445000 0 x445000 x445001 x445002 x445003) else (some x4)
def recurrent_pile_fire.l1 : Nat → List Bool → List Int → Int → Int → Int → Int → List (S66) → Int → List Int → Option (List Int)
 | 0, _, _, _, _, _, _, _, _, _ => none
 | k + 1, x3, x4, x5, x26, x27, x445000, x445001, x445002, x445003 => if x27 < x26 then (if 0 ≤ x27 then (if x27 < (x3.length : Int) then (if rdOf false x3 x27 = true then (recurrent_pile_fire.l1 k x3 x4 x5 x26 (wrap64 (x27 + 1)) x445000 x445001 x445002 x445003) else ((recurrent_pile_catches.f k x445000 x445001 x445002 x445003 x27 x3).bind fun t453 => (if t453 = true then (if x27 < 0 then (some x4) else (if x4.length < 17592186044416 then (recurrent_pile_fire.l0 k (x3.set (x27 : Int).toNat true) (x4 ++ [x27]) x445000 x445001 x445002 x445003) else (none))) else (recurrent_pile_fire.l1 k x3 x4 x5 x26 (wrap64 (x27 + 1)) x445000 x445001 x445002 x445003)))) else (none)) else (none)) else (if x5 < 0 then (some x4) else (if 0 ≤ x5 then (if x5 < (x3.length : Int) then (if x4.length < 17592186044416 then (recurrent_pile_fire.l0 k (x3.set (x5 : Int).toNat true) (x4 ++ [x5]) x445000 x445001 x445002 x445003) else (none)) else (none)) else (none)))
end
def recurrent_pile_fire.f (k : Nat) (a0_0 : Int) (l0_1 : List (S66)) (a0_2 : Int) (l0_3 : List Int) : Option (List Int) := if 0 ≤ a0_0 then (if (a0_0 : Int).toNat ≤ 281474976710656 then ((some (List.replicate (a0_0 : Int).toNat false : List Bool)).bind fun y445 => (if 0 ≤ a0_2 then (if a0_2 < (y445.length : Int) then (recurrent_pile_fire.l0 k (y445.set (a0_2 : Int).toNat true) (([a0_2] : List Int)) a0_0 l0_1 a0_2 l0_3) else (none)) else (none))) else (none)) else (none)
theorem recurrent_pile_fire.calls (k : Nat) (a0_0 : Int) (A0_1 : Option Addr) (c0_1 : Nat) (l0_1 : List (S66)) (a0_2 : Int) (A0_3 : Option Addr) (c0_3 : Nat) (l0_3 : List Int) (r : List Int) (w : World) (hr0_1 : Kd.C k66 w A0_1 l0_1.length l0_1) (hc0_1 : l0_1.length ≤ c0_1) (hr0_3 : Kd.C (Kd.int .i64) w A0_3 l0_3.length l0_3) (hc0_3 : l0_3.length ≤ c0_3) (h : recurrent_pile_fire.f k a0_0 l0_1 a0_2 l0_3 = some r) :
  Calls Try.prog 68 #[.agg #[.int .i64 a0_0, .slice A0_1 l0_1.length c0_1, .int .i64 a0_2, .slice A0_3 l0_3.length c0_3]] w fun e w' => ∃ v0_ : Value, e = .returned (v0_) ∧ Kd.R (Kd.int .i64) 3 w' w.heap.size (fun _ => True) v0_ r ∧ Below w.heap.size w w' := by
 have hu84 := Try.underlying84
 have HR0_1 := Aside0.mk hr0_1
 have HC0_1 := Aside0.mk hc0_1
 clear hr0_1 hc0_1
 have HR0_3 := Aside0.mk hr0_3
 have HC0_3 := Aside0.mk hc0_3
 clear hr0_3 hc0_3
 have HB := Aside0.mk (Below.refl w.heap.size w)
 have H : (if 0 ≤ a0_0 then (if (a0_0 : Int).toNat ≤ 281474976710656 then ((some (List.replicate (a0_0 : Int).toNat false : List Bool)).bind fun y445 => (if 0 ≤ a0_2 then (if a0_2 < (y445.length : Int) then (recurrent_pile_fire.l0 k (y445.set (a0_2 : Int).toNat true) (([a0_2] : List Int)) a0_0 l0_1 a0_2 l0_3) else (none)) else (none))) else (none)) else (none)) = some r := h
 clear h
 by_cases c2 : 0 ≤ a0_0
 ·rw [if_pos c2] at H
  have c2b0 := eq_true c2
  have c2b1 : decide (0 ≤ a0_0) = true := decide_eq_true c2
  clear c2
  by_cases c3 : (a0_0 : Int).toNat ≤ 281474976710656
  ·rw [if_pos c3] at H
   have c3b0 := eq_true c3
   have c3b1 : decide ((a0_0 : Int).toNat ≤ 281474976710656) = true := decide_eq_true c3
   clear c3
   obtain ⟨y445, hy445⟩ : ∃ y_ : List Bool, y_ = (List.replicate (a0_0 : Int).toNat false) := ⟨_, rfl⟩
   replace H : (if 0 ≤ a0_2 then (if a0_2 < (y445.length : Int) then (recurrent_pile_fire.l0 k (y445.set (a0_2 : Int).toNat true) (([a0_2] : List Int)) a0_0 l0_1 a0_2 l0_3) else (none)) else (none)) = some r := by first | (rw [hy445]; with_reducible exact H) | (have H2_ := (Option.bind_some _ _).symm.trans H; rw [hy445]; with_reducible exact H2_) | (have H2_ := (Option.bind_some _ _).symm.trans H; with_reducible exact H2_) | with_reducible exact H | (rw [hy445]; exact H) | exact H
   have Ny445 := Aside0.mk hy445
   clear hy445
   by_cases c4 : 0 ≤ a0_2
   ·rw [if_pos c4] at H
    have c4b0 : decide (0 ≤ a0_2) = true := decide_eq_true c4
    clear c4
    by_cases c5 : a0_2 < (y445.length : Int)
    ·rw [if_pos c5] at H
     have c5b0 : decide (a0_2 < (y445.length : Int)) = true := decide_eq_true c5
     clear c5
     obtain ⟨y448, hy448⟩ : ∃ y_ : List Bool, y_ = (y445.set (a0_2 : Int).toNat true) := ⟨_, rfl⟩
     replace H : (recurrent_pile_fire.l0 k y448 (([a0_2] : List Int)) a0_0 l0_1 a0_2 l0_3) = some r := by first | (rw [hy448]; with_reducible exact H) | (have H2_ := (Option.bind_some _ _).symm.trans H; rw [hy448]; with_reducible exact H2_) | (have H2_ := (Option.bind_some _ _).symm.trans H; with_reducible exact H2_) | with_reducible exact H | (rw [hy448]; exact H) | exact H
     have Ny448 := Aside0.mk hy448
     clear hy448
     obtain ⟨y449, hy449⟩ : ∃ y_ : List Int, y_ = (([a0_2] : List Int)) := ⟨_, rfl⟩
     replace H : (recurrent_pile_fire.l0 k y448 y449 a0_0 l0_1 a0_2 l0_3) = some r := by first | (rw [hy449]; with_reducible exact H) | (have H2_ := (Option.bind_some _ _).symm.trans H; rw [hy449]; with_reducible exact H2_) | (have H2_ := (Option.bind_some _ _).symm.trans H; with_reducible exact H2_) | with_reducible exact H | (rw [hy449]; exact H) | exact H
     have Ny449 := Aside0.mk hy449
     clear hy449
     have H' := Aside0.mk H
     clear H
     go_enter Try.func68, Try.ntmps68
     go_wp2_with (first | ((with_reducible refine gate_dst (N := 1) rfl ?_); refine zX 1 #[.int .i64 a0_0, .slice A0_1 l0_1.length c0_1, .int .i64 a0_2, .slice A0_3 l0_3.length c0_3] 84 ?_; intro gb444 hg w7 hbox hb; have BK444 := Aside0.mk (hbox); have GW444 := zG HB hg; have GE444 := zG HB hg; replace HB := zS HB hb; clear hb hbox hg; have hcz8_0 := z0 BK444; have hcz8_1 := z1 BK444; have hcz8_2 := z2 BK444; have hcz8_3 : w7.cell? ⟨gb444, 3, none⟩ = some (.slice A0_3 l0_3.length c0_3) := (blk_cell BK444.out 3).trans rfl; have hfz8_0 := blk_frozen BK444.out 0; have hfz8_1 := blk_frozen BK444.out 1; have hfz8_2 := blk_frozen BK444.out 2; have hfz8_3 := blk_frozen BK444.out 3) | ((with_reducible refine gate_dst (N := 10) rfl ?_); refine Kd.R_make Kd.bool _ 4 rfl (N := 10) rfl 97 _ _ rfl a0_0 rfl rfl Try.underlying97 (.bool false) 1 info4 rfl (by decide) (by omega) false (ok := fun _ => True) (okp := fun _ => True) rfl (fun _ hk => hk) trivial (of_decide_eq_true ‹_›) (Nat.le_trans (Nat.mul_le_mul_right _ (of_decide_eq_true ‹_› : a0_0.toNat ≤ 281474976710656)) (by omega)) (Below.refl _ _) (Nat.le_refl _) ?_; intro v446 w9 ho10 hb hg_ hnew_; clear hg_ hnew_; (first | rw [← Ny445.out] at ho10 | (simp only [Int.reduceToNat] at ho10; rw [← Ny445.out] at ho10)); have HO447 := Aside0.mk (Kd.R_lower ho10 (below_size zB)); replace BK444 := zb BK444 hb; replace HB := zS HB hb; clear hb ho10; have hcz11_0 := z0 BK444; have hcz11_1 := z1 BK444; have hcz11_2 := z2 BK444; have hcz11_3 : w9.cell? ⟨gb444, 3, none⟩ = some (.slice A0_3 l0_3.length c0_3) := (blk_cell BK444.out 3).trans rfl; have hfz11_0 := blk_frozen BK444.out 0; have hfz11_1 := blk_frozen BK444.out 1; have hfz11_2 := blk_frozen BK444.out 2; have hfz11_3 := blk_frozen BK444.out 3; have p6 : 0 ≤ (a0_2 : Int) := of_decide_eq_true ‹_›; have q6 : (a0_2 : Int) < ((y445.length : Int) : Int) := of_decide_eq_true ‹_›; obtain ⟨go6, co6, eo6, gb6, gl6, cl6, HG6⟩ := Kd.R_form HO447.out (by omega); (first | cases eo6 | (injection eo6 with ea_ en_ ec_; (first | subst ea_ | (injection ea_ with ea_; subst ea_)); subst ec_; clear en_)); have GB6 := Aside0.mk gb6; have GG6 := Aside0.mk HG6; clear gb6 gl6 HG6; obtain ⟨hx6_0, hf6_0⟩ := Kd.R_celln false HO447.out (a0_2 : Int) p6 q6; replace p6 := eq_true p6; replace q6 := eq_true q6; obtain ⟨hy12_, hz12_⟩ := Kd.R_celln false HO447.out (a0_2 : Int) (of_decide_eq_true ‹_›) (of_decide_eq_true ‹_›); have HP12 := Kd.R_putg HO447.out (a0_2 : Int) true) | ((with_reducible refine gate_store (t := 4) (p := 14) rfl ?_); refine store_event (t := 4) (p := 14) (v := ?vo_w13) (w1 := (w9.setCell ⟨go6, (a0_2 : Int).toNat, none⟩ (.bool true))) ?hg ?ho ?hn ?hr ?_; (case ho => rfl); (case hg => rfl); (case hn => rfl); (case hr => first | (go_simp; done) | (go_simp; rfl)); intro w13 hw; have hg : w9.grownBy w13 (some go6) := (by rw [hw]; exact HP12.2); have hp_ : Kd.R Kd.bool 4 w13 w.heap.size (fun _ => True) (.slice (some ⟨go6, 0, none⟩) y445.length co6) y448 := (by rw [hw, Ny448.out]; exact HP12.1); clear HP12; replace BK444 := Aside0.mk (blk_grown (zK BK444) hg (Kd.R_ne HO447.out BK444.out (by decide))); replace HO447 := Aside0.mk (hp_); replace HB := Aside0.mk ((by rw [hw]; exact below_set (HB.out) GB6.out : Below w.heap.size w w13)); clear hg hw hp_; have hcz14_0 := z0 BK444; have hcz14_1 := z1 BK444; have hcz14_2 := z2 BK444; have hcz14_3 : w13.cell? ⟨gb444, 3, none⟩ = some (.slice A0_3 l0_3.length c0_3) := (blk_cell BK444.out 3).trans rfl; have hfz14_0 := blk_frozen BK444.out 0; have hfz14_1 := blk_frozen BK444.out 1; have hfz14_2 := blk_frozen BK444.out 2; have hfz14_3 := blk_frozen BK444.out 3) | ((with_reducible refine gate_dst (N := 17) rfl ?_); refine Kd.R_lit (Kd.int .i64) _ 3 ?hg (N := 17) ?hd (xs := ([a0_2] : List Int)) (inner := [.int .i64 a0_2]) (ok := fun _ => True) (okp := fun _ => True) ?hr ?hp (fun _ hk => hk) trivial (Below.refl _ _) (Nat.le_refl _) (by simp) ?_; (case hd => rfl); (case hg => rfl); (case hr => first | (go_simp; done) | (go_simp; rfl)); (case hp => exact (Reps.one (show Kd.M (Kd.int .i64) _ _ _ a0_2 [.int .i64 a0_2] from rfl) (Reps.none _ _))); intro v450 w15 ho16 hb hg_ hnew_; clear hg_ hnew_; (first | rw [← Ny449.out] at ho16 | (simp only [Int.reduceToNat] at ho16; rw [← Ny449.out] at ho16)); replace HO447 := zbR HO447 hb; have HO451 := Aside0.mk (Kd.R_lower ho16 (below_size zB)); replace BK444 := zb BK444 hb; replace HB := zS HB hb; clear hb ho16))
     go_loopg [4] k (fun kq v4 w' => ∃ (x3_1 : List Bool) (x4_1 : List Int), Aside0 (recurrent_pile_fire.l0 kq x3_1 x4_1 a0_0 l0_1 a0_2 l0_3 = some r) ∧ Aside0 (kq ≤ k) ∧ Aside0 (Kd.R Kd.bool 4 w' w.heap.size (fun _ => True) (.slice (some ⟨go6, 0, none⟩) y445.length co6) x3_1) ∧ Aside0 (Kd.R (Kd.int .i64) 3 w' w.heap.size (fun _ => True) v4 x4_1) ∧ Aside0 (w'.heap[gb444]? = some (.cells #[.int .i64 a0_0, (.slice A0_1 l0_1.length c0_1), .int .i64 a0_2, (.slice A0_3 l0_3.length c0_3)] 84 (0, 0))) ∧ Aside0 (Below w.heap.size w w'))
     case atStart => exact ⟨(y448), (y449), H', ⟨Nat.le_refl _⟩, ⟨zR HO447⟩, ⟨zR HO451⟩, ⟨zK BK444⟩, ⟨zB⟩⟩
     case round =>
      clear H'
      try clear c2
      try clear c2b0
      try clear c2b1
      try clear p2
      try clear c3
      try clear c3b0
      try clear c3b1
      try clear c4
      try clear c4b0
      try clear c5
      try clear c5b0
      try clear c6
      try clear p6
      try clear q6
      try clear hx6
      try clear hf6
      try clear hcz11_0
      try clear hcz11_1
      try clear hcz11_2
      try clear hcz11_3
      try clear hcz14_0
      try clear hcz14_1
      try clear hcz14_2
      try clear hcz14_3
      try clear hcz8_0
      try clear hcz8_1
      try clear hcz8_2
      try clear hcz8_3
      try clear hfz11_0
      try clear hfz11_1
      try clear hfz11_2
      try clear hfz11_3
      try clear hfz14_0
      try clear hfz14_1
      try clear hfz14_2
      try clear hfz14_3
      try clear hfz8_0
      try clear hfz8_1
      try clear hfz8_2
      try clear hfz8_3
      try clear hx6_0
      try clear p6
      try clear q6
      obtain ⟨x3_1, x4_1, HA, HK1, HO_3, HO_4, BK444, HB⟩ := hrel
      have hl3_1 := (Kd.R_reads' HO_3.out).1
      rw [hl3_1] at HO_3
      (try simp only [hl3_1])
      (try simp only [hl3_1] at BK444)
      (try simp only [hl3_1] at HO_4)
      cases gk with
      | zero => exact absurd HA.out (by simp [recurrent_pile_fire.l0])
      | succ k1 =>
       have H := HA.out
       clear HA
       simp only [recurrent_pile_fire.l0] at H
       by_cases c17 : (x4_1.length : Int) < a0_0
       ·rw [if_pos c17] at H
        have c17b0 : decide ((x4_1.length : Int) < a0_0) = true := decide_eq_true c17
        clear c17
        have H' := Aside0.mk H
        clear H
        obtain ⟨Ao18, co18, eo18⟩ := Kd.R_slice HO_4.out
        subst eo18
        have hcz19_0 := z0 BK444
        have hcz19_1 := z1 BK444
        have hcz19_2 := z2 BK444
        have hcz19_3 : wr.cell? ⟨gb444, 3, none⟩ = some (.slice A0_3 l0_3.length c0_3) := (blk_cell BK444.out 3).trans rfl
        have hfz19_0 := blk_frozen BK444.out 0
        have hfz19_1 := blk_frozen BK444.out 1
        have hfz19_2 := blk_frozen BK444.out 2
        have hfz19_3 := blk_frozen BK444.out 3
        go_wp2
        go_loopg [5, 27] k1 (fun kq v5 v27 w' => ∃ (x5_2 : Int) (x27_2 : Int), v5 = .int .i64 x5_2 ∧ v27 = .int .i64 x27_2 ∧ Aside0 (recurrent_pile_fire.l1 kq x3_1 x4_1 x5_2 a0_0 x27_2 a0_0 l0_1 a0_2 l0_3 = some r) ∧ Aside0 (kq ≤ k1) ∧ Aside0 (Kd.R Kd.bool 4 w' w.heap.size (fun _ => True) (.slice (some ⟨go6, 0, none⟩) x3_1.length co6) x3_1) ∧ Aside0 (Kd.R (Kd.int .i64) 3 w' w.heap.size (fun _ => True) (.slice Ao18 x4_1.length co18) x4_1) ∧ Aside0 (w'.heap[gb444]? = some (.cells #[.int .i64 a0_0, (.slice A0_1 l0_1.length c0_1), .int .i64 a0_2, (.slice A0_3 l0_3.length c0_3)] 84 (0, 0))) ∧ Aside0 (Below w.heap.size w w'))
        case atStart => exact ⟨((-1)), (0), zT, zT, H', ⟨Nat.le_refl _⟩, ⟨by (try simp only [hl3_1]); (with_reducible repeat (first | apply Kd.R_alloc | apply Kd.R_drewN | apply Kd.R_drew)); exact HO_3.out⟩, ⟨by (try simp only [hl3_1]); (with_reducible repeat (first | apply Kd.R_alloc | apply Kd.R_drewN | apply Kd.R_drew)); exact HO_4.out⟩, ⟨by (try simp only [hl3_1]); exact zK BK444⟩, ⟨zB⟩⟩
        case round =>
         clear H'
         try clear c1
         try clear c2
         try clear c2b0
         try clear c2b1
         try clear p2
         try clear c3
         try clear c3b0
         try clear c3b1
         try clear c4
         try clear c4b0
         try clear c5
         try clear c5b0
         try clear c6
         try clear p6
         try clear q6
         try clear hx6
         try clear hf6
         try clear c17
         try clear c17b0
         try clear hcz11_0
         try clear hcz11_1
         try clear hcz11_2
         try clear hcz11_3
         try clear hcz14_0
         try clear hcz14_1
         try clear hcz14_2
         try clear hcz14_3
         try clear hcz19_0
         try clear hcz19_1
         try clear hcz19_2
         try clear hcz19_3
         try clear hcz8_0
         try clear hcz8_1
         try clear hcz8_2
         try clear hcz8_3
         try clear hfz11_0
         try clear hfz11_1
         try clear hfz11_2
         try clear hfz11_3
         try clear hfz14_0
         try clear hfz14_1
         try clear hfz14_2
         try clear hfz14_3
         try clear hfz19_0
         try clear hfz19_1
         try clear hfz19_2
         try clear hfz19_3
         try clear hfz8_0
         try clear hfz8_1
         try clear hfz8_2
         try clear hfz8_3
         try clear hx6_0
         try clear p2
         try clear p6
         try clear q6
         obtain ⟨x5_2, x27_2, rfl, rfl, HA, HK2, HO_3, HO_4, BK444, HB⟩ := hrel
         cases gk with
         | zero => exact absurd HA.out (by simp [recurrent_pile_fire.l1])
         | succ k2 =>
          have H := HA.out
          clear HA
          simp only [recurrent_pile_fire.l1] at H
          by_cases c20 : x27_2 < a0_0
          ·rw [if_pos c20] at H
           have c20b0 : decide (x27_2 < a0_0) = true := decide_eq_true c20
           clear c20
           by_cases c21 : 0 ≤ x27_2
           ·rw [if_pos c21] at H
            have c21b0 : decide (0 ≤ x27_2) = true := decide_eq_true c21
            clear c21
            by_cases c22 : x27_2 < (x3_1.length : Int)
            ·rw [if_pos c22] at H
             have c22b0 : decide (x27_2 < (x3_1.length : Int)) = true := decide_eq_true c22
             clear c22
             obtain ⟨bq23, hbq23⟩ : ∃ b_ : Bool, b_ = (rdOf false x3_1 x27_2) := ⟨_, rfl⟩
             replace H : (if bq23 = true then (recurrent_pile_fire.l1 k2 x3_1 x4_1 x5_2 a0_0 (wrap64 (x27_2 + 1)) a0_0 l0_1 a0_2 l0_3) else ((recurrent_pile_catches.f k2 a0_0 l0_1 a0_2 l0_3 x27_2 x3_1).bind fun t453 => (if t453 = true then (if x27_2 < 0 then (some x4_1) else (if x4_1.length < 17592186044416 then (recurrent_pile_fire.l0 k2 (x3_1.set (x27_2 : Int).toNat true) (x4_1 ++ [x27_2]) a0_0 l0_1 a0_2 l0_3) else (none))) else (recurrent_pile_fire.l1 k2 x3_1 x4_1 x5_2 a0_0 (wrap64 (x27_2 + 1)) a0_0 l0_1 a0_2 l0_3)))) = some r := by rw [← hbq23] at H; exact H
             have Nbq23 := Aside0.mk hbq23
             clear hbq23
             by_cases c24 : bq23 = true
             ·subst c24
              have H1 : (recurrent_pile_fire.l1 k2 x3_1 x4_1 x5_2 a0_0 (wrap64 (x27_2 + 1)) a0_0 l0_1 a0_2 l0_3) = some r := by rw [if_pos rfl] at H; exact H
              clear H
              have H := H1
              clear H1
              have H' := Aside0.mk H
              clear H
              have p452 : 0 ≤ (x27_2 : Int) := of_decide_eq_true ‹_›
              have q452 : x27_2 < (x3_1.length : Int) := of_decide_eq_true ‹_›
              obtain ⟨ad452, e452, hx452_0⟩ := Kd.at_bool (Kd.R_reads' HO_3.out).2.2 x27_2 p452 q452
              (try rw [← Nbq23.out] at hx452_0)
              obtain rfl : (⟨go6, 0, none⟩ : Addr) = ad452 := (by injection e452)
              (first | simp only [add_plain] at hx452_0 | simp only [add_at] at hx452_0 | simp only [Addr.add, Nat.zero_add] at hx452_0 | skip)
              replace p452 := eq_true p452
              replace q452 := eq_true q452
              go_wp2
              go_roundg k2
              case measure => have := HK1.out; have := HK2.out; omega
              case rel => exact ⟨(x5_2), (wrap64 (x27_2 + 1)), zT, zT, H', ⟨by have := HK1.out; have := HK2.out; omega⟩, ⟨by (try simp only [hl3_1]); (with_reducible repeat (first | apply Kd.R_alloc | apply Kd.R_drewN | apply Kd.R_drew)); exact HO_3.out⟩, ⟨by (try simp only [hl3_1]); (with_reducible repeat (first | apply Kd.R_alloc | apply Kd.R_drewN | apply Kd.R_drew)); exact HO_4.out⟩, ⟨by (try simp only [hl3_1]); exact zK BK444⟩, ⟨zB⟩⟩
             ·replace c24 := Bool.eq_false_iff.mpr c24
              subst c24
              have H1 : ((recurrent_pile_catches.f k2 a0_0 l0_1 a0_2 l0_3 x27_2 x3_1).bind fun t453 => (if t453 = true then (if x27_2 < 0 then (some x4_1) else (if x4_1.length < 17592186044416 then (recurrent_pile_fire.l0 k2 (x3_1.set (x27_2 : Int).toNat true) (x4_1 ++ [x27_2]) a0_0 l0_1 a0_2 l0_3) else (none))) else (recurrent_pile_fire.l1 k2 x3_1 x4_1 x5_2 a0_0 (wrap64 (x27_2 + 1)) a0_0 l0_1 a0_2 l0_3))) = some r := by rw [if_neg (show ¬ (false = true) by decide)] at H; exact H
              clear H
              have H := H1
              clear H1
              replace H := Option.bind_eq_some_iff.mp H
              obtain ⟨t453, A250, H⟩ := H
              replace H : (if t453 = true then (if x27_2 < 0 then (some x4_1) else (if x4_1.length < 17592186044416 then (recurrent_pile_fire.l0 k2 (x3_1.set (x27_2 : Int).toNat true) (x4_1 ++ [x27_2]) a0_0 l0_1 a0_2 l0_3) else (none))) else (recurrent_pile_fire.l1 k2 x3_1 x4_1 x5_2 a0_0 (wrap64 (x27_2 + 1)) a0_0 l0_1 a0_2 l0_3)) = some r := H
              have A25 := Aside0.mk A250
              clear A250
              by_cases c26 : t453 = true
              ·subst c26
               have H1 : (if x27_2 < 0 then (some x4_1) else (if x4_1.length < 17592186044416 then (recurrent_pile_fire.l0 k2 (x3_1.set (x27_2 : Int).toNat true) (x4_1 ++ [x27_2]) a0_0 l0_1 a0_2 l0_3) else (none))) = some r := by rw [if_pos rfl] at H; exact H
               clear H
               have H := H1
               clear H1
               by_cases c27 : x27_2 < 0
               ·rw [if_pos c27] at H
                have c27b0 : decide (x27_2 < 0) = true := decide_eq_true c27
                clear c27
                obtain rfl := Option.some.inj H
                have p452 : 0 ≤ (x27_2 : Int) := of_decide_eq_true ‹_›
                have q452 : x27_2 < (x3_1.length : Int) := of_decide_eq_true ‹_›
                obtain ⟨ad452, e452, hx452_0⟩ := Kd.at_bool (Kd.R_reads' HO_3.out).2.2 x27_2 p452 q452
                (try rw [← Nbq23.out] at hx452_0)
                obtain rfl : (⟨go6, 0, none⟩ : Addr) = ad452 := (by injection e452)
                (first | simp only [add_plain] at hx452_0 | simp only [add_at] at hx452_0 | simp only [Addr.add, Nat.zero_add] at hx452_0 | skip)
                replace p452 := eq_true p452
                replace q452 := eq_true q452
                have hcz28_0 := z0 BK444
                have hcz28_1 := z1 BK444
                have hcz28_2 := z2 BK444
                have hcz28_3 : wr.cell? ⟨gb444, 3, none⟩ = some (.slice A0_3 l0_3.length c0_3) := (blk_cell BK444.out 3).trans rfl
                have hfz28_0 := blk_frozen BK444.out 0
                have hfz28_1 := blk_frozen BK444.out 1
                have hfz28_2 := blk_frozen BK444.out 2
                have hfz28_3 := blk_frozen BK444.out 3
                go_wp2_with (first | (go_at_call 90; (with_reducible refine (recurrent_pile_catches.calls k2 a0_0 _ _ l0_1 a0_2 _ _ l0_3 x27_2 _ _ x3_1 true _ ?side1 ?side2 ?side3 ?side4 ?side5 ?side6 A25.out).mono ?_); (case side1 => exact Kd.C_below HR0_1.out zB); (case side2 => exact HC0_1.out); (case side3 => exact Kd.C_below HR0_3.out zB); (case side4 => exact HC0_3.out); (case side5 => exact zC (Kd.R_reads' HO_3.out).2.2); (case side6 => exact (Kd.R_reads' HO_3.out).2.1); rintro e w29 ⟨rfl, hb⟩; replace HO_3 := zbR HO_3 hb; replace HO_4 := zbR HO_4 hb; replace BK444 := zb BK444 hb; replace HB := zS HB hb; (try clear hb)))
                go_ret
                exact ⟨_, zE, by (with_reducible repeat (first | apply Kd.R_alloc | apply Kd.R_drewN | apply Kd.R_drew)); exact HO_4.out, zB⟩
               ·rw [if_neg c27] at H
                have c27b0 : decide (x27_2 < 0) = false := decide_eq_false c27
                clear c27
                obtain ⟨y454, hy454⟩ : ∃ y_ : List Bool, y_ = (x3_1.set (x27_2 : Int).toNat true) := ⟨_, rfl⟩
                replace H : (if x4_1.length < 17592186044416 then (recurrent_pile_fire.l0 k2 y454 (x4_1 ++ [x27_2]) a0_0 l0_1 a0_2 l0_3) else (none)) = some r := by first | (rw [hy454]; with_reducible exact H) | (have H2_ := (Option.bind_some _ _).symm.trans H; rw [hy454]; with_reducible exact H2_) | (have H2_ := (Option.bind_some _ _).symm.trans H; with_reducible exact H2_) | with_reducible exact H | (rw [hy454]; exact H) | exact H
                have Ny454 := Aside0.mk hy454
                clear hy454
                by_cases c31 : x4_1.length < 17592186044416
                ·rw [if_pos c31] at H
                 have LMc31 := Aside0.mk c31
                 clear c31
                 obtain ⟨y455, hy455⟩ : ∃ y_ : List Int, y_ = (x4_1 ++ [x27_2]) := ⟨_, rfl⟩
                 replace H : (recurrent_pile_fire.l0 k2 y454 y455 a0_0 l0_1 a0_2 l0_3) = some r := by first | (rw [hy455]; with_reducible exact H) | (have H2_ := (Option.bind_some _ _).symm.trans H; rw [hy455]; with_reducible exact H2_) | (have H2_ := (Option.bind_some _ _).symm.trans H; with_reducible exact H2_) | with_reducible exact H | (rw [hy455]; exact H) | exact H
                 have Ny455 := Aside0.mk hy455
                 clear hy455
                 have H' := Aside0.mk H
                 clear H
                 have p452 : 0 ≤ (x27_2 : Int) := of_decide_eq_true ‹_›
                 have q452 : x27_2 < (x3_1.length : Int) := of_decide_eq_true ‹_›
                 obtain ⟨ad452, e452, hx452_0⟩ := Kd.at_bool (Kd.R_reads' HO_3.out).2.2 x27_2 p452 q452
                 (try rw [← Nbq23.out] at hx452_0)
                 obtain rfl : (⟨go6, 0, none⟩ : Addr) = ad452 := (by injection e452)
                 (first | simp only [add_plain] at hx452_0 | simp only [add_at] at hx452_0 | simp only [Addr.add, Nat.zero_add] at hx452_0 | skip)
                 replace p452 := eq_true p452
                 replace q452 := eq_true q452
                 have hcz32_0 := z0 BK444
                 have hcz32_1 := z1 BK444
                 have hcz32_2 := z2 BK444
                 have hcz32_3 : wr.cell? ⟨gb444, 3, none⟩ = some (.slice A0_3 l0_3.length c0_3) := (blk_cell BK444.out 3).trans rfl
                 have hfz32_0 := blk_frozen BK444.out 0
                 have hfz32_1 := blk_frozen BK444.out 1
                 have hfz32_2 := blk_frozen BK444.out 2
                 have hfz32_3 := blk_frozen BK444.out 3
                 go_wp2_with (first | (go_at_call 90; (with_reducible refine (recurrent_pile_catches.calls k2 a0_0 _ _ l0_1 a0_2 _ _ l0_3 x27_2 _ _ x3_1 true _ ?side1 ?side2 ?side3 ?side4 ?side5 ?side6 A25.out).mono ?_); (case side1 => exact Kd.C_below HR0_1.out zB); (case side2 => exact HC0_1.out); (case side3 => exact Kd.C_below HR0_3.out zB); (case side4 => exact HC0_3.out); (case side5 => exact zC (Kd.R_reads' HO_3.out).2.2); (case side6 => exact (Kd.R_reads' HO_3.out).2.1); rintro e w33 ⟨rfl, hb⟩; replace HO_3 := zbR HO_3 hb; replace HO_4 := zbR HO_4 hb; replace BK444 := zb BK444 hb; replace HB := zS HB hb; (try clear hb); have p30 : 0 ≤ (x27_2 : Int) := of_decide_eq_true ‹_›; have q30 : (x27_2 : Int) < ((x3_1.length : Int) : Int) := of_decide_eq_true ‹_›; obtain ⟨hx30_0, hf30_0⟩ := Kd.R_celln false HO_3.out (x27_2 : Int) p30 q30; replace p30 := eq_true p30; replace q30 := eq_true q30; obtain ⟨hy34_, hz34_⟩ := Kd.R_celln false HO_3.out (x27_2 : Int) (of_decide_eq_true ‹_›) (of_decide_eq_true ‹_›); have HP34 := Kd.R_putg HO_3.out (x27_2 : Int) true) | ((with_reducible refine gate_store (t := 4) (p := 47) rfl ?_); refine store_event (t := 4) (p := 47) (v := ?vo_w35) (w1 := (w33.setCell ⟨go6, (x27_2 : Int).toNat, none⟩ (.bool true))) ?hg ?ho ?hn ?hr ?_; (case ho => rfl); (case hg => rfl); (case hn => rfl); (case hr => first | (go_simp; done) | (go_simp; rfl)); intro w35 hw; have hg : w33.grownBy w35 (some go6) := (by rw [hw]; exact HP34.2); have hp_ : Kd.R Kd.bool 4 w35 w.heap.size (fun _ => True) (.slice (some ⟨go6, 0, none⟩) x3_1.length co6) y454 := (by rw [hw, Ny454.out]; exact HP34.1); clear HP34; replace HO_4 := Aside0.mk (Kd.R_over' (v := (.slice (some ⟨go6, 0, none⟩) x3_1.length co6)) (zR HO_4) (Kd.R_typed HO_3.out) (by decide) hg); replace BK444 := Aside0.mk (blk_grown (zK BK444) hg (Kd.R_ne HO_3.out BK444.out (by decide))); replace HO_3 := Aside0.mk (hp_); replace HB := Aside0.mk ((by rw [hw]; exact below_set (HB.out) GB6.out : Below w.heap.size w w35)); clear hg hw hp_) | ((with_reducible refine gate_builtin (b := .append) (xs := #[.tmp 48, .tmp 50]) rfl ?_); at_builtin; refine Kd.R_append (Kd.int .i64) (w0 := w) w.heap.size rfl (.tmp 48) (.tmp 50) 33 3 (.int .i64 0) 8 rfl Try.underlying33 info3 rfl (by decide) (by omega) (.slice Ao18 x4_1.length co18) x4_1 x27_2 [.int .i64 x27_2] (fun _ => True) (fun _ => False) rfl rfl ?aP (fun _ hk => hk.elim) ?aF ?aO ?aB ?aS ?aL ?_; (case aP => exact rfl); (case aB => exact zB); (case aF => exact (fun _ _ => trivial)); (case aO => exact (zR HO_4)); (case aS => exact (below_size zB)); (case aL => have := LMc31.out; omega); intro v456 w36 ho hb hg hat; rw [← Ny455.out] at ho; replace HO_3 := Aside0.mk (Kd.R_over' (zR HO_3) (Kd.R_typed (zR HO_4)) (by decide) hg); replace BK444 := Aside0.mk (blk_grown (zK BK444) hg (Kd.R_ne HO_4.out BK444.out (by decide))); replace HB := Aside0.mk (hb); have HO457 := Aside0.mk (ho); clear HO_4; clear ho hb hg hat))
                 (try simp only [← hl3_1])
                 go_roundg k2
                 case measure => have := HK1.out; have := HK2.out; omega
                 case rel => exact ⟨(y454), (y455), H', ⟨by have := HK1.out; have := HK2.out; omega⟩, ⟨by (try simp only [hl3_1]); (with_reducible repeat (first | apply Kd.R_alloc | apply Kd.R_drewN | apply Kd.R_drew)); exact HO_3.out⟩, ⟨by (try simp only [hl3_1]); (with_reducible repeat (first | apply Kd.R_alloc | apply Kd.R_drewN | apply Kd.R_drew)); exact HO457.out⟩, ⟨by (try simp only [hl3_1]); exact zK BK444⟩, ⟨zB⟩⟩
                ·rw [if_neg c31] at H
                 exact absurd H (by simp)
              ·replace c26 := Bool.eq_false_iff.mpr c26
               subst c26
               have H1 : (recurrent_pile_fire.l1 k2 x3_1 x4_1 x5_2 a0_0 (wrap64 (x27_2 + 1)) a0_0 l0_1 a0_2 l0_3) = some r := by rw [if_neg (show ¬ (false = true) by decide)] at H; exact H
               clear H
               have H := H1
               clear H1
               have H' := Aside0.mk H
               clear H
               have p452 : 0 ≤ (x27_2 : Int) := of_decide_eq_true ‹_›
               have q452 : x27_2 < (x3_1.length : Int) := of_decide_eq_true ‹_›
               obtain ⟨ad452, e452, hx452_0⟩ := Kd.at_bool (Kd.R_reads' HO_3.out).2.2 x27_2 p452 q452
               (try rw [← Nbq23.out] at hx452_0)
               obtain rfl : (⟨go6, 0, none⟩ : Addr) = ad452 := (by injection e452)
               (first | simp only [add_plain] at hx452_0 | simp only [add_at] at hx452_0 | simp only [Addr.add, Nat.zero_add] at hx452_0 | skip)
               replace p452 := eq_true p452
               replace q452 := eq_true q452
               have hcz37_0 := z0 BK444
               have hcz37_1 := z1 BK444
               have hcz37_2 := z2 BK444
               have hcz37_3 : wr.cell? ⟨gb444, 3, none⟩ = some (.slice A0_3 l0_3.length c0_3) := (blk_cell BK444.out 3).trans rfl
               have hfz37_0 := blk_frozen BK444.out 0
               have hfz37_1 := blk_frozen BK444.out 1
               have hfz37_2 := blk_frozen BK444.out 2
               have hfz37_3 := blk_frozen BK444.out 3
               go_wp2_with (first | (go_at_call 90; (with_reducible refine (recurrent_pile_catches.calls k2 a0_0 _ _ l0_1 a0_2 _ _ l0_3 x27_2 _ _ x3_1 false _ ?side1 ?side2 ?side3 ?side4 ?side5 ?side6 A25.out).mono ?_); (case side1 => exact Kd.C_below HR0_1.out zB); (case side2 => exact HC0_1.out); (case side3 => exact Kd.C_below HR0_3.out zB); (case side4 => exact HC0_3.out); (case side5 => exact zC (Kd.R_reads' HO_3.out).2.2); (case side6 => exact (Kd.R_reads' HO_3.out).2.1); rintro e w38 ⟨rfl, hb⟩; replace HO_3 := zbR HO_3 hb; replace HO_4 := zbR HO_4 hb; replace BK444 := zb BK444 hb; replace HB := zS HB hb; (try clear hb)))
               go_roundg k2
               case measure => have := HK1.out; have := HK2.out; omega
               case rel => exact ⟨(x5_2), (wrap64 (x27_2 + 1)), zT, zT, H', ⟨by have := HK1.out; have := HK2.out; omega⟩, ⟨by (try simp only [hl3_1]); (with_reducible repeat (first | apply Kd.R_alloc | apply Kd.R_drewN | apply Kd.R_drew)); exact HO_3.out⟩, ⟨by (try simp only [hl3_1]); (with_reducible repeat (first | apply Kd.R_alloc | apply Kd.R_drewN | apply Kd.R_drew)); exact HO_4.out⟩, ⟨by (try simp only [hl3_1]); exact zK BK444⟩, ⟨zB⟩⟩
            ·rw [if_neg c22] at H
             exact absurd H (by simp)
           ·rw [if_neg c21] at H
            exact absurd H (by simp)
          ·rw [if_neg c20] at H
           have c20b0 : decide (x27_2 < a0_0) = false := decide_eq_false c20
           clear c20
           by_cases c39 : x5_2 < 0
           ·rw [if_pos c39] at H
            have c39b0 : decide (x5_2 < 0) = true := decide_eq_true c39
            clear c39
            obtain rfl := Option.some.inj H
            go_wp2
            go_ret
            exact ⟨_, zE, by (with_reducible repeat (first | apply Kd.R_alloc | apply Kd.R_drewN | apply Kd.R_drew)); exact HO_4.out, zB⟩
           ·rw [if_neg c39] at H
            have c39b0 : decide (x5_2 < 0) = false := decide_eq_false c39
            clear c39
            by_cases c40 : 0 ≤ x5_2
            ·rw [if_pos c40] at H
             have c40b0 : decide (0 ≤ x5_2) = true := decide_eq_true c40
             clear c40
             by_cases c41 : x5_2 < (x3_1.length : Int)
             ·rw [if_pos c41] at H
              have c41b0 : decide (x5_2 < (x3_1.length : Int)) = true := decide_eq_true c41
              clear c41
              obtain ⟨y458, hy458⟩ : ∃ y_ : List Bool, y_ = (x3_1.set (x5_2 : Int).toNat true) := ⟨_, rfl⟩
              replace H : (if x4_1.length < 17592186044416 then (recurrent_pile_fire.l0 k2 y458 (x4_1 ++ [x5_2]) a0_0 l0_1 a0_2 l0_3) else (none)) = some r := by first | (rw [hy458]; with_reducible exact H) | (have H2_ := (Option.bind_some _ _).symm.trans H; rw [hy458]; with_reducible exact H2_) | (have H2_ := (Option.bind_some _ _).symm.trans H; with_reducible exact H2_) | with_reducible exact H | (rw [hy458]; exact H) | exact H
              have Ny458 := Aside0.mk hy458
              clear hy458
              by_cases c43 : x4_1.length < 17592186044416
              ·rw [if_pos c43] at H
               have LMc43 := Aside0.mk c43
               clear c43
               obtain ⟨y459, hy459⟩ : ∃ y_ : List Int, y_ = (x4_1 ++ [x5_2]) := ⟨_, rfl⟩
               replace H : (recurrent_pile_fire.l0 k2 y458 y459 a0_0 l0_1 a0_2 l0_3) = some r := by first | (rw [hy459]; with_reducible exact H) | (have H2_ := (Option.bind_some _ _).symm.trans H; rw [hy459]; with_reducible exact H2_) | (have H2_ := (Option.bind_some _ _).symm.trans H; with_reducible exact H2_) | with_reducible exact H | (rw [hy459]; exact H) | exact H
               have Ny459 := Aside0.mk hy459
               clear hy459
               have H' := Aside0.mk H
               clear H
               have p42 : 0 ≤ (x5_2 : Int) := of_decide_eq_true ‹_›
               have q42 : (x5_2 : Int) < ((x3_1.length : Int) : Int) := of_decide_eq_true ‹_›
               obtain ⟨hx42_0, hf42_0⟩ := Kd.R_celln false HO_3.out (x5_2 : Int) p42 q42
               replace p42 := eq_true p42
               replace q42 := eq_true q42
               have HP44 := Kd.R_putg HO_3.out (x5_2 : Int) true
               go_wp2_with (first | ((with_reducible refine gate_store (t := 4) (p := 47) rfl ?_); refine store_event (t := 4) (p := 47) (v := ?vo_w45) (w1 := (wr.setCell ⟨go6, (x5_2 : Int).toNat, none⟩ (.bool true))) ?hg ?ho ?hn ?hr ?_; (case ho => rfl); (case hg => rfl); (case hn => rfl); (case hr => first | (go_simp; done) | (go_simp; rfl)); intro w45 hw; have hg : wr.grownBy w45 (some go6) := (by rw [hw]; exact HP44.2); have hp_ : Kd.R Kd.bool 4 w45 w.heap.size (fun _ => True) (.slice (some ⟨go6, 0, none⟩) x3_1.length co6) y458 := (by rw [hw, Ny458.out]; exact HP44.1); clear HP44; replace HO_4 := Aside0.mk (Kd.R_over' (v := (.slice (some ⟨go6, 0, none⟩) x3_1.length co6)) (zR HO_4) (Kd.R_typed HO_3.out) (by decide) hg); replace BK444 := Aside0.mk (blk_grown (zK BK444) hg (Kd.R_ne HO_3.out BK444.out (by decide))); replace HO_3 := Aside0.mk (hp_); replace HB := Aside0.mk ((by rw [hw]; exact below_set (HB.out) GB6.out : Below w.heap.size w w45)); clear hg hw hp_) | ((with_reducible refine gate_builtin (b := .append) (xs := #[.tmp 48, .tmp 50]) rfl ?_); at_builtin; refine Kd.R_append (Kd.int .i64) (w0 := w) w.heap.size rfl (.tmp 48) (.tmp 50) 33 3 (.int .i64 0) 8 rfl Try.underlying33 info3 rfl (by decide) (by omega) (.slice Ao18 x4_1.length co18) x4_1 x5_2 [.int .i64 x5_2] (fun _ => True) (fun _ => False) rfl rfl ?aP (fun _ hk => hk.elim) ?aF ?aO ?aB ?aS ?aL ?_; (case aP => exact rfl); (case aB => exact zB); (case aF => exact (fun _ _ => trivial)); (case aO => exact (zR HO_4)); (case aS => exact (below_size zB)); (case aL => have := LMc43.out; omega); intro v460 w46 ho hb hg hat; rw [← Ny459.out] at ho; replace HO_3 := Aside0.mk (Kd.R_over' (zR HO_3) (Kd.R_typed (zR HO_4)) (by decide) hg); replace BK444 := Aside0.mk (blk_grown (zK BK444) hg (Kd.R_ne HO_4.out BK444.out (by decide))); replace HB := Aside0.mk (hb); have HO461 := Aside0.mk (ho); clear HO_4; clear ho hb hg hat))
               (try simp only [← hl3_1])
               go_roundg k2
               case measure => have := HK1.out; have := HK2.out; omega
               case rel => exact ⟨(y458), (y459), H', ⟨by have := HK1.out; have := HK2.out; omega⟩, ⟨by (try simp only [hl3_1]); (with_reducible repeat (first | apply Kd.R_alloc | apply Kd.R_drewN | apply Kd.R_drew)); exact HO_3.out⟩, ⟨by (try simp only [hl3_1]); (with_reducible repeat (first | apply Kd.R_alloc | apply Kd.R_drewN | apply Kd.R_drew)); exact HO461.out⟩, ⟨by (try simp only [hl3_1]); exact zK BK444⟩, ⟨zB⟩⟩
              ·rw [if_neg c43] at H
               exact absurd H (by simp)
             ·rw [if_neg c41] at H
              exact absurd H (by simp)
            ·rw [if_neg c40] at H
             exact absurd H (by simp)
       ·rw [if_neg c17] at H
        have c17b0 : decide ((x4_1.length : Int) < a0_0) = false := decide_eq_false c17
        clear c17
        obtain rfl := Option.some.inj H
        obtain ⟨Ao47, co47, eo47⟩ := Kd.R_slice HO_4.out
        subst eo47
        have hcz48_0 := z0 BK444
        have hcz48_1 := z1 BK444
        have hcz48_2 := z2 BK444
        have hcz48_3 : wr.cell? ⟨gb444, 3, none⟩ = some (.slice A0_3 l0_3.length c0_3) := (blk_cell BK444.out 3).trans rfl
        have hfz48_0 := blk_frozen BK444.out 0
        have hfz48_1 := blk_frozen BK444.out 1
        have hfz48_2 := blk_frozen BK444.out 2
        have hfz48_3 := blk_frozen BK444.out 3
        go_wp2
        go_ret
        exact ⟨_, zE, by (with_reducible repeat (first | apply Kd.R_alloc | apply Kd.R_drewN | apply Kd.R_drew)); exact HO_4.out, zB⟩
    ·rw [if_neg c5] at H
     exact absurd H (by simp)
   ·rw [if_neg c4] at H
    exact absurd H (by simp)
  ·rw [if_neg c3] at H
   exact absurd H (by simp)
 ·rw [if_neg c2] at H
  exact absurd H (by simp)
end Go.Proofs.Ytffdiakgjakngaa.P
