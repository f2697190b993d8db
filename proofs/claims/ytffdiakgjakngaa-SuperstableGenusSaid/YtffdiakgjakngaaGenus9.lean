/- A part of the proof that SuperstableGenus answers true (text 9 of 13): own walks and plain laws; no conditions. -/
import Derived.Test.YtffdiakgjakngaaGenus8
namespace Go.Proofs.Ytffdiakgjakngaa.P
open Go.RowKit Go.Proofs.YtffdiakgjakngaaW.PrintWords Go.Proofs.YtffdiakgjakngaaW.PrintLast Go.Proofs.YtffdiakgjakngaaW.PrintMore
set_option linter.unusedVariables false
set_option linter.unusedSimpArgs false
set_option maxHeartbeats 8000000
set_option maxRecDepth 100000
def sandpileref17_Same.f (k : Nat) (l0 : List Int) (l1 : List Int) : Option (Bool) := if (l0.length : Int) = (l1.length : Int) then ((sandpileref17_Order.f k l0 l1).bind fun t253 => (some (t253 == 0))) else (some false)
theorem sandpileref17_Same.calls (k : Nat) (A0 : Option Addr) (c0 : Nat) (l0 : List Int) (A1 : Option Addr) (c1 : Nat) (l1 : List Int) (r : Bool) (w : World) (hr0 : Kd.C (Kd.int .i64) w A0 l0.length l0) (hc0 : l0.length ≤ c0) (hr1 : Kd.C (Kd.int .i64) w A1 l1.length l1) (hc1 : l1.length ≤ c1) (h : sandpileref17_Same.f k l0 l1 = some r) :
  Calls Try.prog 26 #[.slice A0 l0.length c0, .slice A1 l1.length c1] w fun e w' => e = .returned (.bool r) ∧ Drawn0 w w' := by
 have HR0 := Aside0.mk hr0
 have HC0 := Aside0.mk hc0
 clear hr0 hc0
 have HR1 := Aside0.mk hr1
 have HC1 := Aside0.mk hc1
 clear hr1 hc1
 have H : (if (l0.length : Int) = (l1.length : Int) then ((sandpileref17_Order.f k l0 l1).bind fun t253 => (some (t253 == 0))) else (some false)) = some r := h
 clear h
 by_cases c3 : (l0.length : Int) = (l1.length : Int)
 ·rw [if_pos c3] at H
  have c3b0 : ((l0.length : Int) == (l1.length : Int)) = true := beq_iff_eq.mpr c3
  have c3b1 : ((l0.length : Int) != (l1.length : Int)) = false := bne_eq_false_iff_eq.mpr c3
  have c3b2 : (l0.length == l1.length) = true := by first | simpa using c3 | (simp at c3 ⊢; omega)
  clear c3
  replace H := Option.bind_eq_some_iff.mp H
  obtain ⟨t253, A40, H⟩ := H
  replace H : (some (t253 == 0)) = some r := H
  have A4 := Aside0.mk A40
  clear A40
  obtain rfl := Option.some.inj H
  go_enter Try.func26, Try.ntmps26
  go_wp2_with (first | ((with_reducible refine gate_callee (f := 58) rfl ?_); refine zL (some 12) Try.func58 #[.slice A0 l0.length c0, .slice A1 l1.length c1] ?_; (with_reducible refine (sandpileref17_Order.calls k _ _ l0 _ _ l1 t253 _ ?side1 ?side2 ?side3 ?side4 A4.out).mono ?_); (case side1 => repeat (first | exact HR0.out | (with_reducible refine Kd.C_alloc ?_ _) | (with_reducible refine Kd.C_drewN ?_ _) | (with_reducible refine Kd.C_drew ?_))); (case side2 => exact HC0.out); (case side3 => repeat (first | exact HR1.out | (with_reducible refine Kd.C_alloc ?_ _) | (with_reducible refine Kd.C_drewN ?_ _) | (with_reducible refine Kd.C_drew ?_))); (case side4 => exact HC1.out); rintro e w' ⟨rfl, ⟨nd, rfl⟩⟩; refine ⟨_, rfl, ?_⟩))
  go_ret
  exact ⟨zT, by repeat (first | exact Drawn0.refl _ | apply Drawn0.step)⟩
 ·rw [if_neg c3] at H
  have c3b0 : ((l0.length : Int) == (l1.length : Int)) = false := beq_eq_false_iff_ne.mpr c3
  have c3b1 : ((l0.length : Int) != (l1.length : Int)) = true := bne_iff_ne.mpr c3
  have c3b2 : (l0.length == l1.length) = false := by first | simpa using c3 | (simp at c3 ⊢; omega)
  obtain rfl := Option.some.inj H
  go_enter Try.func26, Try.ntmps26
  go_wp2
  go_ret
  exact ⟨zT, by repeat (first | exact Drawn0.refl _ | apply Drawn0.step)⟩
def sandpileref17_SameAll.l0 : Nat → List (List Int) → List (List Int) → Int → Option (Bool)
 | 0, _, _, _ => none
 | k + 1, x0, x1, x5 => if x5 < (x0.length : Int) then (if 0 ≤ x5 then (if x5 < (x1.length : Int) then ((sandpileref17_Same.f k (rd_L2 x0 x5) (rd_L2 x1 x5)).bind fun t256 => (if t256 = true then (sandpileref17_SameAll.l0 k x0 x1 (wrap64 (x5 + 1))) else (some false))) else (none)) else (none)) else (some true)
def sandpileref17_SameAll.f (k : Nat) (l0 : List (List Int)) (l1 : List (List Int)) : Option (Bool) := if (l0.length : Int) = (l1.length : Int) then (sandpileref17_SameAll.l0 k l0 l1 0) else (some false)
theorem sandpileref17_SameAll.calls (k : Nat) (A0 : Option Addr) (c0 : Nat) (l0 : List (List Int)) (A1 : Option Addr) (c1 : Nat) (l1 : List (List Int)) (r : Bool) (w : World) (hr0 : Kd.C (Kd.slice 3 (Kd.int .i64)) w A0 l0.length l0) (hc0 : l0.length ≤ c0) (hr1 : Kd.C (Kd.slice 3 (Kd.int .i64)) w A1 l1.length l1) (hc1 : l1.length ≤ c1) (h : sandpileref17_SameAll.f k l0 l1 = some r) :
  Calls Try.prog 17 #[.slice A0 l0.length c0, .slice A1 l1.length c1] w fun e w' => e = .returned (.bool r) ∧ Drawn0 w w' := by
 have HR0 := Aside0.mk hr0
 have HC0 := Aside0.mk hc0
 clear hr0 hc0
 have HR1 := Aside0.mk hr1
 have HC1 := Aside0.mk hc1
 clear hr1 hc1
 have H : (if (l0.length : Int) = (l1.length : Int) then (sandpileref17_SameAll.l0 k l0 l1 0) else (some false)) = some r := h
 clear h
 by_cases c3 : (l0.length : Int) = (l1.length : Int)
 ·rw [if_pos c3] at H
  have c3b0 : ((l0.length : Int) == (l1.length : Int)) = true := beq_iff_eq.mpr c3
  have c3b1 : ((l0.length : Int) != (l1.length : Int)) = false := bne_eq_false_iff_eq.mpr c3
  have c3b2 : (l0.length == l1.length) = true := by first | simpa using c3 | (simp at c3 ⊢; omega)
  clear c3
  have H' := Aside0.mk H
  clear H
  go_enter Try.func17, Try.ntmps17
  go_wp2
  repeat (go_quiet (fail); try go_wp2)
  go_loopg [5] k (fun kq v5 w' => ∃ (x5_1 : Int), v5 = .int .i64 x5_1 ∧ Aside0 (sandpileref17_SameAll.l0 kq l0 l1 x5_1 = some r) ∧ Aside0 (kq ≤ k) ∧ Drawn0 w w')
  case atStart => exact ⟨(0), zT, H', ⟨Nat.le_refl _⟩, by repeat (first | exact Drawn0.refl _ | apply Drawn0.step)⟩
  case round =>
   clear H'
   try clear c1
   try clear p2
   try clear c3
   try clear c3b0
   try clear c3b1
   try clear c3b2
   obtain ⟨x5_1, rfl, HA, HK1, ⟨m1, rfl⟩⟩ := hrel
   cases gk with
   | zero => exact absurd HA.out (by simp [sandpileref17_SameAll.l0])
   | succ k1 =>
    have H := HA.out
    clear HA
    simp only [sandpileref17_SameAll.l0] at H
    by_cases c4 : x5_1 < (l0.length : Int)
    ·rw [if_pos c4] at H
     have c4b0 : decide (x5_1 < (l0.length : Int)) = true := decide_eq_true c4
     clear c4
     by_cases c5 : 0 ≤ x5_1
     ·rw [if_pos c5] at H
      have c5b0 : decide (0 ≤ x5_1) = true := decide_eq_true c5
      clear c5
      by_cases c6 : x5_1 < (l1.length : Int)
      ·rw [if_pos c6] at H
       have c6b0 : decide (x5_1 < (l1.length : Int)) = true := decide_eq_true c6
       clear c6
       replace H := Option.bind_eq_some_iff.mp H
       obtain ⟨t256, A70, H⟩ := H
       replace H : (if t256 = true then (sandpileref17_SameAll.l0 k1 l0 l1 (wrap64 (x5_1 + 1))) else (some false)) = some r := H
       have A7 := Aside0.mk A70
       clear A70
       by_cases c8 : t256 = true
       ·subst c8
        have H1 : (sandpileref17_SameAll.l0 k1 l0 l1 (wrap64 (x5_1 + 1))) = some r := by rw [if_pos rfl] at H; exact H
        clear H
        have H := H1
        clear H1
        have H' := Aside0.mk H
        clear H
        have p254 : 0 ≤ (x5_1 : Int) := of_decide_eq_true ‹_›
        have q254 : x5_1 < (l0.length : Int) := of_decide_eq_true ‹_›
        obtain ⟨ad254, A254_0, c254_0, e254, hx254_0, hl254_0, hi254_0⟩ := at_L2 HR0.out x5_1 p254 q254
        cases e254
        have HR254_0 := Aside0.mk hi254_0
        have HC254_0 := Aside0.mk hl254_0
        clear hi254_0 hl254_0
        replace p254 := eq_true p254
        replace q254 := eq_true q254
        have p255 : 0 ≤ (x5_1 : Int) := of_decide_eq_true ‹_›
        have q255 : x5_1 < (l1.length : Int) := of_decide_eq_true ‹_›
        obtain ⟨ad255, A255_0, c255_0, e255, hx255_0, hl255_0, hi255_0⟩ := at_L2 HR1.out x5_1 p255 q255
        cases e255
        have HR255_0 := Aside0.mk hi255_0
        have HC255_0 := Aside0.mk hl255_0
        clear hi255_0 hl255_0
        replace p255 := eq_true p255
        replace q255 := eq_true q255
        go_wp2_with (first | (go_at_call 26; (with_reducible refine (sandpileref17_Same.calls k1 _ _ (rd_L2 l0 x5_1) _ _ (rd_L2 l1 x5_1) true _ ?side1 ?side2 ?side3 ?side4 A7.out).mono ?_); (case side1 => repeat (first | exact HR254_0.out | (with_reducible refine Kd.C_alloc ?_ _) | (with_reducible refine Kd.C_drewN ?_ _) | (with_reducible refine Kd.C_drew ?_))); (case side2 => exact HC254_0.out); (case side3 => repeat (first | exact HR255_0.out | (with_reducible refine Kd.C_alloc ?_ _) | (with_reducible refine Kd.C_drewN ?_ _) | (with_reducible refine Kd.C_drew ?_))); (case side4 => exact HC255_0.out); rintro e w' ⟨rfl, ⟨nd, rfl⟩⟩; (try first | exact ⟨rfl, _, World.drewN_drewN _ _ _⟩ | exact ⟨rfl, _, Eq.trans (World.drewN_drewN _ _ _) (congrArg (World.drewN _) (Nat.add_assoc _ _ _))⟩)))
        repeat (go_quiet (first | (go_at_call 26; (with_reducible refine (sandpileref17_Same.calls k1 _ _ (rd_L2 l0 x5_1) _ _ (rd_L2 l1 x5_1) true _ ?side1 ?side2 ?side3 ?side4 A7.out).mono ?_); (case side1 => repeat (first | exact HR254_0.out | (with_reducible refine Kd.C_alloc ?_ _) | (with_reducible refine Kd.C_drewN ?_ _) | (with_reducible refine Kd.C_drew ?_))); (case side2 => exact HC254_0.out); (case side3 => repeat (first | exact HR255_0.out | (with_reducible refine Kd.C_alloc ?_ _) | (with_reducible refine Kd.C_drewN ?_ _) | (with_reducible refine Kd.C_drew ?_))); (case side4 => exact HC255_0.out); rintro e w' ⟨rfl, ⟨nd, rfl⟩⟩; (try first | exact ⟨rfl, _, World.drewN_drewN _ _ _⟩ | exact ⟨rfl, _, Eq.trans (World.drewN_drewN _ _ _) (congrArg (World.drewN _) (Nat.add_assoc _ _ _))⟩))); try go_wp2_with (first | (go_at_call 26; (with_reducible refine (sandpileref17_Same.calls k1 _ _ (rd_L2 l0 x5_1) _ _ (rd_L2 l1 x5_1) true _ ?side1 ?side2 ?side3 ?side4 A7.out).mono ?_); (case side1 => repeat (first | exact HR254_0.out | (with_reducible refine Kd.C_alloc ?_ _) | (with_reducible refine Kd.C_drewN ?_ _) | (with_reducible refine Kd.C_drew ?_))); (case side2 => exact HC254_0.out); (case side3 => repeat (first | exact HR255_0.out | (with_reducible refine Kd.C_alloc ?_ _) | (with_reducible refine Kd.C_drewN ?_ _) | (with_reducible refine Kd.C_drew ?_))); (case side4 => exact HC255_0.out); rintro e w' ⟨rfl, ⟨nd, rfl⟩⟩; (try first | exact ⟨rfl, _, World.drewN_drewN _ _ _⟩ | exact ⟨rfl, _, Eq.trans (World.drewN_drewN _ _ _) (congrArg (World.drewN _) (Nat.add_assoc _ _ _))⟩))))
        go_roundg k1
        case measure => have := HK1.out; omega
        case rel => exact ⟨(wrap64 (x5_1 + 1)), zT, H', ⟨by have := HK1.out; omega⟩, by repeat (first | exact Drawn0.refl _ | apply Drawn0.step)⟩
       ·replace c8 := Bool.eq_false_iff.mpr c8
        subst c8
        have H1 : (some false) = some r := by rw [if_neg (show ¬ (false = true) by decide)] at H; exact H
        clear H
        have H := H1
        clear H1
        obtain rfl := Option.some.inj H
        have p254 : 0 ≤ (x5_1 : Int) := of_decide_eq_true ‹_›
        have q254 : x5_1 < (l0.length : Int) := of_decide_eq_true ‹_›
        obtain ⟨ad254, A254_0, c254_0, e254, hx254_0, hl254_0, hi254_0⟩ := at_L2 HR0.out x5_1 p254 q254
        cases e254
        have HR254_0 := Aside0.mk hi254_0
        have HC254_0 := Aside0.mk hl254_0
        clear hi254_0 hl254_0
        replace p254 := eq_true p254
        replace q254 := eq_true q254
        have p255 : 0 ≤ (x5_1 : Int) := of_decide_eq_true ‹_›
        have q255 : x5_1 < (l1.length : Int) := of_decide_eq_true ‹_›
        obtain ⟨ad255, A255_0, c255_0, e255, hx255_0, hl255_0, hi255_0⟩ := at_L2 HR1.out x5_1 p255 q255
        cases e255
        have HR255_0 := Aside0.mk hi255_0
        have HC255_0 := Aside0.mk hl255_0
        clear hi255_0 hl255_0
        replace p255 := eq_true p255
        replace q255 := eq_true q255
        go_wp2_with (first | (go_at_call 26; (with_reducible refine (sandpileref17_Same.calls k1 _ _ (rd_L2 l0 x5_1) _ _ (rd_L2 l1 x5_1) false _ ?side1 ?side2 ?side3 ?side4 A7.out).mono ?_); (case side1 => repeat (first | exact HR254_0.out | (with_reducible refine Kd.C_alloc ?_ _) | (with_reducible refine Kd.C_drewN ?_ _) | (with_reducible refine Kd.C_drew ?_))); (case side2 => exact HC254_0.out); (case side3 => repeat (first | exact HR255_0.out | (with_reducible refine Kd.C_alloc ?_ _) | (with_reducible refine Kd.C_drewN ?_ _) | (with_reducible refine Kd.C_drew ?_))); (case side4 => exact HC255_0.out); rintro e w' ⟨rfl, ⟨nd, rfl⟩⟩; (try first | exact ⟨rfl, _, World.drewN_drewN _ _ _⟩ | exact ⟨rfl, _, Eq.trans (World.drewN_drewN _ _ _) (congrArg (World.drewN _) (Nat.add_assoc _ _ _))⟩)))
        repeat (go_quiet (first | (go_at_call 26; (with_reducible refine (sandpileref17_Same.calls k1 _ _ (rd_L2 l0 x5_1) _ _ (rd_L2 l1 x5_1) false _ ?side1 ?side2 ?side3 ?side4 A7.out).mono ?_); (case side1 => repeat (first | exact HR254_0.out | (with_reducible refine Kd.C_alloc ?_ _) | (with_reducible refine Kd.C_drewN ?_ _) | (with_reducible refine Kd.C_drew ?_))); (case side2 => exact HC254_0.out); (case side3 => repeat (first | exact HR255_0.out | (with_reducible refine Kd.C_alloc ?_ _) | (with_reducible refine Kd.C_drewN ?_ _) | (with_reducible refine Kd.C_drew ?_))); (case side4 => exact HC255_0.out); rintro e w' ⟨rfl, ⟨nd, rfl⟩⟩; (try first | exact ⟨rfl, _, World.drewN_drewN _ _ _⟩ | exact ⟨rfl, _, Eq.trans (World.drewN_drewN _ _ _) (congrArg (World.drewN _) (Nat.add_assoc _ _ _))⟩))); try go_wp2_with (first | (go_at_call 26; (with_reducible refine (sandpileref17_Same.calls k1 _ _ (rd_L2 l0 x5_1) _ _ (rd_L2 l1 x5_1) false _ ?side1 ?side2 ?side3 ?side4 A7.out).mono ?_); (case side1 => repeat (first | exact HR254_0.out | (with_reducible refine Kd.C_alloc ?_ _) | (with_reducible refine Kd.C_drewN ?_ _) | (with_reducible refine Kd.C_drew ?_))); (case side2 => exact HC254_0.out); (case side3 => repeat (first | exact HR255_0.out | (with_reducible refine Kd.C_alloc ?_ _) | (with_reducible refine Kd.C_drewN ?_ _) | (with_reducible refine Kd.C_drew ?_))); (case side4 => exact HC255_0.out); rintro e w' ⟨rfl, ⟨nd, rfl⟩⟩; (try first | exact ⟨rfl, _, World.drewN_drewN _ _ _⟩ | exact ⟨rfl, _, Eq.trans (World.drewN_drewN _ _ _) (congrArg (World.drewN _) (Nat.add_assoc _ _ _))⟩))))
        go_ret
        exact ⟨zT, by repeat (first | exact Drawn0.refl _ | apply Drawn0.step)⟩
      ·rw [if_neg c6] at H
       exact absurd H (by simp)
     ·rw [if_neg c5] at H
      exact absurd H (by simp)
    ·rw [if_neg c4] at H
     have c4b0 : decide (x5_1 < (l0.length : Int)) = false := decide_eq_false c4
     clear c4
     obtain rfl := Option.some.inj H
     go_wp2
     repeat (go_quiet (fail); try go_wp2)
     go_ret
     exact ⟨zT, by repeat (first | exact Drawn0.refl _ | apply Drawn0.step)⟩
 ·rw [if_neg c3] at H
  have c3b0 : ((l0.length : Int) == (l1.length : Int)) = false := beq_eq_false_iff_ne.mpr c3
  have c3b1 : ((l0.length : Int) != (l1.length : Int)) = true := bne_iff_ne.mpr c3
  have c3b2 : (l0.length == l1.length) = false := by first | simpa using c3 | (simp at c3 ⊢; omega)
  obtain rfl := Option.some.inj H
  go_enter Try.func17, Try.ntmps17
  go_wp2
  repeat (go_quiet (fail); try go_wp2)
  go_ret
  exact ⟨zT, by repeat (first | exact Drawn0.refl _ | apply Drawn0.step)⟩
def slices_Equal_int_int.l0 : Nat → List Int → List Int → Int → Int → Option (Bool)
 | 0, _, _, _, _ => none
 | k + 1, x0, x1, x12, x13 => if x13 < x12 then (if 0 ≤ x13 then (if x13 < (x0.length : Int) then (if x13 < (x1.length : Int) then (if (rd x0 x13) = (rd x1 x13) then (slices_Equal_int_int.l0 k x0 x1 x12 (wrap64 (x13 + 1))) else (some false)) else (none)) else (none)) else (none)) else (some true)
def slices_Equal_int_int.f (k : Nat) (l0 : List Int) (l1 : List Int) : Option (Bool) := if (l0.length : Int) = (l1.length : Int) then (slices_Equal_int_int.l0 k l0 l1 (l0.length : Int) 0) else (some false)
theorem slices_Equal_int_int.calls (k : Nat) (A0 : Option Addr) (c0 : Nat) (l0 : List Int) (A1 : Option Addr) (c1 : Nat) (l1 : List Int) (r : Bool) (w : World) (hr0 : Kd.C (Kd.int .i64) w A0 l0.length l0) (hc0 : l0.length ≤ c0) (hr1 : Kd.C (Kd.int .i64) w A1 l1.length l1) (hc1 : l1.length ≤ c1) (h : slices_Equal_int_int.f k l0 l1 = some r) :
  Calls Try.prog 18 #[.slice A0 l0.length c0, .slice A1 l1.length c1] w fun e w' => e = .returned (.bool r) ∧ Drawn0 w w' := by
 have HR0 := Aside0.mk hr0
 have HC0 := Aside0.mk hc0
 clear hr0 hc0
 have HR1 := Aside0.mk hr1
 have HC1 := Aside0.mk hc1
 clear hr1 hc1
 have H : (if (l0.length : Int) = (l1.length : Int) then (slices_Equal_int_int.l0 k l0 l1 (l0.length : Int) 0) else (some false)) = some r := h
 clear h
 by_cases c3 : (l0.length : Int) = (l1.length : Int)
 ·rw [if_pos c3] at H
  have c3b0 : ((l0.length : Int) == (l1.length : Int)) = true := beq_iff_eq.mpr c3
  have c3b1 : ((l0.length : Int) != (l1.length : Int)) = false := bne_eq_false_iff_eq.mpr c3
  have c3b2 : (l0.length == l1.length) = true := by first | simpa using c3 | (simp at c3 ⊢; omega)
  clear c3
  have H' := Aside0.mk H
  clear H
  go_enter Try.func18, Try.ntmps18
  go_wp2
  repeat (go_quiet (fail); try go_wp2)
  go_loopg [13] k (fun kq v13 w' => ∃ (x13_1 : Int), v13 = .int .i64 x13_1 ∧ Aside0 (slices_Equal_int_int.l0 kq l0 l1 (l0.length : Int) x13_1 = some r) ∧ Aside0 (kq ≤ k) ∧ Drawn0 w w')
  case atStart => exact ⟨(0), zT, H', ⟨Nat.le_refl _⟩, by repeat (first | exact Drawn0.refl _ | apply Drawn0.step)⟩
  case round =>
   clear H'
   try clear c1
   try clear p2
   try clear c3
   try clear c3b0
   try clear c3b1
   try clear c3b2
   obtain ⟨x13_1, rfl, HA, HK1, ⟨m1, rfl⟩⟩ := hrel
   cases gk with
   | zero => exact absurd HA.out (by simp [slices_Equal_int_int.l0])
   | succ k1 =>
    have H := HA.out
    clear HA
    simp only [slices_Equal_int_int.l0] at H
    by_cases c4 : x13_1 < (l0.length : Int)
    ·rw [if_pos c4] at H
     have c4b0 : decide (x13_1 < (l0.length : Int)) = true := decide_eq_true c4
     clear c4
     by_cases c5 : 0 ≤ x13_1
     ·rw [if_pos c5] at H
      have c5b0 : decide (0 ≤ x13_1) = true := decide_eq_true c5
      clear c5
      by_cases c6 : x13_1 < (l0.length : Int)
      ·rw [if_pos c6] at H
       have c6b0 : decide (x13_1 < (l0.length : Int)) = true := decide_eq_true c6
       clear c6
       by_cases c7 : x13_1 < (l1.length : Int)
       ·rw [if_pos c7] at H
        have c7b0 : decide (x13_1 < (l1.length : Int)) = true := decide_eq_true c7
        clear c7
        by_cases c8 : (rd l0 x13_1) = (rd l1 x13_1)
        ·rw [if_pos c8] at H
         have c8b0 : ((rd l0 x13_1) == (rd l1 x13_1)) = true := beq_iff_eq.mpr c8
         have c8b1 : ((rd l0 x13_1) != (rd l1 x13_1)) = false := bne_eq_false_iff_eq.mpr c8
         clear c8
         have H' := Aside0.mk H
         clear H
         have p257 : 0 ≤ (x13_1 : Int) := of_decide_eq_true ‹_›
         have q257 : x13_1 < (l0.length : Int) := of_decide_eq_true ‹_›
         obtain ⟨ad257, e257, hx257_0⟩ := Kd.at_int HR0.out x13_1 p257 q257
         cases e257
         replace p257 := eq_true p257
         replace q257 := eq_true q257
         have p258 : 0 ≤ (x13_1 : Int) := of_decide_eq_true ‹_›
         have q258 : x13_1 < (l1.length : Int) := of_decide_eq_true ‹_›
         obtain ⟨ad258, e258, hx258_0⟩ := Kd.at_int HR1.out x13_1 p258 q258
         cases e258
         replace p258 := eq_true p258
         replace q258 := eq_true q258
         go_wp2
         repeat (go_quiet (fail); try go_wp2)
         go_roundg k1
         case measure => have := HK1.out; omega
         case rel => exact ⟨(wrap64 (x13_1 + 1)), zT, H', ⟨by have := HK1.out; omega⟩, by repeat (first | exact Drawn0.refl _ | apply Drawn0.step)⟩
        ·rw [if_neg c8] at H
         have c8b0 : ((rd l0 x13_1) == (rd l1 x13_1)) = false := beq_eq_false_iff_ne.mpr c8
         have c8b1 : ((rd l0 x13_1) != (rd l1 x13_1)) = true := bne_iff_ne.mpr c8
         obtain rfl := Option.some.inj H
         have p257 : 0 ≤ (x13_1 : Int) := of_decide_eq_true ‹_›
         have q257 : x13_1 < (l0.length : Int) := of_decide_eq_true ‹_›
         obtain ⟨ad257, e257, hx257_0⟩ := Kd.at_int HR0.out x13_1 p257 q257
         cases e257
         replace p257 := eq_true p257
         replace q257 := eq_true q257
         have p258 : 0 ≤ (x13_1 : Int) := of_decide_eq_true ‹_›
         have q258 : x13_1 < (l1.length : Int) := of_decide_eq_true ‹_›
         obtain ⟨ad258, e258, hx258_0⟩ := Kd.at_int HR1.out x13_1 p258 q258
         cases e258
         replace p258 := eq_true p258
         replace q258 := eq_true q258
         go_wp2
         repeat (go_quiet (fail); try go_wp2)
         go_ret
         exact ⟨zT, by repeat (first | exact Drawn0.refl _ | apply Drawn0.step)⟩
       ·rw [if_neg c7] at H
        exact absurd H (by simp)
      ·rw [if_neg c6] at H
       exact absurd H (by simp)
     ·rw [if_neg c5] at H
      exact absurd H (by simp)
    ·rw [if_neg c4] at H
     have c4b0 : decide (x13_1 < (l0.length : Int)) = false := decide_eq_false c4
     clear c4
     obtain rfl := Option.some.inj H
     go_wp2
     repeat (go_quiet (fail); try go_wp2)
     go_ret
     exact ⟨zT, by repeat (first | exact Drawn0.refl _ | apply Drawn0.step)⟩
 ·rw [if_neg c3] at H
  have c3b0 : ((l0.length : Int) == (l1.length : Int)) = false := beq_eq_false_iff_ne.mpr c3
  have c3b1 : ((l0.length : Int) != (l1.length : Int)) = true := bne_iff_ne.mpr c3
  have c3b2 : (l0.length == l1.length) = false := by first | simpa using c3 | (simp at c3 ⊢; omega)
  obtain rfl := Option.some.inj H
  go_enter Try.func18, Try.ntmps18
  go_wp2
  repeat (go_quiet (fail); try go_wp2)
  go_ret
  exact ⟨zT, by repeat (first | exact Drawn0.refl _ | apply Drawn0.step)⟩
def superstable_Count.f (k : Nat) (a0_0 : Int) (l0_1 : List (S66)) (a1 : Int) : Option (Int × Int) := (superstable_All.f k a0_0 l0_1 a1).bind fun bt146 => (some ((bt146.1.length : Int), bt146.2))
theorem superstable_Count.calls (k : Nat) (a0_0 : Int) (A0_1 : Option Addr) (c0_1 : Nat) (l0_1 : List (S66)) (a1 : Int) (r1 : Int) (r2 : Int) (w : World) (hr0_1 : Kd.C k66 w A0_1 l0_1.length l0_1) (hc0_1 : l0_1.length ≤ c0_1) (h : superstable_Count.f k a0_0 l0_1 a1 = some (r1, r2)) :
  Calls Try.prog 13 #[.agg #[.int .i64 a0_0, .slice A0_1 l0_1.length c0_1], .int .i64 a1] w fun e w' => e = .returned (.tuple #[.int .i64 r1, .int .i64 r2]) ∧ Below w.heap.size w w' := by
 have hu24 := Try.underlying24
 have HR0_1 := Aside0.mk hr0_1
 have HC0_1 := Aside0.mk hc0_1
 clear hr0_1 hc0_1
 have HB := Aside0.mk (Below.refl w.heap.size w)
 have H : ((superstable_All.f k a0_0 l0_1 a1).bind fun bt146 => (some ((bt146.1.length : Int), bt146.2))) = some (r1, r2) := h
 clear h
 replace H := Option.bind_eq_some_iff.mp H
 obtain ⟨⟨t146, t149⟩, A30, H⟩ := H
 replace H : (some ((t146.length : Int), t149)) = some (r1, r2) := H
 have A3 := Aside0.mk A30
 clear A30
 simp only [Option.some.injEq, Prod.mk.injEq] at H
 obtain ⟨rfl, rfl⟩ := H
 go_enter Try.func13, Try.ntmps13
 go_wp2_with (first | ((with_reducible refine gate_dst (N := 2) rfl ?_); refine zX 2 #[.int .i64 a0_0, .slice A0_1 l0_1.length c0_1] 24 ?_; intro gb145 hg w4 hbox hb; have BK145 := Aside0.mk (hbox); have GW145 := zG HB hg; have GE145 := zG HB hg; replace HB := zS HB hb; clear hb hbox hg; obtain ⟨hcz5_0, hcz5_1, hfz5_0, hfz5_1⟩ := zD2 BK145) | ((with_reducible refine gate_callee (f := 12) rfl ?_); refine zL (some 11) Try.func12 #[.agg #[.int .i64 a0_0, .slice A0_1 l0_1.length c0_1], .int .i64 a1] ?_; (with_reducible refine (superstable_All.calls k a0_0 _ _ l0_1 a1 t146 t149 _ ?side1 ?side2 A3.out).mono ?_); (case side1 => exact Kd.C_below HR0_1.out zB); (case side2 => exact HC0_1.out); rintro e w6 ⟨v147, rfl, ho0, hb⟩; refine ⟨_, rfl, ?_⟩; have HO148 := Aside0.mk (Kd.N_lower (Kd.N_mono (ok' := fun k_ => k_ ≠ gb145) ho0 (fun k_ hk_ => (Kd.freshB (zK BK145) k_ hk_))) (below_size zB)); replace BK145 := zb BK145 hb; replace HB := zS HB hb; (try clear hb); (try clear ho0); obtain ⟨Ao7, co7, eo7⟩ := Kd.N_slice HO148.out; subst eo7))
 go_ret2
 exact ⟨zE, zB⟩
section
theorem root_small {N : Int} {E : List S66} {q : Int} (hf : fewB N E = true) (h : rootG N E q = 0) : ∃ n q' : Nat, N = n ∧ q = q' ∧ Small n q' E := by
 unfold rootG at h
 by_cases h0 : checkG N E = 0
 ·rw [if_pos h0] at h
  obtain ⟨h1, h12, hR⟩ := checkG_zero h0
  obtain ⟨n, rfl⟩ := Int.eq_ofNat_of_zero_le (show 0 ≤ N by omega)
  rw [Int.toNat_natCast] at h
  by_cases hp : partsOf E n = 1
  ·rw [if_pos hp] at h
   by_cases hq : 0 ≤ q ∧ q < (n : Int)
   ·obtain ⟨q', rfl⟩ := Int.eq_ofNat_of_zero_le hq.1
    unfold fewB at hf
    by_cases hl : E.length > 40
    ·rw [if_pos hl] at hf; cases hf
    ·rw [if_neg hl, if_pos h0] at hf
     by_cases h5 : (n : Int) ≤ 5
     ·rw [if_pos h5] at hf
      exact ⟨n, q', rfl, rfl, hR, (parts_conn (by omega) hR).1 hp, by omega, by omega, by omega, by omega, by simpa using hf⟩
     ·rw [if_neg h5] at hf; cases hf
   ·rw [if_neg hq] at h; exact absurd h (by decide)
  ·rw [if_neg hp] at h; exact absurd h (by decide)
 ·rw [if_neg h0] at h; exact absurd h h0
theorem few_len {N : Int} {E : List S66} (hf : fewB N E = true) : E.length ≤ 40 := by
 unfold fewB at hf
 by_cases hl : E.length > 40
 ·rw [if_pos hl] at hf; cases hf
 ·omega
namespace Small
variable {n q : Nat} {E : List S66}
theorem list_ok (h : Small n q E) : okList n E = true := by
 unfold okList
 rw [h.right.mults h.len, h.right.inB]; rfl
theorem first_ev (h : Small n q E) (hr : rootG n E q = 0) : Ev (fun k => superstable_first.f k n E q) (topTo (pileVal n E) q n n, (0 : Int)) := by
 unfold superstable_first.f stabilize_Maximal.f
 refine Ev.bind (a := (topTo (pileVal n E) q n n, (0 : Int))) ?_ (Ev.const _)
 have := rooted_ev n E q (by have := h.len; omega)
 rw [hr] at this
 refine Ev.bind this ?_
 simp only [if_true, h.list_ok, Int.toNat_natCast]; exact Ev.const _
theorem superAll_ev (h : Small n q E) (hr : rootG n E q = 0) : Ev (fun k => superstable_All.f k n E q) (confs n E q, (0 : Int)) := by
 unfold superstable_All.f
 refine Ev.bind (h.first_ev hr) ?_
 simp only [if_true, Int.toNat_natCast, if_pos (show (confs n E q).length ≤ 16384 by have := h.confs_le; omega)]; exact Ev.const _
theorem conf_mem (h : Small n q E) {c : List Int} (hc : c ∈ confs n E q) : c.length = n ∧ ∀ v : Nat, 0 ≤ rd c v ∧ rd c v ≤ 8 := by
 rw [h.confs_eq] at hc
 have h1 := (List.mem_filter.1 hc).1
 have hl := stabB_len _ _ _ h1
 have key : ∀ (m : Nat) (l : List Int), l ∈ stabB (mostOf E n q) m → ∀ v : Nat, 0 ≤ rd l v ∧ rd l v ≤ 8 := by
  intro m
  induction m with
  | zero => intro l hl v; simp [stabB] at hl; subst hl; simp [rd]
  | succ m ih =>
   intro l hl v
   simp only [stabB, stepB, List.mem_flatMap, List.mem_map, List.mem_range] at hl
   obtain ⟨p, hp, x, hx, rfl⟩ := hl
   have h2 := ih p hp v
   have hm := h.most_le m
   have hpl := stabB_len _ _ _ hp
   simp only [rd, Int.toNat_natCast, List.getD_eq_getElem?_getD] at h2 ⊢
   rcases Nat.lt_trichotomy v p.length with h3 | h3 | h3
   ·rw [List.getElem?_append_left h3]; exact h2
   ·rw [h3, List.getElem?_append_right (Nat.le_refl _), Nat.sub_self]; simp; omega
   ·rw [List.getElem?_eq_none (by simp; omega)]; simp
 exact ⟨hl, key n c h1⟩
theorem ok_levels (h : Small n q E) : okLevels (confs n E q) = true := by
 unfold okLevels
 rw [decide_eq_true (by have := h.confs_le; omega), Bool.true_and]
 refine List.all_eq_true.2 fun c hc => ?_
 obtain ⟨h1, h2⟩ := h.conf_mem hc
 rw [decide_eq_true (by have := h.n5; omega), Bool.true_and]
 refine List.all_eq_true.2 fun x hx => ?_
 obtain ⟨i, hi, rfl⟩ := List.mem_iff_getElem.1 hx
 have := h2 i
 rw [show rd c i = c[i] by simp [rd, List.getD_eq_getElem?_getD, List.getElem?_eq_getElem hi]] at this
 simp; omega
theorem superLevels_ev (h : Small n q E) (hr : rootG n E q = 0) : Ev (fun k => superstable_Levels.f k n E q) (levelsOf (confs n E q), (0 : Int)) := by
 unfold superstable_Levels.f
 refine Ev.bind (h.superAll_ev hr) ?_
 simp only [if_true, h.ok_levels]; exact Ev.const _
theorem nonempty (h : Small n q E) : confs n E q ≠ [] := by
 rw [h.confs_eq]
 have hz : ∀ m, List.replicate m (0 : Int) ∈ stabB (mostOf E n q) m := fun m => by
  induction m with
  | zero => simp [stabB]
  | succ m ih =>
   simp only [stabB, stepB, List.mem_flatMap, List.mem_map, List.mem_range]
   exact ⟨_, ih, 0, by omega, by rw [List.replicate_succ']; rfl⟩
 have hi : isB E n q (List.replicate n 0) = true := by
  rw [is_iff h.right h.conn h.q]
  rintro S ⟨v, hv, hs⟩ hSq
  obtain ⟨x, hx, hne⟩ := h.conn S ⟨v, hv, hs⟩ ⟨q, h.q, hSq⟩
  have hb := btw_edge h.right hx
  have hok := h.right.ok x hx
  simp [edgeOk] at hok
  have e0 : ((x.f0.toNat : Nat) : Int) = x.f0 := by omega
  have e1 : ((x.f1.toNat : Nat) : Int) = x.f1 := by omega
  have ht := (edgesIn_of h.right.inB).times
  have key : ∀ a b : Nat, a < n → b < n → S a = true → S b = false → btw E a b > 0 → ∃ v, v < n ∧ S v = true ∧ rd (List.replicate n 0) v < flamesTo (timesOf E) (fun u => !S u) v n := fun a b ha hb2 hSa hSb hbt => by
   refine ⟨a, ha, hSa, ?_⟩
   have hab : a ≠ b := fun e => by subst e; rw [hSa] at hSb; cases hSb
   have hk : ∀ u, b < u → 0 < flamesTo (timesOf E) (fun u => !S u) a u := fun u => by
    induction u with
    | zero => omega
    | succ u ih =>
     intro hu
     have hbd := flamesTo_bound (burnt := fun u => !S u) ht a u
     have hb3 := ht a u
     rw [flamesTo]
     by_cases e : b = u
     ·subst e
      rw [if_pos (by simp [hSb]), times_btw h.right a b hab]; omega
     ·have := ih (by omega)
      split <;> omega
   have := hk n hb2
   rw [show rd (List.replicate n 0) a = 0 from by simp [rd, List.getD_eq_getElem?_getD, List.getElem?_replicate]; split <;> rfl]
   exact this
  cases hs0 : S x.f0.toNat with
  | true =>
   refine key x.f0.toNat x.f1.toNat (by omega) (by omega) hs0 ?_ (by rw [e0, e1]; exact hb)
   cases hs1 : S x.f1.toNat with
   | false => rfl
   | true => rw [hs0, hs1] at hne; exact absurd rfl hne
  | false =>
   refine key x.f1.toNat x.f0.toNat (by omega) (by omega) ?_ hs0 (by rw [e0, e1, btw_comm]; exact hb)
   cases hs1 : S x.f1.toNat with
   | true => rfl
   | false => rw [hs0, hs1] at hne; exact absurd rfl hne
 exact List.ne_nil_of_mem (List.mem_filter.2 ⟨hz n, hi⟩)
end Small
theorem total_l0 (c : List Int) (hc : c.length ≤ 12) (hb : ∀ v : Nat, 0 ≤ rd c v ∧ rd c v ≤ 599) : ∀ (m i : Nat), i + m = c.length → Ev (fun k => sandpileref17_Total.l0 k c (sumTo c i) i) (sumOf c)
 | 0, i, hi => by
  obtain rfl : i = c.length := by omega
  refine Ev.of_succ ?_
  simp only [sandpileref17_Total.l0, if_neg (show ¬ ((c.length : Int) < (c.length : Int)) by omega)]
  exact Ev.const _
 | m + 1, i, hi => by
  have ih := total_l0 c hc hb m (i + 1) (by omega)
  have h1 := sumTo_bound hb i
  have h2 := hb i
  refine Ev.of_succ ?_
  simp only [sandpileref17_Total.l0, if_pos (show (i : Int) < (c.length : Int) by omega), if_pos (show (0 : Int) ≤ (i : Int) by omega), wrap_succ (show i ≤ 1000000 by omega)]
  rw [show wrap64 (sumTo c i + rd c i) = sumTo c (i + 1) from by rw [wrap_id (by omega)]; rfl]
  exact ih
theorem total_ev (c : List Int) (hc : c.length ≤ 12) (hb : ∀ v : Nat, 0 ≤ rd c v ∧ rd c v ≤ 599) : Ev (fun k => sandpileref17_Total.f k c) (sumOf c) := by
 unfold sandpileref17_Total.f
 have := total_l0 c hc hb c.length 0 (by omega)
 simpa [sumTo] using this
end
def sumE (f : S66 → Int) : List S66 → Int
 | [] => 0
 | x :: E => f x + sumE f E
theorem sumE_congr {f g : S66 → Int} : ∀ {E : List S66}, (∀ x ∈ E, f x = g x) → sumE f E = sumE g E
 | [], _ => rfl
 | x :: E, h => by rw [sumE, sumE, h x (List.mem_cons_self ..), sumE_congr fun y hy => h y (List.mem_cons_of_mem _ hy)]
theorem sumE_add (f g : S66 → Int) : ∀ E, sumE (fun x => f x + g x) E = sumE f E + sumE g E
 | [] => rfl
 | x :: E => by rw [sumE, sumE, sumE, sumE_add f g E]; omega
theorem sumE_zero {f : S66 → Int} : ∀ {E : List S66}, (∀ x ∈ E, f x = 0) → sumE f E = 0
 | [], _ => rfl
 | x :: E, h => by rw [sumE, h x (List.mem_cons_self ..), sumE_zero fun y hy => h y (List.mem_cons_of_mem _ hy)]; rfl
theorem btw_sum (a b : Int) : ∀ {E : List S66}, E.Pairwise Before → btw E a b = sumE (fun x => if x.f0 = min a b ∧ x.f1 = max a b then x.f2 else 0) E
 | [], _ => rfl
 | x :: E, h => by
  obtain ⟨h1, h2⟩ := List.pairwise_cons.1 h
  rw [btw_cons, sumE]
  by_cases hx : x.f0 = min a b ∧ x.f1 = max a b
  ·rw [if_pos hx, if_pos hx, sumE_zero]
   ·omega
   ·intro y hy
    rw [if_neg]
    have := h1 y hy
    unfold Before at this
    omega
  ·rw [if_neg hx, if_neg hx, btw_sum a b h2]; omega
def c1 (v : Nat) (x : Nat × Int × Int) : Int := if x.2.1 = x.2.2 then 0 else (if x.2.1.toNat = v then 1 else 0) + (if x.2.2.toNat = v then 1 else 0)
def sandpileref17_In.f (a0 : Int) : Option (Bool) := if a0 ≥ (-1048576) then (some (decide (a0 ≤ 1048576))) else (some false)
mutual
def sandpileref17_Check.j0 : Nat → List Int → Int → Bool → Option (Int)
 | 0, _, _, _ => none
 | k + 1, x0, x1, x11 => if x11 = true then (some 2) else (if (x0.length : Int) = x1 then (sandpileref17_Check.l0 k x0 x1 0) else (some 8))
def sandpileref17_Check.l0 : Nat → List Int → Int → Int → Option (Int)
 | 0, _, _, _ => none
 | k + 1, x0, x1, x5 => if x5 < x1 then (if 0 ≤ x5 then (if x5 < (x0.length : Int) then ((sandpileref17_In.f (rd x0 x5)).bind fun t307 => (if t307 = true then (sandpileref17_Check.l0 k x0 x1 (wrap64 (x5 + 1))) else (some 2))) else (none)) else (none)) else (some 0)
end
def chipB (x : Int) : Bool := decide (-1048576 ≤ x) && decide (x ≤ 1048576)
def rngF : List Int → Int
 | [] => 0
 | x :: l => if chipB x = true then rngF l else 2
def negF (q : Int) : Nat → List Int → Int
 | _, [] => 0
 | i, x :: l => if (i : Int) = q then negF q (i + 1) l else if x < 0 then 2 else negF q (i + 1) l
def errC (N : Int) (E : List S66) (q : Int) (c : List Int) : Int :=
 if rootG N E q = 0 then (if (c.length : Int) = N then (if rngF c = 0 then negF q 0 c else rngF c) else 8) else rootG N E q
def err23 (N : Int) (E : List S66) (q : Int) (c : List Int) : Int := if errC N E q c = 0 then (if rd c q = 0 then 0 else 3) else errC N E q c
theorem within_eq (x : Int) : chips_within.f x = some (chipB x) := by
 unfold chips_within.f chipB
 by_cases h : x ≥ -1048576
 ·rw [if_pos h, decide_eq_true (show -1048576 ≤ x from h), Bool.true_and]
 ·rw [if_neg h, decide_eq_false (show ¬ -1048576 ≤ x from h), Bool.false_and]
theorem chk_l0 (c : List Int) (hc : c.length ≤ 1000) : ∀ (m i : Nat), i + m = c.length → Ev (fun k => chips_Check.l0 k c c.length i) (rngF (c.drop i))
 | 0, i, hi => by
  refine Ev.of_succ ?_
  simp only [chips_Check.l0, if_neg (show ¬ (i : Int) < c.length by omega), List.drop_eq_nil_of_le (show c.length ≤ i by omega), rngF]
  exact Ev.const _
 | m + 1, i, hi => by
  refine Ev.of_succ ?_
  simp only [chips_Check.l0, if_pos (show (i : Int) < c.length by omega), if_pos (show (0 : Int) ≤ i by omega), within_eq, Option.bind_some, wrap_succ (show i ≤ 1000000 by omega)]
  rw [rd_drop (by omega), rngF]
  by_cases h : chipB (rd c i) = true
  ·simp only [if_pos h]; exact chk_l0 c hc m (i + 1) (by omega)
  ·simp only [if_neg h]; exact Ev.const _
theorem neg_l0 (q : Int) (c : List Int) (hc : c.length ≤ 1000) : ∀ (m i : Nat), i + m = c.length → Ev (fun k => stabilize_Check.l0 k q c c.length i) (negF q i (c.drop i))
 | 0, i, hi => by
  refine Ev.of_succ ?_
  simp only [stabilize_Check.l0, if_neg (show ¬ (i : Int) < c.length by omega), List.drop_eq_nil_of_le (show c.length ≤ i by omega), negF]
  exact Ev.const _
 | m + 1, i, hi => by
  refine Ev.of_succ ?_
  have ih := neg_l0 q c hc m (i + 1) (by omega)
  simp only [stabilize_Check.l0, if_pos (show (i : Int) < c.length by omega), if_pos (show (0 : Int) ≤ i by omega), wrap_succ (show i ≤ 1000000 by omega)]
  rw [rd_drop (by omega), negF]
  by_cases h : (i : Int) = q
  ·simp only [if_pos h]; exact ih
  ·simp only [if_neg h]
   by_cases h2 : rd c i < 0
   ·simp only [if_pos h2]; exact Ev.const _
   ·simp only [if_neg h2]; exact ih
theorem root_range {N : Int} {E : List S66} {q : Int} (h : rootG N E q = 0) : 1 ≤ N ∧ N ≤ 12 ∧ 0 ≤ q ∧ q < N := by
 unfold rootG at h
 by_cases hc : checkG N E = 0
 ·rw [if_pos hc] at h
  obtain ⟨h1, h2, _⟩ := checkG_zero hc
  by_cases hp : partsOf E N.toNat = 1
  ·rw [if_pos hp] at h
   by_cases hq : 0 ≤ q ∧ q < N
   ·exact ⟨h1, h2, hq⟩
   ·rw [if_neg hq] at h; exact absurd h (by decide)
  ·rw [if_neg hp] at h; exact absurd h (by decide)
 ·rw [if_neg hc] at h; exact absurd h hc
theorem chips_ev (c : List Int) (N : Int) (hN : 1 ≤ N ∧ N ≤ 12) : Ev (fun k => chips_Check.f k c N) (if (c.length : Int) = N then rngF c else 8) := by
 unfold chips_Check.f chips_vertices.f
 simp only [if_neg (show ¬ N < 1 by omega), if_neg (show ¬ N > 12 by omega), Option.bind_some, if_true]
 by_cases h : (c.length : Int) = N
 ·simp only [if_pos h]
  exact chk_l0 c (by omega) c.length 0 (by omega)
 ·simp only [if_neg h]; exact Ev.const _
theorem stCheck_ev (N : Int) (E : List S66) (q : Int) (c : List Int) (hE : E.length ≤ 1000) : Ev (fun k => stabilize_Check.f k N E q c) (errC N E q c) := by
 unfold stabilize_Check.f errC
 refine Ev.bind (rooted_ev N E q hE) ?_
 by_cases hr : rootG N E q = 0
 ·have hN := root_range hr
  simp only [if_pos hr]
  refine Ev.bind (chips_ev c N ⟨hN.1, hN.2.1⟩) ?_
  by_cases h : (c.length : Int) = N
  ·simp only [if_pos h]
   by_cases h2 : rngF c = 0
   ·simp only [if_pos h2]
    exact neg_l0 q c (by omega) c.length 0 (by omega)
   ·simp only [if_neg h2]; exact Ev.const _
  ·simp only [if_neg h]; exact Ev.const _
 ·simp only [if_neg hr]; exact Ev.const _
theorem errC_zero {N : Int} {E : List S66} {q : Int} {c : List Int} (h : errC N E q c = 0) : rootG N E q = 0 ∧ (c.length : Int) = N ∧ rngF c = 0 ∧ negF q 0 c = 0 := by
 unfold errC at h
 by_cases hr : rootG N E q = 0
 ·rw [if_pos hr] at h
  by_cases hl : (c.length : Int) = N
  ·rw [if_pos hl] at h
   by_cases h2 : rngF c = 0
   ·rw [if_pos h2] at h; exact ⟨hr, hl, h2, h⟩
   ·rw [if_neg h2] at h; exact absurd h h2
  ·rw [if_neg hl] at h; exact absurd h (by decide)
 ·rw [if_neg hr] at h; exact absurd h hr
theorem burnCheck_ev (N : Int) (E : List S66) (q : Int) (c : List Int) (hE : E.length ≤ 1000) : Ev (fun k => burning_check.f k N E q c) (err23 N E q c) := by
 unfold burning_check.f err23
 refine Ev.bind (stCheck_ev N E q c hE) ?_
 by_cases h : errC N E q c = 0
 ·obtain ⟨hr, hl, _, _⟩ := errC_zero h
  have hN := root_range hr
  simp only [if_pos h, if_pos hN.2.2.1, if_pos (show q < c.length by omega)]
  by_cases h2 : rd c q = 0
  ·simp only [if_pos h2]; exact Ev.const _
  ·simp only [if_neg h2]; exact Ev.const _
 ·simp only [if_neg h]; exact Ev.const _
theorem rngF_zero : ∀ {c : List Int}, rngF c = 0 → ∀ x ∈ c, -1048576 ≤ x ∧ x ≤ 1048576
 | [], _, x, hx => absurd hx (by simp)
 | y :: c, h, x, hx => by
  rw [rngF] at h
  by_cases hy : chipB y = true
  ·rw [if_pos hy] at h
   simp [chipB] at hy
   rcases List.mem_cons.1 hx with rfl | hx
   ·exact hy
   ·exact rngF_zero h x hx
  ·rw [if_neg hy] at h; exact absurd h (by decide)
theorem negF_zero (q : Int) : ∀ {c : List Int} {i : Nat}, negF q i c = 0 → ∀ j : Nat, j < c.length → ((i + j : Nat) : Int) ≠ q → 0 ≤ rd c j
 | [], i, _, j, hj, _ => absurd hj (by simp)
 | y :: c, i, h, j, hj, hjq => by
  rw [negF] at h
  by_cases hi : (i : Int) = q
  ·rw [if_pos hi] at h
   cases j with
   | zero => exact absurd hi hjq
   | succ j =>
    have := negF_zero q h j (by simpa using hj) (by rw [show i + 1 + j = i + (j + 1) by omega]; exact hjq)
    simpa [rd, List.getD_eq_getElem?_getD] using this
  ·rw [if_neg hi] at h
   by_cases hy : y < 0
   ·rw [if_pos hy] at h; exact absurd h (by decide)
   ·rw [if_neg hy] at h
    cases j with
    | zero => simp [rd, List.getD_eq_getElem?_getD]; omega
    | succ j =>
     have := negF_zero q h j (by simpa using hj) (by rw [show i + 1 + j = i + (j + 1) by omega]; exact hjq)
     simpa [rd, List.getD_eq_getElem?_getD] using this
structure GoodC (n q : Nat) (c : List Int) : Prop where
 len : c.length = n
 pos : ∀ v : Nat, 0 ≤ rd c v
 up : ∀ v : Nat, rd c v ≤ 1048576
 sink : rd c q = 0
theorem rd_out {c : List Int} {v : Nat} (h : c.length ≤ v) : rd c v = 0 := by simp [rd, List.getD_eq_getElem?_getD, List.getElem?_eq_none h]
theorem err23_good {n q : Nat} {E : List S66} {c : List Int} (h : err23 n E q c = 0) : rootG n E q = 0 ∧ GoodC n q c := by
 unfold err23 at h
 by_cases he : errC n E q c = 0
 ·rw [if_pos he] at h
  by_cases hq : rd c q = 0
  ·obtain ⟨h1, h2, h3, h4⟩ := errC_zero he
   refine ⟨h1, ⟨by omega, fun v => ?_, fun v => ?_, hq⟩⟩
   ·by_cases hv : v < c.length
    ·by_cases e : v = q
     ·subst e; omega
     ·exact negF_zero q h4 v hv (by omega)
    ·rw [rd_out (by omega)]; exact Int.le_refl _
   ·by_cases hv : v < c.length
    ·have := rngF_zero h3 c[v] (List.getElem_mem _)
     simp only [rd, Int.toNat_natCast, List.getD_eq_getElem?_getD, List.getElem?_eq_getElem hv, Option.getD_some]; omega
    ·rw [rd_out (by omega)]; decide
  ·rw [if_neg hq] at h; exact absurd h (by decide)
 ·rw [if_neg he] at h; exact absurd h he
theorem burn_ev {n q : Nat} {E : List S66} {c : List Int} (hE : E.length ≤ 1000) (hn : n ≤ 12) (hin : edgesInB n E = true) (h : err23 n E q c = 0) : Ev (fun k => burning_Superstable.f k n E q c) (superB n (timesOf E) q c, (0 : Int)) := by
 obtain ⟨hr, hg⟩ := err23_good h
 have hl := hg.len
 have hq := root_range hr
 unfold burning_Superstable.f burning_Burn.f
 have hb := burnCheck_ev n E q c hE
 rw [h] at hb
 have hw : rightConf n E q c = true := by simp only [rightConf, Bool.and_eq_true, decide_eq_true_eq]; exact ⟨by omega, hin⟩
 refine Ev.bind (a := ((q : Int) :: (fireOf n E q c).map Int.ofNat, unbTo (burnAll (sinkOnly q) (fireOf n E q c)) n, (0 : Int))) ?_ ?_
 ·refine Ev.bind hb ?_
  simp only [if_true, hw, Int.toNat_natCast]
  exact Ev.const _
 ·simp only [if_true]
  have hx := burnt_all (burnAll (sinkOnly q) (fireOf n E q c)) n
  have e : (((unbTo (burnAll (sinkOnly q) (fireOf n E q c)) n).length : Int) == 0) = superB n (timesOf E) q c := by
   rw [Bool.eq_iff_iff]
   unfold superB
   rw [show fireList n (catchB n (timesOf E) c) (sinkOnly q) = fireOf n E q c from rfl, ← hx]
   simp
  rw [e]
  exact Ev.const _
def superstable_raised.l0 : Nat → Int → List Int → Int → Int → List (S66) → Option (List Int)
 | 0, _, _, _, _, _ => none
 | k + 1, x1, x2, x3, x272000, x272001 => (superstable_calm.f k x272000 x272001 x1 x2).bind fun t277 => (if t277 = true then (if 0 ≤ x3 then (if x3 < (x2.length : Int) then (superstable_raised.l0 k x1 (x2.set (x3 : Int).toNat (wrap64 ((rd x2 x3) + 1))) x3 x272000 x272001) else (none)) else (none)) else (if 0 ≤ x3 then (if x3 < (x2.length : Int) then (some (x2.set (x3 : Int).toNat (wrap64 ((rd x2 x3) - 1)))) else (none)) else (none)))
def superstable_raised.f (k : Nat) (a0_0 : Int) (l0_1 : List (S66)) (a1 : Int) (l2 : List Int) (a3 : Int) : Option (List Int) := (api_Divisor_int_36.f l2).bind fun t272 => (if 0 ≤ a3 then (if a3 < (t272.length : Int) then (superstable_raised.l0 k a1 (t272.set (a3 : Int).toNat (wrap64 ((rd t272 a3) + 1))) a3 a0_0 l0_1) else (none)) else (none))
theorem superstable_raised.calls (k : Nat) (a0_0 : Int) (A0_1 : Option Addr) (c0_1 : Nat) (l0_1 : List (S66)) (a1 : Int) (A2 : Option Addr) (c2 : Nat) (l2 : List Int) (a3 : Int) (r : List Int) (w : World) (hr0_1 : Kd.C k66 w A0_1 l0_1.length l0_1) (hc0_1 : l0_1.length ≤ c0_1) (hr2 : Kd.C (Kd.int .i64) w A2 l2.length l2) (hc2 : l2.length ≤ c2) (h : superstable_raised.f k a0_0 l0_1 a1 l2 a3 = some r) :
  Calls Try.prog 53 #[.agg #[.int .i64 a0_0, .slice A0_1 l0_1.length c0_1], .int .i64 a1, .slice A2 l2.length c2, .int .i64 a3] w fun e w' => ∃ v0_ : Value, e = .returned (v0_) ∧ Kd.R (Kd.int .i64) 3 w' w.heap.size (fun _ => True) v0_ r ∧ Below w.heap.size w w' := by
 have hu24 := Try.underlying24
 have HR0_1 := Aside0.mk hr0_1
 have HC0_1 := Aside0.mk hc0_1
 clear hr0_1 hc0_1
 have HR2 := Aside0.mk hr2
 have HC2 := Aside0.mk hc2
 clear hr2 hc2
 have HB := Aside0.mk (Below.refl w.heap.size w)
 have H : ((api_Divisor_int_36.f l2).bind fun t272 => (if 0 ≤ a3 then (if a3 < (t272.length : Int) then (superstable_raised.l0 k a1 (t272.set (a3 : Int).toNat (wrap64 ((rd t272 a3) + 1))) a3 a0_0 l0_1) else (none)) else (none))) = some r := h
 clear h
 replace H := Option.bind_eq_some_iff.mp H
 obtain ⟨t272, A50, H⟩ := H
 replace H : (if 0 ≤ a3 then (if a3 < (t272.length : Int) then (superstable_raised.l0 k a1 (t272.set (a3 : Int).toNat (wrap64 ((rd t272 a3) + 1))) a3 a0_0 l0_1) else (none)) else (none)) = some r := H
 have A5 := Aside0.mk A50
 clear A50
 by_cases c6 : 0 ≤ a3
 ·rw [if_pos c6] at H
  have c6b0 : decide (0 ≤ a3) = true := decide_eq_true c6
  clear c6
  by_cases c7 : a3 < (t272.length : Int)
  ·rw [if_pos c7] at H
   have c7b0 : decide (a3 < (t272.length : Int)) = true := decide_eq_true c7
   clear c7
   obtain ⟨y276, hy276⟩ : ∃ y_ : List Int, y_ = (t272.set (a3 : Int).toNat (wrap64 ((rd t272 a3) + 1))) := ⟨_, rfl⟩
   replace H : (superstable_raised.l0 k a1 y276 a3 a0_0 l0_1) = some r := by first | (rw [hy276]; with_reducible exact H) | (have H2_ := (Option.bind_some _ _).symm.trans H; rw [hy276]; with_reducible exact H2_) | (have H2_ := (Option.bind_some _ _).symm.trans H; with_reducible exact H2_) | with_reducible exact H | (rw [hy276]; exact H) | exact H
   have Ny276 := Aside0.mk hy276
   clear hy276
   have H' := Aside0.mk H
   clear H
   go_enter Try.func53, Try.ntmps53
   go_wp2_with (first | ((with_reducible refine gate_dst (N := 4) rfl ?_); refine zX 4 #[.int .i64 a0_0, .slice A0_1 l0_1.length c0_1] 24 ?_; intro gb271 hg w9 hbox hb; have BK271 := Aside0.mk (hbox); have GW271 := zG HB hg; have GE271 := zG HB hg; replace HB := zS HB hb; clear hb hbox hg) | ((with_reducible refine gate_callee (f := 36) rfl ?_); refine zL (some 10) Try.func36 #[.slice A2 l2.length c2] ?_; (with_reducible refine (api_Divisor_int_36.calls _ _ l2 t272 _ ?side1 ?side2 A5.out).mono ?_); (case side1 => exact Kd.C_below HR2.out zB); (case side2 => exact HC2.out); rintro e w10 ⟨v273, rfl, ho0, hb⟩; refine ⟨_, rfl, ?_⟩; have HO274 := Aside0.mk (Kd.R_lower ho0 (below_size zB)); replace BK271 := zb BK271 hb; replace HB := zS HB hb; (try clear hb); (try clear ho0); obtain ⟨Ao11, co11, eo11⟩ := Kd.R_slice HO274.out; subst eo11; have p275 : 0 ≤ (a3 : Int) := of_decide_eq_true ‹_›; have q275 : a3 < (t272.length : Int) := of_decide_eq_true ‹_›; obtain ⟨ad275, e275, hx275_0⟩ := Kd.at_int (Kd.R_reads' HO274.out).2.2 a3 p275 q275; cases e275; replace p275 := eq_true p275; replace q275 := eq_true q275; have p8 : 0 ≤ (a3 : Int) := of_decide_eq_true ‹_›; have q8 : (a3 : Int) < ((t272.length : Int) : Int) := of_decide_eq_true ‹_›; obtain ⟨go8, co8, eo8, gb8, gl8, cl8, HG8⟩ := Kd.R_form HO274.out (by omega); (first | cases eo8 | (injection eo8 with ea_ en_ ec_; (first | subst ea_ | (injection ea_ with ea_; subst ea_)); subst ec_; clear en_)); have GB8 := Aside0.mk gb8; have GG8 := Aside0.mk HG8; clear gb8 gl8 HG8; (first | simp only [add_plain] at hx275_0 | skip); obtain ⟨hx8_0, hf8_0⟩ := Kd.R_celln 0 HO274.out (a3 : Int) p8 q8; replace p8 := eq_true p8; replace q8 := eq_true q8; obtain ⟨hy12_, hz12_⟩ := Kd.R_celln 0 HO274.out (a3 : Int) (of_decide_eq_true ‹_›) (of_decide_eq_true ‹_›); have HP12 := Kd.R_putg HO274.out (a3 : Int) (wrap64 ((rd t272 a3) + 1))) | ((with_reducible refine gate_store (t := 3) (p := 16) rfl ?_); refine store_event (t := 3) (p := 16) (v := ?vo_w13) (w1 := (w10.setCell ⟨go8, (a3 : Int).toNat, none⟩ (.int .i64 (wrap64 ((rd t272 a3) + 1))))) ?hg ?ho ?hn ?hr ?_; (case ho => rfl); (case hg => rfl); (case hn => rfl); (case hr => first | (go_simp; done) | (go_simp; rfl)); intro w13 hw; have hg : w10.grownBy w13 (some go8) := (by rw [hw]; exact HP12.2); have hp_ : Kd.R (Kd.int .i64) 3 w13 w.heap.size (fun _ => True) (.slice (some ⟨go8, 0, none⟩) t272.length co11) y276 := (by rw [hw, Ny276.out]; exact HP12.1); clear HP12; replace BK271 := Aside0.mk (blk_grown (zK BK271) hg (Kd.R_ne HO274.out BK271.out (by decide))); replace HO274 := Aside0.mk (hp_); replace HB := Aside0.mk ((by rw [hw]; exact below_set (HB.out) GB8.out : Below w.heap.size w w13)); clear hg hw hp_))
   go_loopg [] k (fun kq w' => ∃ (x2_1 : List Int), Aside0 (superstable_raised.l0 kq a1 x2_1 a3 a0_0 l0_1 = some r) ∧ Aside0 (kq ≤ k) ∧ Aside0 (Kd.R (Kd.int .i64) 3 w' w.heap.size (fun _ => True) (.slice (some ⟨go8, 0, none⟩) t272.length co11) x2_1) ∧ Aside0 (w'.heap[gb271]? = some (.cells #[.int .i64 a0_0, (.slice A0_1 l0_1.length c0_1)] 24 (0, 0))) ∧ Aside0 (Below w.heap.size w w'))
   case atStart => exact ⟨(y276), H', ⟨Nat.le_refl _⟩, ⟨zR HO274⟩, ⟨zK BK271⟩, ⟨zB⟩⟩
   case round =>
    clear H'
    try clear c2
    try clear p2
    try clear q2
    try clear hx2
    try clear c3
    try clear c5
    try clear c6
    try clear c6b0
    try clear p6
    try clear c7
    try clear c7b0
    try clear p8
    try clear q8
    try clear hx8
    try clear hf8
    try clear hx275_0
    try clear hx8_0
    try clear p275
    try clear p8
    try clear q275
    try clear q8
    obtain ⟨x2_1, HA, HK1, HO_2, BK271, HB⟩ := hrel
    have hl2_1 := (Kd.R_reads' HO_2.out).1
    rw [hl2_1] at HO_2
    (try simp only [hl2_1])
    (try simp only [hl2_1] at BK271)
    cases gk with
    | zero => exact absurd HA.out (by simp [superstable_raised.l0])
    | succ k1 =>
     have H := HA.out
     clear HA
     simp only [superstable_raised.l0] at H
     replace H := Option.bind_eq_some_iff.mp H
     obtain ⟨t277, A140, H⟩ := H
     replace H : (if t277 = true then (if 0 ≤ a3 then (if a3 < (x2_1.length : Int) then (superstable_raised.l0 k1 a1 (x2_1.set (a3 : Int).toNat (wrap64 ((rd x2_1 a3) + 1))) a3 a0_0 l0_1) else (none)) else (none)) else (if 0 ≤ a3 then (if a3 < (x2_1.length : Int) then (some (x2_1.set (a3 : Int).toNat (wrap64 ((rd x2_1 a3) - 1)))) else (none)) else (none))) = some r := H
     have A14 := Aside0.mk A140
     clear A140
     by_cases c15 : t277 = true
     ·subst c15
      have H1 : (if 0 ≤ a3 then (if a3 < (x2_1.length : Int) then (superstable_raised.l0 k1 a1 (x2_1.set (a3 : Int).toNat (wrap64 ((rd x2_1 a3) + 1))) a3 a0_0 l0_1) else (none)) else (none)) = some r := by rw [if_pos rfl] at H; exact H
      clear H
      have H := H1
      clear H1
      by_cases c16 : 0 ≤ a3
      ·rw [if_pos c16] at H
       have c16b0 : decide (0 ≤ a3) = true := decide_eq_true c16
       clear c16
       by_cases c17 : a3 < (x2_1.length : Int)
       ·rw [if_pos c17] at H
        have c17b0 : decide (a3 < (x2_1.length : Int)) = true := decide_eq_true c17
        clear c17
        obtain ⟨y279, hy279⟩ : ∃ y_ : List Int, y_ = (x2_1.set (a3 : Int).toNat (wrap64 ((rd x2_1 a3) + 1))) := ⟨_, rfl⟩
        replace H : (superstable_raised.l0 k1 a1 y279 a3 a0_0 l0_1) = some r := by first | (rw [hy279]; with_reducible exact H) | (have H2_ := (Option.bind_some _ _).symm.trans H; rw [hy279]; with_reducible exact H2_) | (have H2_ := (Option.bind_some _ _).symm.trans H; with_reducible exact H2_) | with_reducible exact H | (rw [hy279]; exact H) | exact H
        have Ny279 := Aside0.mk hy279
        clear hy279
        have H' := Aside0.mk H
        clear H
        obtain ⟨hcz19_0, hcz19_1, hfz19_0, hfz19_1⟩ := zD2 BK271
        go_wp2_with (first | ((with_reducible refine gate_callee (f := 72) rfl ?_); refine zL (some 20) Try.func72 #[.agg #[.int .i64 a0_0, .slice A0_1 l0_1.length c0_1], .int .i64 a1, .slice (some ⟨go8, 0, none⟩) x2_1.length co11] ?_; (with_reducible refine (superstable_calm.calls k1 a0_0 _ _ l0_1 a1 _ _ x2_1 true _ ?side1 ?side2 ?side3 ?side4 A14.out).mono ?_); (case side1 => exact Kd.C_below HR0_1.out zB); (case side2 => exact HC0_1.out); (case side3 => exact zC (Kd.R_reads' HO_2.out).2.2); (case side4 => exact (Kd.R_reads' HO_2.out).2.1); rintro e w20 ⟨rfl, hb⟩; refine ⟨_, rfl, ?_⟩; replace HO_2 := zbR HO_2 hb; replace BK271 := zb BK271 hb; replace HB := zS HB hb; (try clear hb); have p278 : 0 ≤ (a3 : Int) := of_decide_eq_true ‹_›; have q278 : a3 < (x2_1.length : Int) := of_decide_eq_true ‹_›; obtain ⟨ad278, e278, hx278_0⟩ := Kd.at_int (Kd.R_reads' HO_2.out).2.2 a3 p278 q278; obtain rfl : (⟨go8, 0, none⟩ : Addr) = ad278 := (by injection e278); (first | simp only [add_plain] at hx278_0 | simp only [add_at] at hx278_0 | simp only [Addr.add, Nat.zero_add] at hx278_0 | skip); replace p278 := eq_true p278; replace q278 := eq_true q278; have p18 : 0 ≤ (a3 : Int) := of_decide_eq_true ‹_›; have q18 : (a3 : Int) < ((x2_1.length : Int) : Int) := of_decide_eq_true ‹_›; obtain ⟨hx18_0, hf18_0⟩ := Kd.R_celln 0 HO_2.out (a3 : Int) p18 q18; replace p18 := eq_true p18; replace q18 := eq_true q18; obtain ⟨hy21_, hz21_⟩ := Kd.R_celln 0 HO_2.out (a3 : Int) (of_decide_eq_true ‹_›) (of_decide_eq_true ‹_›); have HP21 := Kd.R_putg HO_2.out (a3 : Int) (wrap64 ((rd x2_1 a3) + 1))) | ((with_reducible refine gate_store (t := 3) (p := 26) rfl ?_); refine store_event (t := 3) (p := 26) (v := ?vo_w22) (w1 := (w20.setCell ⟨go8, (a3 : Int).toNat, none⟩ (.int .i64 (wrap64 ((rd x2_1 a3) + 1))))) ?hg ?ho ?hn ?hr ?_; (case ho => rfl); (case hg => rfl); (case hn => rfl); (case hr => first | (go_simp; done) | (go_simp; rfl)); intro w22 hw; have hg : w20.grownBy w22 (some go8) := (by rw [hw]; exact HP21.2); have hp_ : Kd.R (Kd.int .i64) 3 w22 w.heap.size (fun _ => True) (.slice (some ⟨go8, 0, none⟩) x2_1.length co11) y279 := (by rw [hw, Ny279.out]; exact HP21.1); clear HP21; replace BK271 := Aside0.mk (blk_grown (zK BK271) hg (Kd.R_ne HO_2.out BK271.out (by decide))); replace HO_2 := Aside0.mk (hp_); replace HB := Aside0.mk ((by rw [hw]; exact below_set (HB.out) GB8.out : Below w.heap.size w w22)); clear hg hw hp_))
        (try simp only [← hl2_1])
        go_roundg k1
        case measure => have := HK1.out; omega
        case rel => exact ⟨(y279), H', ⟨by have := HK1.out; omega⟩, ⟨by (try simp only [hl2_1]); (with_reducible repeat (first | apply Kd.R_alloc | apply Kd.R_drewN | apply Kd.R_drew)); exact HO_2.out⟩, ⟨by (try simp only [hl2_1]); exact zK BK271⟩, ⟨zB⟩⟩
       ·rw [if_neg c17] at H
        exact absurd H (by simp)
      ·rw [if_neg c16] at H
       exact absurd H (by simp)
     ·replace c15 := Bool.eq_false_iff.mpr c15
      subst c15
      have H1 : (if 0 ≤ a3 then (if a3 < (x2_1.length : Int) then (some (x2_1.set (a3 : Int).toNat (wrap64 ((rd x2_1 a3) - 1)))) else (none)) else (none)) = some r := by rw [if_neg (show ¬ (false = true) by decide)] at H; exact H
      clear H
      have H := H1
      clear H1
      by_cases c23 : 0 ≤ a3
      ·rw [if_pos c23] at H
       have c23b0 : decide (0 ≤ a3) = true := decide_eq_true c23
       clear c23
       by_cases c24 : a3 < (x2_1.length : Int)
       ·rw [if_pos c24] at H
        have c24b0 : decide (a3 < (x2_1.length : Int)) = true := decide_eq_true c24
        clear c24
        obtain ⟨y281, hy281⟩ : ∃ y_ : List Int, y_ = (x2_1.set (a3 : Int).toNat (wrap64 ((rd x2_1 a3) - 1))) := ⟨_, rfl⟩
        replace H : (some y281) = some r := by first | (rw [hy281]; with_reducible exact H) | (have H2_ := (Option.bind_some _ _).symm.trans H; rw [hy281]; with_reducible exact H2_) | (have H2_ := (Option.bind_some _ _).symm.trans H; with_reducible exact H2_) | with_reducible exact H | (rw [hy281]; exact H) | exact H
        have Ny281 := Aside0.mk hy281
        clear hy281
        obtain rfl := Option.some.inj H
        obtain ⟨hcz26_0, hcz26_1, hfz26_0, hfz26_1⟩ := zD2 BK271
        go_wp2_with (first | ((with_reducible refine gate_callee (f := 72) rfl ?_); refine zL (some 20) Try.func72 #[.agg #[.int .i64 a0_0, .slice A0_1 l0_1.length c0_1], .int .i64 a1, .slice (some ⟨go8, 0, none⟩) x2_1.length co11] ?_; (with_reducible refine (superstable_calm.calls k1 a0_0 _ _ l0_1 a1 _ _ x2_1 false _ ?side1 ?side2 ?side3 ?side4 A14.out).mono ?_); (case side1 => exact Kd.C_below HR0_1.out zB); (case side2 => exact HC0_1.out); (case side3 => exact zC (Kd.R_reads' HO_2.out).2.2); (case side4 => exact (Kd.R_reads' HO_2.out).2.1); rintro e w27 ⟨rfl, hb⟩; refine ⟨_, rfl, ?_⟩; replace HO_2 := zbR HO_2 hb; replace BK271 := zb BK271 hb; replace HB := zS HB hb; (try clear hb); have p280 : 0 ≤ (a3 : Int) := of_decide_eq_true ‹_›; have q280 : a3 < (x2_1.length : Int) := of_decide_eq_true ‹_›; obtain ⟨ad280, e280, hx280_0⟩ := Kd.at_int (Kd.R_reads' HO_2.out).2.2 a3 p280 q280; obtain rfl : (⟨go8, 0, none⟩ : Addr) = ad280 := (by injection e280); (first | simp only [add_plain] at hx280_0 | simp only [add_at] at hx280_0 | simp only [Addr.add, Nat.zero_add] at hx280_0 | skip); replace p280 := eq_true p280; replace q280 := eq_true q280; have p25 : 0 ≤ (a3 : Int) := of_decide_eq_true ‹_›; have q25 : (a3 : Int) < ((x2_1.length : Int) : Int) := of_decide_eq_true ‹_›; obtain ⟨hx25_0, hf25_0⟩ := Kd.R_celln 0 HO_2.out (a3 : Int) p25 q25; replace p25 := eq_true p25; replace q25 := eq_true q25; obtain ⟨hy28_, hz28_⟩ := Kd.R_celln 0 HO_2.out (a3 : Int) (of_decide_eq_true ‹_›) (of_decide_eq_true ‹_›); have HP28 := Kd.R_putg HO_2.out (a3 : Int) (wrap64 ((rd x2_1 a3) - 1))) | ((with_reducible refine gate_store (t := 3) (p := 32) rfl ?_); refine store_event (t := 3) (p := 32) (v := ?vo_w29) (w1 := (w27.setCell ⟨go8, (a3 : Int).toNat, none⟩ (.int .i64 (wrap64 ((rd x2_1 a3) - 1))))) ?hg ?ho ?hn ?hr ?_; (case ho => rfl); (case hg => rfl); (case hn => rfl); (case hr => first | (go_simp; done) | (go_simp; rfl)); intro w29 hw; have hg : w27.grownBy w29 (some go8) := (by rw [hw]; exact HP28.2); have hp_ : Kd.R (Kd.int .i64) 3 w29 w.heap.size (fun _ => True) (.slice (some ⟨go8, 0, none⟩) x2_1.length co11) y281 := (by rw [hw, Ny281.out]; exact HP28.1); clear HP28; replace BK271 := Aside0.mk (blk_grown (zK BK271) hg (Kd.R_ne HO_2.out BK271.out (by decide))); replace HO_2 := Aside0.mk (hp_); replace HB := Aside0.mk ((by rw [hw]; exact below_set (HB.out) GB8.out : Below w.heap.size w w29)); clear hg hw hp_))
        go_ret
        exact ⟨_, zE, by (with_reducible repeat (first | apply Kd.R_alloc | apply Kd.R_drewN | apply Kd.R_drew)); exact HO_2.out, zB⟩
       ·rw [if_neg c24] at H
        exact absurd H (by simp)
      ·rw [if_neg c23] at H
       exact absurd H (by simp)
  ·rw [if_neg c7] at H
   exact absurd H (by simp)
 ·rw [if_neg c6] at H
  exact absurd H (by simp)
def superstable_Raise.l0 : Nat → Int → List Int → Int → Int → Int → List (S66) → Option (List Int × Int)
 | 0, _, _, _, _, _, _ => none
 | k + 1, x1, x10, x29, x30, x298000, x298001 => if x30 < x29 then (if x30 = x1 then (superstable_Raise.l0 k x1 x10 x29 (wrap64 (x30 + 1)) x298000 x298001) else ((superstable_raised.f k x298000 x298001 x1 x10 x30).bind fun t303 => (superstable_Raise.l0 k x1 t303 x29 (wrap64 (x30 + 1)) x298000 x298001))) else (some (x10, 0))
def superstable_Raise.f (k : Nat) (a0_0 : Int) (l0_1 : List (S66)) (a1 : Int) (l2 : List Int) : Option (List Int × Int) := (burning_Superstable.f k a0_0 l0_1 a1 l2).bind fun bt298 => (if bt298.2 = 0 then (if bt298.1 = true then ((api_Divisor_int_36.f l2).bind fun t300 => (superstable_Raise.l0 k a1 t300 (t300.length : Int) 0 a0_0 l0_1)) else (some (([] : List Int), 15))) else (some (([] : List Int), bt298.2)))
theorem superstable_Raise.calls (k : Nat) (a0_0 : Int) (A0_1 : Option Addr) (c0_1 : Nat) (l0_1 : List (S66)) (a1 : Int) (A2 : Option Addr) (c2 : Nat) (l2 : List Int) (r1 : List Int) (r2 : Int) (w : World) (hr0_1 : Kd.C k66 w A0_1 l0_1.length l0_1) (hc0_1 : l0_1.length ≤ c0_1) (hr2 : Kd.C (Kd.int .i64) w A2 l2.length l2) (hc2 : l2.length ≤ c2) (h : superstable_Raise.f k a0_0 l0_1 a1 l2 = some (r1, r2)) :
  Calls Try.prog 22 #[.agg #[.int .i64 a0_0, .slice A0_1 l0_1.length c0_1], .int .i64 a1, .slice A2 l2.length c2] w fun e w' => ∃ v0_ : Value, e = .returned (.tuple #[v0_, .int .i64 r2]) ∧ Kd.R (Kd.int .i64) 3 w' w.heap.size (fun _ => True) v0_ r1 ∧ Below w.heap.size w w' := by
 have hu24 := Try.underlying24
 have HR0_1 := Aside0.mk hr0_1
 have HC0_1 := Aside0.mk hc0_1
 clear hr0_1 hc0_1
 have HR2 := Aside0.mk hr2
 have HC2 := Aside0.mk hc2
 clear hr2 hc2
 have HB := Aside0.mk (Below.refl w.heap.size w)
 have H : ((burning_Superstable.f k a0_0 l0_1 a1 l2).bind fun bt298 => (if bt298.2 = 0 then (if bt298.1 = true then ((api_Divisor_int_36.f l2).bind fun t300 => (superstable_Raise.l0 k a1 t300 (t300.length : Int) 0 a0_0 l0_1)) else (some (([] : List Int), 15))) else (some (([] : List Int), bt298.2)))) = some (r1, r2) := h
 clear h
 replace H := Option.bind_eq_some_iff.mp H
 obtain ⟨⟨t298, t299⟩, A40, H⟩ := H
 replace H : (if t299 = 0 then (if t298 = true then ((api_Divisor_int_36.f l2).bind fun t300 => (superstable_Raise.l0 k a1 t300 (t300.length : Int) 0 a0_0 l0_1)) else (some (([] : List Int), 15))) else (some (([] : List Int), t299))) = some (r1, r2) := H
 have A4 := Aside0.mk A40
 clear A40
 by_cases c5 : t299 = 0
 ·rw [if_pos c5] at H
  have c5b0 : (t299 == 0) = true := beq_iff_eq.mpr c5
  have c5b1 : (t299 != 0) = false := bne_eq_false_iff_eq.mpr c5
  clear c5
  by_cases c6 : t298 = true
  ·subst c6
   have H1 : ((api_Divisor_int_36.f l2).bind fun t300 => (superstable_Raise.l0 k a1 t300 (t300.length : Int) 0 a0_0 l0_1)) = some (r1, r2) := by rw [if_pos rfl] at H; exact H
   clear H
   have H := H1
   clear H1
   replace H := Option.bind_eq_some_iff.mp H
   obtain ⟨t300, A70, H⟩ := H
   replace H : (superstable_Raise.l0 k a1 t300 (t300.length : Int) 0 a0_0 l0_1) = some (r1, r2) := H
   have A7 := Aside0.mk A70
   clear A70
   have H' := Aside0.mk H
   clear H
   go_enter Try.func22, Try.ntmps22
   go_wp2_with (first | ((with_reducible refine gate_dst (N := 3) rfl ?_); refine zX 3 #[.int .i64 a0_0, .slice A0_1 l0_1.length c0_1] 24 ?_; intro gb297 hg w8 hbox hb; have BK297 := Aside0.mk (hbox); have GW297 := zG HB hg; have GE297 := zG HB hg; replace HB := zS HB hb; clear hb hbox hg; obtain ⟨hcz9_0, hcz9_1, hfz9_0, hfz9_1⟩ := zD2 BK297) | ((with_reducible refine gate_callee (f := 35) rfl ?_); refine zL (some 16) Try.func35 #[.agg #[.int .i64 a0_0, .slice A0_1 l0_1.length c0_1], .int .i64 a1, .slice A2 l2.length c2] ?_; (with_reducible refine (burning_Superstable.calls k a0_0 _ _ l0_1 a1 _ _ l2 true t299 _ ?side1 ?side2 ?side3 ?side4 A4.out).mono ?_); (case side1 => exact Kd.C_below HR0_1.out zB); (case side2 => exact HC0_1.out); (case side3 => exact Kd.C_below HR2.out zB); (case side4 => exact HC2.out); rintro e w10 ⟨rfl, hb⟩; refine ⟨_, rfl, ?_⟩; replace BK297 := zb BK297 hb; replace HB := zS HB hb; (try clear hb)) | ((with_reducible refine gate_callee (f := 36) rfl ?_); refine zL (some 27) Try.func36 #[.slice A2 l2.length c2] ?_; (with_reducible refine (api_Divisor_int_36.calls _ _ l2 t300 _ ?side1 ?side2 A7.out).mono ?_); (case side1 => exact Kd.C_below HR2.out zB); (case side2 => exact HC2.out); rintro e w11 ⟨v301, rfl, ho0, hb⟩; refine ⟨_, rfl, ?_⟩; have HO302 := Aside0.mk (Kd.R_lower ho0 (below_size zB)); replace BK297 := zb BK297 hb; replace HB := zS HB hb; (try clear hb); (try clear ho0); obtain ⟨Ao12, co12, eo12⟩ := Kd.R_slice HO302.out; subst eo12))
   go_loopg [10, 30] k (fun kq v10 v30 w' => ∃ (x10_1 : List Int) (x30_1 : Int), v30 = .int .i64 x30_1 ∧ Aside0 (superstable_Raise.l0 kq a1 x10_1 (t300.length : Int) x30_1 a0_0 l0_1 = some (r1, r2)) ∧ Aside0 (kq ≤ k) ∧ Aside0 (Kd.R (Kd.int .i64) 3 w' w.heap.size (fun _ => True) v10 x10_1) ∧ Aside0 (w'.heap[gb297]? = some (.cells #[.int .i64 a0_0, (.slice A0_1 l0_1.length c0_1)] 24 (0, 0))) ∧ Aside0 (Below w.heap.size w w'))
   case atStart => exact ⟨(t300), (0), zT, H', ⟨Nat.le_refl _⟩, ⟨zR HO302⟩, ⟨zK BK297⟩, ⟨zB⟩⟩
   case round =>
    clear H'
    try clear c2
    try clear p2
    try clear c3
    try clear c5
    try clear c5b0
    try clear c5b1
    try clear c6
    try clear hcz9_0
    try clear hcz9_1
    try clear hfz9_0
    try clear hfz9_1
    obtain ⟨x10_1, x30_1, rfl, HA, HK1, HO_10, BK297, HB⟩ := hrel
    cases gk with
    | zero => exact absurd HA.out (by simp [superstable_Raise.l0])
    | succ k1 =>
     have H := HA.out
     clear HA
     simp only [superstable_Raise.l0] at H
     by_cases c13 : x30_1 < (t300.length : Int)
     ·rw [if_pos c13] at H
      have c13b0 : decide (x30_1 < (t300.length : Int)) = true := decide_eq_true c13
      clear c13
      by_cases c14 : x30_1 = a1
      ·rw [if_pos c14] at H
       have c14b0 : (x30_1 == a1) = true := beq_iff_eq.mpr c14
       have c14b1 : (x30_1 != a1) = false := bne_eq_false_iff_eq.mpr c14
       clear c14
       have H' := Aside0.mk H
       clear H
       go_wp2
       go_roundg k1
       case measure => have := HK1.out; omega
       case rel => exact ⟨(x10_1), (wrap64 (x30_1 + 1)), zT, H', ⟨by have := HK1.out; omega⟩, ⟨zR HO_10⟩, ⟨zK BK297⟩, ⟨zB⟩⟩
      ·rw [if_neg c14] at H
       have c14b0 : (x30_1 == a1) = false := beq_eq_false_iff_ne.mpr c14
       have c14b1 : (x30_1 != a1) = true := bne_iff_ne.mpr c14
       replace H := Option.bind_eq_some_iff.mp H
       obtain ⟨t303, A150, H⟩ := H
       replace H : (superstable_Raise.l0 k1 a1 t303 (t300.length : Int) (wrap64 (x30_1 + 1)) a0_0 l0_1) = some (r1, r2) := H
       have A15 := Aside0.mk A150
       clear A150
       have H' := Aside0.mk H
       clear H
       obtain ⟨hcz16_0, hcz16_1, hfz16_0, hfz16_1⟩ := zD2 BK297
       obtain ⟨Ao17, co17, eo17⟩ := Kd.R_slice HO_10.out
       subst eo17
       go_wp2_with (first | ((with_reducible refine gate_callee (f := 53) rfl ?_); refine zL (some 40) Try.func53 #[.agg #[.int .i64 a0_0, .slice A0_1 l0_1.length c0_1], .int .i64 a1, .slice Ao17 x10_1.length co17, .int .i64 x30_1] ?_; (with_reducible refine (superstable_raised.calls k1 a0_0 _ _ l0_1 a1 _ _ x10_1 x30_1 t303 _ ?side1 ?side2 ?side3 ?side4 A15.out).mono ?_); (case side1 => exact Kd.C_below HR0_1.out zB); (case side2 => exact HC0_1.out); (case side3 => exact zC (Kd.R_reads' HO_10.out).2.2); (case side4 => exact (Kd.R_reads' HO_10.out).2.1); rintro e w18 ⟨v304, rfl, ho0, hb⟩; refine ⟨_, rfl, ?_⟩; have HO305 := Aside0.mk (Kd.R_lower (Kd.R_new' ho0 (Kd.R_lt (zR HO_10))) (below_size zB)); replace HO_10 := zeRR HO_10 ho0 hb; replace BK297 := zb BK297 hb; replace HB := zS HB hb; (try clear hb); (try clear ho0)))
       go_roundg k1
       case measure => have := HK1.out; omega
       case rel => exact ⟨(t303), (wrap64 (x30_1 + 1)), zT, H', ⟨by have := HK1.out; omega⟩, ⟨by (with_reducible repeat (first | apply Kd.R_alloc | apply Kd.R_drewN | apply Kd.R_drew)); exact Kd.R_mono HO305.out (fun _ hk => trivial)⟩, ⟨zK BK297⟩, ⟨zB⟩⟩
     ·rw [if_neg c13] at H
      have c13b0 : decide (x30_1 < (t300.length : Int)) = false := decide_eq_false c13
      clear c13
      simp only [Option.some.injEq, Prod.mk.injEq] at H
      obtain ⟨rfl, rfl⟩ := H
      go_wp2
      go_ret2
      exact ⟨_, zE, by (with_reducible repeat (first | apply Kd.R_alloc | apply Kd.R_drewN | apply Kd.R_drew)); exact HO_10.out, zB⟩
  ·replace c6 := Bool.eq_false_iff.mpr c6
   subst c6
   have H1 : (some (([] : List Int), 15)) = some (r1, r2) := by rw [if_neg (show ¬ (false = true) by decide)] at H; exact H
   clear H
   have H := H1
   clear H1
   simp only [Option.some.injEq, Prod.mk.injEq] at H
   obtain ⟨rfl, rfl⟩ := H
   go_enter Try.func22, Try.ntmps22
   go_wp2_with (first | ((with_reducible refine gate_dst (N := 3) rfl ?_); refine zX 3 #[.int .i64 a0_0, .slice A0_1 l0_1.length c0_1] 24 ?_; intro gb297 hg w19 hbox hb; have BK297 := Aside0.mk (hbox); have GW297 := zG HB hg; have GE297 := zG HB hg; replace HB := zS HB hb; clear hb hbox hg; obtain ⟨hcz20_0, hcz20_1, hfz20_0, hfz20_1⟩ := zD2 BK297) | ((with_reducible refine gate_callee (f := 35) rfl ?_); refine zL (some 16) Try.func35 #[.agg #[.int .i64 a0_0, .slice A0_1 l0_1.length c0_1], .int .i64 a1, .slice A2 l2.length c2] ?_; (with_reducible refine (burning_Superstable.calls k a0_0 _ _ l0_1 a1 _ _ l2 false t299 _ ?side1 ?side2 ?side3 ?side4 A4.out).mono ?_); (case side1 => exact Kd.C_below HR0_1.out zB); (case side2 => exact HC0_1.out); (case side3 => exact Kd.C_below HR2.out zB); (case side4 => exact HC2.out); rintro e w21 ⟨rfl, hb⟩; refine ⟨_, rfl, ?_⟩; replace BK297 := zb BK297 hb; replace HB := zS HB hb; (try clear hb)))
   go_ret2
   exact ⟨_, zE, by first | exact Kd.R_nil _ _ _ _ _ | exact Kd.N_nil _ _ _ _ _ | exact Kd.V_nil _ _ _ _ _ | exact Kd.Q_nil _ _ _ _ _ | exact Kd.S_nil _ _ _ _ _, zB⟩
 ·rw [if_neg c5] at H
  have c5b0 : (t299 == 0) = false := beq_eq_false_iff_ne.mpr c5
  have c5b1 : (t299 != 0) = true := bne_iff_ne.mpr c5
  simp only [Option.some.injEq, Prod.mk.injEq] at H
  obtain ⟨rfl, rfl⟩ := H
  go_enter Try.func22, Try.ntmps22
  go_wp2_with (first | ((with_reducible refine gate_dst (N := 3) rfl ?_); refine zX 3 #[.int .i64 a0_0, .slice A0_1 l0_1.length c0_1] 24 ?_; intro gb297 hg w22 hbox hb; have BK297 := Aside0.mk (hbox); have GW297 := zG HB hg; have GE297 := zG HB hg; replace HB := zS HB hb; clear hb hbox hg; obtain ⟨hcz23_0, hcz23_1, hfz23_0, hfz23_1⟩ := zD2 BK297) | ((with_reducible refine gate_callee (f := 35) rfl ?_); refine zL (some 16) Try.func35 #[.agg #[.int .i64 a0_0, .slice A0_1 l0_1.length c0_1], .int .i64 a1, .slice A2 l2.length c2] ?_; (with_reducible refine (burning_Superstable.calls k a0_0 _ _ l0_1 a1 _ _ l2 t298 t299 _ ?side1 ?side2 ?side3 ?side4 A4.out).mono ?_); (case side1 => exact Kd.C_below HR0_1.out zB); (case side2 => exact HC0_1.out); (case side3 => exact Kd.C_below HR2.out zB); (case side4 => exact HC2.out); rintro e w24 ⟨rfl, hb⟩; refine ⟨_, rfl, ?_⟩; replace BK297 := zb BK297 hb; replace HB := zS HB hb; (try clear hb)))
  go_ret2
  exact ⟨_, zE, by first | exact Kd.R_nil _ _ _ _ _ | exact Kd.N_nil _ _ _ _ _ | exact Kd.V_nil _ _ _ _ _ | exact Kd.Q_nil _ _ _ _ _ | exact Kd.S_nil _ _ _ _ _, zB⟩
def superstable_Dual.l0 : Nat → List Int → List Int → Int → Int → Option (List Int × Int)
 | 0, _, _, _, _ => none
 | k + 1, x12, x46, x47, x48 => if x48 < x47 then (if 0 ≤ x48 then (if x48 < (x46.length : Int) then (if x48 < (x12.length : Int) then (superstable_Dual.l0 k (x12.set (x48 : Int).toNat (wrap64 ((rd x12 x48) - (rd x46 x48)))) x46 x47 (wrap64 (x48 + 1))) else (none)) else (none)) else (none)) else (some (x12, 0))
def superstable_Dual.f (k : Nat) (a0_0 : Int) (l0_1 : List (S66)) (a1 : Int) (l2 : List Int) : Option (List Int × Int) := (burning_Superstable.f k a0_0 l0_1 a1 l2).bind fun bt342 => (if bt342.2 = 0 then ((stabilize_Stable.f k a0_0 l0_1 a1 l2).bind fun bt344 => (if bt344.2 = 0 then (if bt344.1 = true then ((superstable_first.f k a0_0 l0_1 a1).bind fun bt346 => (if bt346.2 = 0 then (superstable_Dual.l0 k bt346.1 l2 (l2.length : Int) 0) else (some (([] : List Int), bt346.2)))) else (some (([] : List Int), 15))) else (some (([] : List Int), bt344.2)))) else (some (([] : List Int), bt342.2)))
theorem superstable_Dual.calls (k : Nat) (a0_0 : Int) (A0_1 : Option Addr) (c0_1 : Nat) (l0_1 : List (S66)) (a1 : Int) (A2 : Option Addr) (c2 : Nat) (l2 : List Int) (r1 : List Int) (r2 : Int) (w : World) (hr0_1 : Kd.C k66 w A0_1 l0_1.length l0_1) (hc0_1 : l0_1.length ≤ c0_1) (hr2 : Kd.C (Kd.int .i64) w A2 l2.length l2) (hc2 : l2.length ≤ c2) (h : superstable_Dual.f k a0_0 l0_1 a1 l2 = some (r1, r2)) :
  Calls Try.prog 24 #[.agg #[.int .i64 a0_0, .slice A0_1 l0_1.length c0_1], .int .i64 a1, .slice A2 l2.length c2] w fun e w' => ∃ v0_ : Value, e = .returned (.tuple #[v0_, .int .i64 r2]) ∧ Kd.R (Kd.int .i64) 3 w' w.heap.size (fun _ => True) v0_ r1 ∧ Below w.heap.size w w' := by
 have hu24 := Try.underlying24
 have HR0_1 := Aside0.mk hr0_1
 have HC0_1 := Aside0.mk hc0_1
 clear hr0_1 hc0_1
 have HR2 := Aside0.mk hr2
 have HC2 := Aside0.mk hc2
 clear hr2 hc2
 have HB := Aside0.mk (Below.refl w.heap.size w)
 have H : ((burning_Superstable.f k a0_0 l0_1 a1 l2).bind fun bt342 => (if bt342.2 = 0 then ((stabilize_Stable.f k a0_0 l0_1 a1 l2).bind fun bt344 => (if bt344.2 = 0 then (if bt344.1 = true then ((superstable_first.f k a0_0 l0_1 a1).bind fun bt346 => (if bt346.2 = 0 then (superstable_Dual.l0 k bt346.1 l2 (l2.length : Int) 0) else (some (([] : List Int), bt346.2)))) else (some (([] : List Int), 15))) else (some (([] : List Int), bt344.2)))) else (some (([] : List Int), bt342.2)))) = some (r1, r2) := h
 clear h
 replace H := Option.bind_eq_some_iff.mp H
 obtain ⟨⟨t342, t343⟩, A40, H⟩ := H
 replace H : (if t343 = 0 then ((stabilize_Stable.f k a0_0 l0_1 a1 l2).bind fun bt344 => (if bt344.2 = 0 then (if bt344.1 = true then ((superstable_first.f k a0_0 l0_1 a1).bind fun bt346 => (if bt346.2 = 0 then (superstable_Dual.l0 k bt346.1 l2 (l2.length : Int) 0) else (some (([] : List Int), bt346.2)))) else (some (([] : List Int), 15))) else (some (([] : List Int), bt344.2)))) else (some (([] : List Int), t343))) = some (r1, r2) := H
 have A4 := Aside0.mk A40
 clear A40
 by_cases c5 : t343 = 0
 ·rw [if_pos c5] at H
  have c5b0 : (t343 == 0) = true := beq_iff_eq.mpr c5
  have c5b1 : (t343 != 0) = false := bne_eq_false_iff_eq.mpr c5
  clear c5
  replace H := Option.bind_eq_some_iff.mp H
  obtain ⟨⟨t344, t345⟩, A60, H⟩ := H
  replace H : (if t345 = 0 then (if t344 = true then ((superstable_first.f k a0_0 l0_1 a1).bind fun bt346 => (if bt346.2 = 0 then (superstable_Dual.l0 k bt346.1 l2 (l2.length : Int) 0) else (some (([] : List Int), bt346.2)))) else (some (([] : List Int), 15))) else (some (([] : List Int), t345))) = some (r1, r2) := H
  have A6 := Aside0.mk A60
  clear A60
  by_cases c7 : t345 = 0
  ·rw [if_pos c7] at H
   have c7b0 : (t345 == 0) = true := beq_iff_eq.mpr c7
   have c7b1 : (t345 != 0) = false := bne_eq_false_iff_eq.mpr c7
   clear c7
   by_cases c8 : t344 = true
   ·subst c8
    have H1 : ((superstable_first.f k a0_0 l0_1 a1).bind fun bt346 => (if bt346.2 = 0 then (superstable_Dual.l0 k bt346.1 l2 (l2.length : Int) 0) else (some (([] : List Int), bt346.2)))) = some (r1, r2) := by rw [if_pos rfl] at H; exact H
    clear H
    have H := H1
    clear H1
    replace H := Option.bind_eq_some_iff.mp H
    obtain ⟨⟨t346, t349⟩, A90, H⟩ := H
    replace H : (if t349 = 0 then (superstable_Dual.l0 k t346 l2 (l2.length : Int) 0) else (some (([] : List Int), t349))) = some (r1, r2) := H
    have A9 := Aside0.mk A90
    clear A90
    by_cases c10 : t349 = 0
    ·rw [if_pos c10] at H
     have c10b0 : (t349 == 0) = true := beq_iff_eq.mpr c10
     have c10b1 : (t349 != 0) = false := bne_eq_false_iff_eq.mpr c10
     clear c10
     have H' := Aside0.mk H
     clear H
     go_enter Try.func24, Try.ntmps24
     go_wp2_with (first | ((with_reducible refine gate_dst (N := 3) rfl ?_); refine zX 3 #[.int .i64 a0_0, .slice A0_1 l0_1.length c0_1] 24 ?_; intro gb341 hg w11 hbox hb; have BK341 := Aside0.mk (hbox); have GW341 := zG HB hg; have GE341 := zG HB hg; replace HB := zS HB hb; clear hb hbox hg; obtain ⟨hcz12_0, hcz12_1, hfz12_0, hfz12_1⟩ := zD2 BK341) | ((with_reducible refine gate_callee (f := 35) rfl ?_); refine zL (some 19) Try.func35 #[.agg #[.int .i64 a0_0, .slice A0_1 l0_1.length c0_1], .int .i64 a1, .slice A2 l2.length c2] ?_; (with_reducible refine (burning_Superstable.calls k a0_0 _ _ l0_1 a1 _ _ l2 t342 t343 _ ?side1 ?side2 ?side3 ?side4 A4.out).mono ?_); (case side1 => exact Kd.C_below HR0_1.out zB); (case side2 => exact HC0_1.out); (case side3 => exact Kd.C_below HR2.out zB); (case side4 => exact HC2.out); rintro e w13 ⟨rfl, hb⟩; refine ⟨_, rfl, ?_⟩; replace BK341 := zb BK341 hb; replace HB := zS HB hb; (try clear hb); obtain ⟨hcz14_0, hcz14_1, hfz14_0, hfz14_1⟩ := zD2 BK341) | ((with_reducible refine gate_callee (f := 56) rfl ?_); refine zL (some 29) Try.func56 #[.agg #[.int .i64 a0_0, .slice A0_1 l0_1.length c0_1], .int .i64 a1, .slice A2 l2.length c2] ?_; (with_reducible refine (stabilize_Stable.calls k a0_0 _ _ l0_1 a1 _ _ l2 true t345 _ ?side1 ?side2 ?side3 ?side4 A6.out).mono ?_); (case side1 => exact Kd.C_below HR0_1.out zB); (case side2 => exact HC0_1.out); (case side3 => exact Kd.C_below HR2.out zB); (case side4 => exact HC2.out); rintro e w15 ⟨rfl, hb⟩; refine ⟨_, rfl, ?_⟩; replace BK341 := zb BK341 hb; replace HB := zS HB hb; (try clear hb); obtain ⟨hcz16_0, hcz16_1, hfz16_0, hfz16_1⟩ := zD2 BK341) | ((with_reducible refine gate_callee (f := 43) rfl ?_); refine zL (some 40) Try.func43 #[.agg #[.int .i64 a0_0, .slice A0_1 l0_1.length c0_1], .int .i64 a1] ?_; (with_reducible refine (superstable_first.calls k a0_0 _ _ l0_1 a1 t346 t349 _ ?side1 ?side2 A9.out).mono ?_); (case side1 => exact Kd.C_below HR0_1.out zB); (case side2 => exact HC0_1.out); rintro e w17 ⟨v347, rfl, ho0, hb⟩; refine ⟨_, rfl, ?_⟩; have HO348 := Aside0.mk (Kd.R_lower ho0 (below_size zB)); replace BK341 := zb BK341 hb; replace HB := zS HB hb; (try clear hb); (try clear ho0)))
     go_loopg [48] k (fun kq v48 w' => ∃ (x12_1 : List Int) (x48_1 : Int), v48 = .int .i64 x48_1 ∧ Aside0 (superstable_Dual.l0 kq x12_1 l2 (l2.length : Int) x48_1 = some (r1, r2)) ∧ Aside0 (kq ≤ k) ∧ Aside0 (Kd.R (Kd.int .i64) 3 w' w.heap.size (fun _ => True) v347 x12_1) ∧ Aside0 (w'.heap[gb341]? = some (.cells #[.int .i64 a0_0, (.slice A0_1 l0_1.length c0_1)] 24 (0, 0))) ∧ Aside0 (Below w.heap.size w w'))
     case atStart => exact ⟨(t346), (0), zT, H', ⟨Nat.le_refl _⟩, ⟨zR HO348⟩, ⟨zK BK341⟩, ⟨zB⟩⟩
     case round =>
      clear H'
      try clear c1
      try clear c2
      try clear p2
      try clear c3
      try clear c4
      try clear c5
      try clear c5b0
      try clear c5b1
      try clear c7
      try clear c7b0
      try clear c7b1
      try clear c8
      try clear c10
      try clear c10b0
      try clear c10b1
      try clear hcz12_0
      try clear hcz12_1
      try clear hcz14_0
      try clear hcz14_1
      try clear hcz16_0
      try clear hcz16_1
      try clear hfz12_0
      try clear hfz12_1
      try clear hfz14_0
      try clear hfz14_1
      try clear hfz16_0
      try clear hfz16_1
      obtain ⟨x12_1, x48_1, rfl, HA, HK1, HO_12, BK341, HB⟩ := hrel
      cases gk with
      | zero => exact absurd HA.out (by simp [superstable_Dual.l0])
      | succ k1 =>
       have H := HA.out
       clear HA
       simp only [superstable_Dual.l0] at H
       by_cases c18 : x48_1 < (l2.length : Int)
       ·rw [if_pos c18] at H
        have c18b0 : decide (x48_1 < (l2.length : Int)) = true := decide_eq_true c18
        clear c18
        by_cases c19 : 0 ≤ x48_1
        ·rw [if_pos c19] at H
         have c19b0 : decide (0 ≤ x48_1) = true := decide_eq_true c19
         clear c19
         by_cases c20 : x48_1 < (l2.length : Int)
         ·rw [if_pos c20] at H
          have c20b0 : decide (x48_1 < (l2.length : Int)) = true := decide_eq_true c20
          clear c20
          by_cases c21 : x48_1 < (x12_1.length : Int)
          ·rw [if_pos c21] at H
           have c21b0 : decide (x48_1 < (x12_1.length : Int)) = true := decide_eq_true c21
           clear c21
           obtain ⟨y352, hy352⟩ : ∃ y_ : List Int, y_ = (x12_1.set (x48_1 : Int).toNat (wrap64 ((rd x12_1 x48_1) - (rd l2 x48_1)))) := ⟨_, rfl⟩
           replace H : (superstable_Dual.l0 k1 y352 l2 (l2.length : Int) (wrap64 (x48_1 + 1))) = some (r1, r2) := by first | (rw [hy352]; with_reducible exact H) | (have H2_ := (Option.bind_some _ _).symm.trans H; rw [hy352]; with_reducible exact H2_) | (have H2_ := (Option.bind_some _ _).symm.trans H; with_reducible exact H2_) | with_reducible exact H | (rw [hy352]; exact H) | exact H
           have Ny352 := Aside0.mk hy352
           clear hy352
           have H' := Aside0.mk H
           clear H
           have p350 : 0 ≤ (x48_1 : Int) := of_decide_eq_true ‹_›
           have q350 : x48_1 < (l2.length : Int) := of_decide_eq_true ‹_›
           obtain ⟨ad350, e350, hx350_0⟩ := Kd.at_int HR2.out x48_1 p350 q350
           cases e350
           replace hx350_0 := (HB.out.cell (World.block_lt_of_cell? w _ hx350_0)).trans hx350_0
           replace p350 := eq_true p350
           replace q350 := eq_true q350
           obtain ⟨Ao23, co23, eo23⟩ := Kd.R_slice HO_12.out
           subst eo23
           have p351 : 0 ≤ (x48_1 : Int) := of_decide_eq_true ‹_›
           have q351 : x48_1 < (x12_1.length : Int) := of_decide_eq_true ‹_›
           obtain ⟨ad351, e351, hx351_0⟩ := Kd.at_int (Kd.R_reads' HO_12.out).2.2 x48_1 p351 q351
           cases e351
           replace p351 := eq_true p351
           replace q351 := eq_true q351
           have p22 : 0 ≤ (x48_1 : Int) := of_decide_eq_true ‹_›
           have q22 : (x48_1 : Int) < ((x12_1.length : Int) : Int) := of_decide_eq_true ‹_›
           obtain ⟨go22, co22, eo22, gb22, gl22, cl22, HG22⟩ := Kd.R_form HO_12.out (by omega)
           (first | cases eo22 | (injection eo22 with ea_ en_ ec_; (first | subst ea_ | (injection ea_ with ea_; subst ea_)); subst ec_; clear en_))
           have GB22 := Aside0.mk gb22
           have GG22 := Aside0.mk HG22
           clear gb22 gl22 HG22
           (first | simp only [add_plain] at hx351_0 | skip)
           obtain ⟨hx22_0, hf22_0⟩ := Kd.R_celln 0 HO_12.out (x48_1 : Int) p22 q22
           replace p22 := eq_true p22
           replace q22 := eq_true q22
           have HP24 := Kd.R_putg HO_12.out (x48_1 : Int) (wrap64 ((rd x12_1 x48_1) - (rd l2 x48_1)))
           go_wp2_with (first | ((with_reducible refine gate_store (t := 3) (p := 59) rfl ?_); refine store_event (t := 3) (p := 59) (v := ?vo_w25) (w1 := (wr.setCell ⟨go22, (x48_1 : Int).toNat, none⟩ (.int .i64 (wrap64 ((rd x12_1 x48_1) - (rd l2 x48_1)))))) ?hg ?ho ?hn ?hr ?_; (case ho => rfl); (case hg => rfl); (case hn => rfl); (case hr => first | (go_simp; done) | (go_simp; rfl)); intro w25 hw; have hg : wr.grownBy w25 (some go22) := (by rw [hw]; exact HP24.2); have hp_ : Kd.R (Kd.int .i64) 3 w25 w.heap.size (fun _ => True) (.slice (some ⟨go22, 0, none⟩) x12_1.length co23) y352 := (by rw [hw, Ny352.out]; exact HP24.1); clear HP24; replace BK341 := Aside0.mk (blk_grown (zK BK341) hg (Kd.R_ne HO_12.out BK341.out (by decide))); replace HO_12 := Aside0.mk (hp_); replace HB := Aside0.mk ((by rw [hw]; exact below_set (HB.out) GB22.out : Below w.heap.size w w25)); clear hg hw hp_))
           go_roundg k1
           case measure => have := HK1.out; omega
           case rel => exact ⟨(y352), (wrap64 (x48_1 + 1)), zT, H', ⟨by have := HK1.out; omega⟩, ⟨zR HO_12⟩, ⟨zK BK341⟩, ⟨zB⟩⟩
          ·rw [if_neg c21] at H
           exact absurd H (by simp)
         ·rw [if_neg c20] at H
          exact absurd H (by simp)
        ·rw [if_neg c19] at H
         exact absurd H (by simp)
       ·rw [if_neg c18] at H
        have c18b0 : decide (x48_1 < (l2.length : Int)) = false := decide_eq_false c18
        clear c18
        simp only [Option.some.injEq, Prod.mk.injEq] at H
        obtain ⟨rfl, rfl⟩ := H
        go_wp2
        go_ret2
        exact ⟨_, zE, by (with_reducible repeat (first | apply Kd.R_alloc | apply Kd.R_drewN | apply Kd.R_drew)); exact HO_12.out, zB⟩
    ·rw [if_neg c10] at H
     have c10b0 : (t349 == 0) = false := beq_eq_false_iff_ne.mpr c10
     have c10b1 : (t349 != 0) = true := bne_iff_ne.mpr c10
     simp only [Option.some.injEq, Prod.mk.injEq] at H
     obtain ⟨rfl, rfl⟩ := H
     go_enter Try.func24, Try.ntmps24
     go_wp2_with (first | ((with_reducible refine gate_dst (N := 3) rfl ?_); refine zX 3 #[.int .i64 a0_0, .slice A0_1 l0_1.length c0_1] 24 ?_; intro gb341 hg w26 hbox hb; have BK341 := Aside0.mk (hbox); have GW341 := zG HB hg; have GE341 := zG HB hg; replace HB := zS HB hb; clear hb hbox hg; obtain ⟨hcz27_0, hcz27_1, hfz27_0, hfz27_1⟩ := zD2 BK341) | ((with_reducible refine gate_callee (f := 35) rfl ?_); refine zL (some 19) Try.func35 #[.agg #[.int .i64 a0_0, .slice A0_1 l0_1.length c0_1], .int .i64 a1, .slice A2 l2.length c2] ?_; (with_reducible refine (burning_Superstable.calls k a0_0 _ _ l0_1 a1 _ _ l2 t342 t343 _ ?side1 ?side2 ?side3 ?side4 A4.out).mono ?_); (case side1 => exact Kd.C_below HR0_1.out zB); (case side2 => exact HC0_1.out); (case side3 => exact Kd.C_below HR2.out zB); (case side4 => exact HC2.out); rintro e w28 ⟨rfl, hb⟩; refine ⟨_, rfl, ?_⟩; replace BK341 := zb BK341 hb; replace HB := zS HB hb; (try clear hb); obtain ⟨hcz29_0, hcz29_1, hfz29_0, hfz29_1⟩ := zD2 BK341) | ((with_reducible refine gate_callee (f := 56) rfl ?_); refine zL (some 29) Try.func56 #[.agg #[.int .i64 a0_0, .slice A0_1 l0_1.length c0_1], .int .i64 a1, .slice A2 l2.length c2] ?_; (with_reducible refine (stabilize_Stable.calls k a0_0 _ _ l0_1 a1 _ _ l2 true t345 _ ?side1 ?side2 ?side3 ?side4 A6.out).mono ?_); (case side1 => exact Kd.C_below HR0_1.out zB); (case side2 => exact HC0_1.out); (case side3 => exact Kd.C_below HR2.out zB); (case side4 => exact HC2.out); rintro e w30 ⟨rfl, hb⟩; refine ⟨_, rfl, ?_⟩; replace BK341 := zb BK341 hb; replace HB := zS HB hb; (try clear hb); obtain ⟨hcz31_0, hcz31_1, hfz31_0, hfz31_1⟩ := zD2 BK341) | ((with_reducible refine gate_callee (f := 43) rfl ?_); refine zL (some 40) Try.func43 #[.agg #[.int .i64 a0_0, .slice A0_1 l0_1.length c0_1], .int .i64 a1] ?_; (with_reducible refine (superstable_first.calls k a0_0 _ _ l0_1 a1 t346 t349 _ ?side1 ?side2 A9.out).mono ?_); (case side1 => exact Kd.C_below HR0_1.out zB); (case side2 => exact HC0_1.out); rintro e w32 ⟨v347, rfl, ho0, hb⟩; refine ⟨_, rfl, ?_⟩; have HO348 := Aside0.mk (Kd.R_lower ho0 (below_size zB)); replace BK341 := zb BK341 hb; replace HB := zS HB hb; (try clear hb); (try clear ho0)))
     go_ret2
     exact ⟨_, zE, by first | exact Kd.R_nil _ _ _ _ _ | exact Kd.N_nil _ _ _ _ _ | exact Kd.V_nil _ _ _ _ _ | exact Kd.Q_nil _ _ _ _ _ | exact Kd.S_nil _ _ _ _ _, zB⟩
   ·replace c8 := Bool.eq_false_iff.mpr c8
    subst c8
    have H1 : (some (([] : List Int), 15)) = some (r1, r2) := by rw [if_neg (show ¬ (false = true) by decide)] at H; exact H
    clear H
    have H := H1
    clear H1
    simp only [Option.some.injEq, Prod.mk.injEq] at H
    obtain ⟨rfl, rfl⟩ := H
    go_enter Try.func24, Try.ntmps24
    go_wp2_with (first | ((with_reducible refine gate_dst (N := 3) rfl ?_); refine zX 3 #[.int .i64 a0_0, .slice A0_1 l0_1.length c0_1] 24 ?_; intro gb341 hg w33 hbox hb; have BK341 := Aside0.mk (hbox); have GW341 := zG HB hg; have GE341 := zG HB hg; replace HB := zS HB hb; clear hb hbox hg; obtain ⟨hcz34_0, hcz34_1, hfz34_0, hfz34_1⟩ := zD2 BK341) | ((with_reducible refine gate_callee (f := 35) rfl ?_); refine zL (some 19) Try.func35 #[.agg #[.int .i64 a0_0, .slice A0_1 l0_1.length c0_1], .int .i64 a1, .slice A2 l2.length c2] ?_; (with_reducible refine (burning_Superstable.calls k a0_0 _ _ l0_1 a1 _ _ l2 t342 t343 _ ?side1 ?side2 ?side3 ?side4 A4.out).mono ?_); (case side1 => exact Kd.C_below HR0_1.out zB); (case side2 => exact HC0_1.out); (case side3 => exact Kd.C_below HR2.out zB); (case side4 => exact HC2.out); rintro e w35 ⟨rfl, hb⟩; refine ⟨_, rfl, ?_⟩; replace BK341 := zb BK341 hb; replace HB := zS HB hb; (try clear hb); obtain ⟨hcz36_0, hcz36_1, hfz36_0, hfz36_1⟩ := zD2 BK341) | ((with_reducible refine gate_callee (f := 56) rfl ?_); refine zL (some 29) Try.func56 #[.agg #[.int .i64 a0_0, .slice A0_1 l0_1.length c0_1], .int .i64 a1, .slice A2 l2.length c2] ?_; (with_reducible refine (stabilize_Stable.calls k a0_0 _ _ l0_1 a1 _ _ l2 false t345 _ ?side1 ?side2 ?side3 ?side4 A6.out).mono ?_); (case side1 => exact Kd.C_below HR0_1.out zB); (case side2 => exact HC0_1.out); (case side3 => exact Kd.C_below HR2.out zB); (case side4 => exact HC2.out); rintro e w37 ⟨rfl, hb⟩; refine ⟨_, rfl, ?_⟩; replace BK341 := zb BK341 hb; replace HB := zS HB hb; (try clear hb)))
    go_ret2
    exact ⟨_, zE, by first | exact Kd.R_nil _ _ _ _ _ | exact Kd.N_nil _ _ _ _ _ | exact Kd.V_nil _ _ _ _ _ | exact Kd.Q_nil _ _ _ _ _ | exact Kd.S_nil _ _ _ _ _, zB⟩
  ·rw [if_neg c7] at H
   have c7b0 : (t345 == 0) = false := beq_eq_false_iff_ne.mpr c7
   have c7b1 : (t345 != 0) = true := bne_iff_ne.mpr c7
   simp only [Option.some.injEq, Prod.mk.injEq] at H
   obtain ⟨rfl, rfl⟩ := H
   go_enter Try.func24, Try.ntmps24
   go_wp2_with (first | ((with_reducible refine gate_dst (N := 3) rfl ?_); refine zX 3 #[.int .i64 a0_0, .slice A0_1 l0_1.length c0_1] 24 ?_; intro gb341 hg w38 hbox hb; have BK341 := Aside0.mk (hbox); have GW341 := zG HB hg; have GE341 := zG HB hg; replace HB := zS HB hb; clear hb hbox hg; obtain ⟨hcz39_0, hcz39_1, hfz39_0, hfz39_1⟩ := zD2 BK341) | ((with_reducible refine gate_callee (f := 35) rfl ?_); refine zL (some 19) Try.func35 #[.agg #[.int .i64 a0_0, .slice A0_1 l0_1.length c0_1], .int .i64 a1, .slice A2 l2.length c2] ?_; (with_reducible refine (burning_Superstable.calls k a0_0 _ _ l0_1 a1 _ _ l2 t342 t343 _ ?side1 ?side2 ?side3 ?side4 A4.out).mono ?_); (case side1 => exact Kd.C_below HR0_1.out zB); (case side2 => exact HC0_1.out); (case side3 => exact Kd.C_below HR2.out zB); (case side4 => exact HC2.out); rintro e w40 ⟨rfl, hb⟩; refine ⟨_, rfl, ?_⟩; replace BK341 := zb BK341 hb; replace HB := zS HB hb; (try clear hb); obtain ⟨hcz41_0, hcz41_1, hfz41_0, hfz41_1⟩ := zD2 BK341) | ((with_reducible refine gate_callee (f := 56) rfl ?_); refine zL (some 29) Try.func56 #[.agg #[.int .i64 a0_0, .slice A0_1 l0_1.length c0_1], .int .i64 a1, .slice A2 l2.length c2] ?_; (with_reducible refine (stabilize_Stable.calls k a0_0 _ _ l0_1 a1 _ _ l2 t344 t345 _ ?side1 ?side2 ?side3 ?side4 A6.out).mono ?_); (case side1 => exact Kd.C_below HR0_1.out zB); (case side2 => exact HC0_1.out); (case side3 => exact Kd.C_below HR2.out zB); (case side4 => exact HC2.out); rintro e w42 ⟨rfl, hb⟩; refine ⟨_, rfl, ?_⟩; replace BK341 := zb BK341 hb; replace HB := zS HB hb; (try clear hb)))
   go_ret2
   exact ⟨_, zE, by first | exact Kd.R_nil _ _ _ _ _ | exact Kd.N_nil _ _ _ _ _ | exact Kd.V_nil _ _ _ _ _ | exact Kd.Q_nil _ _ _ _ _ | exact Kd.S_nil _ _ _ _ _, zB⟩
 ·rw [if_neg c5] at H
  have c5b0 : (t343 == 0) = false := beq_eq_false_iff_ne.mpr c5
  have c5b1 : (t343 != 0) = true := bne_iff_ne.mpr c5
  simp only [Option.some.injEq, Prod.mk.injEq] at H
  obtain ⟨rfl, rfl⟩ := H
  go_enter Try.func24, Try.ntmps24
  go_wp2_with (first | ((with_reducible refine gate_dst (N := 3) rfl ?_); refine zX 3 #[.int .i64 a0_0, .slice A0_1 l0_1.length c0_1] 24 ?_; intro gb341 hg w43 hbox hb; have BK341 := Aside0.mk (hbox); have GW341 := zG HB hg; have GE341 := zG HB hg; replace HB := zS HB hb; clear hb hbox hg; obtain ⟨hcz44_0, hcz44_1, hfz44_0, hfz44_1⟩ := zD2 BK341) | ((with_reducible refine gate_callee (f := 35) rfl ?_); refine zL (some 19) Try.func35 #[.agg #[.int .i64 a0_0, .slice A0_1 l0_1.length c0_1], .int .i64 a1, .slice A2 l2.length c2] ?_; (with_reducible refine (burning_Superstable.calls k a0_0 _ _ l0_1 a1 _ _ l2 t342 t343 _ ?side1 ?side2 ?side3 ?side4 A4.out).mono ?_); (case side1 => exact Kd.C_below HR0_1.out zB); (case side2 => exact HC0_1.out); (case side3 => exact Kd.C_below HR2.out zB); (case side4 => exact HC2.out); rintro e w45 ⟨rfl, hb⟩; refine ⟨_, rfl, ?_⟩; replace BK341 := zb BK341 hb; replace HB := zS HB hb; (try clear hb)))
  go_ret2
  exact ⟨_, zE, by first | exact Kd.R_nil _ _ _ _ _ | exact Kd.N_nil _ _ _ _ _ | exact Kd.V_nil _ _ _ _ _ | exact Kd.Q_nil _ _ _ _ _ | exact Kd.S_nil _ _ _ _ _, zB⟩
mutual
def sandpileref28_Raised.l0 : Nat → Int → List Int → List Int → List Int → Int → Int → List (S66) → Option (List Int)
 | 0, _, _, _, _, _, _, _ => none
 | k + 1, x1, x2, x7, x8, x9, x316000, x316001 => if x9 < x316000 then (if x9 = x1 then (sandpileref28_Raised.l0 k x1 x2 x7 x8 (wrap64 (x9 + 1)) x316000 x316001) else (if 0 ≤ x9 then (if x9 < (x2.length : Int) then (sandpileref28_Raised.l1 k x1 x2 x7 x8 x9 (wrap64 ((rd x2 x9) + 1)) x316000 x316001) else (none)) else (none))) else (some x7)
def sandpileref28_Raised.l1 : Nat → Int → List Int → List Int → List Int → Int → Int → Int → List (S66) → Option (List Int)
 | 0, _, _, _, _, _, _, _, _ => none
 | k + 1, x1, x2, x7, x8, x9, x10, x316000, x316001 => if 0 ≤ x9 then (if x9 < (x8.length : Int) then (if x10 ≤ (rd x8 x9) then ((some (([] : List Int) : List Int)).bind fun y327 => (if y327.length + x7.length < 17592186044416 then ((some (y327 ++ x7 : List Int)).bind fun y330 => (if x9 < (y330.length : Int) then ((some (y330.set (x9 : Int).toNat x10 : List Int)).bind fun y333 => ((sandpileref23_Is.f k x316000 x316001 x1 y333).bind fun t334 => (if t334 = true then (sandpileref28_Raised.l1 k x1 x2 y333 x8 x9 (wrap64 (x10 + 1)) x316000 x316001) else (sandpileref28_Raised.l1 k x1 x2 x7 x8 x9 (wrap64 (x10 + 1)) x316000 x316001)))) else (none))) else (none))) else (sandpileref28_Raised.l0 k x1 x2 x7 x8 (wrap64 (x9 + 1)) x316000 x316001)) else (none)) else (none)
end
section
theorem clone_ev {l : List Int} (h : l.length ≤ 1000) : api_Divisor_int_36.f l = some l := if_pos (by omega)
theorem rd_set_self {l : List Int} {v : Nat} (h : v < l.length) (x : Int) : rd (l.set v x) v = x := by simp [rd, List.getD_eq_getElem?_getD, List.getElem?_set, h]
theorem rd_set_ne {l : List Int} {v u : Nat} (h : v ≠ u) (x : Int) : rd (l.set v x) u = rd l u := by simp [rd, List.getD_eq_getElem?_getD, List.getElem?_set, h]
theorem map_set {n : Nat} {f g : Nat → Int} {v : Nat} {x : Int} (h : ∀ u, u < n → u ≠ v → f u = g u) (hx : x = g v) : ((List.range n).map f).set v x = (List.range n).map g := by
 apply List.ext_getElem
 ·simp
 ·intro i h1 h2
  rw [List.getElem_set]
  have hi : i < n := by simpa using h2
  split
  ·rename_i e; subst e; simp [hx]
  ·rename_i e; simp only [List.getElem_map, List.getElem_range]; exact h i hi (fun e' => e e'.symm)
theorem rd_map {n : Nat} (f : Nat → Int) {v : Nat} (h : v < n) : rd ((List.range n).map f) v = f v := by simp [rd, List.getD_eq_getElem?_getD, List.getElem?_map, List.getElem?_range h]
theorem set_set_same (l : List Int) (v : Nat) (x y : Int) : (l.set v x).set v y = l.set v y := by simp
theorem set_rd {l : List Int} {v : Nat} (h : v < l.length) : l.set v (rd l v) = l := by
 apply List.ext_getElem
 ·simp
 ·intro i h1 h2
  rw [List.getElem_set]
  split
  ·rename_i e; subst e; simp [rd, List.getD_eq_getElem?_getD, List.getElem?_eq_getElem h]
  ·rfl
namespace Small
variable {n q : Nat} {E : List S66}
theorem sup_down (h : Small n q E) {a b : List Int} (hab : ∀ v : Nat, v < n → rd a v ≤ rd b v) (hb : superB n (timesOf E) q b = true) : superB n (timesOf E) q a = true := by
 have ht : ∀ i j, 0 ≤ timesOf E i j := fun i j => ((edgesIn_of h.right.inB).times i j).1
 exact (superB_iff ht q a).2 (((superB_iff ht q b).1 hb).down hab)
theorem sup_lt (h : Small n q E) {a : List Int} {v : Nat} (hv : v < n) (hq : v ≠ q) (ha : superB n (timesOf E) q a = true) : rd a v < valN E v n := by
 have := (superB_small h.right.inB (by have := h.n5; omega) hv hq ha).1
 unfold valOf at this
 rwa [valOf_valN h.right v n] at this
theorem rise (h : Small n q E) {c : List Int} (hc : c.length = n) {v : Nat} (hv : v < n) (hq : v ≠ q) (hs : superB n (timesOf E) q c = true) (h0 : 0 ≤ rd c v) :
  ∃ M : Nat, rd c v ≤ M ∧ (M : Int) < valN E v n ∧ ∀ x : Int, superB n (timesOf E) q (c.set v x) = true ↔ x ≤ M := by
 have hval := h.val_le v
 have hlt := h.sup_lt hv hq hs
 have down : ∀ x y : Int, x ≤ y → superB n (timesOf E) q (c.set v y) = true → superB n (timesOf E) q (c.set v x) = true := fun x y hxy hy => by
  refine h.sup_down (fun u hu => ?_) hy
  by_cases e : v = u
  ·subst e; rw [rd_set_self (by omega), rd_set_self (by omega)]; exact hxy
  ·rw [rd_set_ne e, rd_set_ne e]; exact Int.le_refl _
 have key : ∀ d : Nat, ∀ x : Nat, rd c v ≤ x → valN E v n ≤ x + d → superB n (timesOf E) q (c.set v x) = true → ∃ M : Nat, x ≤ M ∧ (M : Int) < valN E v n ∧ superB n (timesOf E) q (c.set v M) = true ∧ superB n (timesOf E) q (c.set v ((M : Int) + 1)) = false := by
  intro d
  induction d with
  | zero =>
   intro x _ h2 h3
   have := h.sup_lt hv hq h3
   rw [rd_set_self (by omega)] at this
   omega
  | succ d ih =>
   intro x h1 h2 h3
   have h4 := h.sup_lt hv hq h3
   rw [rd_set_self (by omega)] at h4
   cases h5 : superB n (timesOf E) q (c.set v ((x : Int) + 1)) with
   | false => exact ⟨x, Nat.le_refl _, h4, h3, h5⟩
   | true =>
    obtain ⟨M, m1, m2, m3, m4⟩ := ih (x + 1) (by omega) (by omega) (by rw [Int.natCast_add, Int.natCast_one]; exact h5)
    exact ⟨M, by omega, m2, m3, m4⟩
 obtain ⟨M, m1, m2, m3, m4⟩ := key 9 (rd c v).toNat (by omega) (by omega) (by rw [show ((rd c v).toNat : Int) = rd c v by omega, set_rd (by omega)]; exact hs)
 refine ⟨M, by omega, m2, fun x => ⟨fun hx => ?_, fun hx => down x M hx m3⟩⟩
 by_cases hle : x ≤ M
 ·exact hle
 ·have := down ((M : Int) + 1) x (by omega) hx
  rw [m4] at this; cases this
theorem calm_set (h : Small n q E) (hr : rootG n E q = 0) {c : List Int} (hg : GoodC n q c) {v : Nat} (hv : v < n) (hq : v ≠ q) {x : Int} (hx : 0 ≤ x ∧ x ≤ 1048576) : Ev (fun k => superstable_calm.f k n E q (c.set v x)) (superB n (timesOf E) q (c.set v x)) := by
 have hl := hg.len
 have hp : ∀ u : Nat, 0 ≤ rd (c.set v x) u ∧ rd (c.set v x) u ≤ 1048576 := fun u => by
  by_cases e : v = u
  ·subst e; rw [rd_set_self (by omega)]; exact hx
  ·rw [rd_set_ne e]; exact ⟨hg.pos u, hg.up u⟩
 have he : err23 n E q (c.set v x) = 0 := by
  have h1 : ∀ l : List Int, (∀ y ∈ l, 0 ≤ y ∧ y ≤ 1048576) → rngF l = 0 := fun l => by
   induction l with
   | nil => intro _; rfl
   | cons y l ih =>
    intro hl
    have := hl y (List.mem_cons_self ..)
    rw [rngF, if_pos (by simp [chipB]; omega)]
    exact ih fun z hz => hl z (List.mem_cons_of_mem _ hz)
  have h2 : ∀ (l : List Int) (i : Nat), (∀ y ∈ l, 0 ≤ y ∧ y ≤ 1048576) → negF q i l = 0 := fun l => by
   induction l with
   | nil => intro i _; rfl
   | cons y l ih =>
    intro i hl
    have := hl y (List.mem_cons_self ..)
    rw [negF, if_neg (show ¬ y < 0 by omega), ih (i + 1) fun z hz => hl z (List.mem_cons_of_mem _ hz)]
    split <;> rfl
  have hm : ∀ y ∈ c.set v x, 0 ≤ y ∧ y ≤ 1048576 := fun y hy => by
   obtain ⟨i, hi, rfl⟩ := List.getElem_of_mem hy
   have := hp i
   simp only [rd, Int.toNat_natCast, List.getD_eq_getElem?_getD, List.getElem?_eq_getElem hi, Option.getD_some] at this
   exact this
  have e0 : errC n E q (c.set v x) = 0 := by
   unfold errC
   rw [if_pos hr, if_pos (by simp [hl]), h1 _ hm, if_pos rfl, h2 _ 0 hm]
  unfold err23
  rw [if_pos e0, if_pos (by rw [rd_set_ne hq]; exact hg.sink)]
 unfold superstable_calm.f
 refine Ev.bind (burn_ev (by have := h.len; omega) (by have := h.n5; omega) h.right.inB he) ?_
 cases superB n (timesOf E) q (c.set v x) <;> exact Ev.const _
theorem raised_ev (h : Small n q E) (hr : rootG n E q = 0) {c : List Int} (hg : GoodC n q c) {v : Nat} (hv : v < n) (hq : v ≠ q) {M : Nat} (h1 : rd c v ≤ M) (h2 : (M : Int) < valN E v n) (hM : ∀ x : Int, superB n (timesOf E) q (c.set v x) = true ↔ x ≤ M) :
  Ev (fun k => superstable_raised.f k n E q c v) (c.set v M) := by
 have hl := hg.len
 have hval := h.val_le v
 have h0 := hg.pos v
 have loop : ∀ (m : Nat) (x : Int), rd c v + 1 ≤ x → x + m = M + 1 → Ev (fun k => superstable_raised.l0 k q (c.set v x) v n E) (c.set v M) := by
  intro m
  induction m with
  | zero =>
   intro x hx1 hx2
   refine Ev.of_succ ?_
   simp only [superstable_raised.l0]
   refine Ev.bind (h.calm_set hr hg hv hq (by omega)) ?_
   have : superB n (timesOf E) q (c.set v x) = false := by
    cases e : superB n (timesOf E) q (c.set v x) with
    | false => rfl
    | true => have := (hM x).1 e; omega
   simp only [this, Bool.false_eq_true, if_false, if_pos (show (0 : Int) ≤ v by omega), if_pos (show (v : Int) < (c.set v x).length by simp; omega), Int.toNat_natCast, set_set_same, rd_set_self (show v < c.length by omega), wrap_id (show -1000000000 ≤ x - 1 ∧ x - 1 ≤ 1000000000 by omega), show x - 1 = (M : Int) by omega, wrap_id (show -1000000000 ≤ (M : Int) ∧ (M : Int) ≤ 1000000000 by omega)]
   exact Ev.const _
  | succ m ih =>
   intro x hx1 hx2
   refine Ev.of_succ ?_
   simp only [superstable_raised.l0]
   refine Ev.bind (h.calm_set hr hg hv hq (by omega)) ?_
   simp only [(hM x).2 (by omega), if_true, if_pos (show (0 : Int) ≤ v by omega), if_pos (show (v : Int) < (c.set v x).length by simp; omega), Int.toNat_natCast, set_set_same, rd_set_self (show v < c.length by omega), wrap_id (show -1000000000 ≤ x + 1 ∧ x + 1 ≤ 1000000000 by omega)]
   exact ih (x + 1) (by omega) (by omega)
 unfold superstable_raised.f
 simp only [clone_ev (show c.length ≤ 1000 by have := h.n5; omega), Option.bind_some, if_pos (show (0 : Int) ≤ v by omega), if_pos (show (v : Int) < c.length by omega), Int.toNat_natCast, wrap_id (show -1000000000 ≤ rd c v + 1 ∧ rd c v + 1 ≤ 1000000000 by omega)]
 exact loop (M - (rd c v).toNat) (rd c v + 1) (by omega) (by omega)
end Small
end
end Go.Proofs.Ytffdiakgjakngaa.P
