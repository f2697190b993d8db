/- A part of the proof that SuperstableBelow answers true (text 4 of 12): own walks and plain laws; no conditions. -/
import Derived.BigQuiet
import Derived.Deep.AppendLies
import Derived.Deep.QuietTactic
import Derived.Deep.RegionHeld3
import Derived.Deep.RegionLaw
import Derived.Lib.Hide
import Derived.Outline
import Derived.RegionIn
import Derived.WalkSpells
import Derived.Test.YtffdiakgjakngaaBelow3
namespace Go.Proofs.Ytffdiakgjakngaa.P
open Go.RowKit Go.Proofs.YtffdiakgjakngaaW.PrintWords Go.Proofs.YtffdiakgjakngaaW.PrintLast Go.Proofs.YtffdiakgjakngaaW.PrintMore
set_option linter.unusedVariables false
set_option linter.unusedSimpArgs false
set_option maxHeartbeats 8000000
set_option maxRecDepth 100000
def stabilize_rooted.f (k : Nat) (a0_0 : Int) (l0_1 : List (S66)) (a1 : Int) : Option (Int) := (connect_Connected.f k a0_0 l0_1).bind fun bt117 => (if bt117.2 = 0 then (if bt117.1 = true then (if a1 < 0 then (some 2) else (if a1 ≥ a0_0 then (some 2) else (some 0))) else (some 13)) else (some bt117.2))
theorem stabilize_rooted.mono : ∀ a0 a1 a2 k, LeO (stabilize_rooted.f k a0 a1 a2) (stabilize_rooted.f (k + 1) a0 a1 a2) := by
 intro a0 a1 a2 k
 unfold stabilize_rooted.f
 repeat' first
   | (with_reducible exact connect_Connected.mono _ _ _)
   | (with_reducible exact LeO.refl _)
   | (with_reducible exact LeO.none _)
   | (with_reducible refine LeO.ite ?_ ?_)
   | (with_reducible refine LeO.bind ?_ (fun _ => ?_))
   | exact connect_Connected.mono _ _ _
   | exact LeO.none _
   | refine LeO.ite ?_ ?_
   | refine LeO.bind ?_ (fun _ => ?_)
theorem stabilize_rooted.calls (k : Nat) (a0_0 : Int) (A0_1 : Option Addr) (c0_1 : Nat) (l0_1 : List (S66)) (a1 : Int) (r : Int) (w : World) (hr0_1 : Kd.C k66 w A0_1 l0_1.length l0_1) (hc0_1 : l0_1.length ≤ c0_1) (h : stabilize_rooted.f k a0_0 l0_1 a1 = some r) :
  Calls Try.prog 91 #[.agg #[.int .i64 a0_0, .slice A0_1 l0_1.length c0_1], .int .i64 a1] w fun e w' => e = .returned (.int .i64 r) ∧ Below w.heap.size w w' := by
 have hu24 := Try.underlying24
 have HR0_1 := Aside0.mk hr0_1
 have HC0_1 := Aside0.mk hc0_1
 clear hr0_1 hc0_1
 have HB := Aside0.mk (Below.refl w.heap.size w)
 have H : ((connect_Connected.f k a0_0 l0_1).bind fun bt117 => (if bt117.2 = 0 then (if bt117.1 = true then (if a1 < 0 then (some 2) else (if a1 ≥ a0_0 then (some 2) else (some 0))) else (some 13)) else (some bt117.2))) = some r := h
 clear h
 replace H := Option.bind_eq_some_iff.mp H
 obtain ⟨⟨t117, t118⟩, A30, H⟩ := H
 replace H : (if t118 = 0 then (if t117 = true then (if a1 < 0 then (some 2) else (if a1 ≥ a0_0 then (some 2) else (some 0))) else (some 13)) else (some t118)) = some r := H
 have A3 := Aside0.mk A30
 clear A30
 by_cases c4 : t118 = 0
 ·rw [if_pos c4] at H
  have c4b0 : (t118 == 0) = true := beq_iff_eq.mpr c4
  have c4b1 : (t118 != 0) = false := bne_eq_false_iff_eq.mpr c4
  clear c4
  by_cases c5 : t117 = true
  ·subst c5
   have H1 : (if a1 < 0 then (some 2) else (if a1 ≥ a0_0 then (some 2) else (some 0))) = some r := by rw [if_pos rfl] at H; exact H
   clear H
   have H := H1
   clear H1
   by_cases c6 : a1 < 0
   ·rw [if_pos c6] at H
    have c6b0 : decide (a1 < 0) = true := decide_eq_true c6
    clear c6
    obtain rfl := Option.some.inj H
    go_enter Try.func91, Try.ntmps91
    go_wp2_with (first | ((with_reducible refine gate_dst (N := 2) rfl ?_); refine zX 2 #[.int .i64 a0_0, .slice A0_1 l0_1.length c0_1] 24 ?_; intro gb116 hg w7 hbox hb; have BK116 := Aside0.mk (hbox); have GW116 := zG HB hg; have GE116 := zG HB hg; replace HB := zS HB hb; clear hb hbox hg; obtain ⟨hcz8_0, hcz8_1, hfz8_0, hfz8_1⟩ := zD2 BK116) | ((with_reducible refine gate_callee (f := 104) rfl ?_); refine zL (some 9) Try.func104 #[.agg #[.int .i64 a0_0, .slice A0_1 l0_1.length c0_1]] ?_; (with_reducible refine (connect_Connected.calls k a0_0 _ _ l0_1 true t118 _ ?side1 ?side2 A3.out).mono ?_); (case side1 => exact Kd.C_below HR0_1.out zB); (case side2 => exact HC0_1.out); rintro e w9 ⟨rfl, hb⟩; refine ⟨_, rfl, ?_⟩; replace BK116 := zb BK116 hb; replace HB := zS HB hb; (try clear hb)))
    go_ret
    exact ⟨zE, zB⟩
   ·rw [if_neg c6] at H
    have c6b0 : decide (a1 < 0) = false := decide_eq_false c6
    clear c6
    by_cases c10 : a1 ≥ a0_0
    ·rw [if_pos c10] at H
     have c10b0 : decide (a0_0 ≤ a1) = true := decide_eq_true c10
     clear c10
     obtain rfl := Option.some.inj H
     go_enter Try.func91, Try.ntmps91
     go_wp2_with (first | ((with_reducible refine gate_dst (N := 2) rfl ?_); refine zX 2 #[.int .i64 a0_0, .slice A0_1 l0_1.length c0_1] 24 ?_; intro gb116 hg w11 hbox hb; have BK116 := Aside0.mk (hbox); have GW116 := zG HB hg; have GE116 := zG HB hg; replace HB := zS HB hb; clear hb hbox hg; obtain ⟨hcz12_0, hcz12_1, hfz12_0, hfz12_1⟩ := zD2 BK116) | ((with_reducible refine gate_callee (f := 104) rfl ?_); refine zL (some 9) Try.func104 #[.agg #[.int .i64 a0_0, .slice A0_1 l0_1.length c0_1]] ?_; (with_reducible refine (connect_Connected.calls k a0_0 _ _ l0_1 true t118 _ ?side1 ?side2 A3.out).mono ?_); (case side1 => exact Kd.C_below HR0_1.out zB); (case side2 => exact HC0_1.out); rintro e w13 ⟨rfl, hb⟩; refine ⟨_, rfl, ?_⟩; replace BK116 := zb BK116 hb; replace HB := zS HB hb; (try clear hb); obtain ⟨hcz14_0, hcz14_1, hfz14_0, hfz14_1⟩ := zD2 BK116))
     go_ret
     exact ⟨zE, zB⟩
    ·rw [if_neg c10] at H
     have c10b0 : decide (a0_0 ≤ a1) = false := decide_eq_false c10
     clear c10
     obtain rfl := Option.some.inj H
     go_enter Try.func91, Try.ntmps91
     go_wp2_with (first | ((with_reducible refine gate_dst (N := 2) rfl ?_); refine zX 2 #[.int .i64 a0_0, .slice A0_1 l0_1.length c0_1] 24 ?_; intro gb116 hg w15 hbox hb; have BK116 := Aside0.mk (hbox); have GW116 := zG HB hg; have GE116 := zG HB hg; replace HB := zS HB hb; clear hb hbox hg; obtain ⟨hcz16_0, hcz16_1, hfz16_0, hfz16_1⟩ := zD2 BK116) | ((with_reducible refine gate_callee (f := 104) rfl ?_); refine zL (some 9) Try.func104 #[.agg #[.int .i64 a0_0, .slice A0_1 l0_1.length c0_1]] ?_; (with_reducible refine (connect_Connected.calls k a0_0 _ _ l0_1 true t118 _ ?side1 ?side2 A3.out).mono ?_); (case side1 => exact Kd.C_below HR0_1.out zB); (case side2 => exact HC0_1.out); rintro e w17 ⟨rfl, hb⟩; refine ⟨_, rfl, ?_⟩; replace BK116 := zb BK116 hb; replace HB := zS HB hb; (try clear hb); obtain ⟨hcz18_0, hcz18_1, hfz18_0, hfz18_1⟩ := zD2 BK116))
     go_ret
     exact ⟨zE, zB⟩
  ·replace c5 := Bool.eq_false_iff.mpr c5
   subst c5
   have H1 : (some 13) = some r := by rw [if_neg (show ¬ (false = true) by decide)] at H; exact H
   clear H
   have H := H1
   clear H1
   obtain rfl := Option.some.inj H
   go_enter Try.func91, Try.ntmps91
   go_wp2_with (first | ((with_reducible refine gate_dst (N := 2) rfl ?_); refine zX 2 #[.int .i64 a0_0, .slice A0_1 l0_1.length c0_1] 24 ?_; intro gb116 hg w19 hbox hb; have BK116 := Aside0.mk (hbox); have GW116 := zG HB hg; have GE116 := zG HB hg; replace HB := zS HB hb; clear hb hbox hg; obtain ⟨hcz20_0, hcz20_1, hfz20_0, hfz20_1⟩ := zD2 BK116) | ((with_reducible refine gate_callee (f := 104) rfl ?_); refine zL (some 9) Try.func104 #[.agg #[.int .i64 a0_0, .slice A0_1 l0_1.length c0_1]] ?_; (with_reducible refine (connect_Connected.calls k a0_0 _ _ l0_1 false t118 _ ?side1 ?side2 A3.out).mono ?_); (case side1 => exact Kd.C_below HR0_1.out zB); (case side2 => exact HC0_1.out); rintro e w21 ⟨rfl, hb⟩; refine ⟨_, rfl, ?_⟩; replace BK116 := zb BK116 hb; replace HB := zS HB hb; (try clear hb)))
   go_ret
   exact ⟨zE, zB⟩
 ·rw [if_neg c4] at H
  have c4b0 : (t118 == 0) = false := beq_eq_false_iff_ne.mpr c4
  have c4b1 : (t118 != 0) = true := bne_iff_ne.mpr c4
  obtain rfl := Option.some.inj H
  go_enter Try.func91, Try.ntmps91
  go_wp2_with (first | ((with_reducible refine gate_dst (N := 2) rfl ?_); refine zX 2 #[.int .i64 a0_0, .slice A0_1 l0_1.length c0_1] 24 ?_; intro gb116 hg w22 hbox hb; have BK116 := Aside0.mk (hbox); have GW116 := zG HB hg; have GE116 := zG HB hg; replace HB := zS HB hb; clear hb hbox hg; obtain ⟨hcz23_0, hcz23_1, hfz23_0, hfz23_1⟩ := zD2 BK116) | ((with_reducible refine gate_callee (f := 104) rfl ?_); refine zL (some 9) Try.func104 #[.agg #[.int .i64 a0_0, .slice A0_1 l0_1.length c0_1]] ?_; (with_reducible refine (connect_Connected.calls k a0_0 _ _ l0_1 t117 t118 _ ?side1 ?side2 A3.out).mono ?_); (case side1 => exact Kd.C_below HR0_1.out zB); (case side2 => exact HC0_1.out); rintro e w24 ⟨rfl, hb⟩; refine ⟨_, rfl, ?_⟩; replace BK116 := zb BK116 hb; replace HB := zS HB hb; (try clear hb)))
  go_ret
  exact ⟨zE, zB⟩
def chips_vertices.f (a0 : Int) : Option (Int) := if a0 < 1 then (some 2) else (if a0 > 12 then (some 2) else (some 0))
theorem chips_vertices.calls (a0 : Int) (r : Int) (w : World) (h : chips_vertices.f a0 = some r) :
  Calls Try.prog 109 #[.int .i64 a0] w fun e w' => e = .returned (.int .i64 r) ∧ Drawn0 w w' := by
 have H : (if a0 < 1 then (some 2) else (if a0 > 12 then (some 2) else (some 0))) = some r := h
 clear h
 by_cases c2 : a0 < 1
 ·rw [if_pos c2] at H
  have c2b0 : decide (a0 < 1) = true := decide_eq_true c2
  clear c2
  obtain rfl := Option.some.inj H
  go_enter Try.func109, Try.ntmps109
  go_wp2
  go_ret
  exact ⟨zT, by repeat (first | exact Drawn0.refl _ | apply Drawn0.step)⟩
 ·rw [if_neg c2] at H
  have c2b0 : decide (a0 < 1) = false := decide_eq_false c2
  clear c2
  by_cases c3 : a0 > 12
  ·rw [if_pos c3] at H
   have c3b0 : decide (12 < a0) = true := decide_eq_true c3
   clear c3
   obtain rfl := Option.some.inj H
   go_enter Try.func109, Try.ntmps109
   go_wp2
   go_ret
   exact ⟨zT, by repeat (first | exact Drawn0.refl _ | apply Drawn0.step)⟩
  ·rw [if_neg c3] at H
   have c3b0 : decide (12 < a0) = false := decide_eq_false c3
   clear c3
   obtain rfl := Option.some.inj H
   go_enter Try.func109, Try.ntmps109
   go_wp2
   go_ret
   exact ⟨zT, by repeat (first | exact Drawn0.refl _ | apply Drawn0.step)⟩
def chips_within.f (a0 : Int) : Option (Bool) := if a0 ≥ (-1048576) then (some (decide (a0 ≤ 1048576))) else (some false)
theorem chips_within.calls (a0 : Int) (r : Bool) (w : World) (h : chips_within.f a0 = some r) :
  Calls Try.prog 110 #[.int .i64 a0] w fun e w' => e = .returned (.bool r) ∧ Drawn0 w w' := by
 have H : (if a0 ≥ (-1048576) then (some (decide (a0 ≤ 1048576))) else (some false)) = some r := h
 clear h
 by_cases c2 : a0 ≥ (-1048576)
 ·rw [if_pos c2] at H
  have c2b0 : decide ((-1048576) ≤ a0) = true := decide_eq_true c2
  clear c2
  obtain rfl := Option.some.inj H
  go_enter Try.func110, Try.ntmps110
  go_wp2
  go_ret
  exact ⟨zT, by repeat (first | exact Drawn0.refl _ | apply Drawn0.step)⟩
 ·rw [if_neg c2] at H
  have c2b0 : decide ((-1048576) ≤ a0) = false := decide_eq_false c2
  clear c2
  obtain rfl := Option.some.inj H
  go_enter Try.func110, Try.ntmps110
  go_wp2
  go_ret
  exact ⟨zT, by repeat (first | exact Drawn0.refl _ | apply Drawn0.step)⟩
def chips_Check.l0 : Nat → List Int → Int → Int → Option (Int)
 | 0, _, _, _ => none
 | k + 1, x17, x18, x19 => if x19 < x18 then (if 0 ≤ x19 then (if x19 < (x17.length : Int) then ((chips_within.f (rd x17 x19)).bind fun t126 => (if t126 = true then (chips_Check.l0 k x17 x18 (wrap64 (x19 + 1))) else (some 2))) else (none)) else (none)) else (some 0)
def chips_Check.f (k : Nat) (l0 : List Int) (a1 : Int) : Option (Int) := (chips_vertices.f a1).bind fun t124 => (if t124 = 0 then (if (l0.length : Int) = a1 then (chips_Check.l0 k l0 (l0.length : Int) 0) else (some 8)) else (some t124))
theorem chips_Check.calls (k : Nat) (A0 : Option Addr) (c0 : Nat) (l0 : List Int) (a1 : Int) (r : Int) (w : World) (hr0 : Kd.C (Kd.int .i64) w A0 l0.length l0) (hc0 : l0.length ≤ c0) (h : chips_Check.f k l0 a1 = some r) :
  Calls Try.prog 101 #[.slice A0 l0.length c0, .int .i64 a1] w fun e w' => e = .returned (.int .i64 r) ∧ Drawn0 w w' := by
 have HR0 := Aside0.mk hr0
 have HC0 := Aside0.mk hc0
 clear hr0 hc0
 have H : ((chips_vertices.f a1).bind fun t124 => (if t124 = 0 then (if (l0.length : Int) = a1 then (chips_Check.l0 k l0 (l0.length : Int) 0) else (some 8)) else (some t124))) = some r := h
 clear h
 replace H := Option.bind_eq_some_iff.mp H
 obtain ⟨t124, A30, H⟩ := H
 replace H : (if t124 = 0 then (if (l0.length : Int) = a1 then (chips_Check.l0 k l0 (l0.length : Int) 0) else (some 8)) else (some t124)) = some r := H
 have A3 := Aside0.mk A30
 clear A30
 by_cases c4 : t124 = 0
 ·rw [if_pos c4] at H
  have c4b0 : (t124 == 0) = true := beq_iff_eq.mpr c4
  have c4b1 : (t124 != 0) = false := bne_eq_false_iff_eq.mpr c4
  clear c4
  by_cases c5 : (l0.length : Int) = a1
  ·rw [if_pos c5] at H
   have c5b0 : ((l0.length : Int) == a1) = true := beq_iff_eq.mpr c5
   have c5b1 : ((l0.length : Int) != a1) = false := bne_eq_false_iff_eq.mpr c5
   clear c5
   have H' := Aside0.mk H
   clear H
   go_enter Try.func101, Try.ntmps101
   go_wp2_with (first | ((with_reducible refine gate_callee (f := 109) rfl ?_); refine zL (some 9) Try.func109 #[.int .i64 a1] ?_; (with_reducible refine (chips_vertices.calls a1 t124 _ A3.out).mono ?_); rintro e w' ⟨rfl, ⟨nd, rfl⟩⟩; refine ⟨_, rfl, ?_⟩))
   go_loopg [19] k (fun kq v19 w' => ∃ (x19_1 : Int), v19 = .int .i64 x19_1 ∧ Aside0 (chips_Check.l0 kq l0 (l0.length : Int) x19_1 = some r) ∧ Aside0 (kq ≤ k) ∧ Drawn0 w w')
   case atStart => exact ⟨(0), zT, H', ⟨Nat.le_refl _⟩, by repeat (first | exact Drawn0.refl _ | apply Drawn0.step)⟩
   case round =>
    clear H'
    try clear c1
    try clear p2
    try clear c4
    try clear c4b0
    try clear c4b1
    try clear c5
    try clear c5b0
    try clear c5b1
    obtain ⟨x19_1, rfl, HA, HK1, ⟨m1, rfl⟩⟩ := hrel
    cases gk with
    | zero => exact absurd HA.out (by simp [chips_Check.l0])
    | succ k1 =>
     have H := HA.out
     clear HA
     simp only [chips_Check.l0] at H
     by_cases c6 : x19_1 < (l0.length : Int)
     ·rw [if_pos c6] at H
      have c6b0 : decide (x19_1 < (l0.length : Int)) = true := decide_eq_true c6
      clear c6
      by_cases c7 : 0 ≤ x19_1
      ·rw [if_pos c7] at H
       have c7b0 : decide (0 ≤ x19_1) = true := decide_eq_true c7
       clear c7
       by_cases c8 : x19_1 < (l0.length : Int)
       ·rw [if_pos c8] at H
        have c8b0 : decide (x19_1 < (l0.length : Int)) = true := decide_eq_true c8
        clear c8
        replace H := Option.bind_eq_some_iff.mp H
        obtain ⟨t126, A90, H⟩ := H
        replace H : (if t126 = true then (chips_Check.l0 k1 l0 (l0.length : Int) (wrap64 (x19_1 + 1))) else (some 2)) = some r := H
        have A9 := Aside0.mk A90
        clear A90
        by_cases c10 : t126 = true
        ·subst c10
         have H1 : (chips_Check.l0 k1 l0 (l0.length : Int) (wrap64 (x19_1 + 1))) = some r := by rw [if_pos rfl] at H; exact H
         clear H
         have H := H1
         clear H1
         have H' := Aside0.mk H
         clear H
         have p125 : 0 ≤ (x19_1 : Int) := of_decide_eq_true ‹_›
         have q125 : x19_1 < (l0.length : Int) := of_decide_eq_true ‹_›
         obtain ⟨ad125, e125, hx125_0⟩ := Kd.at_int HR0.out x19_1 p125 q125
         cases e125
         replace p125 := eq_true p125
         replace q125 := eq_true q125
         go_wp2_with (first | ((with_reducible refine gate_callee (f := 110) rfl ?_); refine zL (some 24) Try.func110 #[.int .i64 (rd l0 x19_1)] ?_; (with_reducible refine (chips_within.calls (rd l0 x19_1) true _ A9.out).mono ?_); rintro e w' ⟨rfl, ⟨nd, rfl⟩⟩; refine ⟨_, rfl, ?_⟩))
         go_roundg k1
         case measure => have := HK1.out; omega
         case rel => exact ⟨(wrap64 (x19_1 + 1)), zT, H', ⟨by have := HK1.out; omega⟩, by repeat (first | exact Drawn0.refl _ | apply Drawn0.step)⟩
        ·replace c10 := Bool.eq_false_iff.mpr c10
         subst c10
         have H1 : (some 2) = some r := by rw [if_neg (show ¬ (false = true) by decide)] at H; exact H
         clear H
         have H := H1
         clear H1
         obtain rfl := Option.some.inj H
         have p125 : 0 ≤ (x19_1 : Int) := of_decide_eq_true ‹_›
         have q125 : x19_1 < (l0.length : Int) := of_decide_eq_true ‹_›
         obtain ⟨ad125, e125, hx125_0⟩ := Kd.at_int HR0.out x19_1 p125 q125
         cases e125
         replace p125 := eq_true p125
         replace q125 := eq_true q125
         go_wp2_with (first | ((with_reducible refine gate_callee (f := 110) rfl ?_); refine zL (some 24) Try.func110 #[.int .i64 (rd l0 x19_1)] ?_; (with_reducible refine (chips_within.calls (rd l0 x19_1) false _ A9.out).mono ?_); rintro e w' ⟨rfl, ⟨nd, rfl⟩⟩; refine ⟨_, rfl, ?_⟩))
         go_ret
         exact ⟨zT, by repeat (first | exact Drawn0.refl _ | apply Drawn0.step)⟩
       ·rw [if_neg c8] at H
        exact absurd H (by simp)
      ·rw [if_neg c7] at H
       exact absurd H (by simp)
     ·rw [if_neg c6] at H
      have c6b0 : decide (x19_1 < (l0.length : Int)) = false := decide_eq_false c6
      clear c6
      obtain rfl := Option.some.inj H
      go_wp2
      go_ret
      exact ⟨zT, by repeat (first | exact Drawn0.refl _ | apply Drawn0.step)⟩
  ·rw [if_neg c5] at H
   have c5b0 : ((l0.length : Int) == a1) = false := beq_eq_false_iff_ne.mpr c5
   have c5b1 : ((l0.length : Int) != a1) = true := bne_iff_ne.mpr c5
   obtain rfl := Option.some.inj H
   go_enter Try.func101, Try.ntmps101
   go_wp2_with (first | ((with_reducible refine gate_callee (f := 109) rfl ?_); refine zL (some 9) Try.func109 #[.int .i64 a1] ?_; (with_reducible refine (chips_vertices.calls a1 t124 _ A3.out).mono ?_); rintro e w' ⟨rfl, ⟨nd, rfl⟩⟩; refine ⟨_, rfl, ?_⟩))
   go_ret
   exact ⟨zT, by repeat (first | exact Drawn0.refl _ | apply Drawn0.step)⟩
 ·rw [if_neg c4] at H
  have c4b0 : (t124 == 0) = false := beq_eq_false_iff_ne.mpr c4
  have c4b1 : (t124 != 0) = true := bne_iff_ne.mpr c4
  obtain rfl := Option.some.inj H
  go_enter Try.func101, Try.ntmps101
  go_wp2_with (first | ((with_reducible refine gate_callee (f := 109) rfl ?_); refine zL (some 9) Try.func109 #[.int .i64 a1] ?_; (with_reducible refine (chips_vertices.calls a1 t124 _ A3.out).mono ?_); rintro e w' ⟨rfl, ⟨nd, rfl⟩⟩; refine ⟨_, rfl, ?_⟩))
  go_ret
  exact ⟨zT, by repeat (first | exact Drawn0.refl _ | apply Drawn0.step)⟩
def stabilize_Check.l0 : Nat → Int → List Int → Int → Int → Option (Int)
 | 0, _, _, _, _ => none
 | k + 1, x1, x24, x25, x26 => if x26 < x25 then (if 0 ≤ x26 then (if x26 < (x24.length : Int) then (if x26 = x1 then (stabilize_Check.l0 k x1 x24 x25 (wrap64 (x26 + 1))) else (if (rd x24 x26) < 0 then (some 2) else (stabilize_Check.l0 k x1 x24 x25 (wrap64 (x26 + 1))))) else (none)) else (none)) else (some 0)
def stabilize_Check.f (k : Nat) (a0_0 : Int) (l0_1 : List (S66)) (a1 : Int) (l2 : List Int) : Option (Int) := (stabilize_rooted.f k a0_0 l0_1 a1).bind fun t128 => (if t128 = 0 then ((chips_Check.f k l2 a0_0).bind fun t129 => (if t129 = 0 then (stabilize_Check.l0 k a1 l2 (l2.length : Int) 0) else (some t129))) else (some t128))
theorem stabilize_Check.calls (k : Nat) (a0_0 : Int) (A0_1 : Option Addr) (c0_1 : Nat) (l0_1 : List (S66)) (a1 : Int) (A2 : Option Addr) (c2 : Nat) (l2 : List Int) (r : Int) (w : World) (hr0_1 : Kd.C k66 w A0_1 l0_1.length l0_1) (hc0_1 : l0_1.length ≤ c0_1) (hr2 : Kd.C (Kd.int .i64) w A2 l2.length l2) (hc2 : l2.length ≤ c2) (h : stabilize_Check.f k a0_0 l0_1 a1 l2 = some r) :
  Calls Try.prog 88 #[.agg #[.int .i64 a0_0, .slice A0_1 l0_1.length c0_1], .int .i64 a1, .slice A2 l2.length c2] w fun e w' => e = .returned (.int .i64 r) ∧ Below w.heap.size w w' := by
 have hu24 := Try.underlying24
 have HR0_1 := Aside0.mk hr0_1
 have HC0_1 := Aside0.mk hc0_1
 clear hr0_1 hc0_1
 have HR2 := Aside0.mk hr2
 have HC2 := Aside0.mk hc2
 clear hr2 hc2
 have HB := Aside0.mk (Below.refl w.heap.size w)
 have H : ((stabilize_rooted.f k a0_0 l0_1 a1).bind fun t128 => (if t128 = 0 then ((chips_Check.f k l2 a0_0).bind fun t129 => (if t129 = 0 then (stabilize_Check.l0 k a1 l2 (l2.length : Int) 0) else (some t129))) else (some t128))) = some r := h
 clear h
 replace H := Option.bind_eq_some_iff.mp H
 obtain ⟨t128, A40, H⟩ := H
 replace H : (if t128 = 0 then ((chips_Check.f k l2 a0_0).bind fun t129 => (if t129 = 0 then (stabilize_Check.l0 k a1 l2 (l2.length : Int) 0) else (some t129))) else (some t128)) = some r := H
 have A4 := Aside0.mk A40
 clear A40
 by_cases c5 : t128 = 0
 ·rw [if_pos c5] at H
  have c5b0 : (t128 == 0) = true := beq_iff_eq.mpr c5
  have c5b1 : (t128 != 0) = false := bne_eq_false_iff_eq.mpr c5
  clear c5
  replace H := Option.bind_eq_some_iff.mp H
  obtain ⟨t129, A60, H⟩ := H
  replace H : (if t129 = 0 then (stabilize_Check.l0 k a1 l2 (l2.length : Int) 0) else (some t129)) = some r := H
  have A6 := Aside0.mk A60
  clear A60
  by_cases c7 : t129 = 0
  ·rw [if_pos c7] at H
   have c7b0 : (t129 == 0) = true := beq_iff_eq.mpr c7
   have c7b1 : (t129 != 0) = false := bne_eq_false_iff_eq.mpr c7
   clear c7
   have H' := Aside0.mk H
   clear H
   go_enter Try.func88, Try.ntmps88
   go_wp2_with (first | ((with_reducible refine gate_dst (N := 3) rfl ?_); refine zX 3 #[.int .i64 a0_0, .slice A0_1 l0_1.length c0_1] 24 ?_; intro gb127 hg w8 hbox hb; have BK127 := Aside0.mk (hbox); have GW127 := zG HB hg; have GE127 := zG HB hg; replace HB := zS HB hb; clear hb hbox hg; obtain ⟨hcz9_0, hcz9_1, hfz9_0, hfz9_1⟩ := zD2 BK127) | ((with_reducible refine gate_callee (f := 91) rfl ?_); refine zL (some 13) Try.func91 #[.agg #[.int .i64 a0_0, .slice A0_1 l0_1.length c0_1], .int .i64 a1] ?_; (with_reducible refine (stabilize_rooted.calls k a0_0 _ _ l0_1 a1 t128 _ ?side1 ?side2 A4.out).mono ?_); (case side1 => exact Kd.C_below HR0_1.out zB); (case side2 => exact HC0_1.out); rintro e w10 ⟨rfl, hb⟩; refine ⟨_, rfl, ?_⟩; replace BK127 := zb BK127 hb; replace HB := zS HB hb; (try clear hb); obtain ⟨hcz11_0, hcz11_1, hfz11_0, hfz11_1⟩ := zD2 BK127) | ((with_reducible refine gate_callee (f := 101) rfl ?_); refine zL (some 20) Try.func101 #[.slice A2 l2.length c2, .int .i64 a0_0] ?_; (with_reducible refine (chips_Check.calls k _ _ l2 a0_0 t129 _ ?side1 ?side2 A6.out).mono ?_); (case side1 => exact Kd.C_below HR2.out zB); (case side2 => exact HC2.out); rintro e w' ⟨rfl, ⟨nd, rfl⟩⟩; refine ⟨_, rfl, ?_⟩))
   go_loopg [26] k (fun kq v26 w' => ∃ (x26_1 : Int), v26 = .int .i64 x26_1 ∧ Aside0 (stabilize_Check.l0 kq a1 l2 (l2.length : Int) x26_1 = some r) ∧ Aside0 (kq ≤ k) ∧ Aside0 (w'.heap[gb127]? = some (.cells #[.int .i64 a0_0, (.slice A0_1 l0_1.length c0_1)] 24 (0, 0))) ∧ Aside0 (Below w.heap.size w w'))
   case atStart => exact ⟨(0), zT, H', ⟨Nat.le_refl _⟩, ⟨zK BK127⟩, ⟨zB⟩⟩
   case round =>
    clear H'
    try clear c1
    try clear c2
    try clear p2
    try clear c5
    try clear c5b0
    try clear c5b1
    try clear c7
    try clear c7b0
    try clear c7b1
    try clear c8
    try clear c9
    try clear c10
    try clear hcz11_0
    try clear hcz11_1
    try clear hcz9_0
    try clear hcz9_1
    try clear hfz11_0
    try clear hfz11_1
    try clear hfz9_0
    try clear hfz9_1
    obtain ⟨x26_1, rfl, HA, HK1, BK127, HB⟩ := hrel
    cases gk with
    | zero => exact absurd HA.out (by simp [stabilize_Check.l0])
    | succ k1 =>
     have H := HA.out
     clear HA
     simp only [stabilize_Check.l0] at H
     by_cases c12 : x26_1 < (l2.length : Int)
     ·rw [if_pos c12] at H
      have c12b0 : decide (x26_1 < (l2.length : Int)) = true := decide_eq_true c12
      clear c12
      by_cases c13 : 0 ≤ x26_1
      ·rw [if_pos c13] at H
       have c13b0 : decide (0 ≤ x26_1) = true := decide_eq_true c13
       clear c13
       by_cases c14 : x26_1 < (l2.length : Int)
       ·rw [if_pos c14] at H
        have c14b0 : decide (x26_1 < (l2.length : Int)) = true := decide_eq_true c14
        clear c14
        by_cases c15 : x26_1 = a1
        ·rw [if_pos c15] at H
         have c15b0 : (x26_1 == a1) = true := beq_iff_eq.mpr c15
         have c15b1 : (x26_1 != a1) = false := bne_eq_false_iff_eq.mpr c15
         clear c15
         have H' := Aside0.mk H
         clear H
         have p130 : 0 ≤ (x26_1 : Int) := of_decide_eq_true ‹_›
         have q130 : x26_1 < (l2.length : Int) := of_decide_eq_true ‹_›
         obtain ⟨ad130, e130, hx130_0⟩ := Kd.at_int HR2.out x26_1 p130 q130
         cases e130
         replace hx130_0 := (HB.out.cell (World.block_lt_of_cell? w _ hx130_0)).trans hx130_0
         replace p130 := eq_true p130
         replace q130 := eq_true q130
         go_wp2
         go_roundg k1
         case measure => have := HK1.out; omega
         case rel => exact ⟨(wrap64 (x26_1 + 1)), zT, H', ⟨by have := HK1.out; omega⟩, ⟨zK BK127⟩, ⟨zB⟩⟩
        ·rw [if_neg c15] at H
         have c15b0 : (x26_1 == a1) = false := beq_eq_false_iff_ne.mpr c15
         have c15b1 : (x26_1 != a1) = true := bne_iff_ne.mpr c15
         by_cases c16 : (rd l2 x26_1) < 0
         ·rw [if_pos c16] at H
          have c16b0 : decide ((rd l2 x26_1) < 0) = true := decide_eq_true c16
          clear c16
          obtain rfl := Option.some.inj H
          have p130 : 0 ≤ (x26_1 : Int) := of_decide_eq_true ‹_›
          have q130 : x26_1 < (l2.length : Int) := of_decide_eq_true ‹_›
          obtain ⟨ad130, e130, hx130_0⟩ := Kd.at_int HR2.out x26_1 p130 q130
          cases e130
          replace hx130_0 := (HB.out.cell (World.block_lt_of_cell? w _ hx130_0)).trans hx130_0
          replace p130 := eq_true p130
          replace q130 := eq_true q130
          go_wp2
          go_ret
          exact ⟨zE, zB⟩
         ·rw [if_neg c16] at H
          have c16b0 : decide ((rd l2 x26_1) < 0) = false := decide_eq_false c16
          clear c16
          have H' := Aside0.mk H
          clear H
          have p130 : 0 ≤ (x26_1 : Int) := of_decide_eq_true ‹_›
          have q130 : x26_1 < (l2.length : Int) := of_decide_eq_true ‹_›
          obtain ⟨ad130, e130, hx130_0⟩ := Kd.at_int HR2.out x26_1 p130 q130
          cases e130
          replace hx130_0 := (HB.out.cell (World.block_lt_of_cell? w _ hx130_0)).trans hx130_0
          replace p130 := eq_true p130
          replace q130 := eq_true q130
          go_wp2
          go_roundg k1
          case measure => have := HK1.out; omega
          case rel => exact ⟨(wrap64 (x26_1 + 1)), zT, H', ⟨by have := HK1.out; omega⟩, ⟨zK BK127⟩, ⟨zB⟩⟩
       ·rw [if_neg c14] at H
        exact absurd H (by simp)
      ·rw [if_neg c13] at H
       exact absurd H (by simp)
     ·rw [if_neg c12] at H
      have c12b0 : decide (x26_1 < (l2.length : Int)) = false := decide_eq_false c12
      clear c12
      obtain rfl := Option.some.inj H
      go_wp2
      go_ret
      exact ⟨zE, zB⟩
  ·rw [if_neg c7] at H
   have c7b0 : (t129 == 0) = false := beq_eq_false_iff_ne.mpr c7
   have c7b1 : (t129 != 0) = true := bne_iff_ne.mpr c7
   obtain rfl := Option.some.inj H
   go_enter Try.func88, Try.ntmps88
   go_wp2_with (first | ((with_reducible refine gate_dst (N := 3) rfl ?_); refine zX 3 #[.int .i64 a0_0, .slice A0_1 l0_1.length c0_1] 24 ?_; intro gb127 hg w17 hbox hb; have BK127 := Aside0.mk (hbox); have GW127 := zG HB hg; have GE127 := zG HB hg; replace HB := zS HB hb; clear hb hbox hg; obtain ⟨hcz18_0, hcz18_1, hfz18_0, hfz18_1⟩ := zD2 BK127) | ((with_reducible refine gate_callee (f := 91) rfl ?_); refine zL (some 13) Try.func91 #[.agg #[.int .i64 a0_0, .slice A0_1 l0_1.length c0_1], .int .i64 a1] ?_; (with_reducible refine (stabilize_rooted.calls k a0_0 _ _ l0_1 a1 t128 _ ?side1 ?side2 A4.out).mono ?_); (case side1 => exact Kd.C_below HR0_1.out zB); (case side2 => exact HC0_1.out); rintro e w19 ⟨rfl, hb⟩; refine ⟨_, rfl, ?_⟩; replace BK127 := zb BK127 hb; replace HB := zS HB hb; (try clear hb); obtain ⟨hcz20_0, hcz20_1, hfz20_0, hfz20_1⟩ := zD2 BK127) | ((with_reducible refine gate_callee (f := 101) rfl ?_); refine zL (some 20) Try.func101 #[.slice A2 l2.length c2, .int .i64 a0_0] ?_; (with_reducible refine (chips_Check.calls k _ _ l2 a0_0 t129 _ ?side1 ?side2 A6.out).mono ?_); (case side1 => exact Kd.C_below HR2.out zB); (case side2 => exact HC2.out); rintro e w' ⟨rfl, ⟨nd, rfl⟩⟩; refine ⟨_, rfl, ?_⟩))
   go_ret
   exact ⟨zE, zB⟩
 ·rw [if_neg c5] at H
  have c5b0 : (t128 == 0) = false := beq_eq_false_iff_ne.mpr c5
  have c5b1 : (t128 != 0) = true := bne_iff_ne.mpr c5
  obtain rfl := Option.some.inj H
  go_enter Try.func88, Try.ntmps88
  go_wp2_with (first | ((with_reducible refine gate_dst (N := 3) rfl ?_); refine zX 3 #[.int .i64 a0_0, .slice A0_1 l0_1.length c0_1] 24 ?_; intro gb127 hg w21 hbox hb; have BK127 := Aside0.mk (hbox); have GW127 := zG HB hg; have GE127 := zG HB hg; replace HB := zS HB hb; clear hb hbox hg; obtain ⟨hcz22_0, hcz22_1, hfz22_0, hfz22_1⟩ := zD2 BK127) | ((with_reducible refine gate_callee (f := 91) rfl ?_); refine zL (some 13) Try.func91 #[.agg #[.int .i64 a0_0, .slice A0_1 l0_1.length c0_1], .int .i64 a1] ?_; (with_reducible refine (stabilize_rooted.calls k a0_0 _ _ l0_1 a1 t128 _ ?side1 ?side2 A4.out).mono ?_); (case side1 => exact Kd.C_below HR0_1.out zB); (case side2 => exact HC0_1.out); rintro e w23 ⟨rfl, hb⟩; refine ⟨_, rfl, ?_⟩; replace BK127 := zb BK127 hb; replace HB := zS HB hb; (try clear hb)))
  go_ret
  exact ⟨zE, zB⟩
def burning_check.f (k : Nat) (a0_0 : Int) (l0_1 : List (S66)) (a1 : Int) (l2 : List Int) : Option (Int) := (stabilize_Check.f k a0_0 l0_1 a1 l2).bind fun t132 => (if t132 = 0 then (if 0 ≤ a1 then (if a1 < (l2.length : Int) then (if (rd l2 a1) = 0 then (some 0) else (some 3)) else (none)) else (none)) else (some t132))
theorem burning_check.calls (k : Nat) (a0_0 : Int) (A0_1 : Option Addr) (c0_1 : Nat) (l0_1 : List (S66)) (a1 : Int) (A2 : Option Addr) (c2 : Nat) (l2 : List Int) (r : Int) (w : World) (hr0_1 : Kd.C k66 w A0_1 l0_1.length l0_1) (hc0_1 : l0_1.length ≤ c0_1) (hr2 : Kd.C (Kd.int .i64) w A2 l2.length l2) (hc2 : l2.length ≤ c2) (h : burning_check.f k a0_0 l0_1 a1 l2 = some r) :
  Calls Try.prog 82 #[.agg #[.int .i64 a0_0, .slice A0_1 l0_1.length c0_1], .int .i64 a1, .slice A2 l2.length c2] w fun e w' => e = .returned (.int .i64 r) ∧ Below w.heap.size w w' := by
 have hu24 := Try.underlying24
 have HR0_1 := Aside0.mk hr0_1
 have HC0_1 := Aside0.mk hc0_1
 clear hr0_1 hc0_1
 have HR2 := Aside0.mk hr2
 have HC2 := Aside0.mk hc2
 clear hr2 hc2
 have HB := Aside0.mk (Below.refl w.heap.size w)
 have H : ((stabilize_Check.f k a0_0 l0_1 a1 l2).bind fun t132 => (if t132 = 0 then (if 0 ≤ a1 then (if a1 < (l2.length : Int) then (if (rd l2 a1) = 0 then (some 0) else (some 3)) else (none)) else (none)) else (some t132))) = some r := h
 clear h
 replace H := Option.bind_eq_some_iff.mp H
 obtain ⟨t132, A40, H⟩ := H
 replace H : (if t132 = 0 then (if 0 ≤ a1 then (if a1 < (l2.length : Int) then (if (rd l2 a1) = 0 then (some 0) else (some 3)) else (none)) else (none)) else (some t132)) = some r := H
 have A4 := Aside0.mk A40
 clear A40
 by_cases c5 : t132 = 0
 ·rw [if_pos c5] at H
  have c5b0 : (t132 == 0) = true := beq_iff_eq.mpr c5
  have c5b1 : (t132 != 0) = false := bne_eq_false_iff_eq.mpr c5
  clear c5
  by_cases c6 : 0 ≤ a1
  ·rw [if_pos c6] at H
   have c6b0 : decide (0 ≤ a1) = true := decide_eq_true c6
   clear c6
   by_cases c7 : a1 < (l2.length : Int)
   ·rw [if_pos c7] at H
    have c7b0 : decide (a1 < (l2.length : Int)) = true := decide_eq_true c7
    clear c7
    by_cases c8 : (rd l2 a1) = 0
    ·rw [if_pos c8] at H
     have c8b0 : ((rd l2 a1) == 0) = true := beq_iff_eq.mpr c8
     have c8b1 : ((rd l2 a1) != 0) = false := bne_eq_false_iff_eq.mpr c8
     clear c8
     obtain rfl := Option.some.inj H
     go_enter Try.func82, Try.ntmps82
     go_wp2_with (first | ((with_reducible refine gate_dst (N := 3) rfl ?_); refine zX 3 #[.int .i64 a0_0, .slice A0_1 l0_1.length c0_1] 24 ?_; intro gb131 hg w9 hbox hb; have BK131 := Aside0.mk (hbox); have GW131 := zG HB hg; have GE131 := zG HB hg; replace HB := zS HB hb; clear hb hbox hg; obtain ⟨hcz10_0, hcz10_1, hfz10_0, hfz10_1⟩ := zD2 BK131) | ((with_reducible refine gate_callee (f := 88) rfl ?_); refine zL (some 11) Try.func88 #[.agg #[.int .i64 a0_0, .slice A0_1 l0_1.length c0_1], .int .i64 a1, .slice A2 l2.length c2] ?_; (with_reducible refine (stabilize_Check.calls k a0_0 _ _ l0_1 a1 _ _ l2 t132 _ ?side1 ?side2 ?side3 ?side4 A4.out).mono ?_); (case side1 => exact Kd.C_below HR0_1.out zB); (case side2 => exact HC0_1.out); (case side3 => exact Kd.C_below HR2.out zB); (case side4 => exact HC2.out); rintro e w11 ⟨rfl, hb⟩; refine ⟨_, rfl, ?_⟩; replace BK131 := zb BK131 hb; replace HB := zS HB hb; (try clear hb); have p133 : 0 ≤ (a1 : Int) := of_decide_eq_true ‹_›; have q133 : a1 < (l2.length : Int) := of_decide_eq_true ‹_›; obtain ⟨ad133, e133, hx133_0⟩ := Kd.at_int HR2.out a1 p133 q133; cases e133; replace hx133_0 := (HB.out.cell (World.block_lt_of_cell? w _ hx133_0)).trans hx133_0; replace p133 := eq_true p133; replace q133 := eq_true q133))
     go_ret
     exact ⟨zE, zB⟩
    ·rw [if_neg c8] at H
     have c8b0 : ((rd l2 a1) == 0) = false := beq_eq_false_iff_ne.mpr c8
     have c8b1 : ((rd l2 a1) != 0) = true := bne_iff_ne.mpr c8
     obtain rfl := Option.some.inj H
     go_enter Try.func82, Try.ntmps82
     go_wp2_with (first | ((with_reducible refine gate_dst (N := 3) rfl ?_); refine zX 3 #[.int .i64 a0_0, .slice A0_1 l0_1.length c0_1] 24 ?_; intro gb131 hg w12 hbox hb; have BK131 := Aside0.mk (hbox); have GW131 := zG HB hg; have GE131 := zG HB hg; replace HB := zS HB hb; clear hb hbox hg; obtain ⟨hcz13_0, hcz13_1, hfz13_0, hfz13_1⟩ := zD2 BK131) | ((with_reducible refine gate_callee (f := 88) rfl ?_); refine zL (some 11) Try.func88 #[.agg #[.int .i64 a0_0, .slice A0_1 l0_1.length c0_1], .int .i64 a1, .slice A2 l2.length c2] ?_; (with_reducible refine (stabilize_Check.calls k a0_0 _ _ l0_1 a1 _ _ l2 t132 _ ?side1 ?side2 ?side3 ?side4 A4.out).mono ?_); (case side1 => exact Kd.C_below HR0_1.out zB); (case side2 => exact HC0_1.out); (case side3 => exact Kd.C_below HR2.out zB); (case side4 => exact HC2.out); rintro e w14 ⟨rfl, hb⟩; refine ⟨_, rfl, ?_⟩; replace BK131 := zb BK131 hb; replace HB := zS HB hb; (try clear hb); have p133 : 0 ≤ (a1 : Int) := of_decide_eq_true ‹_›; have q133 : a1 < (l2.length : Int) := of_decide_eq_true ‹_›; obtain ⟨ad133, e133, hx133_0⟩ := Kd.at_int HR2.out a1 p133 q133; cases e133; replace hx133_0 := (HB.out.cell (World.block_lt_of_cell? w _ hx133_0)).trans hx133_0; replace p133 := eq_true p133; replace q133 := eq_true q133))
     go_ret
     exact ⟨zE, zB⟩
   ·rw [if_neg c7] at H
    exact absurd H (by simp)
  ·rw [if_neg c6] at H
   exact absurd H (by simp)
 ·rw [if_neg c5] at H
  have c5b0 : (t132 == 0) = false := beq_eq_false_iff_ne.mpr c5
  have c5b1 : (t132 != 0) = true := bne_iff_ne.mpr c5
  obtain rfl := Option.some.inj H
  go_enter Try.func82, Try.ntmps82
  go_wp2_with (first | ((with_reducible refine gate_dst (N := 3) rfl ?_); refine zX 3 #[.int .i64 a0_0, .slice A0_1 l0_1.length c0_1] 24 ?_; intro gb131 hg w15 hbox hb; have BK131 := Aside0.mk (hbox); have GW131 := zG HB hg; have GE131 := zG HB hg; replace HB := zS HB hb; clear hb hbox hg; obtain ⟨hcz16_0, hcz16_1, hfz16_0, hfz16_1⟩ := zD2 BK131) | ((with_reducible refine gate_callee (f := 88) rfl ?_); refine zL (some 11) Try.func88 #[.agg #[.int .i64 a0_0, .slice A0_1 l0_1.length c0_1], .int .i64 a1, .slice A2 l2.length c2] ?_; (with_reducible refine (stabilize_Check.calls k a0_0 _ _ l0_1 a1 _ _ l2 t132 _ ?side1 ?side2 ?side3 ?side4 A4.out).mono ?_); (case side1 => exact Kd.C_below HR0_1.out zB); (case side2 => exact HC0_1.out); (case side3 => exact Kd.C_below HR2.out zB); (case side4 => exact HC2.out); rintro e w17 ⟨rfl, hb⟩; refine ⟨_, rfl, ?_⟩; replace BK131 := zb BK131 hb; replace HB := zS HB hb; (try clear hb)))
  go_ret
  exact ⟨zE, zB⟩
section
theorem WoodAt.bk {l : Nat} {A B : World} {g : Nat} {n : Int} {times : Nat → Nat → Int} {chips : Value} {burnt : Nat → Bool} (h : WoodAt A g n times chips burnt) (hb : Bk l A B) : WoodAt B g n times chips burnt := by
 obtain ⟨cs, hh, hc⟩ := h
 exact ⟨cs, hb.cells hh, hc⟩
attribute [local go_sem] Oper.semAt_some
theorem fire_calls (g : Nat) (w : World) : Calls Try.prog 84 #[.pointer (some ⟨g, 0, none⟩)] w fun e w' => e = .returned (.func (.func 98) #[] #[.pointer (some ⟨w.heap.size, 0, none⟩)]) ∧ w' = w.alloc (.cells #[.pointer (some ⟨g, 0, none⟩)] 99) := by
 go_enter Try.func84, Try.ntmps84
 go_wp2
 go_ret
 exact ⟨rfl, rfl⟩
def rightConf (N : Int) (E : List S66) (q : Int) (c : List Int) : Bool := decide (0 ≤ q ∧ q < N ∧ N ≤ 12 ∧ (c.length : Int) = N) && edgesInB N E
def sinkOnly (q : Nat) : Nat → Bool := fun i => if i = q then true else false
def fireOf (n : Nat) (E : List S66) (q : Nat) (c : List Int) : List Nat := fireList n (catchB n (timesOf E) c) (sinkOnly q)
def burning_Burn.f (k : Nat) (N : Int) (E : List S66) (q : Int) (c : List Int) : Option (List Int × List Int × Int) :=
 (burning_check.f k N E q c).bind fun t => if t = 0 then (if rightConf N E q c = true then
  some (q :: (fireOf N.toNat E q.toNat c).map Int.ofNat, unbTo (burnAll (sinkOnly q.toNat) (fireOf N.toNat E q.toNat c)) N.toNat, 0) else none) else some ([], [], t)
theorem burning_Burn.calls (k : Nat) (a0_0 : Int) (A0_1 : Option Addr) (c0_1 : Nat) (l0_1 : List (S66)) (a1 : Int) (A2 : Option Addr) (c2 : Nat) (l2 : List Int) (r1 : List Int) (r2 : List Int) (r3 : Int) (w : World) (hr0_1 : Kd.C k66 w A0_1 l0_1.length l0_1) (hc0_1 : l0_1.length ≤ c0_1) (hr2 : Kd.C (Kd.int .i64) w A2 l2.length l2) (hc2 : l2.length ≤ c2) (h : burning_Burn.f k a0_0 l0_1 a1 l2 = some (r1, r2, r3)) :
  Calls Try.prog 63 #[.agg #[.int .i64 a0_0, .slice A0_1 l0_1.length c0_1], .int .i64 a1, .slice A2 l2.length c2] w fun e w' => ∃ v0_ v1_ : Value, e = .returned (.tuple #[v0_, v1_, .int .i64 r3]) ∧ Kd.R (Kd.int .i64) 3 w' w.heap.size (fun k_ => some k_ ≠ (v1_ : Value).ownBlock) v0_ r1 ∧ Kd.R (Kd.int .i64) 3 w' w.heap.size (fun k_ => some k_ ≠ (v0_ : Value).ownBlock) v1_ r2 ∧ Below w.heap.size w w' := by
 have hu := Try.underlying24
 obtain ⟨t, ht, H⟩ := Option.bind_eq_some_iff.mp h
 clear h
 by_cases h0 : t = 0
 ·subst h0
  rw [if_pos rfl] at H
  by_cases hv : rightConf a0_0 l0_1 a1 l2 = true
  ·rw [if_pos hv] at H
   simp only [Option.some.injEq, Prod.mk.injEq] at H
   obtain ⟨rfl, rfl, rfl⟩ := H
   simp only [rightConf, Bool.and_eq_true, decide_eq_true_eq] at hv
   obtain ⟨⟨q0, qn, n12, hlen⟩, hE⟩ := hv
   obtain ⟨n, rfl⟩ := Int.eq_ofNat_of_zero_le (show 0 ≤ a0_0 by omega)
   obtain ⟨q, rfl⟩ := Int.eq_ofNat_of_zero_le q0
   simp only [Int.toNat_natCast]
   have hEI := Aside0.mk (edgesIn_of hE)
   have hl1 : l2.length ≤ n := by omega
   have hl2 : n ≤ l2.length := by omega
   have Ht := Aside0.mk ht
   clear hlen hE ht
   refine (callsIn_wide (n := 10)).1 ?_
   refine callsIn_of_wp_marks Try.func63 rfl trivial ?_ rfl
   simp only [Try.ntmps63, List.size_toArray, List.length_cons, List.length_nil, Nat.reduceAdd, Nat.reduceSub, Array.replicate_succ, Array.replicate_zero, List.push_toArray, List.append_toArray, List.nil_append, List.cons_append]
   gi_wp2_with (first | (refine ⟨trivial, ?_⟩; gi_at_call 82; refine (callsIn_wide.2 (burning_check.calls k _ _ c0_1 l0_1 _ _ c2 l2 0 _ (Kd.C_alloc hr0_1 _) hc0_1 (Kd.C_alloc hr2 _) hc2 Ht.out)).mono ?_; rintro e w1 ⟨rfl, hb⟩; have hx := (hb.cell (p := ⟨w.heap.size, 0, none⟩) (by simp)); have hy := (hb.cell (p := ⟨w.heap.size, 1, none⟩) (by simp)); have HB := Aside0.mk (below_then (below_alloc (Below.refl _ _) _) (by simp) hb); clear hb) | (refine ⟨trivial, ?_⟩; gi_at_call 83; refine (callsIn_wide.2 (kindled_calls n q _ c0_1 l0_1 _ c2 l2 _ (Kd.C_below hr0_1 HB.out) hc0_1 (Kd.C_below hr2 HB.out) hc2 (by omega) (by omega) hEI.out hl1 hl2)).mono ?_; rintro e w2 ⟨g, Av, cv, rfl, hW, hR, hB, hg⟩; have HW2 := Aside0.mk hW; have HR2 := Aside0.mk hR; have HB2 := Aside0.mk (below_then HB.out HB.out.size hB); clear hW hR hB) | (refine ⟨trivial, ?_⟩; gi_at_call 84; refine (callsIn_wide.2 (fire_calls g _)).mono ?_; rintro e w3 ⟨rfl, rfl⟩))
   have hgl := HW2.out.lt
   have hwl : w.heap.size ≤ w1.heap.size := HB.out.size
   have hwl2 : w.heap.size ≤ w2.heap.size := HB2.out.size
   have hcl : ∀ k, some k = (Value.slice Av l2.length cv).ownBlock → k < w2.heap.size := fun k hk => Kd.R_lt HR2.out k hk.symm
   have HW3 := Aside0.mk (HW2.out.below (below_alloc (below_alloc (below_alloc (Below.refl _ _) (.cells #[.int .i64 q] 3)) (.cells #[.slice (some ⟨w2.heap.size, 0, none⟩) 1 1] 33)) (.cells #[.pointer (some ⟨g, 0, none⟩)] 99)))
   have HC3 := Aside0.mk (Kd.R_alloc (Kd.R_alloc (Kd.R_alloc (Kd.R_tight rfl HR2.out) (.cells #[.int .i64 q] 3)) (.cells #[.slice (some ⟨w2.heap.size, 0, none⟩) 1 1] 33)) (.cells #[.pointer (some ⟨g, 0, none⟩)] 99))
   have HB3 := Aside0.mk (below_alloc (below_alloc (below_alloc HB2.out (.cells #[.int .i64 q] 3)) (.cells #[.slice (some ⟨w2.heap.size, 0, none⟩) 1 1] 33)) (.cells #[.pointer (some ⟨g, 0, none⟩)] 99))
   have HO3 : Aside0 (Kd.R (Kd.int .i64) 3 (((w2.alloc (.cells #[.int .i64 q] 3)).alloc (.cells #[.slice (some ⟨w2.heap.size, 0, none⟩) 1 1] 33)).alloc (.cells #[.pointer (some ⟨g, 0, none⟩)] 99)) w.heap.size (fun k => k ≠ g ∧ some k ≠ (Value.slice Av l2.length cv).ownBlock) (.slice (some ⟨w2.heap.size, 0, none⟩) 1 1) [(q : Int)]) := by
    refine ⟨Kd.R_alloc (Kd.R_alloc (Kd.R_of_own (enc := Value.int .i64) (h1 := fun _ => rfl) ?_ ?_) _) _⟩
    ·simpa [encs] using World.ownsRow_lit (base := w.heap.size) (e := 3) (size := 1) w2 #[.int .i64 q] 1 hwl2 (by decide) rfl
    ·intro k hk
     have e : w2.heap.size = k := by simpa [Value.ownBlock] using hk
     refine ⟨by omega, fun e2 => ?_⟩
     have := hcl k e2; omega
   have HX3 : Aside0 ((((w2.alloc (.cells #[.int .i64 q] 3)).alloc (.cells #[.slice (some ⟨w2.heap.size, 0, none⟩) 1 1] 33)).alloc (.cells #[.pointer (some ⟨g, 0, none⟩)] 99)).heap[w2.heap.size + 1]? = some (.cells #[.slice (some ⟨w2.heap.size, 0, none⟩) 1 1] 33 (0, 0))) :=
    ⟨by have h := heap_alloc_new (w2.alloc (.cells #[.int .i64 q] 3)) (.cells #[.slice (some ⟨w2.heap.size, 0, none⟩) 1 1] 33); rw [World.size_alloc] at h; exact blk_alloc h _⟩
   have HY3 : Aside0 ((((w2.alloc (.cells #[.int .i64 q] 3)).alloc (.cells #[.slice (some ⟨w2.heap.size, 0, none⟩) 1 1] 33)).alloc (.cells #[.pointer (some ⟨g, 0, none⟩)] 99)).heap[w2.heap.size + 1 + 1]? = some (.cells #[.pointer (some ⟨g, 0, none⟩)] 99 (0, 0))) :=
    ⟨by have h := heap_alloc_new ((w2.alloc (.cells #[.int .i64 q] 3)).alloc (.cells #[.slice (some ⟨w2.heap.size, 0, none⟩) 1 1] 33)) (.cells #[.pointer (some ⟨g, 0, none⟩)] 99); simpa using h⟩
   have hbg : w2.heap.size + 1 ≠ g := by omega
   have hwg : w2.heap.size + 1 + 1 ≠ g := by omega
   have hwb : w2.heap.size + 1 + 1 ≠ w2.heap.size + 1 := by omega
   have hcb : some (w2.heap.size + 1) ≠ (Value.slice Av l2.length cv).ownBlock := fun e => by have := hcl _ e; omega
   have hwsz : w.heap.size ≤ w2.heap.size + 1 := by omega
   have hgw : w.heap.size ≤ g := by omega
   clear hcl HW2 HR2 HB2 HB
   generalize (((w2.alloc (.cells #[.int .i64 q] 3)).alloc (.cells #[.slice (some ⟨w2.heap.size, 0, none⟩) 1 1] 33)).alloc (.cells #[.pointer (some ⟨g, 0, none⟩)] 99)) = W3 at HW3 HC3 HB3 HO3 HX3 HY3 ⊢
   generalize w2.heap.size + 1 + 1 = bw at HY3 hwg hwb ⊢
   generalize w2.heap.size + 1 = bo at HX3 hbg hwb hcb hwsz ⊢
   refine wpIn_rangeFunc_st (σ := Unit) (α := Nat) (F := Fence.wide) (n := 10) rfl (by decide) (gf := 98) (lb := #[.pointer (some ⟨bw, 0, none⟩)]) rfl trivial (enters_of Try.func98 (by kernel_rfl) rfl)
    (fun o => fire1_seq g bw n (timesOf l0_1) Av cv l2 (sinkOnly q) _ w1.heap.size (by omega) hl2 ?ht hwg (HW3.out.below (below_alloc (below_alloc (Below.refl _ _) _) _)) (blk_alloc (blk_alloc HY3.out _) _) (Kd.R_mono (Kd.R_alloc (Kd.R_alloc HC3.out _) _) (fun _ h => h))) (fun _ => rfl)
    (fun _ => True) ?adm ?st ?ar
    (fun _ pre W => W3.heap.size ≤ W.heap.size ∧ ∃ v, W.heap[bw]? = some (.cells #[.pointer (some ⟨g, 0, none⟩)] 99 (0, 0)) ∧ W.heap[bo]? = some (.cells #[v] 33 (0, 0)) ∧ Kd.R (Kd.int .i64) 3 W w.heap.size (fun k => k ≠ g ∧ some k ≠ (Value.slice Av l2.length cv).ownBlock) v ((q : Int) :: pre.map Int.ofNat) ∧ Below w.heap.size w W) (fun _ _ _ _ => False)
    ?is (fun _ _ _ _ _ _ h _ => h) ?ib (fun _ _ _ _ _ h _ => h) ?kt ?h0 ?a1 ?assign ?body ?done (fun _ _ _ _ _ _ _ h => h.elim)
   case assign =>
    intro l x W K hK
    gi_wp2
    exact hK
   case ht => exact hEI.out.times
   case adm =>
    intro o s W1 h
    exact ⟨trivial, by rw [h]; exact KeepLD.refl _ _⟩
   case st => intro s A B _ h k o h1 h2 h3 _; exact (h.block k (Array.getElem?_eq_some_iff.1 h3).1 (fun e => by cases e; have := HW3.out.lt; omega)).trans h3
   case ar => intro s x A B _ h k o h1 h2 h3 _; exact (h.block k (Array.getElem?_eq_some_iff.1 h3).1 (fun e => by cases e; have := HW3.out.lt; omega)).trans h3
   case is =>
    rintro s pre A B _ ⟨hs, v, h0, h1, h2, h3⟩ hst
    exact ⟨Nat.le_trans hs hst.size, v, (hst.block bw (blk_lt h0) (fun e => by cases e; exact hwg rfl)).trans h0, (hst.block bo (blk_lt h1) (fun e => by cases e; exact hbg rfl)).trans h1, Kd.R_grown h2 hst (fun k hk e => hk.1 (by cases e; rfl)), pw_below_grown h3 (some g) h3.size hst (fun k e => by cases e; exact hgw)⟩
   case ib =>
    rintro s pre A B ⟨hs, v, h0, h1, h2, h3⟩ hb
    exact ⟨by rw [hb.size]; exact hs, v, hb.cells h0, hb.cells h1, R_bk h2 hb, h3.trans (hb.below w.heap.size (by have := HB3.out.size; omega))⟩
   case kt =>
    intro s A B C D hab hbc hcd k hk
    have hkl : k ≠ W3.heap.size + 1 := by
     rcases hk with rfl | rfl | hk
     ·have := HW3.out.lt; omega
     ·have := blk_lt HY3.out; omega
     ·have := Kd.R_lt HC3.out k hk.symm; omega
    exact (hcd.heap k hkl).trans ((hbc k hk).trans (hab.heap k hkl))
   case h0 =>
    rintro o s W1 rfl
    exact ⟨by simp; omega, _, blk_alloc (blk_alloc HY3.out _) _, blk_alloc (blk_alloc HX3.out _) _, Kd.R_alloc (Kd.R_alloc HO3.out _) _, below_alloc (below_alloc HB3.out _) _⟩
   case body =>
    rintro l s pre x Wb W1 W _ ⟨hs, v, i0, i1, i2, i3⟩ har hbd hbk
    have b0 := Aside0.mk (hbk.cells ((har.block bw (blk_lt i0) (fun e => by cases e; exact hwg rfl)).trans i0))
    have b1 := Aside0.mk (hbk.cells ((har.block bo (blk_lt i1) (fun e => by cases e; exact hbg rfl)).trans i1))
    have b2 := Aside0.mk (R_bk (Kd.R_grown i2 har (fun k hk e => hk.1 (by cases e; rfl))) hbk)
    have b3 := Aside0.mk ((pw_below_grown i3 (some g) i3.size har (fun k e => by cases e; exact hgw)).trans (hbk.below w.heap.size (by have := HB3.out.size; omega)))
    have hgl : W3.heap.size ≤ W.heap.size := by have := hbk.size; have := har.size; omega
    have hgl2 := HW3.out.lt
    clear i0 i1 i2 i3 har
    obtain ⟨Ar, cr, rfl⟩ := Kd.R_slice b2.out
    replace b2 := Aside0.mk (show Kd.R (Kd.int .i64) 3 W w.heap.size (fun k => k ≠ g ∧ some k ≠ (Value.slice Av l2.length cv).ownBlock) (.slice Ar (pre.length + 1) cr) ((q : Int) :: pre.map Int.ofNat) from by have h := b2.out; rw [show ((q : Int) :: pre.map Int.ofNat).length = pre.length + 1 from by simp] at h; exact h)
    rw [show ((q : Int) :: pre.map Int.ofNat).length = pre.length + 1 from by simp] at b1
    have hc := keeps_box b1.out
    have hf := blk_frozen b1.out 0
    have FR : Aside0 (∀ k, W.heap.size ≤ k → k ≠ g ∧ some k ≠ (Value.slice Av l2.length cv).ownBlock) := ⟨fun k hk => ⟨by omega, fun e => by have := Kd.R_lt HC3.out k e.symm; omega⟩⟩
    have LN : Aside0 ((((q : Int) :: pre.map Int.ofNat).length + 1) * 8 ≤ 140737488355328) := ⟨by simp; omega⟩
    gi_wp2_with (gi_at_builtin; go_loud (refine R_append_in (Kd.int .i64) (w0 := w) w.heap.size rfl (.tmp 29) (.tmp 31) 33 3 (.int .i64 0) 8 rfl Try.underlying33 info3 rfl (by decide) (by omega) _ _ (x : Int) [.int .i64 x] (fun k => k ≠ g ∧ some k ≠ (Value.slice Av l2.length cv).ownBlock) (fun _ => False) rfl rfl rfl (fun _ hk => hk.elim) FR.out b2.out b3.out b3.out.size LN.out ?_; intro v1 w1' hown hb hgr hat; obtain ⟨A1, c1, rfl⟩ := Kd.R_slice hown; have X1 := Aside0.mk ((hgr.block bo (blk_lt b1.out) (Kd.R_ne b2.out b1.out (by decide))).trans b1.out); have X0 := Aside0.mk ((hgr.block bw (blk_lt b0.out) (Kd.R_ne b2.out b0.out (by decide))).trans b0.out); have hc1 := keeps_box X1.out; have hf1 := blk_frozen X1.out 0; have HO1 := Aside0.mk hown; have HB1 := Aside0.mk hb; have HG1 := Aside0.mk hgr; clear hown hb hgr hat))
    refine ⟨(keepLD_append b2.out HG1.out).trans (keepLD_set _ _ (blk_lt HX3.out)), fun k hk => ?_, by have := HG1.out.size; simp; omega, _, blk_far X0.out hwb _, by simpa using blk_set X1.out 0 (.slice A1 (pre.length + 1 + 1) c1), ?_, below_set HB1.out hwsz⟩
    ·have hkb : k ≠ bo := by
      rcases hk with rfl | rfl | hk
      ·exact fun e => hbg e.symm
      ·exact hwb
      ·rintro rfl; exact hcb hk
     rw [Below.heap_setCell _ _ _ _ hkb]
     rcases hk with rfl | rfl | hk
     ·exact HG1.out.block k (by omega) (fun e => (b2.out.1 k e.symm).1 rfl)
     ·exact HG1.out.block k (blk_lt b0.out) (Kd.R_ne b2.out b0.out (by decide))
     ·exact HG1.out.block k (by have := Kd.R_lt HC3.out k hk.symm; omega) (fun e => (b2.out.1 k e.symm).2 hk)
    ·have h := Kd.R_set HO1.out X1.out (by decide) 0 (.slice A1 (pre.length + 1 + 1) c1)
     simpa using h
   case done =>
    rintro s xs W W' _ ⟨rfl, hWd⟩ ⟨hs, v, i0, i1, i2, i3⟩ hbk hdf
    have b1 := Aside0.mk (hbk.cells i1)
    have b2 := Aside0.mk (R_bk i2 hbk)
    have b3 := Aside0.mk (i3.trans (hbk.below w.heap.size (by have := HB3.out.size; omega)))
    have b4 := Aside0.mk (hWd.bk hbk)
    have HDF := Aside0.mk hdf
    clear i0 i1 i2 i3 hWd hdf
    have hc := keeps_box b1.out
    obtain ⟨Ar, cr, rfl⟩ := Kd.R_slice b2.out
    have hbsz := blk_lt b1.out
    gi_wp2_with fail
    refine no_exits ?_
    gi_region_with (refine ⟨trivial, ?_⟩; gi_at_call 85; refine (callsIn_wide.2 (unburnt_calls g n (timesOf l0_1) _ _ _ (by omega) b4.out.drew)).mono ?_; rintro e w5 ⟨v1, rfl, hR5, hB5⟩; have hc5 := (hB5.cell (p := ⟨bo, 0, none⟩) hbsz).trans hc; have HR5 := Aside0.mk hR5; have HB5 := Aside0.mk hB5; clear hR5 hB5)
    all_goals gi_wp2
    all_goals
     have hDF5 : w5.heap[W3.heap.size]? = some (.deferred (some [])) := (HB5.out.block _ (Array.getElem?_eq_some_iff.1 HDF.out).1).trans HDF.out
     have hbk5 : Bk W3.heap.size w5 (w5.putObj W3.heap.size (.deferred none)) := ⟨_, _, hDF5, rfl, rfl⟩
     have hd2 := Kd.R_below (w := W'.drew) b2.out HB5.out
     refine bodyPostM_one (D := W3.heap.size) rfl hDF5 (results_tmp3 rfl _ _ _) ⟨_, _, rfl, R_bk (ok := fun k_ => some k_ ≠ v1.ownBlock) (v := .slice Ar ((fireList n (catchB n (timesOf l0_1) l2) (sinkOnly q)).length + 1) cr) ?_ hbk5, R_bk (ok := fun k_ => some k_ ≠ (Value.slice Ar ((fireList n (catchB n (timesOf l0_1) l2) (sinkOnly q)).length + 1) cr).ownBlock) (v := v1) ?_ hbk5, ?_⟩
     ·refine Kd.R_reok rfl (ok1 := fun k => k ≠ g ∧ some k ≠ (Value.slice Av l2.length cv).ownBlock) ?_ (fun k hk e => ?_)
      ·have h := hd2
       rw [show ((q : Int) :: (fireList n (catchB n (timesOf l0_1) l2) (sinkOnly q)).map Int.ofNat).length = (fireList n (catchB n (timesOf l0_1) l2) (sinkOnly q)).length + 1 from by simp] at h
       exact h
      ·have h1 := Kd.R_lt b2.out k ((own_len _ _ _ _).trans hk)
       have h2 := Kd.R_base HR5.out k e.symm
       exact absurd h1 (Nat.not_lt.2 h2)
     ·refine Kd.R_reok rfl (ok1 := fun _ => True) (Kd.R_lower HR5.out b3.out.size) (fun k hk e => ?_)
      have h1 := Kd.R_lt b2.out k ((own_len _ _ _ _).trans e.symm)
      have h2 := Kd.R_base HR5.out k hk
      exact absurd h1 (Nat.not_lt.2 h2)
     ·exact (below_then (below_drew b3.out) b3.out.size HB5.out).trans (hbk5.below w.heap.size HB3.out.size)
  ·rw [if_neg hv] at H
   cases H
 ·rw [if_neg h0] at H
  simp only [Option.some.injEq, Prod.mk.injEq] at H
  obtain ⟨rfl, rfl, rfl⟩ := H
  have Ht := Aside0.mk ht
  have hne : (t != 0) = true := by simpa using h0
  clear ht h0
  go_enter Try.func63, Try.ntmps63
  go_wp2_with (go_at_call 82; refine (burning_check.calls k a0_0 _ c0_1 l0_1 a1 _ c2 l2 t _ (Kd.C_alloc hr0_1 _) hc0_1 (Kd.C_alloc hr2 _) hc2 Ht.out).mono ?_; rintro e w1 ⟨rfl, hb⟩; have HB := Aside0.mk (below_then (below_alloc (Below.refl _ _) _) (by simp) hb); clear hb)
  go_ret3
  exact ⟨_, _, rfl, Kd.R_nil _ _ _ _ _, Kd.R_nil _ _ _ _ _, HB.out⟩
end
def burning_Superstable.f (k : Nat) (a0_0 : Int) (l0_1 : List (S66)) (a1 : Int) (l2 : List Int) : Option (Bool × Int) := (burning_Burn.f k a0_0 l0_1 a1 l2).bind fun bt135 => (if bt135.2.2 = 0 then (some (((bt135.2.1.length : Int) == 0), bt135.2.2)) else (some (false, bt135.2.2)))
theorem burning_Superstable.calls (k : Nat) (a0_0 : Int) (A0_1 : Option Addr) (c0_1 : Nat) (l0_1 : List (S66)) (a1 : Int) (A2 : Option Addr) (c2 : Nat) (l2 : List Int) (r1 : Bool) (r2 : Int) (w : World) (hr0_1 : Kd.C k66 w A0_1 l0_1.length l0_1) (hc0_1 : l0_1.length ≤ c0_1) (hr2 : Kd.C (Kd.int .i64) w A2 l2.length l2) (hc2 : l2.length ≤ c2) (h : burning_Superstable.f k a0_0 l0_1 a1 l2 = some (r1, r2)) :
  Calls Try.prog 35 #[.agg #[.int .i64 a0_0, .slice A0_1 l0_1.length c0_1], .int .i64 a1, .slice A2 l2.length c2] w fun e w' => e = .returned (.tuple #[.bool r1, .int .i64 r2]) ∧ Below w.heap.size w w' := by
 have hu24 := Try.underlying24
 have HR0_1 := Aside0.mk hr0_1
 have HC0_1 := Aside0.mk hc0_1
 clear hr0_1 hc0_1
 have HR2 := Aside0.mk hr2
 have HC2 := Aside0.mk hc2
 clear hr2 hc2
 have HB := Aside0.mk (Below.refl w.heap.size w)
 have H : ((burning_Burn.f k a0_0 l0_1 a1 l2).bind fun bt135 => (if bt135.2.2 = 0 then (some (((bt135.2.1.length : Int) == 0), bt135.2.2)) else (some (false, bt135.2.2)))) = some (r1, r2) := h
 clear h
 replace H := Option.bind_eq_some_iff.mp H
 obtain ⟨⟨t135, t138, t141⟩, A40, H⟩ := H
 replace H : (if t141 = 0 then (some (((t138.length : Int) == 0), t141)) else (some (false, t141))) = some (r1, r2) := H
 have A4 := Aside0.mk A40
 clear A40
 by_cases c5 : t141 = 0
 ·rw [if_pos c5] at H
  have c5b0 : (t141 == 0) = true := beq_iff_eq.mpr c5
  have c5b1 : (t141 != 0) = false := bne_eq_false_iff_eq.mpr c5
  clear c5
  simp only [Option.some.injEq, Prod.mk.injEq] at H
  obtain ⟨rfl, rfl⟩ := H
  go_enter Try.func35, Try.ntmps35
  go_wp2_with (first | ((with_reducible refine gate_dst (N := 3) rfl ?_); (try (refine gate_guard (by rfl) ?_; dsimp only)); refine zX 3 #[.int .i64 a0_0, .slice A0_1 l0_1.length c0_1] 24 ?_; intro gb134 hg w6 hbox hb; have BK134 := Aside0.mk (hbox); have GW134 := zG HB hg; have GE134 := zG HB hg; replace HB := zS HB hb; clear hb hbox hg; obtain ⟨hcz7_0, hcz7_1, hfz7_0, hfz7_1⟩ := zD2 BK134) | ((with_reducible refine gate_callee (f := 63) rfl ?_); refine zL (some 15) Try.func63 #[.agg #[.int .i64 a0_0, .slice A0_1 l0_1.length c0_1], .int .i64 a1, .slice A2 l2.length c2] ?_; (with_reducible refine (burning_Burn.calls k a0_0 _ _ l0_1 a1 _ _ l2 t135 t138 t141 _ ?side1 ?side2 ?side3 ?side4 A4.out).mono ?_); (case side1 => exact Kd.C_below HR0_1.out zB); (case side2 => exact HC0_1.out); (case side3 => exact Kd.C_below HR2.out zB); (case side4 => exact HC2.out); rintro e w8 ⟨v136, v139, rfl, ho0, ho1, hb⟩; refine ⟨_, rfl, ?_⟩; have HO137 := Aside0.mk (Kd.R_lower ho0 (below_size zB)); have HO140 := Aside0.mk (Kd.R_lower ho1 (below_size zB)); replace BK134 := zb BK134 hb; replace HB := zS HB hb; (try clear hb); (try clear ho0); (try clear ho1); obtain ⟨Ao9, co9, eo9⟩ := Kd.R_slice HO140.out; subst eo9))
  go_ret2
  exact ⟨zE, zB⟩
 ·rw [if_neg c5] at H
  have c5b0 : (t141 == 0) = false := beq_eq_false_iff_ne.mpr c5
  have c5b1 : (t141 != 0) = true := bne_iff_ne.mpr c5
  simp only [Option.some.injEq, Prod.mk.injEq] at H
  obtain ⟨rfl, rfl⟩ := H
  go_enter Try.func35, Try.ntmps35
  go_wp2_with (first | ((with_reducible refine gate_dst (N := 3) rfl ?_); (try (refine gate_guard (by rfl) ?_; dsimp only)); refine zX 3 #[.int .i64 a0_0, .slice A0_1 l0_1.length c0_1] 24 ?_; intro gb134 hg w10 hbox hb; have BK134 := Aside0.mk (hbox); have GW134 := zG HB hg; have GE134 := zG HB hg; replace HB := zS HB hb; clear hb hbox hg; obtain ⟨hcz11_0, hcz11_1, hfz11_0, hfz11_1⟩ := zD2 BK134) | ((with_reducible refine gate_callee (f := 63) rfl ?_); refine zL (some 15) Try.func63 #[.agg #[.int .i64 a0_0, .slice A0_1 l0_1.length c0_1], .int .i64 a1, .slice A2 l2.length c2] ?_; (with_reducible refine (burning_Burn.calls k a0_0 _ _ l0_1 a1 _ _ l2 t135 t138 t141 _ ?side1 ?side2 ?side3 ?side4 A4.out).mono ?_); (case side1 => exact Kd.C_below HR0_1.out zB); (case side2 => exact HC0_1.out); (case side3 => exact Kd.C_below HR2.out zB); (case side4 => exact HC2.out); rintro e w12 ⟨v136, v139, rfl, ho0, ho1, hb⟩; refine ⟨_, rfl, ?_⟩; have HO137 := Aside0.mk (Kd.R_lower ho0 (below_size zB)); have HO140 := Aside0.mk (Kd.R_lower ho1 (below_size zB)); replace BK134 := zb BK134 hb; replace HB := zS HB hb; (try clear hb); (try clear ho0); (try clear ho1)))
  go_ret2
  exact ⟨zE, zB⟩
def superstable_calm.f (k : Nat) (a0_0 : Int) (l0_1 : List (S66)) (a1 : Int) (l2 : List Int) : Option (Bool) := (burning_Superstable.f k a0_0 l0_1 a1 l2).bind fun bt143 => (if bt143.1 = true then (some (bt143.2 == 0)) else (some false))
theorem superstable_calm.calls (k : Nat) (a0_0 : Int) (A0_1 : Option Addr) (c0_1 : Nat) (l0_1 : List (S66)) (a1 : Int) (A2 : Option Addr) (c2 : Nat) (l2 : List Int) (r : Bool) (w : World) (hr0_1 : Kd.C k66 w A0_1 l0_1.length l0_1) (hc0_1 : l0_1.length ≤ c0_1) (hr2 : Kd.C (Kd.int .i64) w A2 l2.length l2) (hc2 : l2.length ≤ c2) (h : superstable_calm.f k a0_0 l0_1 a1 l2 = some r) :
  Calls Try.prog 72 #[.agg #[.int .i64 a0_0, .slice A0_1 l0_1.length c0_1], .int .i64 a1, .slice A2 l2.length c2] w fun e w' => e = .returned (.bool r) ∧ Below w.heap.size w w' := by
 have hu24 := Try.underlying24
 have HR0_1 := Aside0.mk hr0_1
 have HC0_1 := Aside0.mk hc0_1
 clear hr0_1 hc0_1
 have HR2 := Aside0.mk hr2
 have HC2 := Aside0.mk hc2
 clear hr2 hc2
 have HB := Aside0.mk (Below.refl w.heap.size w)
 have H : ((burning_Superstable.f k a0_0 l0_1 a1 l2).bind fun bt143 => (if bt143.1 = true then (some (bt143.2 == 0)) else (some false))) = some r := h
 clear h
 replace H := Option.bind_eq_some_iff.mp H
 obtain ⟨⟨t143, t144⟩, A40, H⟩ := H
 replace H : (if t143 = true then (some (t144 == 0)) else (some false)) = some r := H
 have A4 := Aside0.mk A40
 clear A40
 by_cases c5 : t143 = true
 ·subst c5
  have H1 : (some (t144 == 0)) = some r := by rw [if_pos rfl] at H; exact H
  clear H
  have H := H1
  clear H1
  obtain rfl := Option.some.inj H
  go_enter Try.func72, Try.ntmps72
  go_wp2_with (first | ((with_reducible refine gate_dst (N := 3) rfl ?_); refine zX 3 #[.int .i64 a0_0, .slice A0_1 l0_1.length c0_1] 24 ?_; intro gb142 hg w6 hbox hb; have BK142 := Aside0.mk (hbox); have GW142 := zG HB hg; have GE142 := zG HB hg; replace HB := zS HB hb; clear hb hbox hg; obtain ⟨hcz7_0, hcz7_1, hfz7_0, hfz7_1⟩ := zD2 BK142) | ((with_reducible refine gate_callee (f := 35) rfl ?_); refine zL (some 13) Try.func35 #[.agg #[.int .i64 a0_0, .slice A0_1 l0_1.length c0_1], .int .i64 a1, .slice A2 l2.length c2] ?_; (with_reducible refine (burning_Superstable.calls k a0_0 _ _ l0_1 a1 _ _ l2 true t144 _ ?side1 ?side2 ?side3 ?side4 A4.out).mono ?_); (case side1 => exact Kd.C_below HR0_1.out zB); (case side2 => exact HC0_1.out); (case side3 => exact Kd.C_below HR2.out zB); (case side4 => exact HC2.out); rintro e w8 ⟨rfl, hb⟩; refine ⟨_, rfl, ?_⟩; replace BK142 := zb BK142 hb; replace HB := zS HB hb; (try clear hb)))
  go_ret
  exact ⟨zE, zB⟩
 ·replace c5 := Bool.eq_false_iff.mpr c5
  subst c5
  have H1 : (some false) = some r := by rw [if_neg (show ¬ (false = true) by decide)] at H; exact H
  clear H
  have H := H1
  clear H1
  obtain rfl := Option.some.inj H
  go_enter Try.func72, Try.ntmps72
  go_wp2_with (first | ((with_reducible refine gate_dst (N := 3) rfl ?_); refine zX 3 #[.int .i64 a0_0, .slice A0_1 l0_1.length c0_1] 24 ?_; intro gb142 hg w9 hbox hb; have BK142 := Aside0.mk (hbox); have GW142 := zG HB hg; have GE142 := zG HB hg; replace HB := zS HB hb; clear hb hbox hg; obtain ⟨hcz10_0, hcz10_1, hfz10_0, hfz10_1⟩ := zD2 BK142) | ((with_reducible refine gate_callee (f := 35) rfl ?_); refine zL (some 13) Try.func35 #[.agg #[.int .i64 a0_0, .slice A0_1 l0_1.length c0_1], .int .i64 a1, .slice A2 l2.length c2] ?_; (with_reducible refine (burning_Superstable.calls k a0_0 _ _ l0_1 a1 _ _ l2 false t144 _ ?side1 ?side2 ?side3 ?side4 A4.out).mono ?_); (case side1 => exact Kd.C_below HR0_1.out zB); (case side2 => exact HC0_1.out); (case side3 => exact Kd.C_below HR2.out zB); (case side4 => exact HC2.out); rintro e w11 ⟨rfl, hb⟩; refine ⟨_, rfl, ?_⟩; replace BK142 := zb BK142 hb; replace HB := zS HB hb; (try clear hb)))
  go_ret
  exact ⟨zE, zB⟩
section
attribute [local go_sem] Oper.semAt_some
def rndB {α : Type} (P : Nat → Bool) (F : Nat → List α) : Nat → Nat → List α
 | 0, _ => []
 | f + 1, x => if P x then F x ++ rndB P F f (x + 1) else []
theorem rndB_eq {α : Type} (P : Nat → Bool) (F : Nat → List α) : ∀ f x, rndB P F f x = ((List.range' x f).takeWhile P).flatMap F
 | 0, x => by simp [rndB]
 | f + 1, x => by
  rw [rndB, List.range'_succ, List.takeWhile_cons]
  cases P x with
  | true => simp [rndB_eq P F f (x + 1)]
  | false => simp
theorem outB_succ (q B : Nat) (calm : List Int → Bool) (k : Nat) (p : List Int) (h : p.length ≠ q) : outB q B calm (k + 1) p = rndB (fun (x : Nat) => calm (p ++ (x : Int) :: List.replicate k 0)) (fun (x : Nat) => outB q B calm k (p ++ [(x : Int)])) B 0 := by
 rw [outB, if_neg h, rndB_eq, List.range_eq_range']
def OkC (n q : Nat) (c : List Int) : Prop := c.length = n ∧ (∀ i : Nat, 0 ≤ rd c i ∧ rd c i ≤ 1000) ∧ rd c q = 0
structure CS (w0 : World) (n : Nat) (A0 : Option Addr) (c0 : Nat) (E : List S66) (q gx qx s l : Nat) (W : World) (c : List Int) : Prop where
 g : W.heap[gx]? = some (.cells #[.int .i64 n, .slice A0 E.length c0] 24 (0, 0))
 q : W.heap[qx]? = some (.cells #[.int .i64 q] 3 (0, 0))
 y : W.heap[s]? = some (.cells #[.func (.yield l) #[] #[]] 54 (0, 0))
 c : (Kd.int .i64).R 3 W w0.heap.size (fun k => k = s + 1) (.slice (some ⟨s + 1, 0, none⟩) n n) c
 cb : W.heap[s + 2]? = some (.cells #[.slice (some ⟨s + 1, 0, none⟩) n n] 42 (0, 0))
 f : W.heap[s + 3]? = some (.cells #[.func (.func 71) #[] #[.pointer (some ⟨gx, 0, none⟩), .pointer (some ⟨s, 0, none⟩), .pointer (some ⟨s + 2, 0, none⟩), .pointer (some ⟨qx, 0, none⟩), .pointer (some ⟨s + 3, 0, none⟩)]] 86 (0, 0))
 below : Below w0.heap.size w0 W
namespace CS
variable {w0 : World} {n : Nat} {A0 : Option Addr} {c0 : Nat} {E : List S66} {q gx qx s l : Nat} {W W' : World} {c : List Int}
theorem keep (h : CS w0 n A0 c0 E q gx qx s l W c) (hk : ∀ k, (k = gx ∨ k = qx ∨ s ≤ k ∧ k < s + 4) → W'.heap[k]? = W.heap[k]?) (hb : Below w0.heap.size w0 W') : CS w0 n A0 c0 E q gx qx s l W' c :=
 ⟨(hk gx (.inl rfl)).trans h.g, (hk qx (.inr (.inl rfl))).trans h.q, (hk s (.inr (.inr ⟨by omega, by omega⟩))).trans h.y, Kd.R_move h.c (fun k e => hk k (.inr (.inr (by subst e; omega)))), (hk (s + 2) (.inr (.inr ⟨by omega, by omega⟩))).trans h.cb, (hk (s + 3) (.inr (.inr ⟨by omega, by omega⟩))).trans h.f, hb⟩
theorem lt (h : CS w0 n A0 c0 E q gx qx s l W c) : s + 3 < W.heap.size ∧ gx < W.heap.size ∧ qx < W.heap.size := ⟨blk_lt h.f, blk_lt h.g, blk_lt h.q⟩
theorem stay (h : CS w0 n A0 c0 E q gx qx s l W c) (hb : Below W.heap.size W W') : CS w0 n A0 c0 E q gx qx s l W' c :=
 h.keep (fun k hk => hb.block k (by have := h.lt; rcases hk with rfl | rfl | hk <;> omega)) (h.below.trans (hb.mono h.below.size))
theorem size (h : CS w0 n A0 c0 E q gx qx s l W c) : w0.heap.size ≤ W.heap.size := h.below.size
end CS
def ArC (s : Nat) (x : List Int × Value) (A B : World) : Prop := A.grownBy B (some (s + 1)) ∧ (Kd.int .i64).R 3 B A.heap.size (fun _ => True) x.2 x.1 ∧ s + 4 ≤ A.heap.size
def KeepC (w0 : World) (gx qx s : Nat) (X Y : World) : Prop := (w0.heap.size ≤ X.heap.size → Below w0.heap.size X Y) ∧ ∀ k, (k = gx ∨ k = qx ∨ s ≤ k ∧ k < s + 4) → k < X.heap.size → Y.heap[k]? = X.heap[k]?
def endC (w0 : World) (B n : Nat) (A0 : Option Addr) (c0 : Nat) (E : List S66) (q gx qx s l : Nat) (calm : List Int → Bool) (J Jx : List (List Int × Value) → World → Prop) (kk : Nat) (p : List Int) (pre : List (List Int × Value)) (e : Ending) (W' : World) : Prop :=
 (∃ vs, e = .returned (.bool true) ∧ J (pre ++ vs) W' ∧ vs.map Prod.fst = outB q B calm kk p ∧ CS w0 n A0 c0 E q gx qx s l W' (p ++ List.replicate kk 0)) ∨ (e = .returned (.bool false) ∧ ∃ pre', Jx pre' W')
theorem endC_bool {e : Ending} {A B : Prop} (h : (e = .returned (.bool true) ∧ A) ∨ (e = .returned (.bool false) ∧ B)) : ∃ b : Bool, e = .returned (.bool b) ∧ Aside0 ((b = true ∧ A) ∨ (b = false ∧ B)) := by
 rcases h with ⟨h, ha⟩ | ⟨h, hb⟩
 ·exact ⟨true, h, ⟨.inl ⟨rfl, ha⟩⟩⟩
 ·exact ⟨false, h, ⟨.inr ⟨rfl, hb⟩⟩⟩
theorem endC_bool' {w0 : World} {B n : Nat} {A0 : Option Addr} {c0 : Nat} {E : List S66} {q gx qx s l : Nat} {calm : List Int → Bool} {J Jx : List (List Int × Value) → World → Prop} {kk : Nat} {p : List Int} {pre : List (List Int × Value)} {e : Ending} {W' : World} (h : endC w0 B n A0 c0 E q gx qx s l calm J Jx kk p pre e W') :
  ∃ b : Bool, e = .returned (.bool b) ∧ Aside0 ((b = true ∧ ∃ vs, J (pre ++ vs) W' ∧ vs.map Prod.fst = outB q B calm kk p ∧ CS w0 n A0 c0 E q gx qx s l W' (p ++ List.replicate kk 0)) ∨ (b = false ∧ ∃ pre', Jx pre' W')) := by
 rcases h with ⟨vs, h, ha⟩ | ⟨h, hb⟩
 ·exact ⟨true, h, ⟨.inl ⟨rfl, vs, ha⟩⟩⟩
 ·exact ⟨false, h, ⟨.inr ⟨rfl, hb⟩⟩⟩
theorem conf11_last {w0 : World} {B n : Nat} {A0 : Option Addr} {c0 : Nat} {E : List S66} {q gx qx s l : Nat} {calm : List Int → Bool} {J Jx : List (List Int × Value) → World → Prop} (hn : n ≤ 12)
  (hY : ∀ pre x A C, J pre A → ArC s x A C → pre.length < 16384 → YieldAt Fence.wide 8 Try.prog l #[x.2] C fun e W' => (e = .returned (.bool true) ∧ J (pre ++ [x]) W' ∧ KeepC w0 gx qx s C W') ∨ (e = .returned (.bool false) ∧ Jx (pre ++ [x]) W'))
  (p : List Int) (pre : List (List Int × Value)) (W : World) (hp : p.length = n) (hC : CS w0 n A0 c0 E q gx qx s l W p) (hJ : J pre W) (hlen : pre.length < 16384) :
  CallsIn Fence.wide 9 Try.prog 71 #[.int .i64 n, .pointer (some ⟨gx, 0, none⟩), .pointer (some ⟨s, 0, none⟩), .pointer (some ⟨s + 2, 0, none⟩), .pointer (some ⟨qx, 0, none⟩), .pointer (some ⟨s + 3, 0, none⟩)] W (endC w0 B n A0 c0 E q gx qx s l calm J Jx 0 p pre) := by
 have HY := Aside0.mk hY
 have HJ := Aside0.mk hJ
 have HC := Aside0.mk hC
 have hg0 : W.cell? ⟨gx, 0, none⟩ = some (.int .i64 n) := (blk_cell hC.g 0).trans rfl
 have hy0 : W.cell? ⟨s, 0, none⟩ = some (.func (.yield l) #[] #[]) := (blk_cell hC.y 0).trans rfl
 have hcb : W.cell? ⟨s + 2, 0, none⟩ = some (.slice (some ⟨s + 1, 0, none⟩) n n) := (blk_cell hC.cb 0).trans rfl
 have HP := Aside0.mk hp
 obtain ⟨-, -, hr⟩ := Kd.R_reads' hC.c
 have hw0 := hC.below.size
 have HCL := Aside0.mk (show CallsIn Fence.wide 8 Try.prog 36 #[.slice (some ⟨s + 1, 0, none⟩) n n] W.drew (fun e w' => ∃ v0_ : Value, e = .returned (v0_) ∧ Kd.R (Kd.int .i64) 3 w' W.heap.size (fun _ => True) v0_ p ∧ Below W.heap.size W w' ∧ Below W.heap.size W.drew w') from callsIn_wide.2 (by
  subst hp
  refine (api_Divisor_int_36.calls (some ⟨s + 1, 0, none⟩) p.length p p W.drew (Kd.C_drew hr) (Nat.le_refl _) (by unfold api_Divisor_int_36.f clone.f; rw [if_pos (by omega)])).mono ?_
  rintro e w' ⟨v, rfl, h1, h2⟩
  exact ⟨v, rfl, h1, (below_drew (Below.refl _ _)).trans h2, h2⟩))
 clear hY hJ hC hr hp
 refine callsIn_of_wp Try.func71 rfl trivial ?_ rfl
 simp only [Try.ntmps71, List.size_toArray, List.length_cons, List.length_nil, Nat.reduceAdd, Nat.reduceSub, Array.replicate_succ, Array.replicate_zero, List.push_toArray, List.append_toArray, List.nil_append, List.cons_append]
 gi_wp2
 gi_region_with (first | (refine ⟨trivial, ?_⟩; gi_at_call 36; refine HCL.out.mono ?_; rintro e w1 ⟨v, rfl, hr1, hb1, hb2⟩; have hy1 : w1.cell? ⟨s, 0, none⟩ = some (.func (.yield l) #[] #[]) := (blk_cell (blk_below HC.out.y hb1) 0).trans rfl; have HC1 := Aside0.mk (HC.out.stay hb1); obtain ⟨fn, tmps, asg, bdy, hy, hRo⟩ := HY.out pre (p, v) W w1 HJ.out ⟨grown_of_below hb1 _, hr1, HC.out.lt.1⟩ hlen; have HRo := Aside0.mk hRo; clear hRo hr1 hb1 hb2) | (refine HRo.out.mono ?_; rintro e w3 h3; obtain ⟨b, rfl, H3⟩ := endC_bool h3; clear h3))
 all_goals gi_wp2
 all_goals go_ret
 all_goals
  rcases H3.out with ⟨rfl, h3, h4⟩ | ⟨rfl, h3⟩
  ·exact .inl ⟨[(p, v)], rfl, h3, rfl, by simpa using HC1.out.keep (fun k hk => h4.2 k hk (by have := HC1.out.lt; rcases hk with rfl | rfl | hk <;> omega)) (HC1.out.below.trans (h4.1 HC1.out.size))⟩
  ·exact .inr ⟨rfl, _, h3⟩
theorem okC_put {n q kk : Nat} {p : List Int} {x : Nat} (h : OkC n q (p ++ List.replicate (kk + 1) 0)) (hq : p.length ≠ q) (hx : x ≤ 1000) : OkC n q (p ++ (x : Int) :: List.replicate kk 0) := by
 have e : p ++ (x : Int) :: List.replicate kk 0 = (p ++ List.replicate (kk + 1) 0).set p.length x := by
  rw [List.replicate_succ, List.set_append_right _ _ (Nat.le_refl _), Nat.sub_self]; rfl
 rw [e]
 refine ⟨by rw [List.length_set]; exact h.1, fun i => ?_, ?_⟩
 ·have hi := h.2.1 i
  simp only [rd, Int.toNat_natCast, List.getD_eq_getElem?_getD, List.getElem?_set] at hi ⊢
  split
  ·split <;> simp <;> omega
  ·exact hi
 ·have hi := h.2.2
  simp only [rd, Int.toNat_natCast, List.getD_eq_getElem?_getD, List.getElem?_set] at hi ⊢
  rw [if_neg hq]; exact hi
theorem CS.set {w0 : World} {n : Nat} {A0 : Option Addr} {c0 : Nat} {E : List S66} {q gx qx s l : Nat} {W : World} {p : List Int} {kk : Nat} {x : Int} (h : CS w0 n A0 c0 E q gx qx s l W (p ++ x :: List.replicate kk 0)) (hgs : gx < s) (hqs : qx < s) (hs : w0.heap.size ≤ s) (y : Int) :
  CS w0 n A0 c0 E q gx qx s l (W.setCell ⟨s + 1, p.length, none⟩ (.int .i64 y)) (p ++ y :: List.replicate kk 0) ∧ W.grownBy (W.setCell ⟨s + 1, p.length, none⟩ (.int .i64 y)) (some (s + 1)) := by
 have hp := Kd.R_putg h.c (p.length : Int) y
 rw [Int.toNat_natCast] at hp
 have far : ∀ k, k ≠ s + 1 → (W.setCell ⟨s + 1, p.length, none⟩ (.int .i64 y)).heap[k]? = W.heap[k]? := fun k hk => Below.heap_setCell _ _ _ _ (by simpa using hk)
 refine ⟨⟨(far gx (by omega)).trans h.g, (far qx (by omega)).trans h.q, (far s (by omega)).trans h.y, ?_, (far (s + 2) (by omega)).trans h.cb, (far (s + 3) (by omega)).trans h.f, h.below.setCell (by show w0.heap.size ≤ s + 1; omega) _⟩, hp.2⟩
 have e : (p ++ x :: List.replicate kk 0).set p.length y = p ++ y :: List.replicate kk 0 := by
  rw [List.set_append_right _ _ (Nat.le_refl _), Nat.sub_self]; rfl
 rw [← e]
 exact hp.1
theorem CS.cell {w0 : World} {n : Nat} {A0 : Option Addr} {c0 : Nat} {E : List S66} {q gx qx s l : Nat} {W : World} {p : List Int} {kk : Nat} {x : Int} (h : CS w0 n A0 c0 E q gx qx s l W (p ++ x :: List.replicate kk 0)) (hn : p.length < n) :
  W.cell? ⟨s + 1, p.length, none⟩ = some (.int .i64 x) ∧ W.frozen? ⟨s + 1, p.length, none⟩ = false := by
 obtain ⟨h1, h2⟩ := Kd.R_celln (0 : Int) h.c (p.length : Int) (by omega) (by omega)
 rw [Int.toNat_natCast] at h1 h2
 refine ⟨?_, h2⟩
 rw [h1]
 simp [rdOf, List.getD_eq_getElem?_getD]
theorem calm_calls' (k m : Nat) (a0_0 : Int) (A0_1 : Option Addr) (c0_1 : Nat) (l0_1 : List (S66)) (a1 : Int) (A2 : Option Addr) (c2 : Nat) (l2 : List Int) (r : Bool) (w : World) (hr0_1 : Kd.C k66 w A0_1 l0_1.length l0_1) (hc0_1 : l0_1.length ≤ c0_1) (hl : l2.length = m) (hr2 : Kd.C (Kd.int .i64) w A2 m l2) (hc2 : m ≤ c2) (h : superstable_calm.f k a0_0 l0_1 a1 l2 = some r) :
  Calls Try.prog 72 #[.agg #[.int .i64 a0_0, .slice A0_1 l0_1.length c0_1], .int .i64 a1, .slice A2 m c2] w fun e w' => e = .returned (.bool r) ∧ Below w.heap.size w w' := by
 subst hl
 exact superstable_calm.calls k a0_0 A0_1 c0_1 l0_1 a1 A2 c2 l2 r w hr0_1 hc0_1 hr2 hc2 h
theorem conf11_calls {w0 : World} {B K n : Nat} {A0 : Option Addr} {c0 : Nat} {E : List S66} {q gx qx s l : Nat} {calm : List Int → Bool} {J Jx : List (List Int × Value) → World → Prop} (hn : n ≤ 12) (hr0 : Kd.C k66 w0 A0 E.length E) (hc0 : E.length ≤ c0) (hgs : gx < s) (hqs : qx < s) (hs : w0.heap.size ≤ s)
  (hcalm : ∀ c, OkC n q c → superstable_calm.f K n E q c = some (calm c)) (hsmall : ∀ (p : List Int) (x kk : Nat), calm (p ++ (x : Int) :: List.replicate kk 0) = true → p.length + 1 + kk = n → p.length ≠ q → x + 1 < B) (hB : B ≤ 1000) (hB0 : 0 < B)
  (hJs : ∀ pre A C, J pre A → A.grownBy C (some (s + 1)) → J pre C)
  (hY : ∀ pre x A C, J pre A → ArC s x A C → pre.length < 16384 → YieldAt Fence.wide 8 Try.prog l #[x.2] C fun e W' => (e = .returned (.bool true) ∧ J (pre ++ [x]) W' ∧ KeepC w0 gx qx s C W') ∨ (e = .returned (.bool false) ∧ Jx (pre ++ [x]) W')) :
  ∀ (kk v : Nat) (p : List Int) (pre : List (List Int × Value)) (W : World), p.length = v → v + kk = n → CS w0 n A0 c0 E q gx qx s l W (p ++ List.replicate kk 0) → OkC n q (p ++ List.replicate kk 0) → J pre W → pre.length + (outB q B calm kk p).length ≤ 16384 →
  CallsIn Fence.wide 9 Try.prog 71 #[.int .i64 v, .pointer (some ⟨gx, 0, none⟩), .pointer (some ⟨s, 0, none⟩), .pointer (some ⟨s + 2, 0, none⟩), .pointer (some ⟨qx, 0, none⟩), .pointer (some ⟨s + 3, 0, none⟩)] W (endC w0 B n A0 c0 E q gx qx s l calm J Jx kk p pre) := by
 intro kk
 induction kk with
 | zero =>
  intro v p pre W hp hv hC hO hJ hlen
  obtain rfl : v = n := by omega
  exact conf11_last hn hY p pre W hp (by simpa using hC) hJ (by simp [outB] at hlen; omega)
 | succ kk ih =>
  intro v p pre W hp hv hC hO hJ hlen
  have hg0 : W.cell? ⟨gx, 0, none⟩ = some (.int .i64 n) := (blk_cell hC.g 0).trans rfl
  have hq0 : W.cell? ⟨qx, 0, none⟩ = some (.int .i64 q) := (blk_cell hC.q 0).trans rfl
  have hf0 : W.cell? ⟨s + 3, 0, none⟩ = some (.func (.func 71) #[] #[.pointer (some ⟨gx, 0, none⟩), .pointer (some ⟨s, 0, none⟩), .pointer (some ⟨s + 2, 0, none⟩), .pointer (some ⟨qx, 0, none⟩), .pointer (some ⟨s + 3, 0, none⟩)]) := (blk_cell hC.f 0).trans rfl
  have hvn : ((v : Int) == (n : Int)) = false := by simp; omega
  have hu := Try.underlying24
  have HIH := Aside0.mk ih
  have HC := Aside0.mk hC
  have HO := Aside0.mk hO
  have HJ := Aside0.mk hJ
  have HL := Aside0.mk hlen
  have HP := Aside0.mk hp
  have HJS := Aside0.mk hJs
  have HCA := Aside0.mk hcalm
  have HSM := Aside0.mk hsmall
  have hv12 : v < 12 := by omega
  clear ih hC hO hJ hlen hY hJs hcalm hsmall hp
  refine callsIn_of_wp Try.func71 rfl trivial ?_ rfl
  simp only [Try.ntmps71, List.size_toArray, List.length_cons, List.length_nil, Nat.reduceAdd, Nat.reduceSub, Array.replicate_succ, Array.replicate_zero, List.push_toArray, List.append_toArray, List.nil_append, List.cons_append]
  by_cases hq : v = q
  ·have hIH := HIH.out (v + 1) (p ++ [0]) pre W (by simp [HP.out]) (by omega) (by rw [List.append_assoc]; exact HC.out) (by rw [List.append_assoc]; exact HO.out) HJ.out (by have h := HL.out; rw [outB, if_pos (by rw [HP.out]; exact hq)] at h; exact h)
   rw [Int.natCast_add, Int.natCast_one] at hIH
   have HI := Aside0.mk ((callsIn_wide (n := 8)).2 (callsIn_wide.1 hIH))
   clear hIH
   have HQ := Aside0.mk hq
   clear hq
   have hqb : ((v : Int) == (q : Int)) = true := by simp [HQ.out]
   gi_wp2_with (refine ⟨trivial, ?_⟩; gi_at_call 71; refine HI.out.mono ?_; rintro e w3 h3; obtain ⟨b, rfl, H3⟩ := endC_bool' h3; clear h3)
   go_ret
   rcases H3.out with ⟨rfl, vs, h3, h4, h5⟩ | ⟨rfl, h3⟩
   ·exact .inl ⟨vs, rfl, h3, by rw [outB, if_pos (by rw [HP.out]; exact HQ.out)]; exact h4, by rw [List.append_assoc] at h5; exact h5⟩
   ·exact .inr ⟨rfl, h3⟩
  ·have hvq : ((v : Int) == (q : Int)) = false := by simp; omega
   have HQ := Aside0.mk (show p.length ≠ q by rw [HP.out]; exact hq)
   have HOB := Aside0.mk (outB_succ q B calm kk p HQ.out)
   clear hq
   gi_wp2
   clear hg0 hq0 hf0 hvn hvq
   gi_loopg [] (B) (fun kq wr => ∃ (x : Nat) (vs : List (List Int × Value)), x < B ∧ Aside0 (J (pre ++ vs) wr) ∧ Aside0 (CS w0 n A0 c0 E q gx qx s l wr (p ++ (x : Int) :: List.replicate kk 0)) ∧ Aside0 (outB q B calm (kk + 1) p = vs.map Prod.fst ++ rndB (fun (x : Nat) => calm (p ++ (x : Int) :: List.replicate kk 0)) (fun (x : Nat) => outB q B calm kk (p ++ [(x : Int)])) (B - x) x) ∧ Aside0 (kq = B - x))
   case atStart => exact ⟨0, [], hB0, ⟨by simpa using HJ.out⟩, HC, ⟨by rw [HOB.out]; rfl⟩, ⟨rfl⟩⟩
   case round =>
    clear HJ HC
    obtain ⟨x, vs, hx, HJ, HC, HT, HK⟩ := hrel
    have HOK := Aside0.mk (okC_put (x := x) HO.out HQ.out (by omega))
    obtain ⟨-, -, hr⟩ := Kd.R_reads' HC.out.c
    rw [HOK.out.1] at hr
    have HCM := Aside0.mk ((callsIn_wide (n := 8)).2 (calm_calls' K n n A0 c0 E q (some ⟨s + 1, 0, none⟩) n _ _ wr (Kd.C_below hr0 HC.out.below) hc0 HOK.out.1 hr (Nat.le_refl _) (HCA.out _ HOK.out)))
    have HTs := Aside0.mk (show rndB (fun (x : Nat) => calm (p ++ (x : Int) :: List.replicate kk 0)) (fun (x : Nat) => outB q B calm kk (p ++ [(x : Int)])) (B - x) x = if calm (p ++ (x : Int) :: List.replicate kk 0) = true then outB q B calm kk (p ++ [(x : Int)]) ++ rndB (fun (x : Nat) => calm (p ++ (x : Int) :: List.replicate kk 0)) (fun (x : Nat) => outB q B calm kk (p ++ [(x : Int)])) (B - (x + 1)) (x + 1) else [] from by rw [show B - x = (B - (x + 1)) + 1 by omega]; rfl)
    have hg0 : wr.cell? ⟨gx, 0, none⟩ = some (.int .i64 n) := (blk_cell HC.out.g 0).trans rfl
    have hg1 : wr.cell? ⟨gx, 1, none⟩ = some (.slice A0 E.length c0) := (blk_cell HC.out.g 1).trans rfl
    have hq0 : wr.cell? ⟨qx, 0, none⟩ = some (.int .i64 q) := (blk_cell HC.out.q 0).trans rfl
    have hcb : wr.cell? ⟨s + 2, 0, none⟩ = some (.slice (some ⟨s + 1, 0, none⟩) n n) := (blk_cell HC.out.cb 0).trans rfl
    have hv0 : (0 : Int) ≤ (v : Int) := by omega
    have hv1 : (v : Int) < (n : Int) := by omega
    clear hr
    cases hb : calm (p ++ (x : Int) :: List.replicate kk 0) with
    | false =>
     rw [hb] at HCM
     have HT2 := Aside0.mk (show outB q B calm (kk + 1) p = vs.map Prod.fst from by rw [HT.out, HTs.out, if_neg (by rw [hb]; decide), List.append_nil])
     clear hb
     gi_wp2_with (refine ⟨trivial, ?_⟩; gi_at_call 72; refine HCM.out.mono ?_; rintro e w1 ⟨rfl, hb1⟩; have HC1 := Aside0.mk (HC.out.stay hb1); have q1 : w1.cell? ⟨s + 2, 0, none⟩ = some (.slice (some ⟨s + 1, 0, none⟩) n n) := (blk_cell HC1.out.cb 0).trans rfl; have hcl := HC1.out.cell (by rw [HP.out]; omega); rw [HP.out] at hcl; obtain ⟨q2, q3⟩ := hcl; have HB1 := Aside0.mk hb1; clear hb1)
     go_ret
     have hst := HC1.out.set hgs hqs hs 0
     rw [HP.out] at hst
     exact .inl ⟨vs, rfl, HJS.out _ _ _ HJ.out (World.grownBy.trans (grown_of_below HB1.out _) hst.2), HT2.out.symm, hst.1⟩
    | true =>
     rw [hb] at HCM
     have HX := Aside0.mk (HSM.out p x kk hb (by rw [HP.out]; omega) HQ.out)
     have HT2 := Aside0.mk (show outB q B calm (kk + 1) p = vs.map Prod.fst ++ (outB q B calm kk (p ++ [(x : Int)]) ++ rndB (fun (x : Nat) => calm (p ++ (x : Int) :: List.replicate kk 0)) (fun (x : Nat) => outB q B calm kk (p ++ [(x : Int)])) (B - (x + 1)) (x + 1)) from by rw [HT.out, HTs.out, if_pos hb])
     have HLE := Aside0.mk (show (pre ++ vs).length + (outB q B calm kk (p ++ [(x : Int)])).length ≤ 16384 from by have h1 := HL.out; rw [HT2.out] at h1; simp only [List.length_append, List.length_map] at h1 ⊢; omega)
     clear hb
     gi_wp2_with (refine ⟨trivial, ?_⟩; gi_at_call 72; refine HCM.out.mono ?_; rintro e w1 ⟨rfl, hb1⟩; have HC1 := Aside0.mk (HC.out.stay hb1); have q1 : w1.cell? ⟨s + 3, 0, none⟩ = some (.func (.func 71) #[] #[.pointer (some ⟨gx, 0, none⟩), .pointer (some ⟨s, 0, none⟩), .pointer (some ⟨s + 2, 0, none⟩), .pointer (some ⟨qx, 0, none⟩), .pointer (some ⟨s + 3, 0, none⟩)]) := (blk_cell HC1.out.f 0).trans rfl; have hIH := HIH.out (v + 1) (p ++ [(x : Int)]) (pre ++ vs) w1 (by simp [HP.out]) (by omega) (by rw [List.append_assoc]; exact HC1.out) (by rw [List.append_assoc]; exact HOK.out) (HJS.out _ _ _ HJ.out (grown_of_below hb1 _)) HLE.out; rw [Int.natCast_add, Int.natCast_one] at hIH; have HI := Aside0.mk ((callsIn_wide (n := 8)).2 (callsIn_wide.1 hIH)); clear hb1 hIH)
     refine ⟨trivial, ?_⟩
     refine HI.out.mono ?_
     rintro e w3 (⟨vs', rfl, h3, h4, h5⟩ | ⟨rfl, pre', h3⟩)
     ·rw [List.append_assoc] at h5
      have HC3 := Aside0.mk (show CS w0 n A0 c0 E q gx qx s l w3 (p ++ (x : Int) :: List.replicate kk 0) from h5)
      have HJ3 := Aside0.mk h3
      have H4 := Aside0.mk h4
      clear h3 h4 h5 q1 hg0 hg1 hq0 hcb
      have q1 : w3.cell? ⟨s + 2, 0, none⟩ = some (.slice (some ⟨s + 1, 0, none⟩) n n) := (blk_cell HC3.out.cb 0).trans rfl
      have hcl := HC3.out.cell (by rw [HP.out]; omega)
      have hst := HC3.out.set hgs hqs hs ((x : Int) + 1)
      rw [HP.out] at hcl hst
      obtain ⟨q2, q3⟩ := hcl
      have HC4 := Aside0.mk hst.1
      have HJ4 := Aside0.mk (HJS.out _ _ _ HJ3.out hst.2)
      clear hst
      have hx1000 : (x : Int) ≤ 1000 := by omega
      gi_wp2
      gi_roundg (B - (x + 1))
      case measure => rw [HK.out]; omega
      case rel => exact ⟨x + 1, vs ++ vs', HX.out, ⟨by rw [← List.append_assoc]; exact HJ4.out⟩, HC4, ⟨by rw [HT2.out, List.map_append, H4.out, List.append_assoc]⟩, ⟨rfl⟩⟩
     ·have H3 := Aside0.mk h3
      clear h3 q1 hg0 hg1 hq0 hcb
      gi_wp2
      go_ret
      exact .inr ⟨rfl, pre', H3.out⟩
end
section
theorem grown_set1p {w w1 : World} {g j : Nat} {v : Value} (h : Below w.heap.size w w1) : w.grownBy (w1.setCell ⟨g, j, none⟩ v) (some g) :=
 ⟨h.os, h.tape, h.output, by simpa using h.size, fun k hk hne => (Below.heap_setCell w1 _ v k (fun e => hne (by rw [e]))).trans (h.block k hk)⟩
structure PileCells (cs : Array Value) (d : Value) (q : Int) (rows val : Value) (waits : Nat → Bool) : Prop where
 size : cs.size = 18
 d : cs[0]? = some d
 q : cs[1]? = some (.int .i64 q)
 rows : cs[2]? = some rows
 val : cs[3]? = some val
 waits : ∀ i, i < 12 → cs[6 + i]? = some (.bool (waits i))
def PileAt (w : World) (g : Nat) (d : Value) (q : Int) (rows val : Value) (waits : Nat → Bool) : Prop :=
 ∃ cs : Array Value, w.heap[g]? = some (.cells cs 110 (0, 0)) ∧ PileCells cs d q rows val waits
namespace PileAt
variable {w w' : World} {g : Nat} {d : Value} {q : Int} {rows val : Value} {waits : Nat → Bool}
theorem lt (h : PileAt w g d q rows val waits) : g < w.heap.size := by obtain ⟨cs, hb, _⟩ := h; exact blk_lt hb
theorem cell_d (h : PileAt w g d q rows val waits) : w.cell? ⟨g, 0, none⟩ = some d := by obtain ⟨cs, hb, hc⟩ := h; exact (blk_cell hb 0).trans hc.d
theorem cell_q (h : PileAt w g d q rows val waits) : w.cell? ⟨g, 1, none⟩ = some (.int .i64 q) := by obtain ⟨cs, hb, hc⟩ := h; exact (blk_cell hb 1).trans hc.q
theorem cell_rows (h : PileAt w g d q rows val waits) : w.cell? ⟨g, 2, none⟩ = some rows := by obtain ⟨cs, hb, hc⟩ := h; exact (blk_cell hb 2).trans hc.rows
theorem cell_val (h : PileAt w g d q rows val waits) : w.cell? ⟨g, 3, none⟩ = some val := by obtain ⟨cs, hb, hc⟩ := h; exact (blk_cell hb 3).trans hc.val
theorem cell_waits (h : PileAt w g d q rows val waits) (i : Nat) (hi : i < 12) : w.cell? ⟨g, 6 + i, none⟩ = some (.bool (waits i)) := by obtain ⟨cs, hb, hc⟩ := h; exact (blk_cell hb _).trans (hc.waits i hi)
theorem frozen (h : PileAt w g d q rows val waits) (k : Nat) : w.frozen? ⟨g, k, none⟩ = false := by obtain ⟨cs, hb, _⟩ := h; exact blk_frozen hb k
theorem below (h : PileAt w g d q rows val waits) (hb : Below w.heap.size w w') : PileAt w' g d q rows val waits := by obtain ⟨cs, hh, hc⟩ := h; exact ⟨cs, blk_below hh hb, hc⟩
theorem drew (h : PileAt w g d q rows val waits) : PileAt w.drew g d q rows val waits := h
theorem grown {row : Option Nat} (h : PileAt w g d q rows val waits) (hg : w.grownBy w' row) (hne : some g ≠ row) : PileAt w' g d q rows val waits := by obtain ⟨cs, hh, hc⟩ := h; exact ⟨cs, blk_grown hh hg hne, hc⟩
theorem set_waits (h : PileAt w g d q rows val waits) (i : Nat) (hi : i < 12) (b : Bool) : PileAt (w.setCell ⟨g, 6 + i, none⟩ (.bool b)) g d q rows val (fun j => if j = i then b else waits j) := by
 obtain ⟨cs, hh, hc⟩ := h
 refine ⟨cs.setIfInBounds (6 + i) (.bool b), by simpa using blk_set hh (6 + i) (.bool b), by simp [hc.size], ?_, ?_, ?_, ?_, ?_⟩
 ·rw [Array.getElem?_setIfInBounds_ne (by omega)]; exact hc.d
 ·rw [Array.getElem?_setIfInBounds_ne (by omega)]; exact hc.q
 ·rw [Array.getElem?_setIfInBounds_ne (by omega)]; exact hc.rows
 ·rw [Array.getElem?_setIfInBounds_ne (by omega)]; exact hc.val
 ·intro k hk
  have hs := hc.size
  by_cases e : k = i
  ·subst e
   rw [Array.getElem?_setIfInBounds_self_of_lt (by omega)]; simp
  ·rw [Array.getElem?_setIfInBounds_ne (by omega), hc.waits k hk]; simp [e]
theorem set_rows (h : PileAt w g d q rows val waits) (u : Value) : PileAt (w.setCell ⟨g, 2, none⟩ u) g d q u val waits := by
 obtain ⟨cs, hh, hc⟩ := h
 have hs := hc.size
 refine ⟨cs.setIfInBounds 2 u, by simpa using blk_set hh 2 u, by simp [hc.size], ?_, ?_, ?_, ?_, ?_⟩
 ·rw [Array.getElem?_setIfInBounds_ne (by omega)]; exact hc.d
 ·rw [Array.getElem?_setIfInBounds_ne (by omega)]; exact hc.q
 ·rw [Array.getElem?_setIfInBounds_self_of_lt (by omega)]
 ·rw [Array.getElem?_setIfInBounds_ne (by omega)]; exact hc.val
 ·intro k hk
  rw [Array.getElem?_setIfInBounds_ne (by omega)]; exact hc.waits k hk
theorem R_set (h : PileAt w g d q rows val waits) {α : Type} {k : Kd α} {e base : Nat} {ok : Nat → Prop} {v : Value} {xs : List α} (hR : k.R e w base ok v xs) (ht : ∀ q, q ∈ e :: k.E → q ≠ 110) (j : Nat) (u : Value) : k.R e (w.setCell ⟨g, j, none⟩ u) base ok v xs := by
 obtain ⟨cs, hb, _⟩ := h
 exact Kd.R_set hR hb ht j u
theorem S_set (h : PileAt w g d q rows val waits) {α : Type} {k : Kd α} {e base : Nat} {ok : Nat → Prop} {v : Value} {xs : List α} (hR : Kd.S k e w base ok v xs) (ht : ∀ q, q ∈ e :: k.E → q ≠ 110) (j : Nat) (u : Value) : Kd.S k e (w.setCell ⟨g, j, none⟩ u) base ok v xs := by
 obtain ⟨cs, hb, _⟩ := h
 exact Kd.S_set hR hb ht j u
theorem ne_of (h : PileAt w g d q rows val waits) {v : Value} {e : Nat} (hty : ∀ k, v.ownBlock = some k → ∃ cells, w.heap[k]? = some (.cells cells e (0, 0))) (ht : e ≠ 110) : some g ≠ v.ownBlock := fun he => by
 obtain ⟨cs, hb, _⟩ := h
 obtain ⟨cells, hc⟩ := hty g he.symm
 rw [hb] at hc
 injection hc with hc
 injection hc with _ hc _
 exact ht hc.symm
end PileAt
def looseB (q : Int) (vl dl : List Int) (v : Nat) : Bool := decide ((v : Int) ≠ q) && decide (rd vl v ≤ rd dl v)
theorem unstable_calls (g v : Nat) (q : Int) (Ad Av : Option Addr) (cd cv : Nat) (dl vl : List Int) (rows : Value) (waits : Nat → Bool) (w : World) (hvd : v < dl.length) (hvv : v < vl.length)
  (hw : PileAt w g (.slice Ad dl.length cd) q rows (.slice Av vl.length cv) waits) (hd : Kd.C (Kd.int .i64) w Ad dl.length dl) (hr : Kd.C (Kd.int .i64) w Av vl.length vl) :
  Calls Try.prog 115 #[.pointer (some ⟨g, 0, none⟩), .int .i64 v] w fun e w' => e = .returned (.bool (looseB q vl dl v)) ∧ Drawn0 w w' := by
 have hcd := hw.cell_d
 have hcq := hw.cell_q
 have hcv := hw.cell_val
 have hl1 := hd.2.1
 have hl2 := hr.2.1
 unfold looseB
 by_cases hq : (v : Int) = q
 ·rw [decide_eq_false (by simpa using hq), Bool.false_and]
  subst hq
  go_enter Try.func115, Try.ntmps115
  go_wp2_with fail
  go_quiet (fail)
  go_wp2
  go_ret
  exact ⟨rfl, by repeat (first | exact Drawn0.refl _ | apply Drawn0.step)⟩
 ·rw [decide_eq_true (by simpa using hq), Bool.true_and]
  obtain ⟨ad, rfl, hxd⟩ := Kd.at_int hd v (by omega) (by omega)
  obtain ⟨av, rfl, hxv⟩ := Kd.at_int hr v (by omega) (by omega)
  rw [Int.toNat_natCast] at hxd hxv
  have hi0 : (0 : Int) ≤ (v : Int) := by omega
  have hi1 : (v : Int) < (dl.length : Int) := by omega
  have hi2 : (v : Int) < (vl.length : Int) := by omega
  have hqb : ((v : Int) != q) = true := by simpa using hq
  have Hqb := Lib.hid hqb
  clear hqb
  go_enter Try.func115, Try.ntmps115
  go_wp2_with fail
  go_quiet (fail)
  go_wp2
  go_ret
  refine ⟨?_, by repeat (first | exact Drawn0.refl _ | apply Drawn0.step)⟩
  show Ending.returned (.bool ((v : Int) != q && decide (rd vl v ≤ rd dl v))) = _
  rw [Hqb.out, Bool.true_and]
theorem wait_calls (g v : Nat) (q : Int) (Ad Av : Option Addr) (cd cv : Nat) (dl vl : List Int) (rows : Value) (waits : Nat → Bool) (w : World) (hv : v < 12) (hvd : v < dl.length) (hvv : v < vl.length)
  (hw : PileAt w g (.slice Ad dl.length cd) q rows (.slice Av vl.length cv) waits) (hd : Kd.C (Kd.int .i64) w Ad dl.length dl) (hr : Kd.C (Kd.int .i64) w Av vl.length vl) :
  Calls Try.prog 106 #[.pointer (some ⟨g, 0, none⟩), .int .i64 v] w fun e w' => e = .returned (.tuple #[]) ∧ PileAt w' g (.slice Ad dl.length cd) q rows (.slice Av vl.length cv) (fun j => if j = v then looseB q vl dl v else waits j) ∧ w.grownBy w' (some g) := by
 have hi0 : (0 : Int) ≤ (v : Int) := by omega
 have hi1 : (v : Int) < 12 := by omega
 have HU := Aside0.mk (fun W h1 h2 h3 => unstable_calls g v q Ad Av cd cv dl vl rows waits W hvd hvv h1 h2 h3)
 have HW := Aside0.mk hw
 have HD := Aside0.mk hd
 have HR := Aside0.mk hr
 clear hw hd hr
 generalize looseB q vl dl v = b at HU ⊢
 go_enter Try.func106, Try.ntmps106
 go_wp2_with fail
 go_region_with ((go_at_call 115; refine (HU.out _ HW.out.drew (Kd.C_drew HD.out) (Kd.C_drew HR.out)).mono ?_; rintro e w1 ⟨rfl, hD⟩; have q1 : w1.cell? ⟨g, 6 + v, none⟩ = some (.bool (waits v)) := (by obtain ⟨m, rfl⟩ := hD.out; exact HW.out.cell_waits v hv); have q2 : w1.frozen? ⟨g, 6 + v, none⟩ = false := (by obtain ⟨m, rfl⟩ := hD.out; exact HW.out.frozen _); have q3 := Aside0.mk (show PileAt (w1.setCell ⟨g, 6 + v, none⟩ (.bool b)) g (.slice Ad dl.length cd) q rows (.slice Av vl.length cv) (fun j => if j = v then b else waits j) from by obtain ⟨m, rfl⟩ := hD.out; exact PileAt.set_waits (w := w.drew.drewN m) HW.out v hv b); have q4 := Aside0.mk (show w.grownBy (w1.setCell ⟨g, 6 + v, none⟩ (.bool b)) (some g) from by exact grown_set1p ((below_drew (Below.refl w.heap.size w)).trans hD.below)); clear hD))
 all_goals go_wp2
 all_goals go_end0
 all_goals exact ⟨rfl, q3.out, q4.out⟩
end
theorem infoEnds : (Try.prog.info? 115).map (fun i => (i.zero, i.size, i.bytes)) = some (some (.agg #[.int .i64 0, .int .i64 0]), 2, 16) := by kernel_rfl
def sizeTo (E : List S66) : Nat → Nat
 | 0 => 0
 | i + 1 => sizeTo E i + (rd_T66 E i).f2.toNat
def multsOk (E : List S66) : Bool := decide (E.length ≤ 40) && E.all fun x => decide (1 ≤ x.f2 ∧ x.f2 ≤ 50)
theorem sizeTo_le {E : List S66} (h : ∀ k, k < E.length → 1 ≤ (rd_T66 E k).f2 ∧ (rd_T66 E k).f2 ≤ 50) : ∀ i, i ≤ E.length → sizeTo E i ≤ 50 * i
 | 0, _ => by simp [sizeTo]
 | i + 1, hi => by
  have h1 := sizeTo_le h i (by omega)
  have h2 := h i (by omega)
  simp only [sizeTo]; omega
theorem multsOk_get {E : List S66} (h : multsOk E = true) : E.length ≤ 40 ∧ ∀ k, k < E.length → 1 ≤ (rd_T66 E k).f2 ∧ (rd_T66 E k).f2 ≤ 50 := by
 simp only [multsOk, Bool.and_eq_true, decide_eq_true_eq, List.all_eq_true] at h
 refine ⟨h.1, fun k hk => ?_⟩
 have e : rd_T66 E k = E[k] := by simp [rd_T66, List.getD_eq_getElem?_getD, List.getElem?_eq_getElem hk]
 rw [e]; exact h.2 _ (List.getElem_mem hk)
def sandpileref08_Size.f (N : Int) (E : List S66) : Option Int := if multsOk E = true then some (sizeTo E E.length : Nat) else none
theorem ends08_calls (N : Int) (A0 : Option Addr) (c0 : Nat) (E : List S66) (w : World) (hr0 : Kd.C k66 w A0 E.length E) (hE : multsOk E = true) :
  Calls Try.prog 79 #[.agg #[.int .i64 N, .slice A0 E.length c0]] w fun e w' => ∃ A c, e = .returned (.slice A (sizeTo E E.length) c) ∧ Below w.heap.size w w' := by
 have hu := Try.underlying24
 have hue := Try.underlying66
 obtain ⟨hlen, hm⟩ := multsOk_get hE
 have hsz := fun i hi => sizeTo_le hm i hi
 have HM := Aside0.mk hm
 have HS := Aside0.mk hsz
 clear hm hsz hE
 obtain ⟨i0, hi0, hz0, hz1, hz2⟩ := info_parts infoEnds
 have HI := Aside0.mk hi0
 have HZ0 := Aside0.mk hz0
 have HZ1 := Aside0.mk hz1
 have HZ2 := Aside0.mk hz2
 clear hi0 hz0 hz1 hz2
 go_enter Try.func79, Try.ntmps79
 go_wp2
 have hBX : (w.alloc (.cells #[.int .i64 N, .slice A0 E.length c0] 24)).heap[w.heap.size]? = some (.cells #[.int .i64 N, .slice A0 E.length c0] 24 (0, 0)) := by simpa using heap_alloc_new w _
 have hB0 := below_alloc (Below.refl w.heap.size w) (.cells #[.int .i64 N, .slice A0 E.length c0] 24)
 have hbl : w.heap.size ≤ w.heap.size := Nat.le_refl _
 generalize hgb : w.heap.size = gb at hBX hbl ⊢
 rw [hgb] at hB0
 generalize (w.alloc (.cells #[.int .i64 N, .slice A0 E.length c0] 24)) = W0 at hBX hB0 ⊢
 go_loopw [3, 4] (fun v i wr => ∃ (k : Nat) (xs : List Value), k ≤ E.length ∧ i = .int .i64 k ∧ Aside0 (wr.ownsRow gb 115 2 v (sizeTo E k) xs) ∧ Aside0 (wr.heap[gb]? = some (.cells #[.int .i64 N, .slice A0 E.length c0] 24 (0, 0))) ∧ Aside0 (Below gb w wr)) (fun _ i _ => E.length - (intOf i).toNat)
 case atStart => exact ⟨0, [], Nat.zero_le _, rfl, ⟨own_nil _ _ _ _⟩, ⟨hBX⟩, ⟨hB0⟩⟩
 case round =>
  obtain ⟨k, xs, hk, rfl, HO, HX, HB⟩ := hrel
  have hc0 : wr.cell? ⟨gb, 0, none⟩ = some (.int .i64 N) := (blk_cell HX.out 0).trans rfl
  have hc1 : wr.cell? ⟨gb, 1, none⟩ = some (.slice A0 E.length c0) := (blk_cell HX.out 1).trans rfl
  by_cases hlt : k < E.length
  ·obtain ⟨wo, rfl⟩ : ∃ wo : World, wo = wr := ⟨_, rfl⟩
   have hmk := HM.out k hlt
   have hss : sizeTo E (k + 1) = sizeTo E k + (rd_T66 E k).f2.toNat := rfl
   have hsk := HS.out (k + 1) (by omega)
   have Hss := Lib.hid hss
   obtain ⟨ad, rfl, hx0, hx1, hx2⟩ := at_T66 hr0 k (by omega) (by omega)
   rw [Int.toNat_natCast] at hx0 hx1 hx2
   generalize rd_T66 E k = x at hmk hx0 hx1 hx2 Hss hss
   obtain ⟨a, b, m⟩ := x
   simp only at hmk hx0 hx1 hx2
   obtain ⟨m, rfl⟩ := Int.eq_ofNat_of_zero_le (show 0 ≤ m by omega)
   simp only [Int.toNat_natCast] at hss
   have hbig : sizeTo E k + m ≤ 2000 := by omega
   have hk0 : (0 : Int) ≤ (k : Int) := by omega
   have hk1 : (k : Int) < (E.length : Int) := by omega
   have HX0 := Aside0.mk hx0
   have HX1 := Aside0.mk hx1
   have HX2 := Aside0.mk hx2
   have hadl : (ad.add (k * 3)).block < gb := by rw [← hgb]; exact World.block_lt_of_cell? w _ hx0
   clear hx0 hx1 hx2 hss hsk
   go_wp2
   go_loopw [3, 5] (fun v i wr => ∃ (j : Nat) (xs : List Value), j ≤ m ∧ i = .int .i64 j ∧ Aside0 (wr.ownsRow gb 115 2 v (sizeTo E k + j) xs) ∧ Aside0 (wr.heap[gb]? = some (.cells #[.int .i64 N, .slice (some ad) E.length c0] 24 (0, 0))) ∧ Aside0 (Below gb w wr)) (fun _ i _ => m - (intOf i).toNat)
   case atStart => exact ⟨0, xs, Nat.zero_le _, rfl, HO, HX, HB⟩
   case round =>
    clear hc0 hc1 HO HX HB
    obtain ⟨j, ys, hj, rfl, HO, HX, HB⟩ := hrel
    have hc0 : wr.cell? ⟨gb, 0, none⟩ = some (.int .i64 N) := (blk_cell HX.out 0).trans rfl
    have hc1 : wr.cell? ⟨gb, 1, none⟩ = some (.slice (some ad) E.length c0) := (blk_cell HX.out 1).trans rfl
    have hx0 := (HB.out.cell (p := ad.add (k * 3)) hadl).trans HX0.out
    have hx1 := (HB.out.cell (p := ⟨(ad.add (k * 3)).block, (ad.add (k * 3)).off + 1, none⟩) hadl).trans HX1.out
    have hx2 := (HB.out.cell (p := ⟨(ad.add (k * 3)).block, (ad.add (k * 3)).off + 2, none⟩) hadl).trans HX2.out
    by_cases hjm : j < m
    ·have ag : u3.ownBlock ≠ some gb := fun e => own_ne HO.out HX.out (by decide) e.symm
     have ak : u3.ownBlock ≠ some (ad.add (k * 3)).block := fun e => by have := own_base HO.out _ e; omega
     have lg : gb < wr.heap.size := blk_lt HX.out
     have la : (ad.add (k * 3)).block < wr.heap.size := by omega
     go_wp2
     go_region_held3 (fun w' => w'.cell? ⟨gb, 1, none⟩ = some (.slice (some ad) E.length c0) ∧ w'.cell? (ad.add (k * 3)) = some (.int .i64 a) ∧ w'.cell? ⟨(ad.add (k * 3)).block, (ad.add (k * 3)).off + 1, none⟩ = some (.int .i64 b))
      (first
       | go_keep
       | (
         go_split_ands
         refine ⟨?_, ?_, ?_⟩
         ·(rw [hgrow.cell_far ⟨gb, 1, none⟩ (by simp; omega) (Ne.symm ag)]; assumption)
         ·(rw [hgrow.cell_far (ad.add (k * 3)) (by simp; omega) (Ne.symm ak)]; assumption)
         ·(rw [hgrow.cell_far ⟨(ad.add (k * 3)).block, (ad.add (k * 3)).off + 1, none⟩ (by simp; omega) (Ne.symm ak)]; assumption)))
      ((refine step_append_lies _ (by rfl) _ _ _ (by rfl) gb 115 i0 _ 2 16 Try.underlying95 HI.out HZ0.out HZ1.out HZ2.out rfl (by omega) u3 (sizeTo E k + j) ys (by rfl) ((HO.out.alloc _).drew) ⟨wr.heap.size, 0, none⟩ 1 1 [.int .i64 a, .int .i64 b] (by rfl) (by rfl) (World.news_of_block (cs := #[.int .i64 a, .int .i64 b]) (t := 115) (fr := (0, 0)) (heap_alloc_new wr _)) (by simp [Value.oneCell']) (by omega) (by unfold maxLen; omega) (by omega) (by simp; omega) (wr.heap.size + 1) (by simp) ?_; intro gg cap w1 hown1 hgrow hat hlt))
     have n1 := Aside0.mk (blk_grown (blk_drew (blk_alloc HX.out _)) hgrow (Ne.symm ag))
     have n2 := Aside0.mk (Below.grown (below_drew1 (HB.out.alloc (by omega) _)) hgrow (by simp; omega) (own_base HO.out))
     clear hgrow hat hlt hx0 hx1 hx2 hc0 hc1
     go_wp2
     go_roundw
     case rel => exact ⟨j + 1, _, by omega, by go_num, ⟨by rw [← Nat.add_assoc]; exact hown1⟩, n1, n2⟩
     case measure => (show m - ((j : Int) + 1).toNat < m - ((j : Int)).toNat; omega)
    ·obtain rfl : j = m := by omega
     go_wp2
     exact ⟨⟨k + 1, ys, by omega, by go_num, ⟨by rw [Hss.out, Int.toNat_natCast]; exact HO.out⟩, HX, HB⟩, (show E.length - ((k : Int) + 1).toNat < E.length - ((k : Int)).toNat by omega)⟩
  ·obtain rfl : k = E.length := by omega
   go_wp2
   go_ret
   obtain ⟨A, c, rfl⟩ := own_slice HO.out
   exact ⟨A, c, rfl, by rw [hgb]; exact HB.out⟩
theorem sandpileref08_Size.calls (a0_0 : Int) (A0_1 : Option Addr) (c0_1 : Nat) (l0_1 : List (S66)) (r : Int) (w : World) (hr0_1 : Kd.C k66 w A0_1 l0_1.length l0_1) (hc0_1 : l0_1.length ≤ c0_1) (h : sandpileref08_Size.f a0_0 l0_1 = some r) :
  Calls Try.prog 59 #[.agg #[.int .i64 a0_0, .slice A0_1 l0_1.length c0_1]] w fun e w' => e = .returned (.int .i64 r) ∧ Below w.heap.size w w' := by
 unfold sandpileref08_Size.f at h
 split at h
 case isFalse => cases h
 rename_i hE
 injection h with h
 subst h
 go_enter Try.func59, Try.ntmps59
 go_wp2_with (first | (go_at_call 79; refine (ends08_calls a0_0 A0_1 c0_1 l0_1 _ (Kd.C_alloc hr0_1 _) hE).mono ?_; rintro e w1 ⟨A, c, rfl, hb⟩; have HB := Aside0.mk (below_step (below_alloc (Below.refl w.heap.size w) _) hb); clear hb))
 go_ret
 exact ⟨rfl, HB.out⟩
end Go.Proofs.Ytffdiakgjakngaa.P
