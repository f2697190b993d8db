/- A part of the proof that SuperstableDuals answers true (text 14 of 15): own walks and plain laws; no conditions. -/
import Derived.Test.YtffdiakgjakngaaDuals13
namespace Go.Proofs.Ytffdiakgjakngaa.P
open Go.RowKit Go.Proofs.YtffdiakgjakngaaW.PrintWords Go.Proofs.YtffdiakgjakngaaW.PrintLast Go.Proofs.YtffdiakgjakngaaW.PrintMore
set_option linter.unusedVariables false
set_option linter.unusedSimpArgs false
set_option maxHeartbeats 8000000
set_option maxRecDepth 100000
section
set_option maxRecDepth 100000
theorem awake28_true : awake28.f 60 = some true := by kernel_rfl
def sandpilelaw28_awake.f : Option (Bool) := some true
theorem sandpilelaw28_awake.calls (r : Bool) (w : World) (h : sandpilelaw28_awake.f = some r) :
  Calls Try.prog 11 #[] w fun e w' => e = .returned (.bool r) ∧ Below w.heap.size w w' := by
 obtain rfl := Option.some.inj h
 exact awake28.calls 60 true rfl w awake28_true
end
mutual
def sandpilelaw28_SuperstableGenus.l0 : Nat → List Int → Int → List (List Int) → Int → Int → List Int → Int → Int → Option (Bool)
 | 0, _, _, _, _, _, _, _, _ => none
 | k + 1, x5, x7, x9, x11, x12, x49, x50, x51 => if x51 < x50 then (if 0 ≤ x51 then (if x51 < (x49.length : Int) then (sandpilelaw28_SuperstableGenus.l0 k x5 x7 x9 x11 (wrap64 (x12 + (rd x49 x51))) x49 x50 (wrap64 (x51 + 1))) else (none)) else (none)) else (sandpilelaw28_SuperstableGenus.l1 k x5 x7 x9 x11 x12 x9 (x9.length : Int) 0)
def sandpilelaw28_SuperstableGenus.l1 : Nat → List Int → Int → List (List Int) → Int → Int → List (List Int) → Int → Int → Option (Bool)
 | 0, _, _, _, _, _, _, _, _ => none
 | k + 1, x5, x7, x9, x11, x12, x59, x60, x61 => if x61 < x60 then (if 0 ≤ x61 then (if x61 < (x59.length : Int) then ((sandpileref17_Total.f k (rd_L2 x59 x61)).bind fun t561 => (if t561 = x11 then (sandpilelaw28_SuperstableGenus.l1 k x5 x7 x9 x11 x12 x59 x60 (wrap64 (x61 + 1))) else (some false))) else (none)) else (none)) else (if x12 = x7 then (if (x5.length : Int) = (wrap64 (x11 + 1)) then (if 0 < (x5.length : Int) then (if (rd x5 0) = 1 then (if 0 ≤ x11 then (if x11 < (x5.length : Int) then (if (rd x5 x11) = (x9.length : Int) then ((sandpilelaw28_awake.f).bind fun t564 => (some t564)) else (some false)) else (none)) else (none)) else (some false)) else (none)) else (some false)) else (some false))
end
section
namespace Small
variable {n q : Nat} {E : List S66}
end Small
namespace Small
variable {n q : Nat} {E : List S66}
end Small
end
section
namespace Small
variable {n q : Nat} {E : List S66}
theorem err_good (h : Small n q E) (hr : rootG n E q = 0) {c : List Int} (hg : GoodC n q c) : err23 n E q c = 0 := by
 have hl := hg.len
 have h1 : ∀ l : List Int, (∀ y ∈ l, 0 ≤ y ∧ y ≤ 1048576) → rngF l = 0 := fun l => by
  induction l with
  | nil => intro _; rfl
  | cons y l ih =>
   intro hl
   have := hl y (List.mem_cons_self ..)
   rw [rngF, if_pos (by simp [chipB]; omega)]
   exact ih fun z hz => hl z (List.mem_cons_of_mem _ hz)
 have h2 : ∀ (l : List Int) (i : Nat), (∀ y ∈ l, 0 ≤ y ∧ y ≤ 1048576) → negF q i l = 0 := fun l => by
  induction l with
  | nil => intro i _; rfl
  | cons y l ih =>
   intro i hl
   have := hl y (List.mem_cons_self ..)
   rw [negF, if_neg (show ¬ y < 0 by omega), ih (i + 1) fun z hz => hl z (List.mem_cons_of_mem _ hz)]
   split <;> rfl
 have hm : ∀ y ∈ c, 0 ≤ y ∧ y ≤ 1048576 := fun y hy => by
  obtain ⟨i, hi, rfl⟩ := List.getElem_of_mem hy
  have := And.intro (hg.pos i) (hg.up i)
  simp only [rd, Int.toNat_natCast, List.getD_eq_getElem?_getD, List.getElem?_eq_getElem hi, Option.getD_some] at this
  exact this
 have e0 : errC n E q c = 0 := by
  unfold errC
  rw [if_pos hr, if_pos (by simp [hl]), h1 _ hm, if_pos rfl, h2 _ 0 hm]
 unfold err23
 rw [if_pos e0, if_pos hg.sink]
end Small
end
def api_Divisor_int_31.l0 : Nat → List Int → List Int → Int → Int → Option (Bool)
 | 0, _, _, _, _ => none
 | k + 1, x0, x1, x12, x13 => if x13 < x12 then (if 0 ≤ x13 then (if x13 < (x0.length : Int) then (if x13 < (x1.length : Int) then (if (rd x0 x13) = (rd x1 x13) then (api_Divisor_int_31.l0 k x0 x1 x12 (wrap64 (x13 + 1))) else (some false)) else (none)) else (none)) else (none)) else (some true)
def api_Divisor_int_31.f (k : Nat) (l0 : List Int) (l1 : List Int) : Option (Bool) := if (l0.length : Int) = (l1.length : Int) then (api_Divisor_int_31.l0 k l0 l1 (l0.length : Int) 0) else (some false)
theorem api_Divisor_int_31.calls (k : Nat) (A0 : Option Addr) (c0 : Nat) (l0 : List Int) (A1 : Option Addr) (c1 : Nat) (l1 : List Int) (r : Bool) (w : World) (hr0 : Kd.C (Kd.int .i64) w A0 l0.length l0) (hc0 : l0.length ≤ c0) (hr1 : Kd.C (Kd.int .i64) w A1 l1.length l1) (hc1 : l1.length ≤ c1) (h : api_Divisor_int_31.f k l0 l1 = some r) :
  Calls Try.prog 31 #[.slice A0 l0.length c0, .slice A1 l1.length c1] w fun e w' => e = .returned (.bool r) ∧ Drawn0 w w' := by
 have HR0 := Aside0.mk hr0
 have HC0 := Aside0.mk hc0
 clear hr0 hc0
 have HR1 := Aside0.mk hr1
 have HC1 := Aside0.mk hc1
 clear hr1 hc1
 have H : (if (l0.length : Int) = (l1.length : Int) then (api_Divisor_int_31.l0 k l0 l1 (l0.length : Int) 0) else (some false)) = some r := h
 clear h
 by_cases c3 : (l0.length : Int) = (l1.length : Int)
 ·rw [if_pos c3] at H
  have c3b0 : ((l0.length : Int) == (l1.length : Int)) = true := beq_iff_eq.mpr c3
  have c3b1 : ((l0.length : Int) != (l1.length : Int)) = false := bne_eq_false_iff_eq.mpr c3
  have c3b2 : (l0.length == l1.length) = true := by first | simpa using c3 | (simp at c3 ⊢; omega)
  clear c3
  have H' := Aside0.mk H
  clear H
  go_enter Try.func31, Try.ntmps31
  go_wp2
  repeat (go_quiet (fail); try go_wp2)
  go_loopg [13] k (fun kq v13 w' => ∃ (x13_1 : Int), v13 = .int .i64 x13_1 ∧ Aside0 (api_Divisor_int_31.l0 kq l0 l1 (l0.length : Int) x13_1 = some r) ∧ Aside0 (kq ≤ k) ∧ Drawn0 w w')
  case atStart => exact ⟨(0), zT, H', ⟨Nat.le_refl _⟩, by repeat (first | exact Drawn0.refl _ | apply Drawn0.step)⟩
  case round =>
   clear H'
   try clear c1
   try clear p2
   try clear c3
   try clear c3b0
   try clear c3b1
   try clear c3b2
   obtain ⟨x13_1, rfl, HA, HK1, ⟨m1, rfl⟩⟩ := hrel
   cases gk with
   | zero => exact absurd HA.out (by simp [api_Divisor_int_31.l0])
   | succ k1 =>
    have H := HA.out
    clear HA
    simp only [api_Divisor_int_31.l0] at H
    by_cases c4 : x13_1 < (l0.length : Int)
    ·rw [if_pos c4] at H
     have c4b0 : decide (x13_1 < (l0.length : Int)) = true := decide_eq_true c4
     clear c4
     by_cases c5 : 0 ≤ x13_1
     ·rw [if_pos c5] at H
      have c5b0 : decide (0 ≤ x13_1) = true := decide_eq_true c5
      clear c5
      by_cases c6 : x13_1 < (l0.length : Int)
      ·rw [if_pos c6] at H
       have c6b0 : decide (x13_1 < (l0.length : Int)) = true := decide_eq_true c6
       clear c6
       by_cases c7 : x13_1 < (l1.length : Int)
       ·rw [if_pos c7] at H
        have c7b0 : decide (x13_1 < (l1.length : Int)) = true := decide_eq_true c7
        clear c7
        by_cases c8 : (rd l0 x13_1) = (rd l1 x13_1)
        ·rw [if_pos c8] at H
         have c8b0 : ((rd l0 x13_1) == (rd l1 x13_1)) = true := beq_iff_eq.mpr c8
         have c8b1 : ((rd l0 x13_1) != (rd l1 x13_1)) = false := bne_eq_false_iff_eq.mpr c8
         clear c8
         have H' := Aside0.mk H
         clear H
         have p393 : 0 ≤ (x13_1 : Int) := of_decide_eq_true ‹_›
         have q393 : x13_1 < (l0.length : Int) := of_decide_eq_true ‹_›
         obtain ⟨ad393, e393, hx393_0⟩ := Kd.at_int HR0.out x13_1 p393 q393
         cases e393
         replace p393 := eq_true p393
         replace q393 := eq_true q393
         have p394 : 0 ≤ (x13_1 : Int) := of_decide_eq_true ‹_›
         have q394 : x13_1 < (l1.length : Int) := of_decide_eq_true ‹_›
         obtain ⟨ad394, e394, hx394_0⟩ := Kd.at_int HR1.out x13_1 p394 q394
         cases e394
         replace p394 := eq_true p394
         replace q394 := eq_true q394
         go_wp2
         repeat (go_quiet (fail); try go_wp2)
         go_roundg k1
         case measure => have := HK1.out; omega
         case rel => exact ⟨(wrap64 (x13_1 + 1)), zT, H', ⟨by have := HK1.out; omega⟩, by repeat (first | exact Drawn0.refl _ | apply Drawn0.step)⟩
        ·rw [if_neg c8] at H
         have c8b0 : ((rd l0 x13_1) == (rd l1 x13_1)) = false := beq_eq_false_iff_ne.mpr c8
         have c8b1 : ((rd l0 x13_1) != (rd l1 x13_1)) = true := bne_iff_ne.mpr c8
         obtain rfl := Option.some.inj H
         have p393 : 0 ≤ (x13_1 : Int) := of_decide_eq_true ‹_›
         have q393 : x13_1 < (l0.length : Int) := of_decide_eq_true ‹_›
         obtain ⟨ad393, e393, hx393_0⟩ := Kd.at_int HR0.out x13_1 p393 q393
         cases e393
         replace p393 := eq_true p393
         replace q393 := eq_true q393
         have p394 : 0 ≤ (x13_1 : Int) := of_decide_eq_true ‹_›
         have q394 : x13_1 < (l1.length : Int) := of_decide_eq_true ‹_›
         obtain ⟨ad394, e394, hx394_0⟩ := Kd.at_int HR1.out x13_1 p394 q394
         cases e394
         replace p394 := eq_true p394
         replace q394 := eq_true q394
         go_wp2
         repeat (go_quiet (fail); try go_wp2)
         go_ret
         exact ⟨zT, by repeat (first | exact Drawn0.refl _ | apply Drawn0.step)⟩
       ·rw [if_neg c7] at H
        exact absurd H (by simp)
      ·rw [if_neg c6] at H
       exact absurd H (by simp)
     ·rw [if_neg c5] at H
      exact absurd H (by simp)
    ·rw [if_neg c4] at H
     have c4b0 : decide (x13_1 < (l0.length : Int)) = false := decide_eq_false c4
     clear c4
     obtain rfl := Option.some.inj H
     go_wp2
     repeat (go_quiet (fail); try go_wp2)
     go_ret
     exact ⟨zT, by repeat (first | exact Drawn0.refl _ | apply Drawn0.step)⟩
 ·rw [if_neg c3] at H
  have c3b0 : ((l0.length : Int) == (l1.length : Int)) = false := beq_eq_false_iff_ne.mpr c3
  have c3b1 : ((l0.length : Int) != (l1.length : Int)) = true := bne_iff_ne.mpr c3
  have c3b2 : (l0.length == l1.length) = false := by first | simpa using c3 | (simp at c3 ⊢; omega)
  obtain rfl := Option.some.inj H
  go_enter Try.func31, Try.ntmps31
  go_wp2
  repeat (go_quiet (fail); try go_wp2)
  go_ret
  exact ⟨zT, by repeat (first | exact Drawn0.refl _ | apply Drawn0.step)⟩
def sandpilelaw28_SuperstableDuals.j0 : Nat → Int → List Int → Bool → Int → List (S66) → Option (Bool)
 | 0, _, _, _, _, _ => none
 | k + 1, x1, x2, x37, x566000, x566001 => if x37 = true then ((sandpilelaw28_awake.f).bind fun t569 => (some t569)) else ((superstable_Dual.f k x566000 x566001 x1 x2).bind fun bt570 => (if bt570.2 = 0 then ((superstable_Dual.f k x566000 x566001 x1 bt570.1).bind fun bt574 => ((burning_Superstable.f k x566000 x566001 x1 x2).bind fun bt578 => ((recurrent_Recurrent.f k x566000 x566001 x1 bt570.1).bind fun bt580 => (if (wrap64 ((wrap64 (bt574.2 + bt578.2)) + bt580.2.2)) = 0 then ((api_Divisor_int_31.f k bt574.1 x2).bind fun t585 => (if t585 = true then (if (bt578.1 == bt580.1) = true then ((sandpilelaw28_awake.f).bind fun t586 => (some t586)) else (some false)) else (some false))) else (some false))))) else (some false)))
def sandpilelaw28_SuperstableDuals.f (k : Nat) (a0_0 : Int) (l0_1 : List (S66)) (a1 : Int) (l2 : List Int) : Option (Bool) := (sandpilelaw28_right.f k a0_0 l0_1 a1).bind fun t566 => (if t566 = true then (if (l2.length : Int) > 40 then (sandpilelaw28_SuperstableDuals.j0 k a1 l2 true a0_0 l0_1) else ((sandpileref23_Check.f k a0_0 l0_1 a1 l2).bind fun t567 => (if t567 = 0 then ((sandpileref19_Calm.f k a0_0 l0_1 a1 l2).bind fun t568 => (sandpilelaw28_SuperstableDuals.j0 k a1 l2 (!t568) a0_0 l0_1)) else (sandpilelaw28_SuperstableDuals.j0 k a1 l2 true a0_0 l0_1)))) else (sandpilelaw28_SuperstableDuals.j0 k a1 l2 true a0_0 l0_1))
theorem sandpilelaw28_SuperstableDuals.calls (k : Nat) (a0_0 : Int) (A0_1 : Option Addr) (c0_1 : Nat) (l0_1 : List (S66)) (a1 : Int) (A2 : Option Addr) (c2 : Nat) (l2 : List Int) (r : Bool) (w : World) (hr0_1 : Kd.C k66 w A0_1 l0_1.length l0_1) (hc0_1 : l0_1.length ≤ c0_1) (hr2 : Kd.C (Kd.int .i64) w A2 l2.length l2) (hc2 : l2.length ≤ c2) (h : sandpilelaw28_SuperstableDuals.f k a0_0 l0_1 a1 l2 = some r) :
  Calls Try.prog 9 #[.agg #[.int .i64 a0_0, .slice A0_1 l0_1.length c0_1], .int .i64 a1, .slice A2 l2.length c2] w fun e w' => e = .returned (.bool r) ∧ Below w.heap.size w w' := by
 have hu24 := Try.underlying24
 have HR0_1 := Aside0.mk hr0_1
 have HC0_1 := Aside0.mk hc0_1
 clear hr0_1 hc0_1
 have HR2 := Aside0.mk hr2
 have HC2 := Aside0.mk hc2
 clear hr2 hc2
 have HB := Aside0.mk (Below.refl w.heap.size w)
 have H : ((sandpilelaw28_right.f k a0_0 l0_1 a1).bind fun t566 => (if t566 = true then (if (l2.length : Int) > 40 then (sandpilelaw28_SuperstableDuals.j0 k a1 l2 true a0_0 l0_1) else ((sandpileref23_Check.f k a0_0 l0_1 a1 l2).bind fun t567 => (if t567 = 0 then ((sandpileref19_Calm.f k a0_0 l0_1 a1 l2).bind fun t568 => (sandpilelaw28_SuperstableDuals.j0 k a1 l2 (!t568) a0_0 l0_1)) else (sandpilelaw28_SuperstableDuals.j0 k a1 l2 true a0_0 l0_1)))) else (sandpilelaw28_SuperstableDuals.j0 k a1 l2 true a0_0 l0_1))) = some r := h
 clear h
 have HC4 := Aside0.mk H
 clear H
 go_enter Try.func9, Try.ntmps9
 go_upto_region 1 with (first | ((with_reducible refine gate_dst (N := 3) rfl ?_); (try (refine gate_guard (by rfl) ?_; dsimp only)); refine zX 3 #[.int .i64 a0_0, .slice A0_1 l0_1.length c0_1] 24 ?_; intro gb565 hg w5 hbox hb; have BK565 := Aside0.mk (hbox); have GW565 := zG HB hg; have GE565 := zG HB hg; replace HB := zS HB hb; clear hb hbox hg))
 (try simp only [Act.put, List.setIfInBounds_toArray, List.set_cons_zero, List.set_cons_succ])
 go_cut [37] (fun v37 wc => ∃ (kq : Nat) (x37_3 : Bool), v37 = .bool x37_3 ∧ Aside0 (sandpilelaw28_SuperstableDuals.j0 kq a1 l2 x37_3 a0_0 l0_1 = some r) ∧ Aside0 (kq ≤ k) ∧ Aside0 (wc.heap[gb565]? = some (.cells #[.int .i64 a0_0, (.slice A0_1 l0_1.length c0_1)] 24 (0, 0))) ∧ Aside0 (Below w.heap.size w wc))
 case first =>
  have H := HC4.out
  clear HC4
  replace H := Option.bind_eq_some_iff.mp H
  obtain ⟨t566, A60, H⟩ := H
  replace H : (if t566 = true then (if (l2.length : Int) > 40 then (sandpilelaw28_SuperstableDuals.j0 k a1 l2 true a0_0 l0_1) else ((sandpileref23_Check.f k a0_0 l0_1 a1 l2).bind fun t567 => (if t567 = 0 then ((sandpileref19_Calm.f k a0_0 l0_1 a1 l2).bind fun t568 => (sandpilelaw28_SuperstableDuals.j0 k a1 l2 (!t568) a0_0 l0_1)) else (sandpilelaw28_SuperstableDuals.j0 k a1 l2 true a0_0 l0_1)))) else (sandpilelaw28_SuperstableDuals.j0 k a1 l2 true a0_0 l0_1)) = some r := H
  have A6 := Aside0.mk A60
  clear A60
  by_cases c7 : t566 = true
  ·subst c7
   have H1 : (if (l2.length : Int) > 40 then (sandpilelaw28_SuperstableDuals.j0 k a1 l2 true a0_0 l0_1) else ((sandpileref23_Check.f k a0_0 l0_1 a1 l2).bind fun t567 => (if t567 = 0 then ((sandpileref19_Calm.f k a0_0 l0_1 a1 l2).bind fun t568 => (sandpilelaw28_SuperstableDuals.j0 k a1 l2 (!t568) a0_0 l0_1)) else (sandpilelaw28_SuperstableDuals.j0 k a1 l2 true a0_0 l0_1)))) = some r := by rw [if_pos rfl] at H; exact H
   clear H
   have H := H1
   clear H1
   by_cases c8 : (l2.length : Int) > 40
   ·rw [if_pos c8] at H
    have c8b0 : decide (40 < (l2.length : Int)) = true := decide_eq_true c8
    have c8b1 : decide (40 < l2.length) = true := decide_eq_true (by omega)
    clear c8
    (first | rw [c8b0] | (simp only [i64_w, i32_w]; rw [c8b0]) | skip)
    have H' := Aside0.mk H
    clear H
    obtain ⟨hcz9_0, hcz9_1, hfz9_0, hfz9_1⟩ := zD2 BK565
    go_wp2_with (first | ((with_reducible refine gate_callee (f := 27) rfl ?_); refine zL (some 17) Try.func27 #[.agg #[.int .i64 a0_0, .slice A0_1 l0_1.length c0_1], .int .i64 a1] ?_; (with_reducible refine (sandpilelaw28_right.calls k a0_0 _ _ l0_1 a1 true _ ?side1 ?side2 A6.out).mono ?_); (case side1 => exact Kd.C_below HR0_1.out zB); (case side2 => exact HC0_1.out); rintro e w10 ⟨rfl, hb⟩; refine ⟨_, rfl, ?_⟩; replace BK565 := zb BK565 hb; replace HB := zS HB hb; (try clear hb)))
    go_meet
    case rel => exact ⟨_, (true), zT, H', ⟨by first | omega | exact Nat.le_refl _⟩, ⟨zK BK565⟩, ⟨zB⟩⟩
   ·rw [if_neg c8] at H
    have c8b0 : decide (40 < (l2.length : Int)) = false := decide_eq_false c8
    have c8b1 : decide (40 < l2.length) = false := decide_eq_false (by omega)
    clear c8
    (first | rw [c8b0] | (simp only [i64_w, i32_w]; rw [c8b0]) | skip)
    replace H := Option.bind_eq_some_iff.mp H
    obtain ⟨t567, A110, H⟩ := H
    replace H : (if t567 = 0 then ((sandpileref19_Calm.f k a0_0 l0_1 a1 l2).bind fun t568 => (sandpilelaw28_SuperstableDuals.j0 k a1 l2 (!t568) a0_0 l0_1)) else (sandpilelaw28_SuperstableDuals.j0 k a1 l2 true a0_0 l0_1)) = some r := H
    have A11 := Aside0.mk A110
    clear A110
    by_cases c12 : t567 = 0
    ·rw [if_pos c12] at H
     have c12b0 : (t567 == 0) = true := beq_iff_eq.mpr c12
     have c12b1 : (t567 != 0) = false := bne_eq_false_iff_eq.mpr c12
     clear c12
     replace H := Option.bind_eq_some_iff.mp H
     obtain ⟨t568, A130, H⟩ := H
     replace H : (sandpilelaw28_SuperstableDuals.j0 k a1 l2 (!t568) a0_0 l0_1) = some r := H
     have A13 := Aside0.mk A130
     clear A130
     have H' := Aside0.mk H
     clear H
     obtain ⟨hcz14_0, hcz14_1, hfz14_0, hfz14_1⟩ := zD2 BK565
     go_wp2_with (first | ((with_reducible refine gate_callee (f := 27) rfl ?_); refine zL (some 17) Try.func27 #[.agg #[.int .i64 a0_0, .slice A0_1 l0_1.length c0_1], .int .i64 a1] ?_; (with_reducible refine (sandpilelaw28_right.calls k a0_0 _ _ l0_1 a1 true _ ?side1 ?side2 A6.out).mono ?_); (case side1 => exact Kd.C_below HR0_1.out zB); (case side2 => exact HC0_1.out); rintro e w15 ⟨rfl, hb⟩; refine ⟨_, rfl, ?_⟩; replace BK565 := zb BK565 hb; replace HB := zS HB hb; (try clear hb); obtain ⟨hcz16_0, hcz16_1, hfz16_0, hfz16_1⟩ := zD2 BK565) | (go_at_call 38; (with_reducible refine (sandpileref23_Check.calls k a0_0 _ _ l0_1 a1 _ _ l2 t567 _ ?side1 ?side2 ?side3 ?side4 A11.out).mono ?_); (case side1 => exact Kd.C_below HR0_1.out zB); (case side2 => exact HC0_1.out); (case side3 => exact Kd.C_below HR2.out zB); (case side4 => exact HC2.out); rintro e w17 ⟨rfl, hb⟩; replace BK565 := zb BK565 hb; replace HB := zS HB hb; (try clear hb); obtain ⟨hcz18_0, hcz18_1, hfz18_0, hfz18_1⟩ := zD2 BK565) | (go_at_call 39; (with_reducible refine (sandpileref19_Calm.calls k a0_0 _ _ l0_1 a1 _ _ l2 t568 _ ?side1 ?side2 ?side3 ?side4 A13.out).mono ?_); (case side1 => exact Kd.C_below HR0_1.out zB); (case side2 => exact HC0_1.out); (case side3 => exact Kd.C_below HR2.out zB); (case side4 => exact HC2.out); rintro e w19 ⟨rfl, hb⟩; replace BK565 := zb BK565 hb; replace HB := zS HB hb; (try clear hb)))
     go_meet
     case rel => exact ⟨_, (!t568), zT, H', ⟨by first | omega | exact Nat.le_refl _⟩, ⟨zK BK565⟩, ⟨zB⟩⟩
    ·rw [if_neg c12] at H
     have c12b0 : (t567 == 0) = false := beq_eq_false_iff_ne.mpr c12
     have c12b1 : (t567 != 0) = true := bne_iff_ne.mpr c12
     have H' := Aside0.mk H
     clear H
     obtain ⟨hcz20_0, hcz20_1, hfz20_0, hfz20_1⟩ := zD2 BK565
     go_wp2_with (first | ((with_reducible refine gate_callee (f := 27) rfl ?_); refine zL (some 17) Try.func27 #[.agg #[.int .i64 a0_0, .slice A0_1 l0_1.length c0_1], .int .i64 a1] ?_; (with_reducible refine (sandpilelaw28_right.calls k a0_0 _ _ l0_1 a1 true _ ?side1 ?side2 A6.out).mono ?_); (case side1 => exact Kd.C_below HR0_1.out zB); (case side2 => exact HC0_1.out); rintro e w21 ⟨rfl, hb⟩; refine ⟨_, rfl, ?_⟩; replace BK565 := zb BK565 hb; replace HB := zS HB hb; (try clear hb); obtain ⟨hcz22_0, hcz22_1, hfz22_0, hfz22_1⟩ := zD2 BK565) | (go_at_call 38; (with_reducible refine (sandpileref23_Check.calls k a0_0 _ _ l0_1 a1 _ _ l2 t567 _ ?side1 ?side2 ?side3 ?side4 A11.out).mono ?_); (case side1 => exact Kd.C_below HR0_1.out zB); (case side2 => exact HC0_1.out); (case side3 => exact Kd.C_below HR2.out zB); (case side4 => exact HC2.out); rintro e w23 ⟨rfl, hb⟩; replace BK565 := zb BK565 hb; replace HB := zS HB hb; (try clear hb)))
     go_meet
     case rel => exact ⟨_, (true), zT, H', ⟨by first | omega | exact Nat.le_refl _⟩, ⟨zK BK565⟩, ⟨zB⟩⟩
  ·replace c7 := Bool.eq_false_iff.mpr c7
   subst c7
   have H1 : (sandpilelaw28_SuperstableDuals.j0 k a1 l2 true a0_0 l0_1) = some r := by rw [if_neg (show ¬ (false = true) by decide)] at H; exact H
   clear H
   have H := H1
   clear H1
   have H' := Aside0.mk H
   clear H
   obtain ⟨hcz24_0, hcz24_1, hfz24_0, hfz24_1⟩ := zD2 BK565
   go_wp2_with (first | ((with_reducible refine gate_callee (f := 27) rfl ?_); refine zL (some 17) Try.func27 #[.agg #[.int .i64 a0_0, .slice A0_1 l0_1.length c0_1], .int .i64 a1] ?_; (with_reducible refine (sandpilelaw28_right.calls k a0_0 _ _ l0_1 a1 false _ ?side1 ?side2 A6.out).mono ?_); (case side1 => exact Kd.C_below HR0_1.out zB); (case side2 => exact HC0_1.out); rintro e w25 ⟨rfl, hb⟩; refine ⟨_, rfl, ?_⟩; replace BK565 := zb BK565 hb; replace HB := zS HB hb; (try clear hb)))
   go_meet
   case rel => exact ⟨_, (true), zT, H', ⟨by first | omega | exact Nat.le_refl _⟩, ⟨zK BK565⟩, ⟨zB⟩⟩
 case rest =>
  clear HC4
  try clear c1
  try clear c2
  try clear p2
  try clear c7
  try clear c8
  try clear c8b0
  try clear c8b1
  try clear c9
  try clear c12
  try clear c12b0
  try clear c12b1
  try clear hcz14_0
  try clear hcz14_1
  try clear hcz16_0
  try clear hcz16_1
  try clear hcz18_0
  try clear hcz18_1
  try clear hcz20_0
  try clear hcz20_1
  try clear hcz22_0
  try clear hcz22_1
  try clear hcz24_0
  try clear hcz24_1
  try clear hcz9_0
  try clear hcz9_1
  try clear hfz14_0
  try clear hfz14_1
  try clear hfz16_0
  try clear hfz16_1
  try clear hfz18_0
  try clear hfz18_1
  try clear hfz20_0
  try clear hfz20_1
  try clear hfz22_0
  try clear hfz22_1
  try clear hfz24_0
  try clear hfz24_1
  try clear hfz9_0
  try clear hfz9_1
  obtain ⟨kq, x37_3, rfl, HA, HJ3, BK565, HB⟩ := hcut
  cases kq with
  | zero => exact absurd HA.out (by simp [sandpilelaw28_SuperstableDuals.j0])
  | succ kj3 =>
   have H := HA.out
   clear HA
   simp only [sandpilelaw28_SuperstableDuals.j0] at H
   by_cases c26 : x37_3 = true
   ·subst c26
    have H1 : ((sandpilelaw28_awake.f).bind fun t569 => (some t569)) = some r := by rw [if_pos rfl] at H; exact H
    clear H
    have H := H1
    clear H1
    replace H := Option.bind_eq_some_iff.mp H
    obtain ⟨t569, A270, H⟩ := H
    replace H : (some t569) = some r := H
    have A27 := Aside0.mk A270
    clear A270
    obtain rfl := Option.some.inj H
    go_wp2_with (first | ((with_reducible refine gate_callee (f := 11) rfl ?_); refine zL (some 38) Try.func11 #[] ?_; (with_reducible refine (sandpilelaw28_awake.calls  t569 _ A27.out).mono ?_); rintro e w28 ⟨rfl, hb⟩; refine ⟨_, rfl, ?_⟩; replace BK565 := zb BK565 hb; replace HB := zS HB hb; (try clear hb)))
    go_ret
    exact ⟨zE, zB⟩
   ·replace c26 := Bool.eq_false_iff.mpr c26
    subst c26
    have H1 : ((superstable_Dual.f kj3 a0_0 l0_1 a1 l2).bind fun bt570 => (if bt570.2 = 0 then ((superstable_Dual.f kj3 a0_0 l0_1 a1 bt570.1).bind fun bt574 => ((burning_Superstable.f kj3 a0_0 l0_1 a1 l2).bind fun bt578 => ((recurrent_Recurrent.f kj3 a0_0 l0_1 a1 bt570.1).bind fun bt580 => (if (wrap64 ((wrap64 (bt574.2 + bt578.2)) + bt580.2.2)) = 0 then ((api_Divisor_int_31.f kj3 bt574.1 l2).bind fun t585 => (if t585 = true then (if (bt578.1 == bt580.1) = true then ((sandpilelaw28_awake.f).bind fun t586 => (some t586)) else (some false)) else (some false))) else (some false))))) else (some false))) = some r := by rw [if_neg (show ¬ (false = true) by decide)] at H; exact H
    clear H
    have H := H1
    clear H1
    replace H := Option.bind_eq_some_iff.mp H
    obtain ⟨⟨t570, t573⟩, A290, H⟩ := H
    replace H : (if t573 = 0 then ((superstable_Dual.f kj3 a0_0 l0_1 a1 t570).bind fun bt574 => ((burning_Superstable.f kj3 a0_0 l0_1 a1 l2).bind fun bt578 => ((recurrent_Recurrent.f kj3 a0_0 l0_1 a1 t570).bind fun bt580 => (if (wrap64 ((wrap64 (bt574.2 + bt578.2)) + bt580.2.2)) = 0 then ((api_Divisor_int_31.f kj3 bt574.1 l2).bind fun t585 => (if t585 = true then (if (bt578.1 == bt580.1) = true then ((sandpilelaw28_awake.f).bind fun t586 => (some t586)) else (some false)) else (some false))) else (some false))))) else (some false)) = some r := H
    have A29 := Aside0.mk A290
    clear A290
    by_cases c30 : t573 = 0
    ·rw [if_pos c30] at H
     have c30b0 : (t573 == 0) = true := beq_iff_eq.mpr c30
     have c30b1 : (t573 != 0) = false := bne_eq_false_iff_eq.mpr c30
     clear c30
     replace H := Option.bind_eq_some_iff.mp H
     obtain ⟨⟨t574, t577⟩, A310, H⟩ := H
     replace H : ((burning_Superstable.f kj3 a0_0 l0_1 a1 l2).bind fun bt578 => ((recurrent_Recurrent.f kj3 a0_0 l0_1 a1 t570).bind fun bt580 => (if (wrap64 ((wrap64 (t577 + bt578.2)) + bt580.2.2)) = 0 then ((api_Divisor_int_31.f kj3 t574 l2).bind fun t585 => (if t585 = true then (if (bt578.1 == bt580.1) = true then ((sandpilelaw28_awake.f).bind fun t586 => (some t586)) else (some false)) else (some false))) else (some false)))) = some r := H
     have A31 := Aside0.mk A310
     clear A310
     replace H := Option.bind_eq_some_iff.mp H
     obtain ⟨⟨t578, t579⟩, A320, H⟩ := H
     replace H : ((recurrent_Recurrent.f kj3 a0_0 l0_1 a1 t570).bind fun bt580 => (if (wrap64 ((wrap64 (t577 + t579)) + bt580.2.2)) = 0 then ((api_Divisor_int_31.f kj3 t574 l2).bind fun t585 => (if t585 = true then (if (t578 == bt580.1) = true then ((sandpilelaw28_awake.f).bind fun t586 => (some t586)) else (some false)) else (some false))) else (some false))) = some r := H
     have A32 := Aside0.mk A320
     clear A320
     replace H := Option.bind_eq_some_iff.mp H
     obtain ⟨⟨t580, t581, t584⟩, A330, H⟩ := H
     replace H : (if (wrap64 ((wrap64 (t577 + t579)) + t584)) = 0 then ((api_Divisor_int_31.f kj3 t574 l2).bind fun t585 => (if t585 = true then (if (t578 == t580) = true then ((sandpilelaw28_awake.f).bind fun t586 => (some t586)) else (some false)) else (some false))) else (some false)) = some r := H
     have A33 := Aside0.mk A330
     clear A330
     by_cases c34 : (wrap64 ((wrap64 (t577 + t579)) + t584)) = 0
     ·rw [if_pos c34] at H
      have c34b0 : ((wrap64 ((wrap64 (t577 + t579)) + t584)) == 0) = true := beq_iff_eq.mpr c34
      have c34b1 : ((wrap64 ((wrap64 (t577 + t579)) + t584)) != 0) = false := bne_eq_false_iff_eq.mpr c34
      clear c34
      replace H := Option.bind_eq_some_iff.mp H
      obtain ⟨t585, A350, H⟩ := H
      replace H : (if t585 = true then (if (t578 == t580) = true then ((sandpilelaw28_awake.f).bind fun t586 => (some t586)) else (some false)) else (some false)) = some r := H
      have A35 := Aside0.mk A350
      clear A350
      by_cases c36 : t585 = true
      ·subst c36
       have H1 : (if (t578 == t580) = true then ((sandpilelaw28_awake.f).bind fun t586 => (some t586)) else (some false)) = some r := by rw [if_pos rfl] at H; exact H
       clear H
       have H := H1
       clear H1
       by_cases c37 : (t578 == t580) = true
       ·rw [if_pos c37] at H
        have c37b0 : (t578 == t580) = true := c37
        (try (have c37b1 : decide (t578 = t580) = true := by simpa using c37))
        (try (have c37b2 : (t578 == t580) = true := by simpa using c37))
        clear c37
        replace H := Option.bind_eq_some_iff.mp H
        obtain ⟨t586, A380, H⟩ := H
        replace H : (some t586) = some r := H
        have A38 := Aside0.mk A380
        clear A380
        obtain rfl := Option.some.inj H
        obtain ⟨hcz39_0, hcz39_1, hfz39_0, hfz39_1⟩ := zD2 BK565
        go_wp2_with (first | ((with_reducible refine gate_callee (f := 24) rfl ?_); refine zL (some 43) Try.func24 #[.agg #[.int .i64 a0_0, .slice A0_1 l0_1.length c0_1], .int .i64 a1, .slice A2 l2.length c2] ?_; (with_reducible refine (superstable_Dual.calls kj3 a0_0 _ _ l0_1 a1 _ _ l2 t570 t573 _ ?side1 ?side2 ?side3 ?side4 A29.out).mono ?_); (case side1 => exact Kd.C_below HR0_1.out zB); (case side2 => exact HC0_1.out); (case side3 => exact Kd.C_below HR2.out zB); (case side4 => exact HC2.out); rintro e w40 ⟨v571, rfl, ho0, hb⟩; refine ⟨_, rfl, ?_⟩; have HO572 := Aside0.mk (Kd.R_lower ho0 (below_size zB)); replace BK565 := zb BK565 hb; replace HB := zS HB hb; (try clear hb); (try clear ho0); obtain ⟨hcz41_0, hcz41_1, hfz41_0, hfz41_1⟩ := zD2 BK565; obtain ⟨Ao42, co42, eo42⟩ := Kd.R_slice HO572.out; subst eo42) | ((with_reducible refine gate_callee (f := 24) rfl ?_); refine zL (some 52) Try.func24 #[.agg #[.int .i64 a0_0, .slice A0_1 l0_1.length c0_1], .int .i64 a1, .slice Ao42 t570.length co42] ?_; (with_reducible refine (superstable_Dual.calls kj3 a0_0 _ _ l0_1 a1 _ _ t570 t574 t577 _ ?side1 ?side2 ?side3 ?side4 A31.out).mono ?_); (case side1 => exact Kd.C_below HR0_1.out zB); (case side2 => exact HC0_1.out); (case side3 => exact zC (Kd.R_reads' HO572.out).2.2); (case side4 => exact (Kd.R_reads' HO572.out).2.1); rintro e w43 ⟨v575, rfl, ho0, hb⟩; refine ⟨_, rfl, ?_⟩; have HO576 := Aside0.mk (Kd.R_lower (Kd.R_new' ho0 (Kd.R_lt (zR HO572))) (below_size zB)); replace HO572 := zeRR HO572 ho0 hb; replace BK565 := zb BK565 hb; replace HB := zS HB hb; (try clear hb); (try clear ho0); obtain ⟨hcz44_0, hcz44_1, hfz44_0, hfz44_1⟩ := zD2 BK565) | ((with_reducible refine gate_callee (f := 35) rfl ?_); refine zL (some 59) Try.func35 #[.agg #[.int .i64 a0_0, .slice A0_1 l0_1.length c0_1], .int .i64 a1, .slice A2 l2.length c2] ?_; (with_reducible refine (burning_Superstable.calls kj3 a0_0 _ _ l0_1 a1 _ _ l2 t578 t579 _ ?side1 ?side2 ?side3 ?side4 A32.out).mono ?_); (case side1 => exact Kd.C_below HR0_1.out zB); (case side2 => exact HC0_1.out); (case side3 => exact Kd.C_below HR2.out zB); (case side4 => exact HC2.out); rintro e w45 ⟨rfl, hb⟩; refine ⟨_, rfl, ?_⟩; replace HO572 := zbR HO572 hb; replace HO576 := zbR HO576 hb; replace BK565 := zb BK565 hb; replace HB := zS HB hb; (try clear hb); obtain ⟨hcz46_0, hcz46_1, hfz46_0, hfz46_1⟩ := zD2 BK565) | ((with_reducible refine gate_callee (f := 40) rfl ?_); refine zL (some 66) Try.func40 #[.agg #[.int .i64 a0_0, .slice A0_1 l0_1.length c0_1], .int .i64 a1, .slice Ao42 t570.length co42] ?_; (with_reducible refine (recurrent_Recurrent.calls kj3 a0_0 _ _ l0_1 a1 _ _ t570 t580 t581 t584 _ ?side1 ?side2 ?side3 ?side4 A33.out).mono ?_); (case side1 => exact Kd.C_below HR0_1.out zB); (case side2 => exact HC0_1.out); (case side3 => exact zC (Kd.R_reads' HO572.out).2.2); (case side4 => exact (Kd.R_reads' HO572.out).2.1); rintro e w47 ⟨v582, rfl, ho0, hb⟩; refine ⟨_, rfl, ?_⟩; have HO583 := Aside0.mk (Kd.R_lower (Kd.R_new' (Kd.R_new' ho0 (Kd.R_lt (zR HO572))) (Kd.R_lt (zR HO576))) (below_size zB)); replace HO572 := zeRR HO572 ho0 hb; replace HO576 := zeRR HO576 ho0 hb; replace BK565 := zb BK565 hb; replace HB := zS HB hb; (try clear hb); (try clear ho0); obtain ⟨Ao48, co48, eo48⟩ := Kd.R_slice HO576.out; subst eo48) | (go_at_call 31; (with_reducible refine (api_Divisor_int_31.calls kj3 _ _ t574 _ _ l2 true _ ?side1 ?side2 ?side3 ?side4 A35.out).mono ?_); (case side1 => exact zC (Kd.R_reads' HO576.out).2.2); (case side2 => exact (Kd.R_reads' HO576.out).2.1); (case side3 => exact Kd.C_below HR2.out zB); (case side4 => exact HC2.out); rintro e w' ⟨rfl, ⟨nd, rfl⟩⟩) | (go_at_call 11; (with_reducible refine (sandpilelaw28_awake.calls  t586 _ A38.out).mono ?_); rintro e w49 ⟨rfl, hb⟩; replace HO572 := zbR HO572 hb; replace HO576 := zbR HO576 hb; replace HO583 := zbR HO583 hb; replace BK565 := zb BK565 hb; replace HB := zS HB hb; (try clear hb)))
        go_ret
        exact ⟨zE, zB⟩
       ·rw [if_neg c37] at H
        have c37b0 : (t578 == t580) = false := by simpa using c37
        (try (have c37b1 : decide (t578 = t580) = false := by simpa using c37))
        (try (have c37b2 : (t578 == t580) = false := by simpa using c37))
        (try (have c37b3 : ¬ (t578 = t580) := by simpa using c37))
        clear c37
        obtain rfl := Option.some.inj H
        obtain ⟨hcz50_0, hcz50_1, hfz50_0, hfz50_1⟩ := zD2 BK565
        go_wp2_with (first | ((with_reducible refine gate_callee (f := 24) rfl ?_); refine zL (some 43) Try.func24 #[.agg #[.int .i64 a0_0, .slice A0_1 l0_1.length c0_1], .int .i64 a1, .slice A2 l2.length c2] ?_; (with_reducible refine (superstable_Dual.calls kj3 a0_0 _ _ l0_1 a1 _ _ l2 t570 t573 _ ?side1 ?side2 ?side3 ?side4 A29.out).mono ?_); (case side1 => exact Kd.C_below HR0_1.out zB); (case side2 => exact HC0_1.out); (case side3 => exact Kd.C_below HR2.out zB); (case side4 => exact HC2.out); rintro e w51 ⟨v571, rfl, ho0, hb⟩; refine ⟨_, rfl, ?_⟩; have HO572 := Aside0.mk (Kd.R_lower ho0 (below_size zB)); replace BK565 := zb BK565 hb; replace HB := zS HB hb; (try clear hb); (try clear ho0); obtain ⟨hcz52_0, hcz52_1, hfz52_0, hfz52_1⟩ := zD2 BK565; obtain ⟨Ao53, co53, eo53⟩ := Kd.R_slice HO572.out; subst eo53) | ((with_reducible refine gate_callee (f := 24) rfl ?_); refine zL (some 52) Try.func24 #[.agg #[.int .i64 a0_0, .slice A0_1 l0_1.length c0_1], .int .i64 a1, .slice Ao53 t570.length co53] ?_; (with_reducible refine (superstable_Dual.calls kj3 a0_0 _ _ l0_1 a1 _ _ t570 t574 t577 _ ?side1 ?side2 ?side3 ?side4 A31.out).mono ?_); (case side1 => exact Kd.C_below HR0_1.out zB); (case side2 => exact HC0_1.out); (case side3 => exact zC (Kd.R_reads' HO572.out).2.2); (case side4 => exact (Kd.R_reads' HO572.out).2.1); rintro e w54 ⟨v575, rfl, ho0, hb⟩; refine ⟨_, rfl, ?_⟩; have HO576 := Aside0.mk (Kd.R_lower (Kd.R_new' ho0 (Kd.R_lt (zR HO572))) (below_size zB)); replace HO572 := zeRR HO572 ho0 hb; replace BK565 := zb BK565 hb; replace HB := zS HB hb; (try clear hb); (try clear ho0); obtain ⟨hcz55_0, hcz55_1, hfz55_0, hfz55_1⟩ := zD2 BK565) | ((with_reducible refine gate_callee (f := 35) rfl ?_); refine zL (some 59) Try.func35 #[.agg #[.int .i64 a0_0, .slice A0_1 l0_1.length c0_1], .int .i64 a1, .slice A2 l2.length c2] ?_; (with_reducible refine (burning_Superstable.calls kj3 a0_0 _ _ l0_1 a1 _ _ l2 t578 t579 _ ?side1 ?side2 ?side3 ?side4 A32.out).mono ?_); (case side1 => exact Kd.C_below HR0_1.out zB); (case side2 => exact HC0_1.out); (case side3 => exact Kd.C_below HR2.out zB); (case side4 => exact HC2.out); rintro e w56 ⟨rfl, hb⟩; refine ⟨_, rfl, ?_⟩; replace HO572 := zbR HO572 hb; replace HO576 := zbR HO576 hb; replace BK565 := zb BK565 hb; replace HB := zS HB hb; (try clear hb); obtain ⟨hcz57_0, hcz57_1, hfz57_0, hfz57_1⟩ := zD2 BK565) | ((with_reducible refine gate_callee (f := 40) rfl ?_); refine zL (some 66) Try.func40 #[.agg #[.int .i64 a0_0, .slice A0_1 l0_1.length c0_1], .int .i64 a1, .slice Ao53 t570.length co53] ?_; (with_reducible refine (recurrent_Recurrent.calls kj3 a0_0 _ _ l0_1 a1 _ _ t570 t580 t581 t584 _ ?side1 ?side2 ?side3 ?side4 A33.out).mono ?_); (case side1 => exact Kd.C_below HR0_1.out zB); (case side2 => exact HC0_1.out); (case side3 => exact zC (Kd.R_reads' HO572.out).2.2); (case side4 => exact (Kd.R_reads' HO572.out).2.1); rintro e w58 ⟨v582, rfl, ho0, hb⟩; refine ⟨_, rfl, ?_⟩; have HO583 := Aside0.mk (Kd.R_lower (Kd.R_new' (Kd.R_new' ho0 (Kd.R_lt (zR HO572))) (Kd.R_lt (zR HO576))) (below_size zB)); replace HO572 := zeRR HO572 ho0 hb; replace HO576 := zeRR HO576 ho0 hb; replace BK565 := zb BK565 hb; replace HB := zS HB hb; (try clear hb); (try clear ho0); obtain ⟨Ao59, co59, eo59⟩ := Kd.R_slice HO576.out; subst eo59) | (go_at_call 31; (with_reducible refine (api_Divisor_int_31.calls kj3 _ _ t574 _ _ l2 true _ ?side1 ?side2 ?side3 ?side4 A35.out).mono ?_); (case side1 => exact zC (Kd.R_reads' HO576.out).2.2); (case side2 => exact (Kd.R_reads' HO576.out).2.1); (case side3 => exact Kd.C_below HR2.out zB); (case side4 => exact HC2.out); rintro e w' ⟨rfl, ⟨nd, rfl⟩⟩))
        go_ret
        exact ⟨zE, zB⟩
      ·replace c36 := Bool.eq_false_iff.mpr c36
       subst c36
       have H1 : (some false) = some r := by rw [if_neg (show ¬ (false = true) by decide)] at H; exact H
       clear H
       have H := H1
       clear H1
       obtain rfl := Option.some.inj H
       obtain ⟨hcz60_0, hcz60_1, hfz60_0, hfz60_1⟩ := zD2 BK565
       go_wp2_with (first | ((with_reducible refine gate_callee (f := 24) rfl ?_); refine zL (some 43) Try.func24 #[.agg #[.int .i64 a0_0, .slice A0_1 l0_1.length c0_1], .int .i64 a1, .slice A2 l2.length c2] ?_; (with_reducible refine (superstable_Dual.calls kj3 a0_0 _ _ l0_1 a1 _ _ l2 t570 t573 _ ?side1 ?side2 ?side3 ?side4 A29.out).mono ?_); (case side1 => exact Kd.C_below HR0_1.out zB); (case side2 => exact HC0_1.out); (case side3 => exact Kd.C_below HR2.out zB); (case side4 => exact HC2.out); rintro e w61 ⟨v571, rfl, ho0, hb⟩; refine ⟨_, rfl, ?_⟩; have HO572 := Aside0.mk (Kd.R_lower ho0 (below_size zB)); replace BK565 := zb BK565 hb; replace HB := zS HB hb; (try clear hb); (try clear ho0); obtain ⟨hcz62_0, hcz62_1, hfz62_0, hfz62_1⟩ := zD2 BK565; obtain ⟨Ao63, co63, eo63⟩ := Kd.R_slice HO572.out; subst eo63) | ((with_reducible refine gate_callee (f := 24) rfl ?_); refine zL (some 52) Try.func24 #[.agg #[.int .i64 a0_0, .slice A0_1 l0_1.length c0_1], .int .i64 a1, .slice Ao63 t570.length co63] ?_; (with_reducible refine (superstable_Dual.calls kj3 a0_0 _ _ l0_1 a1 _ _ t570 t574 t577 _ ?side1 ?side2 ?side3 ?side4 A31.out).mono ?_); (case side1 => exact Kd.C_below HR0_1.out zB); (case side2 => exact HC0_1.out); (case side3 => exact zC (Kd.R_reads' HO572.out).2.2); (case side4 => exact (Kd.R_reads' HO572.out).2.1); rintro e w64 ⟨v575, rfl, ho0, hb⟩; refine ⟨_, rfl, ?_⟩; have HO576 := Aside0.mk (Kd.R_lower (Kd.R_new' ho0 (Kd.R_lt (zR HO572))) (below_size zB)); replace HO572 := zeRR HO572 ho0 hb; replace BK565 := zb BK565 hb; replace HB := zS HB hb; (try clear hb); (try clear ho0); obtain ⟨hcz65_0, hcz65_1, hfz65_0, hfz65_1⟩ := zD2 BK565) | ((with_reducible refine gate_callee (f := 35) rfl ?_); refine zL (some 59) Try.func35 #[.agg #[.int .i64 a0_0, .slice A0_1 l0_1.length c0_1], .int .i64 a1, .slice A2 l2.length c2] ?_; (with_reducible refine (burning_Superstable.calls kj3 a0_0 _ _ l0_1 a1 _ _ l2 t578 t579 _ ?side1 ?side2 ?side3 ?side4 A32.out).mono ?_); (case side1 => exact Kd.C_below HR0_1.out zB); (case side2 => exact HC0_1.out); (case side3 => exact Kd.C_below HR2.out zB); (case side4 => exact HC2.out); rintro e w66 ⟨rfl, hb⟩; refine ⟨_, rfl, ?_⟩; replace HO572 := zbR HO572 hb; replace HO576 := zbR HO576 hb; replace BK565 := zb BK565 hb; replace HB := zS HB hb; (try clear hb); obtain ⟨hcz67_0, hcz67_1, hfz67_0, hfz67_1⟩ := zD2 BK565) | ((with_reducible refine gate_callee (f := 40) rfl ?_); refine zL (some 66) Try.func40 #[.agg #[.int .i64 a0_0, .slice A0_1 l0_1.length c0_1], .int .i64 a1, .slice Ao63 t570.length co63] ?_; (with_reducible refine (recurrent_Recurrent.calls kj3 a0_0 _ _ l0_1 a1 _ _ t570 t580 t581 t584 _ ?side1 ?side2 ?side3 ?side4 A33.out).mono ?_); (case side1 => exact Kd.C_below HR0_1.out zB); (case side2 => exact HC0_1.out); (case side3 => exact zC (Kd.R_reads' HO572.out).2.2); (case side4 => exact (Kd.R_reads' HO572.out).2.1); rintro e w68 ⟨v582, rfl, ho0, hb⟩; refine ⟨_, rfl, ?_⟩; have HO583 := Aside0.mk (Kd.R_lower (Kd.R_new' (Kd.R_new' ho0 (Kd.R_lt (zR HO572))) (Kd.R_lt (zR HO576))) (below_size zB)); replace HO572 := zeRR HO572 ho0 hb; replace HO576 := zeRR HO576 ho0 hb; replace BK565 := zb BK565 hb; replace HB := zS HB hb; (try clear hb); (try clear ho0); obtain ⟨Ao69, co69, eo69⟩ := Kd.R_slice HO576.out; subst eo69) | (go_at_call 31; (with_reducible refine (api_Divisor_int_31.calls kj3 _ _ t574 _ _ l2 false _ ?side1 ?side2 ?side3 ?side4 A35.out).mono ?_); (case side1 => exact zC (Kd.R_reads' HO576.out).2.2); (case side2 => exact (Kd.R_reads' HO576.out).2.1); (case side3 => exact Kd.C_below HR2.out zB); (case side4 => exact HC2.out); rintro e w' ⟨rfl, ⟨nd, rfl⟩⟩))
       go_ret
       exact ⟨zE, zB⟩
     ·rw [if_neg c34] at H
      have c34b0 : ((wrap64 ((wrap64 (t577 + t579)) + t584)) == 0) = false := beq_eq_false_iff_ne.mpr c34
      have c34b1 : ((wrap64 ((wrap64 (t577 + t579)) + t584)) != 0) = true := bne_iff_ne.mpr c34
      obtain rfl := Option.some.inj H
      obtain ⟨hcz70_0, hcz70_1, hfz70_0, hfz70_1⟩ := zD2 BK565
      go_wp2_with (first | ((with_reducible refine gate_callee (f := 24) rfl ?_); refine zL (some 43) Try.func24 #[.agg #[.int .i64 a0_0, .slice A0_1 l0_1.length c0_1], .int .i64 a1, .slice A2 l2.length c2] ?_; (with_reducible refine (superstable_Dual.calls kj3 a0_0 _ _ l0_1 a1 _ _ l2 t570 t573 _ ?side1 ?side2 ?side3 ?side4 A29.out).mono ?_); (case side1 => exact Kd.C_below HR0_1.out zB); (case side2 => exact HC0_1.out); (case side3 => exact Kd.C_below HR2.out zB); (case side4 => exact HC2.out); rintro e w71 ⟨v571, rfl, ho0, hb⟩; refine ⟨_, rfl, ?_⟩; have HO572 := Aside0.mk (Kd.R_lower ho0 (below_size zB)); replace BK565 := zb BK565 hb; replace HB := zS HB hb; (try clear hb); (try clear ho0); obtain ⟨hcz72_0, hcz72_1, hfz72_0, hfz72_1⟩ := zD2 BK565; obtain ⟨Ao73, co73, eo73⟩ := Kd.R_slice HO572.out; subst eo73) | ((with_reducible refine gate_callee (f := 24) rfl ?_); refine zL (some 52) Try.func24 #[.agg #[.int .i64 a0_0, .slice A0_1 l0_1.length c0_1], .int .i64 a1, .slice Ao73 t570.length co73] ?_; (with_reducible refine (superstable_Dual.calls kj3 a0_0 _ _ l0_1 a1 _ _ t570 t574 t577 _ ?side1 ?side2 ?side3 ?side4 A31.out).mono ?_); (case side1 => exact Kd.C_below HR0_1.out zB); (case side2 => exact HC0_1.out); (case side3 => exact zC (Kd.R_reads' HO572.out).2.2); (case side4 => exact (Kd.R_reads' HO572.out).2.1); rintro e w74 ⟨v575, rfl, ho0, hb⟩; refine ⟨_, rfl, ?_⟩; have HO576 := Aside0.mk (Kd.R_lower (Kd.R_new' ho0 (Kd.R_lt (zR HO572))) (below_size zB)); replace HO572 := zeRR HO572 ho0 hb; replace BK565 := zb BK565 hb; replace HB := zS HB hb; (try clear hb); (try clear ho0); obtain ⟨hcz75_0, hcz75_1, hfz75_0, hfz75_1⟩ := zD2 BK565) | ((with_reducible refine gate_callee (f := 35) rfl ?_); refine zL (some 59) Try.func35 #[.agg #[.int .i64 a0_0, .slice A0_1 l0_1.length c0_1], .int .i64 a1, .slice A2 l2.length c2] ?_; (with_reducible refine (burning_Superstable.calls kj3 a0_0 _ _ l0_1 a1 _ _ l2 t578 t579 _ ?side1 ?side2 ?side3 ?side4 A32.out).mono ?_); (case side1 => exact Kd.C_below HR0_1.out zB); (case side2 => exact HC0_1.out); (case side3 => exact Kd.C_below HR2.out zB); (case side4 => exact HC2.out); rintro e w76 ⟨rfl, hb⟩; refine ⟨_, rfl, ?_⟩; replace HO572 := zbR HO572 hb; replace HO576 := zbR HO576 hb; replace BK565 := zb BK565 hb; replace HB := zS HB hb; (try clear hb); obtain ⟨hcz77_0, hcz77_1, hfz77_0, hfz77_1⟩ := zD2 BK565) | ((with_reducible refine gate_callee (f := 40) rfl ?_); refine zL (some 66) Try.func40 #[.agg #[.int .i64 a0_0, .slice A0_1 l0_1.length c0_1], .int .i64 a1, .slice Ao73 t570.length co73] ?_; (with_reducible refine (recurrent_Recurrent.calls kj3 a0_0 _ _ l0_1 a1 _ _ t570 t580 t581 t584 _ ?side1 ?side2 ?side3 ?side4 A33.out).mono ?_); (case side1 => exact Kd.C_below HR0_1.out zB); (case side2 => exact HC0_1.out); (case side3 => exact zC (Kd.R_reads' HO572.out).2.2); (case side4 => exact (Kd.R_reads' HO572.out).2.1); rintro e w78 ⟨v582, rfl, ho0, hb⟩; refine ⟨_, rfl, ?_⟩; have HO583 := Aside0.mk (Kd.R_lower (Kd.R_new' (Kd.R_new' ho0 (Kd.R_lt (zR HO572))) (Kd.R_lt (zR HO576))) (below_size zB)); replace HO572 := zeRR HO572 ho0 hb; replace HO576 := zeRR HO576 ho0 hb; replace BK565 := zb BK565 hb; replace HB := zS HB hb; (try clear hb); (try clear ho0)))
      go_ret
      exact ⟨zE, zB⟩
    ·rw [if_neg c30] at H
     have c30b0 : (t573 == 0) = false := beq_eq_false_iff_ne.mpr c30
     have c30b1 : (t573 != 0) = true := bne_iff_ne.mpr c30
     obtain rfl := Option.some.inj H
     obtain ⟨hcz79_0, hcz79_1, hfz79_0, hfz79_1⟩ := zD2 BK565
     go_wp2_with (first | ((with_reducible refine gate_callee (f := 24) rfl ?_); refine zL (some 43) Try.func24 #[.agg #[.int .i64 a0_0, .slice A0_1 l0_1.length c0_1], .int .i64 a1, .slice A2 l2.length c2] ?_; (with_reducible refine (superstable_Dual.calls kj3 a0_0 _ _ l0_1 a1 _ _ l2 t570 t573 _ ?side1 ?side2 ?side3 ?side4 A29.out).mono ?_); (case side1 => exact Kd.C_below HR0_1.out zB); (case side2 => exact HC0_1.out); (case side3 => exact Kd.C_below HR2.out zB); (case side4 => exact HC2.out); rintro e w80 ⟨v571, rfl, ho0, hb⟩; refine ⟨_, rfl, ?_⟩; have HO572 := Aside0.mk (Kd.R_lower ho0 (below_size zB)); replace BK565 := zb BK565 hb; replace HB := zS HB hb; (try clear hb); (try clear ho0)))
     go_ret
     exact ⟨zE, zB⟩
section
theorem equalD_l0 (c : List Int) (hc : c.length ≤ 100000) : ∀ (m i : Nat), i + m = c.length → Ev (fun k => api_Divisor_int_31.l0 k c c c.length i) true
 | 0, i, hi => by
  refine Ev.of_succ ?_
  simp only [api_Divisor_int_31.l0, if_neg (show ¬ ((i : Int) < (c.length : Int)) by omega)]
  exact Ev.const _
 | m + 1, i, hi => by
  have ih := equalD_l0 c hc m (i + 1) (by omega)
  refine Ev.of_succ ?_
  simp only [api_Divisor_int_31.l0, if_pos (show (i : Int) < (c.length : Int) by omega), if_pos (show (0 : Int) ≤ (i : Int) by omega), if_true, wrap_succ (show i ≤ 1000000 by omega)]
  exact ih
theorem equalD_ev (c : List Int) (hc : c.length ≤ 100000) : Ev (fun k => api_Divisor_int_31.f k c c) true := by
 unfold api_Divisor_int_31.f
 simp only [if_true]
 exact equalD_l0 c hc c.length 0 (by omega)
theorem calmB_iff {n q : Nat} {E : List S66} {c : List Int} : calmB E n q c = true ↔ ∀ v, v < n → v ≠ q → rd c v < valN E v n := by
 unfold calmB noneTo
 rw [List.all_eq_true]
 constructor
 ·intro h v hv hq
  have h1 := h v (List.mem_range.2 hv)
  unfold looseB at h1
  rw [rd_valL E n v hv, decide_eq_true (show (v : Int) ≠ q by omega), Bool.true_and] at h1
  have : ¬ valN E v n ≤ rd c v := by simpa using h1
  omega
 ·intro h v hv
  have hv := List.mem_range.1 hv
  unfold looseB
  rw [rd_valL E n v hv]
  by_cases hq : v = q
  ·subst hq; simp
  ·have := h v hv hq
   rw [decide_eq_false (show ¬ valN E v n ≤ rd c v by omega)]; simp
theorem dualOf_length (E : List S66) (n q : Nat) (c : List Int) : (Small.dualOf E n q c).length = n := by simp [Small.dualOf]
theorem rd_dualOf (E : List S66) {n q : Nat} {c : List Int} {v : Nat} (hv : v < n) : rd (Small.dualOf E n q c) v = (if v = q then 0 else valN E v n - 1) - rd c v := by
 unfold Small.dualOf
 rw [rd_map (fun (v : Nat) => rd (Small.topE E n q) v - rd c v) hv, Small.rd_topE E hv]
theorem right_ev (N : Int) (E : List S66) (q : Int) : Ev (fun k => sandpilelaw28_right.f k N E q) (fewB N E && (rootG N E q == 0)) := by
 unfold sandpilelaw28_right.f
 refine Ev.bind (few_ev N E) ?_
 by_cases hf : fewB N E = true
 ·have hl := few_len hf
  simp only [hf, if_true, Bool.true_and]
  exact Ev.bind (rooted19_ev N E q (by omega)) (Ev.const _)
 ·simp only [if_neg hf]
  have : fewB N E = false := by simpa using hf
  rw [this]
  exact Ev.const _
namespace Small
variable {n q : Nat} {E : List S66}
theorem dual_good (h : Small n q E) {c : List Int} (hg : GoodC n q c) (hc : calmB E n q c = true) : GoodC n q (Small.dualOf E n q c) := by
 have hcalm := calmB_iff.1 hc
 have hn5 := h.n5
 refine ⟨dualOf_length _ _ _ _, fun v => ?_, fun v => ?_, ?_⟩
 ·by_cases hv : v < n
  ·rw [rd_dualOf E hv]
   by_cases hq : v = q
   ·subst hq; rw [if_pos rfl, hg.sink]; decide
   ·have := hcalm v hv hq; rw [if_neg hq]; omega
  ·rw [rd_out (by rw [dualOf_length]; omega)]; decide
 ·by_cases hv : v < n
  ·rw [rd_dualOf E hv]
   have := h.val_le v
   have := hg.pos v
   split <;> omega
  ·rw [rd_out (by rw [dualOf_length]; omega)]; decide
 ·rw [rd_dualOf E h.q, if_pos rfl, hg.sink]; rfl
theorem dual_calm (h : Small n q E) {c : List Int} (hg : GoodC n q c) (hc : calmB E n q c = true) : calmB E n q (Small.dualOf E n q c) = true := by
 refine calmB_iff.2 fun v hv hq => ?_
 rw [rd_dualOf E hv, if_neg hq]
 have := hg.pos v
 omega
theorem dual_dual (h : Small n q E) {c : List Int} (hg : GoodC n q c) (hc : calmB E n q c = true) : Small.dualOf E n q (Small.dualOf E n q c) = c := by
 refine rd_ext (by rw [dualOf_length, hg.len]) fun v hv => ?_
 rw [dualOf_length] at hv
 rw [rd_dualOf E hv, rd_dualOf E hv]
 omega
theorem stableR_l0 (h : Small n q E) (hr : rootG n E q = 0) {d : List Int} (hd : d.length = n) (hlt : ∀ v : Nat, v < n → v ≠ q → rd d v < valN E v n) : ∀ (m v : Nat), v + m = n → Ev (fun k => recurrent_pile_stable.l0 k d n v n E q d) true
 | 0, v, hv => by
  refine Ev.of_succ ?_
  simp only [recurrent_pile_stable.l0, if_neg (show ¬ (v : Int) < n by omega)]
  exact Ev.const _
 | m + 1, v, hv => by
  have ih := stableR_l0 h hr hd hlt m (v + 1) (by omega)
  have hn5 := h.n5
  refine Ev.of_succ ?_
  simp only [recurrent_pile_stable.l0, if_pos (show (v : Int) < n by omega), if_pos (show (0 : Int) ≤ v by omega), if_pos (show (v : Int) < d.length by omega), wrap_succ (show v ≤ 1000000 by omega)]
  by_cases hq : v = q
  ·subst hq
   simp only [if_true]
   exact ih
  ·simp only [if_neg (show ¬ (v : Int) = q by omega)]
   refine Ev.bind (a := valN E v n) ?_ ?_
   ·unfold recurrent_pile_valence.f
    exact Ev.bind (gval_ev h.right (by have := h.len; omega) (h.check0 hr) (by omega)) (Ev.const _)
   ·have := hlt v (by omega) hq
    simp only [if_neg (show ¬ rd d v ≥ valN E v n by omega)]
    exact ih
theorem recur_ev (h : Small n q E) (hr : rootG n E q = 0) {c : List Int} (hg : GoodC n q c) (hc : calmB E n q c = true) : ∃ L : List Int, Ev (fun k => recurrent_Recurrent.f k n E q (Small.dualOf E n q c)) (superB n (timesOf E) q c, L, (0 : Int)) := by
 have hE : E.length ≤ 1000 := by have := h.len; omega
 have hn5 := h.n5
 have hqn := h.q
 have hgd := h.dual_good hg hc
 have hcd := calmB_iff.1 (h.dual_calm hg hc)
 have hdl := hgd.len
 have hdd : ∀ v : Nat, v < n → v ≠ q → rd (Small.dualOf E n q c) v = valN E v n - 1 - rd c v := fun v hv hq => by rw [rd_dualOf E hv, if_neg hq]
 have he := h.err_good hr hgd
 have hec : errC n E q (Small.dualOf E n q c) = 0 := by
  unfold err23 at he
  by_cases e : errC n E q (Small.dualOf E n q c) = 0
  ·exact e
  ·rw [if_neg e] at he; exact absurd he e
 have hm0 : markTo ((List.replicate n false).set q true) n = 1 := by
  have h1 := markTo_set (o := List.replicate n false) (v := q) (by simpa using hqn) (by simp [at1, List.getD_eq_getElem?_getD, List.getElem?_replicate, hqn]) n
  rw [if_pos hqn] at h1
  have h2 : ∀ m, markTo (List.replicate n false) m = 0 := fun m => by
   induction m with
   | zero => rfl
   | succ m ih =>
    unfold markTo; rw [ih, if_neg]
    simp only [at1, List.getD_eq_getElem?_getD, List.getElem?_replicate]
    split <;> simp
  rw [h1, h2]
 have hat : ∀ v, at1 ((List.replicate n false).set q true) v = decide (v = q) := fun v => by
  rw [at1_set, List.length_replicate]
  by_cases e : q = v
  ·subst e; rw [if_pos ⟨rfl, hqn⟩]; simp
  ·rw [if_neg (fun h => e h.1)]
   have : at1 (List.replicate n false) v = false := by
    simp only [at1, List.getD_eq_getElem?_getD, List.getElem?_replicate]
    split <;> simp
   rw [this]; simp; exact fun h => e h.symm
 obtain ⟨L, h1, h2, h3⟩ := fireR h hr hdl (fun v => ⟨hgd.pos v, hgd.up v⟩) hdd n ((List.replicate n false).set q true) [(q : Int)] (by simp) (by rw [hat]; simp) (by rw [hm0]; rfl) (by omega) (fun v hv hm => by
  rw [hat] at hm
  obtain rfl : v = q := of_decide_eq_true hm
  exact burnAll_mono _ (by simp [sinkOnly]))
 have hfire : Ev (fun k => recurrent_pile_fire.f k n E q (Small.dualOf E n q c)) L := by
  unfold recurrent_pile_fire.f
  simp only [if_pos (show (0 : Int) ≤ n by omega), Int.toNat_natCast, if_pos (show n ≤ 281474976710656 by omega), Option.bind_some, if_pos (show (0 : Int) ≤ q by omega), List.length_replicate, if_pos (show (q : Int) < n by omega)]
  exact h1
 have hst : Ev (fun k => recurrent_pile_stable.f k n E q (Small.dualOf E n q c)) true := by
  unfold recurrent_pile_stable.f
  have := h.stableR_l0 hr hdl hcd n 0 (by omega)
  rw [hdl]
  exact this
 have hrec : Ev (fun k => recurrent_pile_recurs.f k n E q (Small.dualOf E n q c)) (superB n (timesOf E) q c) := by
  unfold recurrent_pile_recurs.f
  refine Ev.bind hst ?_
  simp only [if_true]
  refine Ev.bind hfire ?_
  have : (((L.length : Int)) == (n : Int)) = superB n (timesOf E) q c := by
   rw [Bool.eq_iff_iff, ← h3, beq_iff_eq]
   omega
  rw [this]
  exact Ev.const _
 have hchk : Ev (fun k => recurrent_check.f k n E q (Small.dualOf E n q c)) 0 := by
  unfold recurrent_check.f
  have h4 := stCheck_ev n E q (Small.dualOf E n q c) hE
  rw [hec] at h4
  refine Ev.bind h4 ?_
  simp only [if_true, if_pos (show (0 : Int) ≤ q by omega), if_pos (show (q : Int) < (Small.dualOf E n q c).length by omega), hgd.sink]
  exact Ev.const _
 cases hs : superB n (timesOf E) q c with
 | true =>
  refine ⟨L, ?_⟩
  rw [hs] at hrec
  unfold recurrent_Recurrent.f
  refine Ev.bind hchk ?_
  simp only [if_true]
  refine Ev.bind hrec ?_
  simp only [if_true]
  exact Ev.bind hfire (Ev.const _)
 | false =>
  refine ⟨[], ?_⟩
  rw [hs] at hrec
  unfold recurrent_Recurrent.f
  refine Ev.bind hchk ?_
  simp only [if_true]
  refine Ev.bind hrec ?_
  simp only [Bool.false_eq_true, if_false]
  exact Ev.const _
end Small
theorem duals_ev (N : Int) (E : List S66) (q : Int) (c : List Int) : Ev (fun k => sandpilelaw28_SuperstableDuals.f k N E q c) true := by
 have hj : Ev (fun k => sandpilelaw28_SuperstableDuals.j0 k q c true N E) true := by
  refine Ev.of_succ ?_
  simp only [sandpilelaw28_SuperstableDuals.j0, if_true, sandpilelaw28_awake.f, Option.bind_some]
  exact Ev.const _
 unfold sandpilelaw28_SuperstableDuals.f
 refine Ev.bind (right_ev N E q) ?_
 by_cases hf : fewB N E = true
 ·by_cases hr : rootG N E q = 0
  ·obtain ⟨n, q', rfl, rfl, h⟩ := root_small hf hr
   have hn5 := h.n5
   simp only [hf, hr, beq_self_eq_true, Bool.and_self, if_true]
   by_cases hlen : (c.length : Int) > 40
   ·simp only [if_pos hlen]; exact hj
   ·simp only [if_neg hlen]
    refine Ev.bind (check23_ev n E q' c (by have := h.len; omega)) ?_
    by_cases he : err23 n E q' c = 0
    ·obtain ⟨-, hg⟩ := err23_good he
     simp only [he, if_true]
     refine Ev.bind (calm19_ev h hg.len) ?_
     cases hcalm : calmB E n q' c with
     | false => exact hj
     | true =>
      refine Ev.of_succ ?_
      have hd := h.dual_ev he
      rw [if_pos hcalm] at hd
      have hgd := h.dual_good hg hcalm
      have hd2 := h.dual_ev (h.err_good hr hgd)
      rw [if_pos (h.dual_calm hg hcalm), h.dual_dual hg hcalm] at hd2
      obtain ⟨L, hrec⟩ := h.recur_ev hr hg hcalm
      simp only [sandpilelaw28_SuperstableDuals.j0, Bool.not_true, Bool.false_eq_true, if_false]
      refine Ev.bind hd ?_
      simp only [if_true]
      refine Ev.bind hd2 ?_
      refine Ev.bind (burn_ev (by have := h.len; omega) (by omega) h.right.inB he) ?_
      refine Ev.bind hrec ?_
      simp only [Int.add_zero, show wrap64 0 = 0 from wrap_id (by decide), if_true]
      refine Ev.bind (equalD_ev c (by have := hg.len; omega)) ?_
      simp only [beq_self_eq_true, if_true, sandpilelaw28_awake.f, Option.bind_some]
      exact Ev.const _
    ·simp only [if_neg he]; exact hj
  ·have : (rootG N E q == 0) = false := by simpa using hr
   simp only [this, Bool.and_false, Bool.false_eq_true, if_false]
   exact hj
 ·have : fewB N E = false := by simpa using hf
  simp only [this, Bool.false_and, Bool.false_eq_true, if_false]
  exact hj
theorem duals_pure (N : Int) (E : List S66) (q : Int) (c : List Int) : ∃ k, sandpilelaw28_SuperstableDuals.f k N E q c = some true := (duals_ev N E q c).get
end
end Go.Proofs.Ytffdiakgjakngaa.P
