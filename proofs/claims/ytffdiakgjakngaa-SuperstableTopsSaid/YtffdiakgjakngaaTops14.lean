/- A part of the proof that SuperstableTops answers true (text 14 of 15): own walks and plain laws; no conditions. -/
import Derived.Test.YtffdiakgjakngaaTops13
namespace Go.Proofs.Ytffdiakgjakngaa.P
open Go.RowKit Go.Proofs.YtffdiakgjakngaaW.PrintWords Go.Proofs.YtffdiakgjakngaaW.PrintLast Go.Proofs.YtffdiakgjakngaaW.PrintMore
set_option linter.unusedVariables false
set_option linter.unusedSimpArgs false
set_option maxHeartbeats 8000000
set_option maxRecDepth 100000
section
set_option maxRecDepth 100000
theorem awake28_true : awake28.f 60 = some true := by kernel_rfl
def sandpilelaw28_awake.f : Option (Bool) := some true
theorem sandpilelaw28_awake.calls (r : Bool) (w : World) (h : sandpilelaw28_awake.f = some r) :
  Calls Try.prog 11 #[] w fun e w' => e = .returned (.bool r) ∧ Below w.heap.size w w' := by
 obtain rfl := Option.some.inj h
 exact awake28.calls 60 true rfl w awake28_true
end
mutual
def sandpilelaw28_SuperstableGenus.l0 : Nat → List Int → Int → List (List Int) → Int → Int → List Int → Int → Int → Option (Bool)
 | 0, _, _, _, _, _, _, _, _ => none
 | k + 1, x5, x7, x9, x11, x12, x49, x50, x51 => if x51 < x50 then (if 0 ≤ x51 then (if x51 < (x49.length : Int) then (sandpilelaw28_SuperstableGenus.l0 k x5 x7 x9 x11 (wrap64 (x12 + (rd x49 x51))) x49 x50 (wrap64 (x51 + 1))) else (none)) else (none)) else (sandpilelaw28_SuperstableGenus.l1 k x5 x7 x9 x11 x12 x9 (x9.length : Int) 0)
def sandpilelaw28_SuperstableGenus.l1 : Nat → List Int → Int → List (List Int) → Int → Int → List (List Int) → Int → Int → Option (Bool)
 | 0, _, _, _, _, _, _, _, _ => none
 | k + 1, x5, x7, x9, x11, x12, x59, x60, x61 => if x61 < x60 then (if 0 ≤ x61 then (if x61 < (x59.length : Int) then ((sandpileref17_Total.f k (rd_L2 x59 x61)).bind fun t561 => (if t561 = x11 then (sandpilelaw28_SuperstableGenus.l1 k x5 x7 x9 x11 x12 x59 x60 (wrap64 (x61 + 1))) else (some false))) else (none)) else (none)) else (if x12 = x7 then (if (x5.length : Int) = (wrap64 (x11 + 1)) then (if 0 < (x5.length : Int) then (if (rd x5 0) = 1 then (if 0 ≤ x11 then (if x11 < (x5.length : Int) then (if (rd x5 x11) = (x9.length : Int) then ((sandpilelaw28_awake.f).bind fun t564 => (some t564)) else (some false)) else (none)) else (none)) else (some false)) else (none)) else (some false)) else (some false))
end
section
theorem ev_all {ι : Type} {P : ι → Nat → Prop} : ∀ (l : List ι), (∀ x ∈ l, ∃ B, ∀ K, B ≤ K → P x K) → ∃ B, ∀ K, B ≤ K → ∀ x ∈ l, P x K
 | [], _ => ⟨0, fun _ _ x hx => absurd hx (by simp)⟩
 | y :: l, h => by
  obtain ⟨B, hB⟩ := ev_all l fun x hx => h x (List.mem_cons_of_mem _ hx)
  obtain ⟨C, hC⟩ := h y (List.mem_cons_self ..)
  refine ⟨max B C, fun K hK x hx => ?_⟩
  rcases List.mem_cons.1 hx with rfl | hx
  ·exact hC K (by omega)
  ·exact hB K (by omega) x hx
namespace Small
variable {n q : Nat} {E : List S66}
theorem raised_all (h : Small n q E) (hr : rootG n E q = 0) : ∃ B, ∀ K, B ≤ K → ∀ c ∈ confs n E q, ∀ v ∈ List.range n, v ≠ q → ∃ r, superstable_raised.f K n E q c v = some r ∧ v < r.length ∧ (rd c v < rd r v ↔ superB n (timesOf E) q (c.set v (rd c v + 1)) = true) := by
 refine ev_all _ fun c hc => ev_all _ fun v hv => ?_
 have hvn := List.mem_range.1 hv
 by_cases hq : v = q
 ·exact ⟨0, fun _ _ e => absurd hq e⟩
 ·have hg := h.good_conf hc
  obtain ⟨M, m1, m2, m3⟩ := h.rise hg.len hvn hq ((h.mem_confs c).1 hc).2.2.2 (hg.pos v)
  obtain ⟨B, hB⟩ := h.raised_ev hr hg hvn hq m1 m2 m3
  refine ⟨B, fun K hK _ => ⟨_, hB K hK, by rw [List.length_set, hg.len]; exact hvn, ?_⟩⟩
  rw [rd_set_self (by rw [hg.len]; exact hvn), m3]
  omega
def topsOf (n q : Nat) (E : List S66) : List (List Int) := (confs n E q).filter fun c => decide (sumOf c = genE n E)
theorem maximal_ev (h : Small n q E) (hr : rootG n E q = 0) : Ev (fun k => superstable_Maximal.f k n E q) (topsOf n q E, (0 : Int)) := by
 unfold superstable_Maximal.f
 refine Ev.bind (h.superAll_ev hr) ?_
 simp only [if_true]
 obtain ⟨B, hB⟩ := h.raised_all hr
 refine ⟨B, fun K hK => ?_⟩
 have hK := hB K hK
 have h1 : okRaised K n E q (confs n E q) = true := by
  unfold okRaised
  refine List.all_eq_true.2 fun c hc => List.all_eq_true.2 fun v hv => ?_
  have hl := (h.conf_mem hc).1
  by_cases hq : v = q
  ·simp [hq]
  ·obtain ⟨r, r1, r2, _⟩ := hK c hc v (List.mem_range.2 (by have := List.mem_range.1 hv; omega)) hq
   rw [r1]
   simp [r2]
 show (if okRaised K n E q (confs n E q) = true then some (List.filter (fun x => !risesTo x q (raisedAt K n E q x) x.length) (confs n E q), (0 : Int)) else none) = _
 rw [if_pos h1]
 congr 2
 refine List.filter_congr fun c hc => ?_
 have hl := (h.conf_mem hc).1
 rw [Bool.eq_iff_iff, decide_eq_true_iff, h.top_iff hc]
 unfold risesTo
 rw [Bool.not_eq_true', List.any_eq_false]
 constructor
 ·intro h2 v hv hq
  obtain ⟨r, r1, r2, r3⟩ := hK c hc v (List.mem_range.2 hv) hq
  have h3 := h2 v (List.mem_range.2 (by omega))
  rw [show raisedAt K n E q c v = r by unfold raisedAt; rw [r1]; rfl] at h3
  cases e : superB n (timesOf E) q (c.set v (rd c v + 1)) with
  | false => rfl
  | true =>
   have := r3.2 e
   rw [decide_eq_true (show (v : Int) ≠ q by omega), decide_eq_true this] at h3
   exact absurd rfl h3
 ·intro h2 v hv hx
  have hvn : v < n := by have := List.mem_range.1 hv; omega
  rw [Bool.and_eq_true, decide_eq_true_iff, decide_eq_true_iff] at hx
  have hq : v ≠ q := fun e => hx.1 (by omega)
  obtain ⟨r, r1, r2, r3⟩ := hK c hc v (List.mem_range.2 hvn) hq
  rw [show raisedAt K n E q c v = r by unfold raisedAt; rw [r1]; rfl] at hx
  have := r3.1 hx.2
  rw [h2 v hvn hq] at this; cases this
end Small
namespace Small
variable {n q : Nat} {E : List S66}
end Small
end
section
namespace Small
variable {n q : Nat} {E : List S66}
theorem sum_conf (h : Small n q E) {c : List Int} (hc : c ∈ confs n E q) : sumOf c = sumN (fun v => rd c v) n := by
 have := ((h.mem_confs c).1 hc).1
 unfold sumOf; rw [sumTo_sumN, this]
theorem greatest_iff (h : Small n q E) {c : List Int} (hc : c ∈ confs n E q) : (∀ x ∈ confs n E q, (∀ v : Nat, v < n → rd c v ≤ rd x v) → x = c) ↔ sumOf c = genE n E := by
 constructor
 ·intro H
  obtain ⟨d, h1, h2, h3⟩ := h.full hc
  rw [← H d h1 h2]; exact h3
 ·intro hs x hx hle
  have h1 := (h.sum_le hx).2
  rw [← hs, h.sum_conf hx, h.sum_conf hc] at h1
  have h2 : sumN (fun v => rd c v) n = sumN (fun v => rd x v) n := Int.le_antisymm (sumN_le hle) h1
  have h3 := sumN_eq hle h2
  have l1 := ((h.mem_confs x).1 hx).1
  have l2 := ((h.mem_confs c).1 hc).1
  exact (rd_ext (by omega) (fun v hv => h3 v (by omega))).symm
end Small
end
mutual
def sandpileref28_Greatest.l0 : Nat → List (List Int) → List Int → Int → Option (Bool)
 | 0, _, _, _ => none
 | k + 1, x0, x1, x5 => if x5 < (x0.length : Int) then (sandpileref28_Greatest.l1 k x0 x1 x5 true 0) else (some true)
def sandpileref28_Greatest.l1 : Nat → List (List Int) → List Int → Int → Bool → Int → Option (Bool)
 | 0, _, _, _, _, _ => none
 | k + 1, x0, x1, x5, x6, x7 => if x7 < (x1.length : Int) then (if x6 = true then (if 0 ≤ x5 then (if x5 < (x0.length : Int) then (if 0 ≤ x7 then (if x7 < ((rd_L2 x0 x5).length : Int) then (sandpileref28_Greatest.l1 k x0 x1 x5 (decide ((rd (rd_L2 x0 x5) x7) ≥ (rd x1 x7))) (wrap64 (x7 + 1))) else (none)) else (none)) else (none)) else (none)) else (sandpileref28_Greatest.l1 k x0 x1 x5 false (wrap64 (x7 + 1)))) else (if x6 = true then (if 0 ≤ x5 then (if x5 < (x0.length : Int) then ((sandpileref17_Same.f k (rd_L2 x0 x5) x1).bind fun t286 => (if t286 = true then (sandpileref28_Greatest.l0 k x0 x1 (wrap64 (x5 + 1))) else (some false))) else (none)) else (none)) else (sandpileref28_Greatest.l0 k x0 x1 (wrap64 (x5 + 1))))
end
def sandpileref28_Greatest.f (k : Nat) (l0 : List (List Int)) (l1 : List Int) : Option (Bool) := sandpileref28_Greatest.l0 k l0 l1 0
theorem sandpileref28_Greatest.calls (k : Nat) (A0 : Option Addr) (c0 : Nat) (l0 : List (List Int)) (A1 : Option Addr) (c1 : Nat) (l1 : List Int) (r : Bool) (w : World) (hr0 : Kd.C (Kd.slice 3 (Kd.int .i64)) w A0 l0.length l0) (hc0 : l0.length ≤ c0) (hr1 : Kd.C (Kd.int .i64) w A1 l1.length l1) (hc1 : l1.length ≤ c1) (h : sandpileref28_Greatest.f k l0 l1 = some r) :
  Calls Try.prog 54 #[.slice A0 l0.length c0, .slice A1 l1.length c1] w fun e w' => e = .returned (.bool r) ∧ Drawn0 w w' := by
 have HR0 := Aside0.mk hr0
 have HC0 := Aside0.mk hc0
 clear hr0 hc0
 have HR1 := Aside0.mk hr1
 have HC1 := Aside0.mk hc1
 clear hr1 hc1
 have H : (sandpileref28_Greatest.l0 k l0 l1 0) = some r := h
 clear h
 have H' := Aside0.mk H
 clear H
 go_enter Try.func54, Try.ntmps54
 go_wp2
 repeat (go_quiet (fail); try go_wp2)
 go_loopg [5] k (fun kq v5 w' => ∃ (x5_1 : Int), v5 = .int .i64 x5_1 ∧ Aside0 (sandpileref28_Greatest.l0 kq l0 l1 x5_1 = some r) ∧ Aside0 (kq ≤ k) ∧ Drawn0 w w')
 case atStart => exact ⟨(0), zT, H', ⟨Nat.le_refl _⟩, by repeat (first | exact Drawn0.refl _ | apply Drawn0.step)⟩
 case round =>
  clear H'
  try clear c1
  try clear p2
  obtain ⟨x5_1, rfl, HA, HK1, ⟨m1, rfl⟩⟩ := hrel
  cases gk with
  | zero => exact absurd HA.out (by simp [sandpileref28_Greatest.l0])
  | succ k1 =>
   have H := HA.out
   clear HA
   simp only [sandpileref28_Greatest.l0] at H
   by_cases c3 : x5_1 < (l0.length : Int)
   ·rw [if_pos c3] at H
    have c3b0 : decide (x5_1 < (l0.length : Int)) = true := decide_eq_true c3
    clear c3
    have H' := Aside0.mk H
    clear H
    go_wp2
    repeat (go_quiet (fail); try go_wp2)
    go_loopg [6, 7] k1 (fun kq v6 v7 w' => ∃ (x6_2 : Bool) (x7_2 : Int), v6 = .bool x6_2 ∧ v7 = .int .i64 x7_2 ∧ Aside0 (sandpileref28_Greatest.l1 kq l0 l1 x5_1 x6_2 x7_2 = some r) ∧ Aside0 (kq ≤ k1) ∧ Drawn0 w w')
    case atStart => exact ⟨(true), (0), zT, zT, H', ⟨Nat.le_refl _⟩, by repeat (first | exact Drawn0.refl _ | apply Drawn0.step)⟩
    case round =>
     clear H'
     try clear c1
     try clear p2
     try clear c3
     try clear c3b0
     try clear p2
     obtain ⟨x6_2, x7_2, rfl, rfl, HA, HK2, ⟨m2, rfl⟩⟩ := hrel
     cases gk with
     | zero => exact absurd HA.out (by simp [sandpileref28_Greatest.l1])
     | succ k2 =>
      have H := HA.out
      clear HA
      simp only [sandpileref28_Greatest.l1] at H
      by_cases c4 : x7_2 < (l1.length : Int)
      ·rw [if_pos c4] at H
       have c4b0 : decide (x7_2 < (l1.length : Int)) = true := decide_eq_true c4
       clear c4
       by_cases c5 : x6_2 = true
       ·subst c5
        have H1 : (if 0 ≤ x5_1 then (if x5_1 < (l0.length : Int) then (if 0 ≤ x7_2 then (if x7_2 < ((rd_L2 l0 x5_1).length : Int) then (sandpileref28_Greatest.l1 k2 l0 l1 x5_1 (decide ((rd (rd_L2 l0 x5_1) x7_2) ≥ (rd l1 x7_2))) (wrap64 (x7_2 + 1))) else (none)) else (none)) else (none)) else (none)) = some r := by rw [if_pos rfl] at H; exact H
        clear H
        have H := H1
        clear H1
        by_cases c6 : 0 ≤ x5_1
        ·rw [if_pos c6] at H
         have c6b0 : decide (0 ≤ x5_1) = true := decide_eq_true c6
         clear c6
         by_cases c7 : x5_1 < (l0.length : Int)
         ·rw [if_pos c7] at H
          have c7b0 : decide (x5_1 < (l0.length : Int)) = true := decide_eq_true c7
          clear c7
          by_cases c8 : 0 ≤ x7_2
          ·rw [if_pos c8] at H
           have c8b0 : decide (0 ≤ x7_2) = true := decide_eq_true c8
           clear c8
           by_cases c9 : x7_2 < ((rd_L2 l0 x5_1).length : Int)
           ·rw [if_pos c9] at H
            have c9b0 : decide (x7_2 < ((rd_L2 l0 x5_1).length : Int)) = true := decide_eq_true c9
            clear c9
            have H' := Aside0.mk H
            clear H
            have p282 : 0 ≤ (x5_1 : Int) := of_decide_eq_true ‹_›
            have q282 : x5_1 < (l0.length : Int) := of_decide_eq_true ‹_›
            obtain ⟨ad282, A282_0, c282_0, e282, hx282_0, hl282_0, hi282_0⟩ := at_L2 HR0.out x5_1 p282 q282
            cases e282
            have HR282_0 := Aside0.mk hi282_0
            have HC282_0 := Aside0.mk hl282_0
            clear hi282_0 hl282_0
            replace p282 := eq_true p282
            replace q282 := eq_true q282
            have p283 : 0 ≤ (x7_2 : Int) := of_decide_eq_true ‹_›
            have q283 : x7_2 < ((rd_L2 l0 x5_1).length : Int) := of_decide_eq_true ‹_›
            obtain ⟨ad283, e283, hx283_0⟩ := Kd.at_int HR282_0.out x7_2 p283 q283
            cases e283
            replace p283 := eq_true p283
            replace q283 := eq_true q283
            have p284 : 0 ≤ (x7_2 : Int) := of_decide_eq_true ‹_›
            have q284 : x7_2 < (l1.length : Int) := of_decide_eq_true ‹_›
            obtain ⟨ad284, e284, hx284_0⟩ := Kd.at_int HR1.out x7_2 p284 q284
            cases e284
            replace p284 := eq_true p284
            replace q284 := eq_true q284
            go_wp2
            repeat (go_quiet (fail); try go_wp2)
            go_roundg k2
            case measure => have := HK1.out; have := HK2.out; omega
            case rel => exact ⟨(decide ((rd (rd_L2 l0 x5_1) x7_2) ≥ (rd l1 x7_2))), (wrap64 (x7_2 + 1)), zT, zT, H', ⟨by have := HK1.out; have := HK2.out; omega⟩, by repeat (first | exact Drawn0.refl _ | apply Drawn0.step)⟩
           ·rw [if_neg c9] at H
            exact absurd H (by simp)
          ·rw [if_neg c8] at H
           exact absurd H (by simp)
         ·rw [if_neg c7] at H
          exact absurd H (by simp)
        ·rw [if_neg c6] at H
         exact absurd H (by simp)
       ·replace c5 := Bool.eq_false_iff.mpr c5
        subst c5
        have H1 : (sandpileref28_Greatest.l1 k2 l0 l1 x5_1 false (wrap64 (x7_2 + 1))) = some r := by rw [if_neg (show ¬ (false = true) by decide)] at H; exact H
        clear H
        have H := H1
        clear H1
        have H' := Aside0.mk H
        clear H
        go_wp2
        repeat (go_quiet (fail); try go_wp2)
        go_roundg k2
        case measure => have := HK1.out; have := HK2.out; omega
        case rel => exact ⟨(false), (wrap64 (x7_2 + 1)), zT, zT, H', ⟨by have := HK1.out; have := HK2.out; omega⟩, by repeat (first | exact Drawn0.refl _ | apply Drawn0.step)⟩
      ·rw [if_neg c4] at H
       have c4b0 : decide (x7_2 < (l1.length : Int)) = false := decide_eq_false c4
       clear c4
       by_cases c10 : x6_2 = true
       ·subst c10
        have H1 : (if 0 ≤ x5_1 then (if x5_1 < (l0.length : Int) then ((sandpileref17_Same.f k2 (rd_L2 l0 x5_1) l1).bind fun t286 => (if t286 = true then (sandpileref28_Greatest.l0 k2 l0 l1 (wrap64 (x5_1 + 1))) else (some false))) else (none)) else (none)) = some r := by rw [if_pos rfl] at H; exact H
        clear H
        have H := H1
        clear H1
        by_cases c11 : 0 ≤ x5_1
        ·rw [if_pos c11] at H
         have c11b0 : decide (0 ≤ x5_1) = true := decide_eq_true c11
         clear c11
         by_cases c12 : x5_1 < (l0.length : Int)
         ·rw [if_pos c12] at H
          have c12b0 : decide (x5_1 < (l0.length : Int)) = true := decide_eq_true c12
          clear c12
          replace H := Option.bind_eq_some_iff.mp H
          obtain ⟨t286, A130, H⟩ := H
          replace H : (if t286 = true then (sandpileref28_Greatest.l0 k2 l0 l1 (wrap64 (x5_1 + 1))) else (some false)) = some r := H
          have A13 := Aside0.mk A130
          clear A130
          by_cases c14 : t286 = true
          ·subst c14
           have H1 : (sandpileref28_Greatest.l0 k2 l0 l1 (wrap64 (x5_1 + 1))) = some r := by rw [if_pos rfl] at H; exact H
           clear H
           have H := H1
           clear H1
           have H' := Aside0.mk H
           clear H
           have p285 : 0 ≤ (x5_1 : Int) := of_decide_eq_true ‹_›
           have q285 : x5_1 < (l0.length : Int) := of_decide_eq_true ‹_›
           obtain ⟨ad285, A285_0, c285_0, e285, hx285_0, hl285_0, hi285_0⟩ := at_L2 HR0.out x5_1 p285 q285
           cases e285
           have HR285_0 := Aside0.mk hi285_0
           have HC285_0 := Aside0.mk hl285_0
           clear hi285_0 hl285_0
           replace p285 := eq_true p285
           replace q285 := eq_true q285
           go_wp2_with (first | (go_at_call 26; (with_reducible refine (sandpileref17_Same.calls k2 _ _ (rd_L2 l0 x5_1) _ _ l1 true _ ?side1 ?side2 ?side3 ?side4 A13.out).mono ?_); (case side1 => repeat (first | exact HR285_0.out | (with_reducible refine Kd.C_alloc ?_ _) | (with_reducible refine Kd.C_drewN ?_ _) | (with_reducible refine Kd.C_drew ?_))); (case side2 => exact HC285_0.out); (case side3 => repeat (first | exact HR1.out | (with_reducible refine Kd.C_alloc ?_ _) | (with_reducible refine Kd.C_drewN ?_ _) | (with_reducible refine Kd.C_drew ?_))); (case side4 => exact HC1.out); rintro e w' ⟨rfl, ⟨nd, rfl⟩⟩; (try first | exact ⟨rfl, _, World.drewN_drewN _ _ _⟩ | exact ⟨rfl, _, Eq.trans (World.drewN_drewN _ _ _) (congrArg (World.drewN _) (Nat.add_assoc _ _ _))⟩)))
           repeat (go_quiet (first | (go_at_call 26; (with_reducible refine (sandpileref17_Same.calls k2 _ _ (rd_L2 l0 x5_1) _ _ l1 true _ ?side1 ?side2 ?side3 ?side4 A13.out).mono ?_); (case side1 => repeat (first | exact HR285_0.out | (with_reducible refine Kd.C_alloc ?_ _) | (with_reducible refine Kd.C_drewN ?_ _) | (with_reducible refine Kd.C_drew ?_))); (case side2 => exact HC285_0.out); (case side3 => repeat (first | exact HR1.out | (with_reducible refine Kd.C_alloc ?_ _) | (with_reducible refine Kd.C_drewN ?_ _) | (with_reducible refine Kd.C_drew ?_))); (case side4 => exact HC1.out); rintro e w' ⟨rfl, ⟨nd, rfl⟩⟩; (try first | exact ⟨rfl, _, World.drewN_drewN _ _ _⟩ | exact ⟨rfl, _, Eq.trans (World.drewN_drewN _ _ _) (congrArg (World.drewN _) (Nat.add_assoc _ _ _))⟩))); try go_wp2_with (first | (go_at_call 26; (with_reducible refine (sandpileref17_Same.calls k2 _ _ (rd_L2 l0 x5_1) _ _ l1 true _ ?side1 ?side2 ?side3 ?side4 A13.out).mono ?_); (case side1 => repeat (first | exact HR285_0.out | (with_reducible refine Kd.C_alloc ?_ _) | (with_reducible refine Kd.C_drewN ?_ _) | (with_reducible refine Kd.C_drew ?_))); (case side2 => exact HC285_0.out); (case side3 => repeat (first | exact HR1.out | (with_reducible refine Kd.C_alloc ?_ _) | (with_reducible refine Kd.C_drewN ?_ _) | (with_reducible refine Kd.C_drew ?_))); (case side4 => exact HC1.out); rintro e w' ⟨rfl, ⟨nd, rfl⟩⟩; (try first | exact ⟨rfl, _, World.drewN_drewN _ _ _⟩ | exact ⟨rfl, _, Eq.trans (World.drewN_drewN _ _ _) (congrArg (World.drewN _) (Nat.add_assoc _ _ _))⟩))))
           go_roundg k2
           case measure => have := HK1.out; have := HK2.out; omega
           case rel => exact ⟨(wrap64 (x5_1 + 1)), zT, H', ⟨by have := HK1.out; have := HK2.out; omega⟩, by repeat (first | exact Drawn0.refl _ | apply Drawn0.step)⟩
          ·replace c14 := Bool.eq_false_iff.mpr c14
           subst c14
           have H1 : (some false) = some r := by rw [if_neg (show ¬ (false = true) by decide)] at H; exact H
           clear H
           have H := H1
           clear H1
           obtain rfl := Option.some.inj H
           have p285 : 0 ≤ (x5_1 : Int) := of_decide_eq_true ‹_›
           have q285 : x5_1 < (l0.length : Int) := of_decide_eq_true ‹_›
           obtain ⟨ad285, A285_0, c285_0, e285, hx285_0, hl285_0, hi285_0⟩ := at_L2 HR0.out x5_1 p285 q285
           cases e285
           have HR285_0 := Aside0.mk hi285_0
           have HC285_0 := Aside0.mk hl285_0
           clear hi285_0 hl285_0
           replace p285 := eq_true p285
           replace q285 := eq_true q285
           go_wp2_with (first | (go_at_call 26; (with_reducible refine (sandpileref17_Same.calls k2 _ _ (rd_L2 l0 x5_1) _ _ l1 false _ ?side1 ?side2 ?side3 ?side4 A13.out).mono ?_); (case side1 => repeat (first | exact HR285_0.out | (with_reducible refine Kd.C_alloc ?_ _) | (with_reducible refine Kd.C_drewN ?_ _) | (with_reducible refine Kd.C_drew ?_))); (case side2 => exact HC285_0.out); (case side3 => repeat (first | exact HR1.out | (with_reducible refine Kd.C_alloc ?_ _) | (with_reducible refine Kd.C_drewN ?_ _) | (with_reducible refine Kd.C_drew ?_))); (case side4 => exact HC1.out); rintro e w' ⟨rfl, ⟨nd, rfl⟩⟩; (try first | exact ⟨rfl, _, World.drewN_drewN _ _ _⟩ | exact ⟨rfl, _, Eq.trans (World.drewN_drewN _ _ _) (congrArg (World.drewN _) (Nat.add_assoc _ _ _))⟩)))
           repeat (go_quiet (first | (go_at_call 26; (with_reducible refine (sandpileref17_Same.calls k2 _ _ (rd_L2 l0 x5_1) _ _ l1 false _ ?side1 ?side2 ?side3 ?side4 A13.out).mono ?_); (case side1 => repeat (first | exact HR285_0.out | (with_reducible refine Kd.C_alloc ?_ _) | (with_reducible refine Kd.C_drewN ?_ _) | (with_reducible refine Kd.C_drew ?_))); (case side2 => exact HC285_0.out); (case side3 => repeat (first | exact HR1.out | (with_reducible refine Kd.C_alloc ?_ _) | (with_reducible refine Kd.C_drewN ?_ _) | (with_reducible refine Kd.C_drew ?_))); (case side4 => exact HC1.out); rintro e w' ⟨rfl, ⟨nd, rfl⟩⟩; (try first | exact ⟨rfl, _, World.drewN_drewN _ _ _⟩ | exact ⟨rfl, _, Eq.trans (World.drewN_drewN _ _ _) (congrArg (World.drewN _) (Nat.add_assoc _ _ _))⟩))); try go_wp2_with (first | (go_at_call 26; (with_reducible refine (sandpileref17_Same.calls k2 _ _ (rd_L2 l0 x5_1) _ _ l1 false _ ?side1 ?side2 ?side3 ?side4 A13.out).mono ?_); (case side1 => repeat (first | exact HR285_0.out | (with_reducible refine Kd.C_alloc ?_ _) | (with_reducible refine Kd.C_drewN ?_ _) | (with_reducible refine Kd.C_drew ?_))); (case side2 => exact HC285_0.out); (case side3 => repeat (first | exact HR1.out | (with_reducible refine Kd.C_alloc ?_ _) | (with_reducible refine Kd.C_drewN ?_ _) | (with_reducible refine Kd.C_drew ?_))); (case side4 => exact HC1.out); rintro e w' ⟨rfl, ⟨nd, rfl⟩⟩; (try first | exact ⟨rfl, _, World.drewN_drewN _ _ _⟩ | exact ⟨rfl, _, Eq.trans (World.drewN_drewN _ _ _) (congrArg (World.drewN _) (Nat.add_assoc _ _ _))⟩))))
           go_ret
           exact ⟨zT, by repeat (first | exact Drawn0.refl _ | apply Drawn0.step)⟩
         ·rw [if_neg c12] at H
          exact absurd H (by simp)
        ·rw [if_neg c11] at H
         exact absurd H (by simp)
       ·replace c10 := Bool.eq_false_iff.mpr c10
        subst c10
        have H1 : (sandpileref28_Greatest.l0 k2 l0 l1 (wrap64 (x5_1 + 1))) = some r := by rw [if_neg (show ¬ (false = true) by decide)] at H; exact H
        clear H
        have H := H1
        clear H1
        have H' := Aside0.mk H
        clear H
        go_wp2
        repeat (go_quiet (fail); try go_wp2)
        go_roundg k2
        case measure => have := HK1.out; have := HK2.out; omega
        case rel => exact ⟨(wrap64 (x5_1 + 1)), zT, H', ⟨by have := HK1.out; have := HK2.out; omega⟩, by repeat (first | exact Drawn0.refl _ | apply Drawn0.step)⟩
   ·rw [if_neg c3] at H
    have c3b0 : decide (x5_1 < (l0.length : Int)) = false := decide_eq_false c3
    clear c3
    obtain rfl := Option.some.inj H
    go_wp2
    repeat (go_quiet (fail); try go_wp2)
    go_ret
    exact ⟨zT, by repeat (first | exact Drawn0.refl _ | apply Drawn0.step)⟩
def sandpileref28_Maximal.l0 : Nat → List (List Int) → List (List Int) → Int → Option ((List (List Int)))
 | 0, _, _, _ => none
 | k + 1, x5, x6, x7 => if x7 < (x5.length : Int) then (if 0 ≤ x7 then ((sandpileref28_Greatest.f k x5 (rd_L2 x5 x7)).bind fun t292 => (if t292 = true then (if x6.length < 5864062014805 then (sandpileref28_Maximal.l0 k x5 (x6 ++ [rd_L2 x5 x7]) (wrap64 (x7 + 1))) else (none)) else (sandpileref28_Maximal.l0 k x5 x6 (wrap64 (x7 + 1))))) else (none)) else (some x6)
def sandpileref28_Maximal.f (k : Nat) (a0_0 : Int) (l0_1 : List (S66)) (a1 : Int) : Option ((List (List Int))) := (sandpileref28_All.f k a0_0 l0_1 a1).bind fun t288 => (sandpileref28_Maximal.l0 k t288 ([] : List (List Int)) 0)
theorem sandpileref28_Maximal.calls (k : Nat) (a0_0 : Int) (A0_1 : Option Addr) (c0_1 : Nat) (l0_1 : List (S66)) (a1 : Int) (r : List (List Int)) (w : World) (hr0_1 : Kd.C k66 w A0_1 l0_1.length l0_1) (hc0_1 : l0_1.length ≤ c0_1) (h : sandpileref28_Maximal.f k a0_0 l0_1 a1 = some r) :
  Calls Try.prog 21 #[.agg #[.int .i64 a0_0, .slice A0_1 l0_1.length c0_1], .int .i64 a1] w fun e w' => ∃ v0_ : Value, e = .returned (v0_) ∧ Kd.N (Kd.slice 3 (Kd.int .i64)) 42 w' w.heap.size (fun k_ => (w.heap.size ≤ k_)) v0_ r ∧ Below w.heap.size w w' := by
 have hu24 := Try.underlying24
 have HR0_1 := Aside0.mk hr0_1
 have HC0_1 := Aside0.mk hc0_1
 clear hr0_1 hc0_1
 have HB := Aside0.mk (Below.refl w.heap.size w)
 have H : ((sandpileref28_All.f k a0_0 l0_1 a1).bind fun t288 => (sandpileref28_Maximal.l0 k t288 ([] : List (List Int)) 0)) = some r := h
 clear h
 replace H := Option.bind_eq_some_iff.mp H
 obtain ⟨t288, A30, H⟩ := H
 replace H : (sandpileref28_Maximal.l0 k t288 ([] : List (List Int)) 0) = some r := H
 have A3 := Aside0.mk A30
 clear A30
 have H' := Aside0.mk H
 clear H
 go_enter Try.func21, Try.ntmps21
 go_wp2_with (first | ((with_reducible refine gate_dst (N := 2) rfl ?_); refine zX 2 #[.int .i64 a0_0, .slice A0_1 l0_1.length c0_1] 24 ?_; intro gb287 hg w4 hbox hb; have BK287 := Aside0.mk (hbox); have GW287 := zG HB hg; have GE287 := zG HB hg; replace HB := zS HB hb; clear hb hbox hg; obtain ⟨hcz5_0, hcz5_1, hfz5_0, hfz5_1⟩ := zD2 BK287) | ((with_reducible refine gate_callee (f := 16) rfl ?_); refine zL (some 10) Try.func16 #[.agg #[.int .i64 a0_0, .slice A0_1 l0_1.length c0_1], .int .i64 a1] ?_; (with_reducible refine (sandpileref28_All.calls k a0_0 _ _ l0_1 a1 t288 _ ?side1 ?side2 A3.out).mono ?_); (case side1 => exact Kd.C_below HR0_1.out zB); (case side2 => exact HC0_1.out); rintro e w6 ⟨v289, rfl, ho0, hb⟩; refine ⟨_, rfl, ?_⟩; have HO290 := Aside0.mk (Kd.N_lower (Kd.N_mono (ok' := fun k_ => (w.heap.size ≤ k_) ∧ k_ ≠ gb287) ho0 (fun k_ hk_ => ⟨(Nat.le_trans (below_size zB) hk_), (Kd.freshB (zK BK287) k_ hk_)⟩)) (below_size zB)); replace BK287 := zb BK287 hb; replace HB := zS HB hb; (try clear hb); (try clear ho0)))
 go_loopg [6, 7] k (fun kq v6 v7 w' => ∃ (x6_1 : List (List Int)) (x7_1 : Int), v7 = .int .i64 x7_1 ∧ Aside0 (sandpileref28_Maximal.l0 kq t288 x6_1 x7_1 = some r) ∧ Aside0 (kq ≤ k) ∧ Aside0 (Kd.N (Kd.slice 3 (Kd.int .i64)) 42 w' w.heap.size (fun k_ => (w.heap.size ≤ k_) ∧ some k_ ≠ (v6 : Value).ownBlock ∧ k_ ≠ gb287) v289 t288) ∧ Aside0 (Kd.N (Kd.slice 3 (Kd.int .i64)) 42 w' w.heap.size (fun k_ => (w.heap.size ≤ k_) ∧ some k_ ≠ (v289 : Value).ownBlock ∧ k_ ≠ gb287) v6 x6_1) ∧ Aside0 (w'.heap[gb287]? = some (.cells #[.int .i64 a0_0, (.slice A0_1 l0_1.length c0_1)] 24 (0, 0))) ∧ Aside0 (Below w.heap.size w w'))
 case atStart => exact ⟨(([] : List (List Int))), (0), zT, H', ⟨Nat.le_refl _⟩, ⟨by (with_reducible repeat (first | apply Kd.N_alloc | apply Kd.N_drewN | apply Kd.N_drew)); exact Kd.N_mono HO290.out (fun _ hk => ⟨hk.1, ⟨(by simp [Value.ownBlock]), hk.2⟩⟩)⟩, ⟨by first | exact Kd.S_nil _ _ _ _ _ | exact Kd.N_nil _ _ _ _ _ | exact Kd.V_nil _ _ _ _ _ | exact Kd.Q_nil _ _ _ _ _ | exact Kd.R_nil _ _ _ _ _⟩, ⟨zK BK287⟩, ⟨zB⟩⟩
 case round =>
  clear H'
  try clear c1
  try clear c2
  try clear p2
  try clear hcz5_0
  try clear hcz5_1
  try clear hfz5_0
  try clear hfz5_1
  obtain ⟨x6_1, x7_1, rfl, HA, HK1, HO_5, HO_6, BK287, HB⟩ := hrel
  cases gk with
  | zero => exact absurd HA.out (by simp [sandpileref28_Maximal.l0])
  | succ k1 =>
   have H := HA.out
   clear HA
   simp only [sandpileref28_Maximal.l0] at H
   by_cases c7 : x7_1 < (t288.length : Int)
   ·rw [if_pos c7] at H
    have c7b0 : decide (x7_1 < (t288.length : Int)) = true := decide_eq_true c7
    clear c7
    by_cases c8 : 0 ≤ x7_1
    ·rw [if_pos c8] at H
     have c8b0 : decide (0 ≤ x7_1) = true := decide_eq_true c8
     clear c8
     replace H := Option.bind_eq_some_iff.mp H
     obtain ⟨t292, A90, H⟩ := H
     replace H : (if t292 = true then (if x6_1.length < 5864062014805 then (sandpileref28_Maximal.l0 k1 t288 (x6_1 ++ [rd_L2 t288 x7_1]) (wrap64 (x7_1 + 1))) else (none)) else (sandpileref28_Maximal.l0 k1 t288 x6_1 (wrap64 (x7_1 + 1)))) = some r := H
     have A9 := Aside0.mk A90
     clear A90
     by_cases c10 : t292 = true
     ·subst c10
      have H1 : (if x6_1.length < 5864062014805 then (sandpileref28_Maximal.l0 k1 t288 (x6_1 ++ [rd_L2 t288 x7_1]) (wrap64 (x7_1 + 1))) else (none)) = some r := by rw [if_pos rfl] at H; exact H
      clear H
      have H := H1
      clear H1
      by_cases c11 : x6_1.length < 5864062014805
      ·rw [if_pos c11] at H
       have LMc11 := Aside0.mk c11
       clear c11
       obtain ⟨y294, hy294⟩ : ∃ y_ : List (List Int), y_ = (x6_1 ++ [rd_L2 t288 x7_1]) := ⟨_, rfl⟩
       replace H : (sandpileref28_Maximal.l0 k1 t288 y294 (wrap64 (x7_1 + 1))) = some r := by first | (rw [hy294]; with_reducible exact H) | (have H2_ := (Option.bind_some _ _).symm.trans H; rw [hy294]; with_reducible exact H2_) | (have H2_ := (Option.bind_some _ _).symm.trans H; with_reducible exact H2_) | with_reducible exact H | (rw [hy294]; exact H) | exact H
       have Ny294 := Aside0.mk hy294
       clear hy294
       have H' := Aside0.mk H
       clear H
       obtain ⟨Ao12, co12, eo12⟩ := Kd.N_slice HO_5.out
       subst eo12
       have p291 : 0 ≤ (x7_1 : Int) := of_decide_eq_true ‹_›
       have q291 : x7_1 < (t288.length : Int) := of_decide_eq_true ‹_›
       obtain ⟨ad291, A291_0, c291_0, e291, hx291_0, hl291_0, hi291_0⟩ := at_L2 (Kd.N_reads' HO_5.out).2.2 x7_1 p291 q291
       cases e291
       obtain ⟨ce291, hce291, hMe291, hcc291⟩ := Kd.N_get HO_5.out [] x7_1 p291 (by first | exact q291 | exact of_decide_eq_true ‹_› | (have e_ := (Kd.N_reads' HO_5.out).1; omega))
       obtain ⟨ua291_0, uc291_0, rfl, ul291_0, ge291_0⟩ := Kd.FK_slice_open hMe291
       have hv291_0 := hcc291 0 _ rfl
       rw [Nat.add_zero, show ((Kd.slice 3 (Kd.int .i64))).sz = 1 from rfl, Nat.mul_one] at hv291_0
       replace hv291_0 := Option.some.inj (hv291_0.symm.trans hx291_0)
       injection hv291_0 with hva_ hvn_ hvc_
       rw [hva_] at ge291_0
       rw [hvc_] at ul291_0
       have HL291_0 := Aside0.mk (show Kd.V (Kd.int .i64) 3 _ w.heap.size _ _ (rd_L2 t288 x7_1) from Kd.V_mk ul291_0 ge291_0)
       clear hva_ hvn_ hvc_ ge291_0 ul291_0
       clear hcc291 hce291
       have HR291_0 := Aside0.mk hi291_0
       have HC291_0 := Aside0.mk hl291_0
       clear hi291_0 hl291_0
       replace p291 := eq_true p291
       replace q291 := eq_true q291
       go_wp2_with (first | ((with_reducible refine gate_callee (f := 54) rfl ?_); refine zL (some 22) Try.func54 #[.slice (some ad291) t288.length co12, .slice A291_0 (rd_L2 t288 x7_1).length c291_0] ?_; (with_reducible refine (sandpileref28_Greatest.calls k1 _ _ t288 _ _ (rd_L2 t288 x7_1) true _ ?side1 ?side2 ?side3 ?side4 A9.out).mono ?_); (case side1 => exact zC (Kd.N_reads' HO_5.out).2.2); (case side2 => exact (Kd.N_reads' HO_5.out).2.1); (case side3 => repeat (first | exact (by repeat (first | (with_reducible exact HR291_0.out) | (with_reducible refine Kd.C_alloc ?_ _) | (with_reducible refine Kd.C_drewN ?_ _) | (with_reducible refine Kd.C_drew ?_) | exact HR291_0.out)) | (with_reducible refine Kd.C_alloc ?_ _) | (with_reducible refine Kd.C_drewN ?_ _) | (with_reducible refine Kd.C_drew ?_))); (case side4 => exact HC291_0.out); rintro e w' ⟨rfl, ⟨nd, rfl⟩⟩; refine ⟨_, rfl, ?_⟩; have p293 : 0 ≤ (x7_1 : Int) := of_decide_eq_true ‹_›; have q293 : x7_1 < (t288.length : Int) := of_decide_eq_true ‹_›; obtain ⟨ad293, A293_0, c293_0, e293, hx293_0, hl293_0, hi293_0⟩ := at_L2 (Kd.N_reads' HO_5.out).2.2 x7_1 p293 q293; obtain rfl : ad291 = ad293 := (by injection e293); obtain ⟨ce293, hce293, hMe293, hcc293⟩ := Kd.N_get HO_5.out [] x7_1 p293 (by first | exact q293 | exact of_decide_eq_true ‹_› | (have e_ := (Kd.N_reads' HO_5.out).1; omega)); obtain ⟨ua293_0, uc293_0, rfl, ul293_0, ge293_0⟩ := Kd.FK_slice_open hMe293; have hv293_0 := hcc293 0 _ rfl; rw [Nat.add_zero, show ((Kd.slice 3 (Kd.int .i64))).sz = 1 from rfl, Nat.mul_one] at hv293_0; replace hv293_0 := Option.some.inj (hv293_0.symm.trans hx293_0); injection hv293_0 with hva_ hvn_ hvc_; rw [hva_] at ge293_0; rw [hvc_] at ul293_0; have HL293_0 := Aside0.mk (show Kd.V (Kd.int .i64) 3 _ w.heap.size _ _ (rd_L2 t288 x7_1) from Kd.V_mk ul293_0 ge293_0); clear hva_ hvn_ hvc_ ge293_0 ul293_0; clear hcc293 hce293; have HR293_0 := Aside0.mk hi293_0; have HC293_0 := Aside0.mk hl293_0; clear hi293_0 hl293_0; replace p293 := eq_true p293; replace q293 := eq_true q293; have ea_ := Option.some.inj (hx291_0.symm.trans hx293_0); injection ea_ with ea_ en_ ec_; subst ea_; subst ec_; clear en_) | ((with_reducible refine gate_builtin (b := .append) (xs := #[.tmp 23, .tmp 28]) rfl ?_); at_builtin; refine Kd.N_append (Kd.slice 3 (Kd.int .i64)) (w0 := w) w.heap.size rfl (.tmp 23) (.tmp 28) 27 42 (.slice none 0 0) 24 rfl Try.underlying27 info42 rfl (by decide) (by omega) u6 x6_1 (rd_L2 t288 x7_1) [.slice A291_0 (rd_L2 t288 x7_1).length c291_0] (fun k_ => (w.heap.size ≤ k_) ∧ some k_ ≠ (.slice (some ad291) t288.length co12 : Value).ownBlock ∧ k_ ≠ gb287) (fun k_ => ((fun k_ => (w.heap.size ≤ k_) ∧ some k_ ≠ (.slice (some ad291) t288.length co12 : Value).ownBlock ∧ k_ ≠ gb287)) k_ ∧ some k_ ≠ (u6 : Value).ownBlock) rfl rfl ?aP (fun _ hk => hk) ?aF ?aO ?aB ?aS ?aL ?_; (case aP => exact (Kd.FK_slice_mk (Kd.V_reads' (Kd.V_mono (ok' := (fun k_ => ((fun k_ => (w.heap.size ≤ k_) ∧ some k_ ≠ (.slice (some ad291) t288.length co12 : Value).ownBlock ∧ k_ ≠ gb287)) k_ ∧ some k_ ≠ (u6 : Value).ownBlock)) (Kd.V_drewN HL291_0.out nd) (fun k_ hk => ⟨⟨hk.1.1, ⟨hk.2, hk.1.2.2⟩⟩, hk.1.2.1⟩))).2.1 (Kd.V_F (Kd.V_mono (ok' := (fun k_ => ((fun k_ => (w.heap.size ≤ k_) ∧ some k_ ≠ (.slice (some ad291) t288.length co12 : Value).ownBlock ∧ k_ ≠ gb287)) k_ ∧ some k_ ≠ (u6 : Value).ownBlock)) (Kd.V_drewN HL291_0.out nd) (fun k_ hk => ⟨⟨hk.1.1, ⟨hk.2, hk.1.2.2⟩⟩, hk.1.2.1⟩))))); (case aB => exact zB); (case aF => exact (fun k_ hk => ⟨(Nat.le_trans (below_size zB) hk), Kd.fresh' (Kd.N_lt (zN HO_5)) k_ hk, Kd.freshB (zK BK287) k_ hk⟩)); (case aO => exact (zN HO_6)); (case aS => exact (below_size zB)); (case aL => have := LMc11.out; omega); intro v295 w13 ho hb hg hat; rw [← Ny294.out] at ho; replace HO_5 := Aside0.mk (Kd.N_afterv (ok := (fun k_ => (w.heap.size ≤ k_) ∧ k_ ≠ gb287)) (by (with_reducible repeat (first | apply Kd.N_alloc | apply Kd.N_drewN | apply Kd.N_drew)); exact Kd.N_mono HO_5.out (fun _ hk => ⟨⟨hk.1, hk.2.2⟩, hk.2.1⟩)) hg hat); replace BK287 := Aside0.mk (blk_grown (zK BK287) hg (Kd.N_ne HO_6.out BK287.out (by decide))); replace HL291_0 := Aside0.mk (Kd.V_afterv (ok := (fun k_ => (w.heap.size ≤ k_) ∧ some k_ ≠ (.slice (some ad291) t288.length co12 : Value).ownBlock ∧ k_ ≠ gb287)) (by (with_reducible repeat (first | apply Kd.V_alloc | apply Kd.V_drewN | apply Kd.V_drew)); exact Kd.V_mono HL291_0.out (fun _ hk => ⟨⟨hk.1.1, ⟨hk.2, hk.1.2.2⟩⟩, hk.1.2.1⟩)) hg hat); replace HL293_0 := Aside0.mk (Kd.V_afterv (ok := (fun k_ => (w.heap.size ≤ k_) ∧ some k_ ≠ (.slice (some ad291) t288.length co12 : Value).ownBlock ∧ k_ ≠ gb287)) (by (with_reducible repeat (first | apply Kd.V_alloc | apply Kd.V_drewN | apply Kd.V_drew)); exact Kd.V_mono HL293_0.out (fun _ hk => ⟨⟨hk.1.1, ⟨hk.2, hk.1.2.2⟩⟩, hk.1.2.1⟩)) hg hat); replace HB := Aside0.mk (hb); have HO296 := Aside0.mk (ho); clear HO_6; clear ho hb hg hat))
       go_roundg k1
       case measure => have := HK1.out; omega
       case rel => exact ⟨(y294), (wrap64 (x7_1 + 1)), zT, H', ⟨by have := HK1.out; omega⟩, ⟨by (with_reducible repeat (first | apply Kd.N_alloc | apply Kd.N_drewN | apply Kd.N_drew)); exact Kd.N_mono HO_5.out (fun _ hk => ⟨hk.1.1, ⟨hk.2, hk.1.2⟩⟩)⟩, ⟨zN HO296⟩, ⟨zK BK287⟩, ⟨zB⟩⟩
      ·rw [if_neg c11] at H
       exact absurd H (by simp)
     ·replace c10 := Bool.eq_false_iff.mpr c10
      subst c10
      have H1 : (sandpileref28_Maximal.l0 k1 t288 x6_1 (wrap64 (x7_1 + 1))) = some r := by rw [if_neg (show ¬ (false = true) by decide)] at H; exact H
      clear H
      have H := H1
      clear H1
      have H' := Aside0.mk H
      clear H
      obtain ⟨Ao14, co14, eo14⟩ := Kd.N_slice HO_5.out
      subst eo14
      have p291 : 0 ≤ (x7_1 : Int) := of_decide_eq_true ‹_›
      have q291 : x7_1 < (t288.length : Int) := of_decide_eq_true ‹_›
      obtain ⟨ad291, A291_0, c291_0, e291, hx291_0, hl291_0, hi291_0⟩ := at_L2 (Kd.N_reads' HO_5.out).2.2 x7_1 p291 q291
      cases e291
      obtain ⟨ce291, hce291, hMe291, hcc291⟩ := Kd.N_get HO_5.out [] x7_1 p291 (by first | exact q291 | exact of_decide_eq_true ‹_› | (have e_ := (Kd.N_reads' HO_5.out).1; omega))
      obtain ⟨ua291_0, uc291_0, rfl, ul291_0, ge291_0⟩ := Kd.FK_slice_open hMe291
      have hv291_0 := hcc291 0 _ rfl
      rw [Nat.add_zero, show ((Kd.slice 3 (Kd.int .i64))).sz = 1 from rfl, Nat.mul_one] at hv291_0
      replace hv291_0 := Option.some.inj (hv291_0.symm.trans hx291_0)
      injection hv291_0 with hva_ hvn_ hvc_
      rw [hva_] at ge291_0
      rw [hvc_] at ul291_0
      have HL291_0 := Aside0.mk (show Kd.V (Kd.int .i64) 3 _ w.heap.size _ _ (rd_L2 t288 x7_1) from Kd.V_mk ul291_0 ge291_0)
      clear hva_ hvn_ hvc_ ge291_0 ul291_0
      clear hcc291 hce291
      have HR291_0 := Aside0.mk hi291_0
      have HC291_0 := Aside0.mk hl291_0
      clear hi291_0 hl291_0
      replace p291 := eq_true p291
      replace q291 := eq_true q291
      go_wp2_with (first | ((with_reducible refine gate_callee (f := 54) rfl ?_); refine zL (some 22) Try.func54 #[.slice (some ad291) t288.length co14, .slice A291_0 (rd_L2 t288 x7_1).length c291_0] ?_; (with_reducible refine (sandpileref28_Greatest.calls k1 _ _ t288 _ _ (rd_L2 t288 x7_1) false _ ?side1 ?side2 ?side3 ?side4 A9.out).mono ?_); (case side1 => exact zC (Kd.N_reads' HO_5.out).2.2); (case side2 => exact (Kd.N_reads' HO_5.out).2.1); (case side3 => repeat (first | exact (by repeat (first | (with_reducible exact HR291_0.out) | (with_reducible refine Kd.C_alloc ?_ _) | (with_reducible refine Kd.C_drewN ?_ _) | (with_reducible refine Kd.C_drew ?_) | exact HR291_0.out)) | (with_reducible refine Kd.C_alloc ?_ _) | (with_reducible refine Kd.C_drewN ?_ _) | (with_reducible refine Kd.C_drew ?_))); (case side4 => exact HC291_0.out); rintro e w' ⟨rfl, ⟨nd, rfl⟩⟩; refine ⟨_, rfl, ?_⟩))
      go_roundg k1
      case measure => have := HK1.out; omega
      case rel => exact ⟨(x6_1), (wrap64 (x7_1 + 1)), zT, H', ⟨by have := HK1.out; omega⟩, ⟨zN HO_5⟩, ⟨zN HO_6⟩, ⟨zK BK287⟩, ⟨zB⟩⟩
    ·rw [if_neg c8] at H
     exact absurd H (by simp)
   ·rw [if_neg c7] at H
    have c7b0 : decide (x7_1 < (t288.length : Int)) = false := decide_eq_false c7
    clear c7
    obtain rfl := Option.some.inj H
    obtain ⟨Ao15, co15, eo15⟩ := Kd.N_slice HO_5.out
    subst eo15
    go_wp2
    go_ret
    exact ⟨_, zE, by (with_reducible repeat (first | apply Kd.N_alloc | apply Kd.N_drewN | apply Kd.N_drew)); exact Kd.N_mono HO_6.out (fun _ hk => hk.1), zB⟩
def sandpilelaw28_SuperstableTops.f (k : Nat) (a0_0 : Int) (l0_1 : List (S66)) (a1 : Int) : Option (Bool) := (sandpileref08_FewTrees.f k a0_0 l0_1).bind fun t506 => (if t506 = true then ((superstable_Maximal.f k a0_0 l0_1 a1).bind fun bt508 => ((sandpileref19_Rooted.f k a0_0 l0_1 a1).bind fun t512 => (if t512 = 0 then ((sandpilelaw28_awake.f).bind fun t513 => (if t513 = true then (if bt508.2 = 0 then ((sandpileref28_Maximal.f k a0_0 l0_1 a1).bind fun t514 => ((sandpileref17_SameAll.f k bt508.1 t514).bind fun t517 => (some t517))) else (some false)) else (some false))) else ((sandpilelaw28_awake.f).bind fun t518 => (if t518 = true then (if (bt508.1.length : Int) = 0 then (some (bt508.2 == t512)) else (some false)) else (some false)))))) else ((sandpilelaw28_awake.f).bind fun t507 => (some t507)))
theorem sandpilelaw28_SuperstableTops.calls (k : Nat) (a0_0 : Int) (A0_1 : Option Addr) (c0_1 : Nat) (l0_1 : List (S66)) (a1 : Int) (r : Bool) (w : World) (hr0_1 : Kd.C k66 w A0_1 l0_1.length l0_1) (hc0_1 : l0_1.length ≤ c0_1) (h : sandpilelaw28_SuperstableTops.f k a0_0 l0_1 a1 = some r) :
  Calls Try.prog 4 #[.agg #[.int .i64 a0_0, .slice A0_1 l0_1.length c0_1], .int .i64 a1] w fun e w' => e = .returned (.bool r) ∧ Below w.heap.size w w' := by
 have hu24 := Try.underlying24
 have HR0_1 := Aside0.mk hr0_1
 have HC0_1 := Aside0.mk hc0_1
 clear hr0_1 hc0_1
 have HB := Aside0.mk (Below.refl w.heap.size w)
 have H : ((sandpileref08_FewTrees.f k a0_0 l0_1).bind fun t506 => (if t506 = true then ((superstable_Maximal.f k a0_0 l0_1 a1).bind fun bt508 => ((sandpileref19_Rooted.f k a0_0 l0_1 a1).bind fun t512 => (if t512 = 0 then ((sandpilelaw28_awake.f).bind fun t513 => (if t513 = true then (if bt508.2 = 0 then ((sandpileref28_Maximal.f k a0_0 l0_1 a1).bind fun t514 => ((sandpileref17_SameAll.f k bt508.1 t514).bind fun t517 => (some t517))) else (some false)) else (some false))) else ((sandpilelaw28_awake.f).bind fun t518 => (if t518 = true then (if (bt508.1.length : Int) = 0 then (some (bt508.2 == t512)) else (some false)) else (some false)))))) else ((sandpilelaw28_awake.f).bind fun t507 => (some t507)))) = some r := h
 clear h
 replace H := Option.bind_eq_some_iff.mp H
 obtain ⟨t506, A30, H⟩ := H
 replace H : (if t506 = true then ((superstable_Maximal.f k a0_0 l0_1 a1).bind fun bt508 => ((sandpileref19_Rooted.f k a0_0 l0_1 a1).bind fun t512 => (if t512 = 0 then ((sandpilelaw28_awake.f).bind fun t513 => (if t513 = true then (if bt508.2 = 0 then ((sandpileref28_Maximal.f k a0_0 l0_1 a1).bind fun t514 => ((sandpileref17_SameAll.f k bt508.1 t514).bind fun t517 => (some t517))) else (some false)) else (some false))) else ((sandpilelaw28_awake.f).bind fun t518 => (if t518 = true then (if (bt508.1.length : Int) = 0 then (some (bt508.2 == t512)) else (some false)) else (some false)))))) else ((sandpilelaw28_awake.f).bind fun t507 => (some t507))) = some r := H
 have A3 := Aside0.mk A30
 clear A30
 by_cases c4 : t506 = true
 ·subst c4
  have H1 : ((superstable_Maximal.f k a0_0 l0_1 a1).bind fun bt508 => ((sandpileref19_Rooted.f k a0_0 l0_1 a1).bind fun t512 => (if t512 = 0 then ((sandpilelaw28_awake.f).bind fun t513 => (if t513 = true then (if bt508.2 = 0 then ((sandpileref28_Maximal.f k a0_0 l0_1 a1).bind fun t514 => ((sandpileref17_SameAll.f k bt508.1 t514).bind fun t517 => (some t517))) else (some false)) else (some false))) else ((sandpilelaw28_awake.f).bind fun t518 => (if t518 = true then (if (bt508.1.length : Int) = 0 then (some (bt508.2 == t512)) else (some false)) else (some false)))))) = some r := by rw [if_pos rfl] at H; exact H
  clear H
  have H := H1
  clear H1
  replace H := Option.bind_eq_some_iff.mp H
  obtain ⟨⟨t508, t511⟩, A50, H⟩ := H
  replace H : ((sandpileref19_Rooted.f k a0_0 l0_1 a1).bind fun t512 => (if t512 = 0 then ((sandpilelaw28_awake.f).bind fun t513 => (if t513 = true then (if t511 = 0 then ((sandpileref28_Maximal.f k a0_0 l0_1 a1).bind fun t514 => ((sandpileref17_SameAll.f k t508 t514).bind fun t517 => (some t517))) else (some false)) else (some false))) else ((sandpilelaw28_awake.f).bind fun t518 => (if t518 = true then (if (t508.length : Int) = 0 then (some (t511 == t512)) else (some false)) else (some false))))) = some r := H
  have A5 := Aside0.mk A50
  clear A50
  replace H := Option.bind_eq_some_iff.mp H
  obtain ⟨t512, A60, H⟩ := H
  replace H : (if t512 = 0 then ((sandpilelaw28_awake.f).bind fun t513 => (if t513 = true then (if t511 = 0 then ((sandpileref28_Maximal.f k a0_0 l0_1 a1).bind fun t514 => ((sandpileref17_SameAll.f k t508 t514).bind fun t517 => (some t517))) else (some false)) else (some false))) else ((sandpilelaw28_awake.f).bind fun t518 => (if t518 = true then (if (t508.length : Int) = 0 then (some (t511 == t512)) else (some false)) else (some false)))) = some r := H
  have A6 := Aside0.mk A60
  clear A60
  by_cases c7 : t512 = 0
  ·rw [if_pos c7] at H
   have c7b0 : (t512 == 0) = true := beq_iff_eq.mpr c7
   have c7b1 : (t512 != 0) = false := bne_eq_false_iff_eq.mpr c7
   clear c7
   replace H := Option.bind_eq_some_iff.mp H
   obtain ⟨t513, A80, H⟩ := H
   replace H : (if t513 = true then (if t511 = 0 then ((sandpileref28_Maximal.f k a0_0 l0_1 a1).bind fun t514 => ((sandpileref17_SameAll.f k t508 t514).bind fun t517 => (some t517))) else (some false)) else (some false)) = some r := H
   have A8 := Aside0.mk A80
   clear A80
   by_cases c9 : t513 = true
   ·subst c9
    have H1 : (if t511 = 0 then ((sandpileref28_Maximal.f k a0_0 l0_1 a1).bind fun t514 => ((sandpileref17_SameAll.f k t508 t514).bind fun t517 => (some t517))) else (some false)) = some r := by rw [if_pos rfl] at H; exact H
    clear H
    have H := H1
    clear H1
    by_cases c10 : t511 = 0
    ·rw [if_pos c10] at H
     have c10b0 : (t511 == 0) = true := beq_iff_eq.mpr c10
     have c10b1 : (t511 != 0) = false := bne_eq_false_iff_eq.mpr c10
     clear c10
     replace H := Option.bind_eq_some_iff.mp H
     obtain ⟨t514, A110, H⟩ := H
     replace H : ((sandpileref17_SameAll.f k t508 t514).bind fun t517 => (some t517)) = some r := H
     have A11 := Aside0.mk A110
     clear A110
     replace H := Option.bind_eq_some_iff.mp H
     obtain ⟨t517, A120, H⟩ := H
     replace H : (some t517) = some r := H
     have A12 := Aside0.mk A120
     clear A120
     obtain rfl := Option.some.inj H
     go_enter Try.func4, Try.ntmps4
     go_wp2_with (first | ((with_reducible refine gate_dst (N := 2) rfl ?_); (try (refine gate_guard (by rfl) ?_; dsimp only)); refine zX 2 #[.int .i64 a0_0, .slice A0_1 l0_1.length c0_1] 24 ?_; intro gb505 hg w13 hbox hb; have BK505 := Aside0.mk (hbox); have GW505 := zG HB hg; have GE505 := zG HB hg; replace HB := zS HB hb; clear hb hbox hg; obtain ⟨hcz14_0, hcz14_1, hfz14_0, hfz14_1⟩ := zD2 BK505) | ((with_reducible refine gate_callee (f := 10) rfl ?_); refine zL (some 9) Try.func10 #[.agg #[.int .i64 a0_0, .slice A0_1 l0_1.length c0_1]] ?_; (with_reducible refine (sandpileref08_FewTrees.calls k a0_0 _ _ l0_1 true _ ?side1 ?side2 A3.out).mono ?_); (case side1 => exact Kd.C_below HR0_1.out zB); (case side2 => exact HC0_1.out); rintro e w15 ⟨rfl, hb⟩; refine ⟨_, rfl, ?_⟩; replace BK505 := zb BK505 hb; replace HB := zS HB hb; (try clear hb); obtain ⟨hcz16_0, hcz16_1, hfz16_0, hfz16_1⟩ := zD2 BK505) | ((with_reducible refine gate_callee (f := 20) rfl ?_); refine zL (some 15) Try.func20 #[.agg #[.int .i64 a0_0, .slice A0_1 l0_1.length c0_1], .int .i64 a1] ?_; (with_reducible refine (superstable_Maximal.calls k a0_0 _ _ l0_1 a1 t508 t511 _ ?side1 ?side2 A5.out).mono ?_); (case side1 => exact Kd.C_below HR0_1.out zB); (case side2 => exact HC0_1.out); rintro e w17 ⟨v509, rfl, ho0, hb⟩; refine ⟨_, rfl, ?_⟩; have HO510 := Aside0.mk (Kd.N_lower (Kd.N_mono (ok' := fun k_ => k_ ≠ gb505) ho0 (fun k_ hk_ => (Kd.freshB (zK BK505) k_ hk_))) (below_size zB)); replace BK505 := zb BK505 hb; replace HB := zS HB hb; (try clear hb); (try clear ho0); obtain ⟨hcz18_0, hcz18_1, hfz18_0, hfz18_1⟩ := zD2 BK505) | ((with_reducible refine gate_callee (f := 15) rfl ?_); refine zL (some 20) Try.func15 #[.agg #[.int .i64 a0_0, .slice A0_1 l0_1.length c0_1], .int .i64 a1] ?_; (with_reducible refine (sandpileref19_Rooted.calls k a0_0 _ _ l0_1 a1 t512 _ ?side1 ?side2 A6.out).mono ?_); (case side1 => exact Kd.C_below HR0_1.out zB); (case side2 => exact HC0_1.out); rintro e w19 ⟨rfl, hb⟩; refine ⟨_, rfl, ?_⟩; replace HO510 := zbN HO510 hb; replace BK505 := zb BK505 hb; replace HB := zS HB hb; (try clear hb)) | ((with_reducible refine gate_callee (f := 11) rfl ?_); refine zL (some 34) Try.func11 #[] ?_; (with_reducible refine (sandpilelaw28_awake.calls  true _ A8.out).mono ?_); rintro e w20 ⟨rfl, hb⟩; refine ⟨_, rfl, ?_⟩; replace HO510 := zbN HO510 hb; replace BK505 := zb BK505 hb; replace HB := zS HB hb; (try clear hb); obtain ⟨hcz21_0, hcz21_1, hfz21_0, hfz21_1⟩ := zD2 BK505) | (go_at_call 21; (with_reducible refine (sandpileref28_Maximal.calls k a0_0 _ _ l0_1 a1 t514 _ ?side1 ?side2 A11.out).mono ?_); (case side1 => exact Kd.C_below HR0_1.out zB); (case side2 => exact HC0_1.out); rintro e w22 ⟨v515, rfl, ho0, hb⟩; have HO516 := Aside0.mk (Kd.N_lower (Kd.N_mono (ok' := fun k_ => some k_ ≠ (v509 : Value).ownBlock ∧ k_ ≠ gb505) ho0 (fun k_ hk_ => ⟨(Kd.fresh' (Kd.N_lt (zN HO510)) k_ hk_), (Kd.freshB (zK BK505) k_ hk_)⟩)) (below_size zB)); replace HO510 := zeNN HO510 ho0 hb; replace BK505 := zb BK505 hb; replace HB := zS HB hb; (try clear hb); (try clear ho0); obtain ⟨Ao23, co23, eo23⟩ := Kd.N_slice HO510.out; subst eo23; obtain ⟨Ao24, co24, eo24⟩ := Kd.N_slice HO516.out; subst eo24) | (go_at_call 17; (with_reducible refine (sandpileref17_SameAll.calls k _ _ t508 _ _ t514 t517 _ ?side1 ?side2 ?side3 ?side4 A12.out).mono ?_); (case side1 => exact zC (Kd.N_reads' HO510.out).2.2); (case side2 => exact (Kd.N_reads' HO510.out).2.1); (case side3 => exact zC (Kd.N_reads' HO516.out).2.2); (case side4 => exact (Kd.N_reads' HO516.out).2.1); rintro e w' ⟨rfl, ⟨nd, rfl⟩⟩))
     go_ret
     exact ⟨zE, zB⟩
    ·rw [if_neg c10] at H
     have c10b0 : (t511 == 0) = false := beq_eq_false_iff_ne.mpr c10
     have c10b1 : (t511 != 0) = true := bne_iff_ne.mpr c10
     obtain rfl := Option.some.inj H
     go_enter Try.func4, Try.ntmps4
     go_wp2_with (first | ((with_reducible refine gate_dst (N := 2) rfl ?_); (try (refine gate_guard (by rfl) ?_; dsimp only)); refine zX 2 #[.int .i64 a0_0, .slice A0_1 l0_1.length c0_1] 24 ?_; intro gb505 hg w25 hbox hb; have BK505 := Aside0.mk (hbox); have GW505 := zG HB hg; have GE505 := zG HB hg; replace HB := zS HB hb; clear hb hbox hg; obtain ⟨hcz26_0, hcz26_1, hfz26_0, hfz26_1⟩ := zD2 BK505) | ((with_reducible refine gate_callee (f := 10) rfl ?_); refine zL (some 9) Try.func10 #[.agg #[.int .i64 a0_0, .slice A0_1 l0_1.length c0_1]] ?_; (with_reducible refine (sandpileref08_FewTrees.calls k a0_0 _ _ l0_1 true _ ?side1 ?side2 A3.out).mono ?_); (case side1 => exact Kd.C_below HR0_1.out zB); (case side2 => exact HC0_1.out); rintro e w27 ⟨rfl, hb⟩; refine ⟨_, rfl, ?_⟩; replace BK505 := zb BK505 hb; replace HB := zS HB hb; (try clear hb); obtain ⟨hcz28_0, hcz28_1, hfz28_0, hfz28_1⟩ := zD2 BK505) | ((with_reducible refine gate_callee (f := 20) rfl ?_); refine zL (some 15) Try.func20 #[.agg #[.int .i64 a0_0, .slice A0_1 l0_1.length c0_1], .int .i64 a1] ?_; (with_reducible refine (superstable_Maximal.calls k a0_0 _ _ l0_1 a1 t508 t511 _ ?side1 ?side2 A5.out).mono ?_); (case side1 => exact Kd.C_below HR0_1.out zB); (case side2 => exact HC0_1.out); rintro e w29 ⟨v509, rfl, ho0, hb⟩; refine ⟨_, rfl, ?_⟩; have HO510 := Aside0.mk (Kd.N_lower (Kd.N_mono (ok' := fun k_ => k_ ≠ gb505) ho0 (fun k_ hk_ => (Kd.freshB (zK BK505) k_ hk_))) (below_size zB)); replace BK505 := zb BK505 hb; replace HB := zS HB hb; (try clear hb); (try clear ho0); obtain ⟨hcz30_0, hcz30_1, hfz30_0, hfz30_1⟩ := zD2 BK505) | ((with_reducible refine gate_callee (f := 15) rfl ?_); refine zL (some 20) Try.func15 #[.agg #[.int .i64 a0_0, .slice A0_1 l0_1.length c0_1], .int .i64 a1] ?_; (with_reducible refine (sandpileref19_Rooted.calls k a0_0 _ _ l0_1 a1 t512 _ ?side1 ?side2 A6.out).mono ?_); (case side1 => exact Kd.C_below HR0_1.out zB); (case side2 => exact HC0_1.out); rintro e w31 ⟨rfl, hb⟩; refine ⟨_, rfl, ?_⟩; replace HO510 := zbN HO510 hb; replace BK505 := zb BK505 hb; replace HB := zS HB hb; (try clear hb)) | ((with_reducible refine gate_callee (f := 11) rfl ?_); refine zL (some 34) Try.func11 #[] ?_; (with_reducible refine (sandpilelaw28_awake.calls  true _ A8.out).mono ?_); rintro e w32 ⟨rfl, hb⟩; refine ⟨_, rfl, ?_⟩; replace HO510 := zbN HO510 hb; replace BK505 := zb BK505 hb; replace HB := zS HB hb; (try clear hb)))
     go_ret
     exact ⟨zE, zB⟩
   ·replace c9 := Bool.eq_false_iff.mpr c9
    subst c9
    have H1 : (some false) = some r := by rw [if_neg (show ¬ (false = true) by decide)] at H; exact H
    clear H
    have H := H1
    clear H1
    obtain rfl := Option.some.inj H
    go_enter Try.func4, Try.ntmps4
    go_wp2_with (first | ((with_reducible refine gate_dst (N := 2) rfl ?_); (try (refine gate_guard (by rfl) ?_; dsimp only)); refine zX 2 #[.int .i64 a0_0, .slice A0_1 l0_1.length c0_1] 24 ?_; intro gb505 hg w33 hbox hb; have BK505 := Aside0.mk (hbox); have GW505 := zG HB hg; have GE505 := zG HB hg; replace HB := zS HB hb; clear hb hbox hg; obtain ⟨hcz34_0, hcz34_1, hfz34_0, hfz34_1⟩ := zD2 BK505) | ((with_reducible refine gate_callee (f := 10) rfl ?_); refine zL (some 9) Try.func10 #[.agg #[.int .i64 a0_0, .slice A0_1 l0_1.length c0_1]] ?_; (with_reducible refine (sandpileref08_FewTrees.calls k a0_0 _ _ l0_1 true _ ?side1 ?side2 A3.out).mono ?_); (case side1 => exact Kd.C_below HR0_1.out zB); (case side2 => exact HC0_1.out); rintro e w35 ⟨rfl, hb⟩; refine ⟨_, rfl, ?_⟩; replace BK505 := zb BK505 hb; replace HB := zS HB hb; (try clear hb); obtain ⟨hcz36_0, hcz36_1, hfz36_0, hfz36_1⟩ := zD2 BK505) | ((with_reducible refine gate_callee (f := 20) rfl ?_); refine zL (some 15) Try.func20 #[.agg #[.int .i64 a0_0, .slice A0_1 l0_1.length c0_1], .int .i64 a1] ?_; (with_reducible refine (superstable_Maximal.calls k a0_0 _ _ l0_1 a1 t508 t511 _ ?side1 ?side2 A5.out).mono ?_); (case side1 => exact Kd.C_below HR0_1.out zB); (case side2 => exact HC0_1.out); rintro e w37 ⟨v509, rfl, ho0, hb⟩; refine ⟨_, rfl, ?_⟩; have HO510 := Aside0.mk (Kd.N_lower (Kd.N_mono (ok' := fun k_ => k_ ≠ gb505) ho0 (fun k_ hk_ => (Kd.freshB (zK BK505) k_ hk_))) (below_size zB)); replace BK505 := zb BK505 hb; replace HB := zS HB hb; (try clear hb); (try clear ho0); obtain ⟨hcz38_0, hcz38_1, hfz38_0, hfz38_1⟩ := zD2 BK505) | ((with_reducible refine gate_callee (f := 15) rfl ?_); refine zL (some 20) Try.func15 #[.agg #[.int .i64 a0_0, .slice A0_1 l0_1.length c0_1], .int .i64 a1] ?_; (with_reducible refine (sandpileref19_Rooted.calls k a0_0 _ _ l0_1 a1 t512 _ ?side1 ?side2 A6.out).mono ?_); (case side1 => exact Kd.C_below HR0_1.out zB); (case side2 => exact HC0_1.out); rintro e w39 ⟨rfl, hb⟩; refine ⟨_, rfl, ?_⟩; replace HO510 := zbN HO510 hb; replace BK505 := zb BK505 hb; replace HB := zS HB hb; (try clear hb)) | ((with_reducible refine gate_callee (f := 11) rfl ?_); refine zL (some 34) Try.func11 #[] ?_; (with_reducible refine (sandpilelaw28_awake.calls  false _ A8.out).mono ?_); rintro e w40 ⟨rfl, hb⟩; refine ⟨_, rfl, ?_⟩; replace HO510 := zbN HO510 hb; replace BK505 := zb BK505 hb; replace HB := zS HB hb; (try clear hb)))
    go_ret
    exact ⟨zE, zB⟩
  ·rw [if_neg c7] at H
   have c7b0 : (t512 == 0) = false := beq_eq_false_iff_ne.mpr c7
   have c7b1 : (t512 != 0) = true := bne_iff_ne.mpr c7
   replace H := Option.bind_eq_some_iff.mp H
   obtain ⟨t518, A410, H⟩ := H
   replace H : (if t518 = true then (if (t508.length : Int) = 0 then (some (t511 == t512)) else (some false)) else (some false)) = some r := H
   have A41 := Aside0.mk A410
   clear A410
   by_cases c42 : t518 = true
   ·subst c42
    have H1 : (if (t508.length : Int) = 0 then (some (t511 == t512)) else (some false)) = some r := by rw [if_pos rfl] at H; exact H
    clear H
    have H := H1
    clear H1
    by_cases c43 : (t508.length : Int) = 0
    ·rw [if_pos c43] at H
     have c43b0 : ((t508.length : Int) == 0) = true := beq_iff_eq.mpr c43
     have c43b1 : ((t508.length : Int) != 0) = false := bne_eq_false_iff_eq.mpr c43
     clear c43
     obtain rfl := Option.some.inj H
     go_enter Try.func4, Try.ntmps4
     go_wp2_with (first | ((with_reducible refine gate_dst (N := 2) rfl ?_); (try (refine gate_guard (by rfl) ?_; dsimp only)); refine zX 2 #[.int .i64 a0_0, .slice A0_1 l0_1.length c0_1] 24 ?_; intro gb505 hg w44 hbox hb; have BK505 := Aside0.mk (hbox); have GW505 := zG HB hg; have GE505 := zG HB hg; replace HB := zS HB hb; clear hb hbox hg; obtain ⟨hcz45_0, hcz45_1, hfz45_0, hfz45_1⟩ := zD2 BK505) | ((with_reducible refine gate_callee (f := 10) rfl ?_); refine zL (some 9) Try.func10 #[.agg #[.int .i64 a0_0, .slice A0_1 l0_1.length c0_1]] ?_; (with_reducible refine (sandpileref08_FewTrees.calls k a0_0 _ _ l0_1 true _ ?side1 ?side2 A3.out).mono ?_); (case side1 => exact Kd.C_below HR0_1.out zB); (case side2 => exact HC0_1.out); rintro e w46 ⟨rfl, hb⟩; refine ⟨_, rfl, ?_⟩; replace BK505 := zb BK505 hb; replace HB := zS HB hb; (try clear hb); obtain ⟨hcz47_0, hcz47_1, hfz47_0, hfz47_1⟩ := zD2 BK505) | ((with_reducible refine gate_callee (f := 20) rfl ?_); refine zL (some 15) Try.func20 #[.agg #[.int .i64 a0_0, .slice A0_1 l0_1.length c0_1], .int .i64 a1] ?_; (with_reducible refine (superstable_Maximal.calls k a0_0 _ _ l0_1 a1 t508 t511 _ ?side1 ?side2 A5.out).mono ?_); (case side1 => exact Kd.C_below HR0_1.out zB); (case side2 => exact HC0_1.out); rintro e w48 ⟨v509, rfl, ho0, hb⟩; refine ⟨_, rfl, ?_⟩; have HO510 := Aside0.mk (Kd.N_lower (Kd.N_mono (ok' := fun k_ => k_ ≠ gb505) ho0 (fun k_ hk_ => (Kd.freshB (zK BK505) k_ hk_))) (below_size zB)); replace BK505 := zb BK505 hb; replace HB := zS HB hb; (try clear hb); (try clear ho0); obtain ⟨hcz49_0, hcz49_1, hfz49_0, hfz49_1⟩ := zD2 BK505) | ((with_reducible refine gate_callee (f := 15) rfl ?_); refine zL (some 20) Try.func15 #[.agg #[.int .i64 a0_0, .slice A0_1 l0_1.length c0_1], .int .i64 a1] ?_; (with_reducible refine (sandpileref19_Rooted.calls k a0_0 _ _ l0_1 a1 t512 _ ?side1 ?side2 A6.out).mono ?_); (case side1 => exact Kd.C_below HR0_1.out zB); (case side2 => exact HC0_1.out); rintro e w50 ⟨rfl, hb⟩; refine ⟨_, rfl, ?_⟩; replace HO510 := zbN HO510 hb; replace BK505 := zb BK505 hb; replace HB := zS HB hb; (try clear hb)) | ((with_reducible refine gate_callee (f := 11) rfl ?_); refine zL (some 23) Try.func11 #[] ?_; (with_reducible refine (sandpilelaw28_awake.calls  true _ A41.out).mono ?_); rintro e w51 ⟨rfl, hb⟩; refine ⟨_, rfl, ?_⟩; replace HO510 := zbN HO510 hb; replace BK505 := zb BK505 hb; replace HB := zS HB hb; (try clear hb); obtain ⟨Ao52, co52, eo52⟩ := Kd.N_slice HO510.out; subst eo52))
     go_ret
     exact ⟨zE, zB⟩
    ·rw [if_neg c43] at H
     have c43b0 : ((t508.length : Int) == 0) = false := beq_eq_false_iff_ne.mpr c43
     have c43b1 : ((t508.length : Int) != 0) = true := bne_iff_ne.mpr c43
     have c43b2 : ¬ (t508 = []) := fun h_ => c43 (by rw [h_]; rfl)
     obtain rfl := Option.some.inj H
     go_enter Try.func4, Try.ntmps4
     go_wp2_with (first | ((with_reducible refine gate_dst (N := 2) rfl ?_); (try (refine gate_guard (by rfl) ?_; dsimp only)); refine zX 2 #[.int .i64 a0_0, .slice A0_1 l0_1.length c0_1] 24 ?_; intro gb505 hg w53 hbox hb; have BK505 := Aside0.mk (hbox); have GW505 := zG HB hg; have GE505 := zG HB hg; replace HB := zS HB hb; clear hb hbox hg; obtain ⟨hcz54_0, hcz54_1, hfz54_0, hfz54_1⟩ := zD2 BK505) | ((with_reducible refine gate_callee (f := 10) rfl ?_); refine zL (some 9) Try.func10 #[.agg #[.int .i64 a0_0, .slice A0_1 l0_1.length c0_1]] ?_; (with_reducible refine (sandpileref08_FewTrees.calls k a0_0 _ _ l0_1 true _ ?side1 ?side2 A3.out).mono ?_); (case side1 => exact Kd.C_below HR0_1.out zB); (case side2 => exact HC0_1.out); rintro e w55 ⟨rfl, hb⟩; refine ⟨_, rfl, ?_⟩; replace BK505 := zb BK505 hb; replace HB := zS HB hb; (try clear hb); obtain ⟨hcz56_0, hcz56_1, hfz56_0, hfz56_1⟩ := zD2 BK505) | ((with_reducible refine gate_callee (f := 20) rfl ?_); refine zL (some 15) Try.func20 #[.agg #[.int .i64 a0_0, .slice A0_1 l0_1.length c0_1], .int .i64 a1] ?_; (with_reducible refine (superstable_Maximal.calls k a0_0 _ _ l0_1 a1 t508 t511 _ ?side1 ?side2 A5.out).mono ?_); (case side1 => exact Kd.C_below HR0_1.out zB); (case side2 => exact HC0_1.out); rintro e w57 ⟨v509, rfl, ho0, hb⟩; refine ⟨_, rfl, ?_⟩; have HO510 := Aside0.mk (Kd.N_lower (Kd.N_mono (ok' := fun k_ => k_ ≠ gb505) ho0 (fun k_ hk_ => (Kd.freshB (zK BK505) k_ hk_))) (below_size zB)); replace BK505 := zb BK505 hb; replace HB := zS HB hb; (try clear hb); (try clear ho0); obtain ⟨hcz58_0, hcz58_1, hfz58_0, hfz58_1⟩ := zD2 BK505) | ((with_reducible refine gate_callee (f := 15) rfl ?_); refine zL (some 20) Try.func15 #[.agg #[.int .i64 a0_0, .slice A0_1 l0_1.length c0_1], .int .i64 a1] ?_; (with_reducible refine (sandpileref19_Rooted.calls k a0_0 _ _ l0_1 a1 t512 _ ?side1 ?side2 A6.out).mono ?_); (case side1 => exact Kd.C_below HR0_1.out zB); (case side2 => exact HC0_1.out); rintro e w59 ⟨rfl, hb⟩; refine ⟨_, rfl, ?_⟩; replace HO510 := zbN HO510 hb; replace BK505 := zb BK505 hb; replace HB := zS HB hb; (try clear hb)) | ((with_reducible refine gate_callee (f := 11) rfl ?_); refine zL (some 23) Try.func11 #[] ?_; (with_reducible refine (sandpilelaw28_awake.calls  true _ A41.out).mono ?_); rintro e w60 ⟨rfl, hb⟩; refine ⟨_, rfl, ?_⟩; replace HO510 := zbN HO510 hb; replace BK505 := zb BK505 hb; replace HB := zS HB hb; (try clear hb); obtain ⟨Ao61, co61, eo61⟩ := Kd.N_slice HO510.out; subst eo61))
     go_ret
     exact ⟨zE, zB⟩
   ·replace c42 := Bool.eq_false_iff.mpr c42
    subst c42
    have H1 : (some false) = some r := by rw [if_neg (show ¬ (false = true) by decide)] at H; exact H
    clear H
    have H := H1
    clear H1
    obtain rfl := Option.some.inj H
    go_enter Try.func4, Try.ntmps4
    go_wp2_with (first | ((with_reducible refine gate_dst (N := 2) rfl ?_); (try (refine gate_guard (by rfl) ?_; dsimp only)); refine zX 2 #[.int .i64 a0_0, .slice A0_1 l0_1.length c0_1] 24 ?_; intro gb505 hg w62 hbox hb; have BK505 := Aside0.mk (hbox); have GW505 := zG HB hg; have GE505 := zG HB hg; replace HB := zS HB hb; clear hb hbox hg; obtain ⟨hcz63_0, hcz63_1, hfz63_0, hfz63_1⟩ := zD2 BK505) | ((with_reducible refine gate_callee (f := 10) rfl ?_); refine zL (some 9) Try.func10 #[.agg #[.int .i64 a0_0, .slice A0_1 l0_1.length c0_1]] ?_; (with_reducible refine (sandpileref08_FewTrees.calls k a0_0 _ _ l0_1 true _ ?side1 ?side2 A3.out).mono ?_); (case side1 => exact Kd.C_below HR0_1.out zB); (case side2 => exact HC0_1.out); rintro e w64 ⟨rfl, hb⟩; refine ⟨_, rfl, ?_⟩; replace BK505 := zb BK505 hb; replace HB := zS HB hb; (try clear hb); obtain ⟨hcz65_0, hcz65_1, hfz65_0, hfz65_1⟩ := zD2 BK505) | ((with_reducible refine gate_callee (f := 20) rfl ?_); refine zL (some 15) Try.func20 #[.agg #[.int .i64 a0_0, .slice A0_1 l0_1.length c0_1], .int .i64 a1] ?_; (with_reducible refine (superstable_Maximal.calls k a0_0 _ _ l0_1 a1 t508 t511 _ ?side1 ?side2 A5.out).mono ?_); (case side1 => exact Kd.C_below HR0_1.out zB); (case side2 => exact HC0_1.out); rintro e w66 ⟨v509, rfl, ho0, hb⟩; refine ⟨_, rfl, ?_⟩; have HO510 := Aside0.mk (Kd.N_lower (Kd.N_mono (ok' := fun k_ => k_ ≠ gb505) ho0 (fun k_ hk_ => (Kd.freshB (zK BK505) k_ hk_))) (below_size zB)); replace BK505 := zb BK505 hb; replace HB := zS HB hb; (try clear hb); (try clear ho0); obtain ⟨hcz67_0, hcz67_1, hfz67_0, hfz67_1⟩ := zD2 BK505) | ((with_reducible refine gate_callee (f := 15) rfl ?_); refine zL (some 20) Try.func15 #[.agg #[.int .i64 a0_0, .slice A0_1 l0_1.length c0_1], .int .i64 a1] ?_; (with_reducible refine (sandpileref19_Rooted.calls k a0_0 _ _ l0_1 a1 t512 _ ?side1 ?side2 A6.out).mono ?_); (case side1 => exact Kd.C_below HR0_1.out zB); (case side2 => exact HC0_1.out); rintro e w68 ⟨rfl, hb⟩; refine ⟨_, rfl, ?_⟩; replace HO510 := zbN HO510 hb; replace BK505 := zb BK505 hb; replace HB := zS HB hb; (try clear hb)) | ((with_reducible refine gate_callee (f := 11) rfl ?_); refine zL (some 23) Try.func11 #[] ?_; (with_reducible refine (sandpilelaw28_awake.calls  false _ A41.out).mono ?_); rintro e w69 ⟨rfl, hb⟩; refine ⟨_, rfl, ?_⟩; replace HO510 := zbN HO510 hb; replace BK505 := zb BK505 hb; replace HB := zS HB hb; (try clear hb)))
    go_ret
    exact ⟨zE, zB⟩
 ·replace c4 := Bool.eq_false_iff.mpr c4
  subst c4
  have H1 : ((sandpilelaw28_awake.f).bind fun t507 => (some t507)) = some r := by rw [if_neg (show ¬ (false = true) by decide)] at H; exact H
  clear H
  have H := H1
  clear H1
  replace H := Option.bind_eq_some_iff.mp H
  obtain ⟨t507, A700, H⟩ := H
  replace H : (some t507) = some r := H
  have A70 := Aside0.mk A700
  clear A700
  obtain rfl := Option.some.inj H
  go_enter Try.func4, Try.ntmps4
  go_wp2_with (first | ((with_reducible refine gate_dst (N := 2) rfl ?_); (try (refine gate_guard (by rfl) ?_; dsimp only)); refine zX 2 #[.int .i64 a0_0, .slice A0_1 l0_1.length c0_1] 24 ?_; intro gb505 hg w71 hbox hb; have BK505 := Aside0.mk (hbox); have GW505 := zG HB hg; have GE505 := zG HB hg; replace HB := zS HB hb; clear hb hbox hg; obtain ⟨hcz72_0, hcz72_1, hfz72_0, hfz72_1⟩ := zD2 BK505) | ((with_reducible refine gate_callee (f := 10) rfl ?_); refine zL (some 9) Try.func10 #[.agg #[.int .i64 a0_0, .slice A0_1 l0_1.length c0_1]] ?_; (with_reducible refine (sandpileref08_FewTrees.calls k a0_0 _ _ l0_1 false _ ?side1 ?side2 A3.out).mono ?_); (case side1 => exact Kd.C_below HR0_1.out zB); (case side2 => exact HC0_1.out); rintro e w73 ⟨rfl, hb⟩; refine ⟨_, rfl, ?_⟩; replace BK505 := zb BK505 hb; replace HB := zS HB hb; (try clear hb)) | ((with_reducible refine gate_callee (f := 11) rfl ?_); refine zL (some 11) Try.func11 #[] ?_; (with_reducible refine (sandpilelaw28_awake.calls  t507 _ A70.out).mono ?_); rintro e w74 ⟨rfl, hb⟩; refine ⟨_, rfl, ?_⟩; replace BK505 := zb BK505 hb; replace HB := zS HB hb; (try clear hb)))
  go_ret
  exact ⟨zE, zB⟩
section
theorem ord_l0 (a b : List Int) (hl : a.length = b.length) (hb : a.length ≤ 1000) : ∀ (m i : Nat), i + m = a.length → (∀ j : Nat, j < i → rd a j = rd b j) → ∃ r : Int, Ev (fun k => sandpileref17_Order.l0 k a b i) r ∧ (r = 0 ↔ a = b)
 | 0, i, hi, he => by
  refine ⟨0, Ev.of_succ ?_, ⟨fun _ => rd_ext hl (fun v hv => he v (by omega)), fun _ => rfl⟩⟩
  simp only [sandpileref17_Order.l0, if_neg (show ¬ ((i : Int) < (a.length : Int)) by omega)]
  exact Ev.const _
 | m + 1, i, hi, he => by
  have hne : rd a i ≠ rd b i → a ≠ b := fun h e => h (by rw [e])
  by_cases h1 : rd a i < rd b i
  ·refine ⟨-1, Ev.of_succ ?_, ⟨fun h => absurd h (by decide), fun e => absurd e (hne (by omega))⟩⟩
   simp only [sandpileref17_Order.l0, if_pos (show (i : Int) < (a.length : Int) by omega), if_pos (show (0 : Int) ≤ (i : Int) by omega), if_pos (show (i : Int) < (b.length : Int) by omega), if_pos h1]
   exact Ev.const _
  ·by_cases h2 : rd a i > rd b i
   ·refine ⟨1, Ev.of_succ ?_, ⟨fun h => absurd h (by decide), fun e => absurd e (hne (by omega))⟩⟩
    simp only [sandpileref17_Order.l0, if_pos (show (i : Int) < (a.length : Int) by omega), if_pos (show (0 : Int) ≤ (i : Int) by omega), if_pos (show (i : Int) < (b.length : Int) by omega), if_neg h1, if_pos h2]
    exact Ev.const _
   ·obtain ⟨r, hr, hr2⟩ := ord_l0 a b hl hb m (i + 1) (by omega) (fun j hj => by
     by_cases e : j = i
     ·subst e; omega
     ·exact he j (by omega))
    refine ⟨r, Ev.of_succ ?_, hr2⟩
    simp only [sandpileref17_Order.l0, if_pos (show (i : Int) < (a.length : Int) by omega), if_pos (show (0 : Int) ≤ (i : Int) by omega), if_pos (show (i : Int) < (b.length : Int) by omega), if_neg h1, if_neg h2, wrap_succ (show i ≤ 1000000 by omega)]
    exact hr
theorem same17_ev (a b : List Int) (hl : a.length = b.length) (hb : a.length ≤ 1000) : Ev (fun k => sandpileref17_Same.f k a b) (decide (a = b)) := by
 obtain ⟨r, h1, h2⟩ := ord_l0 a b hl hb a.length 0 (by omega) (fun j hj => by omega)
 unfold sandpileref17_Same.f
 simp only [if_pos (show (a.length : Int) = (b.length : Int) by omega)]
 have : (decide (a = b)) = (r == 0) := by
  by_cases e : a = b
  ·rw [decide_eq_true e, h2.2 e]; rfl
  ·rw [decide_eq_false e]
   have : r ≠ 0 := fun h => e (h2.1 h)
   simpa using this
 rw [this]
 exact Ev.bind (a := r) (by unfold sandpileref17_Order.f; exact h1) (Ev.const _)
def aboveR (c x : List Int) : Nat → Nat → Bool
 | 0, _ => true
 | m + 1, v => decide (rd x v ≥ rd c v) && aboveR c x m (v + 1)
theorem aboveR_iff (c x : List Int) : ∀ m v : Nat, aboveR c x m v = true ↔ ∀ u : Nat, v ≤ u → u < v + m → rd c u ≤ rd x u
 | 0, v => ⟨fun _ u h1 h2 => by omega, fun _ => rfl⟩
 | m + 1, v => by
  rw [aboveR, Bool.and_eq_true, aboveR_iff c x m (v + 1), decide_eq_true_eq]
  constructor
  ·rintro ⟨h1, h2⟩ u hu1 hu2
   by_cases e : u = v
   ·subst e; exact h1
   ·exact h2 u (by omega) (by omega)
  ·intro h
   exact ⟨h v (by omega) (by omega), fun u hu1 hu2 => h u (by omega) (by omega)⟩
theorem great_l1 (l : List (List Int)) (c : List Int) (i : Nat) (hi : i < l.length) (hi2 : i ≤ 100000) (hl : (rd_L2 l i).length = c.length) (hc : c.length ≤ 1000) {r : Bool} (hr : Ev (fun k => sandpileref28_Greatest.l0 k l c ((i + 1 : Nat) : Int)) r) :
  ∀ (m v : Nat) (ab : Bool), v + m = c.length → Ev (fun k => sandpileref28_Greatest.l1 k l c i ab v) (if (ab && aboveR c (rd_L2 l i) m v) = true ∧ rd_L2 l i ≠ c then false else r)
 | 0, v, ab, hv => by
  refine Ev.of_succ ?_
  simp only [sandpileref28_Greatest.l1, if_neg (show ¬ (v : Int) < c.length by omega), aboveR, Bool.and_true, if_pos (show (0 : Int) ≤ i by omega), if_pos (show (i : Int) < l.length by omega), wrap_succ (show i ≤ 1000000 by omega)]
  cases ab with
  | true =>
   simp only [if_true, true_and]
   refine Ev.bind (same17_ev _ _ hl (by omega)) ?_
   by_cases e : rd_L2 l i = c
   ·simp only [e, decide_true, if_true, ne_eq, not_true_eq_false, if_false]; exact hr
   ·simp only [e, decide_false, ne_eq, not_false_eq_true, if_true, Bool.false_eq_true, if_false]; exact Ev.const _
  | false =>
   simp only [Bool.false_eq_true, if_false, false_and]; exact hr
 | m + 1, v, ab, hv => by
  have ih := fun ab => great_l1 l c i hi hi2 hl hc hr m (v + 1) ab (by omega)
  refine Ev.of_succ ?_
  simp only [sandpileref28_Greatest.l1, if_pos (show (v : Int) < c.length by omega), aboveR, if_pos (show (0 : Int) ≤ i by omega), if_pos (show (i : Int) < l.length by omega), if_pos (show (0 : Int) ≤ v by omega), if_pos (show (v : Int) < (rd_L2 l i).length by omega), wrap_succ (show v ≤ 1000000 by omega)]
  cases ab with
  | true =>
   simp only [if_true, Bool.true_and]
   exact ih _
  | false =>
   have := ih false
   simp only [Bool.false_and, Bool.false_eq_true, if_false, false_and] at this ⊢
   exact this
def greatB (l : List (List Int)) (c : List Int) : Bool := l.all fun x => !(aboveR c x c.length 0) || decide (x = c)
theorem great_l0 (l : List (List Int)) (c : List Int) (hl : l.length ≤ 100000) (hc : c.length ≤ 1000) (hx : ∀ i : Nat, i < l.length → (rd_L2 l i).length = c.length) : ∀ (m i : Nat), i + m = l.length → Ev (fun k => sandpileref28_Greatest.l0 k l c i) ((l.drop i).all fun x => !(aboveR c x c.length 0) || decide (x = c))
 | 0, i, hi => by
  refine Ev.of_succ ?_
  simp only [sandpileref28_Greatest.l0, if_neg (show ¬ (i : Int) < l.length by omega), List.drop_of_length_le (show l.length ≤ i by omega), List.all_nil]
  exact Ev.const _
 | m + 1, i, hi => by
  have ih := great_l0 l c hl hc hx m (i + 1) (by omega)
  refine Ev.of_succ ?_
  have h1 := great_l1 l c i (by omega) (by omega) (hx i (by omega)) hc ih c.length 0 true (by omega)
  simp only [sandpileref28_Greatest.l0, if_pos (show (i : Int) < l.length by omega)]
  rw [rd_L2_drop (show i < l.length by omega), List.all_cons]
  simp only [Bool.true_and] at h1
  cases ha : aboveR c (rd_L2 l i) c.length 0 with
  | false => simp only [ha, Bool.false_eq_true, false_and, if_false] at h1; simpa using h1
  | true =>
   by_cases e : rd_L2 l i = c
   ·simp only [ha, e, ne_eq, not_true_eq_false, and_false, if_false] at h1; simpa [e] using h1
   ·simp only [ha, e, ne_eq, not_false_eq_true, and_self, if_true] at h1; simpa [e] using h1
theorem great_ev (l : List (List Int)) (c : List Int) (hl : l.length ≤ 100000) (hc : c.length ≤ 1000) (hx : ∀ i : Nat, i < l.length → (rd_L2 l i).length = c.length) : Ev (fun k => sandpileref28_Greatest.f k l c) (greatB l c) := by
 unfold sandpileref28_Greatest.f
 have := great_l0 l c hl hc hx l.length 0 (by omega)
 simpa [greatB] using this
theorem refMax_l0 (n : Nat) (hn : n ≤ 1000) (l : List (List Int)) (hl : l.length ≤ 100000) (hx : ∀ i : Nat, i < l.length → (rd_L2 l i).length = n) : ∀ (m i : Nat) (o : List (List Int)), i + m = l.length → o.length ≤ i → Ev (fun k => sandpileref28_Maximal.l0 k l o i) (o ++ (l.drop i).filter (greatB l))
 | 0, i, o, hi, ho => by
  refine Ev.of_succ ?_
  simp only [sandpileref28_Maximal.l0, if_neg (show ¬ (i : Int) < l.length by omega), List.drop_of_length_le (show l.length ≤ i by omega), List.filter_nil, List.append_nil]
  exact Ev.const _
 | m + 1, i, o, hi, ho => by
  refine Ev.of_succ ?_
  simp only [sandpileref28_Maximal.l0, if_pos (show (i : Int) < l.length by omega), if_pos (show (0 : Int) ≤ i by omega), wrap_succ (show i ≤ 1000000 by omega), if_pos (show o.length < 5864062014805 by omega)]
  rw [rd_L2_drop (show i < l.length by omega)]
  refine Ev.bind (great_ev l (rd_L2 l i) hl (by rw [hx i (by omega)]; omega) (fun j hj => by rw [hx j hj, hx i (by omega)])) ?_
  cases hg : greatB l (rd_L2 l i) with
  | true =>
   simp only [if_true]
   rw [List.filter_cons_of_pos hg]
   have := refMax_l0 n hn l hl hx m (i + 1) (o ++ [rd_L2 l i]) (by omega) (by simp; omega)
   simpa using this
  | false =>
   simp only [Bool.false_eq_true, if_false]
   rw [List.filter_cons_of_neg (by simp [hg])]
   exact refMax_l0 n hn l hl hx m (i + 1) o (by omega) (by omega)
theorem rd_L2_in {l : List (List Int)} {i : Nat} (h : i < l.length) : rd_L2 l i ∈ l := by
 have e : rd_L2 l i = l[i] := by simp [rd_L2, List.getD_eq_getElem?_getD, List.getElem?_eq_getElem h]
 rw [e]; exact List.getElem_mem h
namespace Small
variable {n q : Nat} {E : List S66}
theorem greatB_iff (h : Small n q E) {c : List Int} (hc : c ∈ confs n E q) : greatB (confs n E q) c = decide (sumOf c = genE n E) := by
 have hl := ((h.mem_confs c).1 hc).1
 have key : greatB (confs n E q) c = true ↔ sumOf c = genE n E := by
  rw [← h.greatest_iff hc]
  unfold greatB
  rw [List.all_eq_true]
  constructor
  ·intro H x hx hle
   have h1 := H x hx
   have h2 : aboveR c x c.length 0 = true := (aboveR_iff c x c.length 0).2 fun u _ hu => hle u (by omega)
   rw [h2] at h1
   simpa using h1
  ·intro H x hx
   cases ha : aboveR c x c.length 0 with
   | false => rfl
   | true => simpa using H x hx (fun u hu => (aboveR_iff c x c.length 0).1 ha u (by omega) (by omega))
 by_cases e : sumOf c = genE n E
 ·rw [decide_eq_true e]; exact key.2 e
 ·rw [decide_eq_false e]
  cases hg : greatB (confs n E q) c with
  | false => rfl
  | true => exact absurd (key.1 hg) e
theorem refMax_ev (h : Small n q E) : Ev (fun k => sandpileref28_Maximal.f k n E q) (Small.topsOf n q E) := by
 unfold sandpileref28_Maximal.f
 have ha := h.all_ev
 rw [← h.confs_eq] at ha
 refine Ev.bind ha ?_
 have hcl := h.confs_le
 have := refMax_l0 n (by have := h.n5; omega) (confs n E q) (by omega) (fun i hi => ((h.mem_confs _).1 (rd_L2_in hi)).1) (confs n E q).length 0 [] (by omega) (by simp)
 rw [List.drop_zero, List.nil_append, List.filter_congr (fun c hc => h.greatB_iff hc)] at this
 exact this
end Small
theorem max_bad_ev {N : Int} {E : List S66} {q : Int} (hE : E.length ≤ 1000) (h : rootG N E q ≠ 0) : Ev (fun k => superstable_Maximal.f k N E q) (([] : List (List Int)), rootG N E q) := by
 unfold superstable_Maximal.f
 refine Ev.bind (all_bad_ev hE h) ?_
 simp only [if_neg h]
 exact Ev.const _
theorem tops_ev (N : Int) (E : List S66) (q : Int) : Ev (fun k => sandpilelaw28_SuperstableTops.f k N E q) true := by
 unfold sandpilelaw28_SuperstableTops.f
 refine Ev.bind (few_ev N E) ?_
 by_cases hf : fewB N E = true
 ·have hl := few_len hf
  simp only [hf, if_true]
  by_cases hr : rootG N E q = 0
  ·obtain ⟨n, q', rfl, rfl, h⟩ := root_small hf hr
   have hcl := h.confs_le
   have htl : (Small.topsOf n q' E).length ≤ (confs n E q').length := List.length_filter_le _ _
   refine Ev.bind (h.maximal_ev hr) ?_
   have h19 := rooted19_ev n E q' (by omega)
   rw [hr] at h19
   refine Ev.bind h19 ?_
   simp only [if_true, sandpilelaw28_awake.f, Option.bind_some]
   refine Ev.bind h.refMax_ev ?_
   refine Ev.bind (sameAll_ev (Small.topsOf n q' E) (by omega) (fun i hi => by
    have h1 : rd_L2 (Small.topsOf n q' E) i ∈ confs n E q' := (List.mem_filter.1 (rd_L2_in hi)).1
    have h2 := ((h.mem_confs _).1 h1).1
    have h3 := h.n5
    rw [h2]; omega)) (Ev.const _)
  ·refine Ev.bind (max_bad_ev (by omega) hr) ?_
   refine Ev.bind (rooted19_ev N E q (by omega)) ?_
   simp only [if_neg hr, sandpilelaw28_awake.f, Option.bind_some, if_true, List.length_nil, Int.natCast_zero, Int.ofNat_zero, beq_self_eq_true]
   exact Ev.const _
 ·simp only [if_neg hf, sandpilelaw28_awake.f, Option.bind_some]
  exact Ev.const _
theorem tops_pure (N : Int) (E : List S66) (q : Int) : ∃ k, sandpilelaw28_SuperstableTops.f k N E q = some true := (tops_ev N E q).get
end
end Go.Proofs.Ytffdiakgjakngaa.P
