/- SuperstableLists answers true whatever the input (text 6 of 15): own walks and plain laws; no conditions. -/
import Derived.Test.YtffdiakgjakngaaLists5
namespace Go.Proofs.Ytffdiakgjakngaa.P
open Go.RowKit Go.Proofs.YtffdiakgjakngaaW.PrintWords Go.Proofs.YtffdiakgjakngaaW.PrintLast Go.Proofs.YtffdiakgjakngaaW.PrintMore
set_option linter.unusedVariables false
set_option linter.unusedSimpArgs false
def stabilize_rooted.f (k : Nat) (a0_0 : Int) (l0_1 : List (S66)) (a1 : Int) : Option (Int) := (connect_Connected.f k a0_0 l0_1).bind fun bt117 => (if bt117.2 = 0 then (if bt117.1 = true then (if a1 < 0 then (some 2) else (if a1 ≥ a0_0 then (some 2) else (some 0))) else (some 13)) else (some bt117.2))
theorem stabilize_rooted.mono : ∀ a0 a1 a2 k, LeO (stabilize_rooted.f k a0 a1 a2) (stabilize_rooted.f (k + 1) a0 a1 a2) := by
  intro a0 a1 a2 k
  unfold stabilize_rooted.f
  repeat' first
      | (with_reducible exact connect_Connected.mono _ _ _)
      | (with_reducible exact LeO.refl _)
      | (with_reducible exact LeO.none _)
      | (with_reducible refine LeO.ite ?_ ?_)
      | (with_reducible refine LeO.bind ?_ (fun _ => ?_))
      | exact connect_Connected.mono _ _ _
      | exact LeO.none _
      | refine LeO.ite ?_ ?_
      | refine LeO.bind ?_ (fun _ => ?_)
set_option maxHeartbeats 8000000 in
set_option maxRecDepth 100000 in
theorem stabilize_rooted.calls (k : Nat) (a0_0 : Int) (A0_1 : Option Addr) (c0_1 : Nat) (l0_1 : List (S66)) (a1 : Int) (r : Int) (w : World) (hr0_1 : Kd.C k66 w A0_1 l0_1.length l0_1) (hc0_1 : l0_1.length ≤ c0_1) (h : stabilize_rooted.f k a0_0 l0_1 a1 = some r) :
    Calls Try.prog 91 #[.agg #[.int .i64 a0_0, .slice A0_1 l0_1.length c0_1], .int .i64 a1] w fun e w' => e = .returned (.int .i64 r) ∧ Below w.heap.size w w' := by
  have hu24 := Try.underlying24
  have HR0_1 := Aside0.mk hr0_1
  have HC0_1 := Aside0.mk hc0_1
  clear hr0_1 hc0_1
  have HB := Aside0.mk (Below.refl w.heap.size w)
  have H : ((connect_Connected.f k a0_0 l0_1).bind fun bt117 => (if bt117.2 = 0 then (if bt117.1 = true then (if a1 < 0 then (some 2) else (if a1 ≥ a0_0 then (some 2) else (some 0))) else (some 13)) else (some bt117.2))) = some r := h
  clear h
  replace H := Option.bind_eq_some_iff.mp H
  obtain ⟨⟨t117, t118⟩, A30, H⟩ := H
  replace H : (if t118 = 0 then (if t117 = true then (if a1 < 0 then (some 2) else (if a1 ≥ a0_0 then (some 2) else (some 0))) else (some 13)) else (some t118)) = some r := H
  have A3 := Aside0.mk A30
  clear A30
  by_cases c4 : t118 = 0
  · rw [if_pos c4] at H
    have c4b0 : (t118 == 0) = true := beq_iff_eq.mpr c4
    have c4b1 : (t118 != 0) = false := bne_eq_false_iff_eq.mpr c4
    clear c4
    by_cases c5 : t117 = true
    · subst c5
      have H1 : (if a1 < 0 then (some 2) else (if a1 ≥ a0_0 then (some 2) else (some 0))) = some r := by rw [if_pos rfl] at H; exact H
      clear H
      have H := H1
      clear H1
      by_cases c6 : a1 < 0
      · rw [if_pos c6] at H
        have c6b0 : decide (a1 < 0) = true := decide_eq_true c6
        clear c6
        obtain rfl := Option.some.inj H
        go_enter Try.func91, Try.ntmps91
        go_wp2_with (first | ((with_reducible refine gate_dst (N := 2) rfl ?_); refine box_event ?hg (N := 2) ?hd (cs := #[.int .i64 a0_0, .slice A0_1 l0_1.length c0_1]) (t := 24) ?hr ?_; (case hd => rfl); (case hg => rfl); (case hr => first | (go_simp; done) | (go_simp; rfl)); intro gb116 hg w7 hbox hb; have BK116 := Aside0.mk (hbox); have GW116 := zG HB hg; have GE116 := zG HB hg; replace HB := zS HB hb; clear hb hbox hg; obtain ⟨hcz8_0, hcz8_1, hfz8_0, hfz8_1⟩ := zD2 BK116) | ((with_reducible refine gate_callee (f := 104) rfl ?_); refine zL (some 9) Try.func104 #[.agg #[.int .i64 a0_0, .slice A0_1 l0_1.length c0_1]] ?_; (with_reducible refine (connect_Connected.calls k a0_0 _ _ l0_1 true t118 _ ?side1 ?side2 A3.out).mono ?_); (case side1 => exact Kd.C_below HR0_1.out zB); (case side2 => exact HC0_1.out); rintro e w9 ⟨rfl, hb⟩; refine ⟨_, rfl, ?_⟩; replace BK116 := Aside0.mk (blk_below (zK BK116) hb); replace HB := zS HB hb; (try clear hb)))
        go_ret
        exact ⟨zE, zB⟩
      · rw [if_neg c6] at H
        have c6b0 : decide (a1 < 0) = false := decide_eq_false c6
        clear c6
        by_cases c10 : a1 ≥ a0_0
        · rw [if_pos c10] at H
          have c10b0 : decide (a0_0 ≤ a1) = true := decide_eq_true c10
          clear c10
          obtain rfl := Option.some.inj H
          go_enter Try.func91, Try.ntmps91
          go_wp2_with (first | ((with_reducible refine gate_dst (N := 2) rfl ?_); refine box_event ?hg (N := 2) ?hd (cs := #[.int .i64 a0_0, .slice A0_1 l0_1.length c0_1]) (t := 24) ?hr ?_; (case hd => rfl); (case hg => rfl); (case hr => first | (go_simp; done) | (go_simp; rfl)); intro gb116 hg w11 hbox hb; have BK116 := Aside0.mk (hbox); have GW116 := zG HB hg; have GE116 := zG HB hg; replace HB := zS HB hb; clear hb hbox hg; obtain ⟨hcz12_0, hcz12_1, hfz12_0, hfz12_1⟩ := zD2 BK116) | ((with_reducible refine gate_callee (f := 104) rfl ?_); refine zL (some 9) Try.func104 #[.agg #[.int .i64 a0_0, .slice A0_1 l0_1.length c0_1]] ?_; (with_reducible refine (connect_Connected.calls k a0_0 _ _ l0_1 true t118 _ ?side1 ?side2 A3.out).mono ?_); (case side1 => exact Kd.C_below HR0_1.out zB); (case side2 => exact HC0_1.out); rintro e w13 ⟨rfl, hb⟩; refine ⟨_, rfl, ?_⟩; replace BK116 := Aside0.mk (blk_below (zK BK116) hb); replace HB := zS HB hb; (try clear hb); obtain ⟨hcz14_0, hcz14_1, hfz14_0, hfz14_1⟩ := zD2 BK116))
          go_ret
          exact ⟨zE, zB⟩
        · rw [if_neg c10] at H
          have c10b0 : decide (a0_0 ≤ a1) = false := decide_eq_false c10
          clear c10
          obtain rfl := Option.some.inj H
          go_enter Try.func91, Try.ntmps91
          go_wp2_with (first | ((with_reducible refine gate_dst (N := 2) rfl ?_); refine box_event ?hg (N := 2) ?hd (cs := #[.int .i64 a0_0, .slice A0_1 l0_1.length c0_1]) (t := 24) ?hr ?_; (case hd => rfl); (case hg => rfl); (case hr => first | (go_simp; done) | (go_simp; rfl)); intro gb116 hg w15 hbox hb; have BK116 := Aside0.mk (hbox); have GW116 := zG HB hg; have GE116 := zG HB hg; replace HB := zS HB hb; clear hb hbox hg; obtain ⟨hcz16_0, hcz16_1, hfz16_0, hfz16_1⟩ := zD2 BK116) | ((with_reducible refine gate_callee (f := 104) rfl ?_); refine zL (some 9) Try.func104 #[.agg #[.int .i64 a0_0, .slice A0_1 l0_1.length c0_1]] ?_; (with_reducible refine (connect_Connected.calls k a0_0 _ _ l0_1 true t118 _ ?side1 ?side2 A3.out).mono ?_); (case side1 => exact Kd.C_below HR0_1.out zB); (case side2 => exact HC0_1.out); rintro e w17 ⟨rfl, hb⟩; refine ⟨_, rfl, ?_⟩; replace BK116 := Aside0.mk (blk_below (zK BK116) hb); replace HB := zS HB hb; (try clear hb); obtain ⟨hcz18_0, hcz18_1, hfz18_0, hfz18_1⟩ := zD2 BK116))
          go_ret
          exact ⟨zE, zB⟩
    · replace c5 := Bool.eq_false_iff.mpr c5
      subst c5
      have H1 : (some 13) = some r := by rw [if_neg (show ¬ (false = true) by decide)] at H; exact H
      clear H
      have H := H1
      clear H1
      obtain rfl := Option.some.inj H
      go_enter Try.func91, Try.ntmps91
      go_wp2_with (first | ((with_reducible refine gate_dst (N := 2) rfl ?_); refine box_event ?hg (N := 2) ?hd (cs := #[.int .i64 a0_0, .slice A0_1 l0_1.length c0_1]) (t := 24) ?hr ?_; (case hd => rfl); (case hg => rfl); (case hr => first | (go_simp; done) | (go_simp; rfl)); intro gb116 hg w19 hbox hb; have BK116 := Aside0.mk (hbox); have GW116 := zG HB hg; have GE116 := zG HB hg; replace HB := zS HB hb; clear hb hbox hg; obtain ⟨hcz20_0, hcz20_1, hfz20_0, hfz20_1⟩ := zD2 BK116) | ((with_reducible refine gate_callee (f := 104) rfl ?_); refine zL (some 9) Try.func104 #[.agg #[.int .i64 a0_0, .slice A0_1 l0_1.length c0_1]] ?_; (with_reducible refine (connect_Connected.calls k a0_0 _ _ l0_1 false t118 _ ?side1 ?side2 A3.out).mono ?_); (case side1 => exact Kd.C_below HR0_1.out zB); (case side2 => exact HC0_1.out); rintro e w21 ⟨rfl, hb⟩; refine ⟨_, rfl, ?_⟩; replace BK116 := Aside0.mk (blk_below (zK BK116) hb); replace HB := zS HB hb; (try clear hb)))
      go_ret
      exact ⟨zE, zB⟩
  · rw [if_neg c4] at H
    have c4b0 : (t118 == 0) = false := beq_eq_false_iff_ne.mpr c4
    have c4b1 : (t118 != 0) = true := bne_iff_ne.mpr c4
    obtain rfl := Option.some.inj H
    go_enter Try.func91, Try.ntmps91
    go_wp2_with (first | ((with_reducible refine gate_dst (N := 2) rfl ?_); refine box_event ?hg (N := 2) ?hd (cs := #[.int .i64 a0_0, .slice A0_1 l0_1.length c0_1]) (t := 24) ?hr ?_; (case hd => rfl); (case hg => rfl); (case hr => first | (go_simp; done) | (go_simp; rfl)); intro gb116 hg w22 hbox hb; have BK116 := Aside0.mk (hbox); have GW116 := zG HB hg; have GE116 := zG HB hg; replace HB := zS HB hb; clear hb hbox hg; obtain ⟨hcz23_0, hcz23_1, hfz23_0, hfz23_1⟩ := zD2 BK116) | ((with_reducible refine gate_callee (f := 104) rfl ?_); refine zL (some 9) Try.func104 #[.agg #[.int .i64 a0_0, .slice A0_1 l0_1.length c0_1]] ?_; (with_reducible refine (connect_Connected.calls k a0_0 _ _ l0_1 t117 t118 _ ?side1 ?side2 A3.out).mono ?_); (case side1 => exact Kd.C_below HR0_1.out zB); (case side2 => exact HC0_1.out); rintro e w24 ⟨rfl, hb⟩; refine ⟨_, rfl, ?_⟩; replace BK116 := Aside0.mk (blk_below (zK BK116) hb); replace HB := zS HB hb; (try clear hb)))
    go_ret
    exact ⟨zE, zB⟩
def chips_vertices.f (a0 : Int) : Option (Int) := if a0 < 1 then (some 2) else (if a0 > 12 then (some 2) else (some 0))
set_option maxHeartbeats 8000000 in
set_option maxRecDepth 100000 in
theorem chips_vertices.calls (a0 : Int) (r : Int) (w : World) (h : chips_vertices.f a0 = some r) :
    Calls Try.prog 109 #[.int .i64 a0] w fun e w' => e = .returned (.int .i64 r) ∧ Drawn0 w w' := by
  have H : (if a0 < 1 then (some 2) else (if a0 > 12 then (some 2) else (some 0))) = some r := h
  clear h
  by_cases c2 : a0 < 1
  · rw [if_pos c2] at H
    have c2b0 : decide (a0 < 1) = true := decide_eq_true c2
    clear c2
    obtain rfl := Option.some.inj H
    go_enter Try.func109, Try.ntmps109
    go_wp2
    go_ret
    exact ⟨zT, by repeat (first | exact Drawn0.refl _ | apply Drawn0.step)⟩
  · rw [if_neg c2] at H
    have c2b0 : decide (a0 < 1) = false := decide_eq_false c2
    clear c2
    by_cases c3 : a0 > 12
    · rw [if_pos c3] at H
      have c3b0 : decide (12 < a0) = true := decide_eq_true c3
      clear c3
      obtain rfl := Option.some.inj H
      go_enter Try.func109, Try.ntmps109
      go_wp2
      go_ret
      exact ⟨zT, by repeat (first | exact Drawn0.refl _ | apply Drawn0.step)⟩
    · rw [if_neg c3] at H
      have c3b0 : decide (12 < a0) = false := decide_eq_false c3
      clear c3
      obtain rfl := Option.some.inj H
      go_enter Try.func109, Try.ntmps109
      go_wp2
      go_ret
      exact ⟨zT, by repeat (first | exact Drawn0.refl _ | apply Drawn0.step)⟩
def chips_within.f (a0 : Int) : Option (Bool) := if a0 ≥ (-1048576) then (some (decide (a0 ≤ 1048576))) else (some false)
set_option maxHeartbeats 8000000 in
set_option maxRecDepth 100000 in
theorem chips_within.calls (a0 : Int) (r : Bool) (w : World) (h : chips_within.f a0 = some r) :
    Calls Try.prog 110 #[.int .i64 a0] w fun e w' => e = .returned (.bool r) ∧ Drawn0 w w' := by
  have H : (if a0 ≥ (-1048576) then (some (decide (a0 ≤ 1048576))) else (some false)) = some r := h
  clear h
  by_cases c2 : a0 ≥ (-1048576)
  · rw [if_pos c2] at H
    have c2b0 : decide ((-1048576) ≤ a0) = true := decide_eq_true c2
    clear c2
    obtain rfl := Option.some.inj H
    go_enter Try.func110, Try.ntmps110
    go_wp2
    go_ret
    exact ⟨zT, by repeat (first | exact Drawn0.refl _ | apply Drawn0.step)⟩
  · rw [if_neg c2] at H
    have c2b0 : decide ((-1048576) ≤ a0) = false := decide_eq_false c2
    clear c2
    obtain rfl := Option.some.inj H
    go_enter Try.func110, Try.ntmps110
    go_wp2
    go_ret
    exact ⟨zT, by repeat (first | exact Drawn0.refl _ | apply Drawn0.step)⟩
def chips_Check.l0 : Nat → List Int → Int → Int → Option (Int)
  | 0, _, _, _ => none
  | k + 1, x17, x18, x19 => if x19 < x18 then (if 0 ≤ x19 then (if x19 < (x17.length : Int) then ((chips_within.f (rd x17 x19)).bind fun t126 => (if t126 = true then (chips_Check.l0 k x17 x18 (wrap64 (x19 + 1))) else (some 2))) else (none)) else (none)) else (some 0)
def chips_Check.f (k : Nat) (l0 : List Int) (a1 : Int) : Option (Int) := (chips_vertices.f a1).bind fun t124 => (if t124 = 0 then (if (l0.length : Int) = a1 then (chips_Check.l0 k l0 (l0.length : Int) 0) else (some 8)) else (some t124))
set_option maxHeartbeats 8000000 in
set_option maxRecDepth 100000 in
theorem chips_Check.calls (k : Nat) (A0 : Option Addr) (c0 : Nat) (l0 : List Int) (a1 : Int) (r : Int) (w : World) (hr0 : Kd.C (Kd.int .i64) w A0 l0.length l0) (hc0 : l0.length ≤ c0) (h : chips_Check.f k l0 a1 = some r) :
    Calls Try.prog 101 #[.slice A0 l0.length c0, .int .i64 a1] w fun e w' => e = .returned (.int .i64 r) ∧ Drawn0 w w' := by
  have HR0 := Aside0.mk hr0
  have HC0 := Aside0.mk hc0
  clear hr0 hc0
  have H : ((chips_vertices.f a1).bind fun t124 => (if t124 = 0 then (if (l0.length : Int) = a1 then (chips_Check.l0 k l0 (l0.length : Int) 0) else (some 8)) else (some t124))) = some r := h
  clear h
  replace H := Option.bind_eq_some_iff.mp H
  obtain ⟨t124, A30, H⟩ := H
  replace H : (if t124 = 0 then (if (l0.length : Int) = a1 then (chips_Check.l0 k l0 (l0.length : Int) 0) else (some 8)) else (some t124)) = some r := H
  have A3 := Aside0.mk A30
  clear A30
  by_cases c4 : t124 = 0
  · rw [if_pos c4] at H
    have c4b0 : (t124 == 0) = true := beq_iff_eq.mpr c4
    have c4b1 : (t124 != 0) = false := bne_eq_false_iff_eq.mpr c4
    clear c4
    by_cases c5 : (l0.length : Int) = a1
    · rw [if_pos c5] at H
      have c5b0 : ((l0.length : Int) == a1) = true := beq_iff_eq.mpr c5
      have c5b1 : ((l0.length : Int) != a1) = false := bne_eq_false_iff_eq.mpr c5
      clear c5
      have H' := Aside0.mk H
      clear H
      go_enter Try.func101, Try.ntmps101
      go_wp2_with (first | ((with_reducible refine gate_callee (f := 109) rfl ?_); refine zL (some 9) Try.func109 #[.int .i64 a1] ?_; (with_reducible refine (chips_vertices.calls a1 t124 _ A3.out).mono ?_); rintro e w' ⟨rfl, ⟨nd, rfl⟩⟩; refine ⟨_, rfl, ?_⟩))
      go_loopg [19] k (fun kq v19 w' => ∃ (x19_1 : Int), v19 = .int .i64 x19_1 ∧ Aside0 (chips_Check.l0 kq l0 (l0.length : Int) x19_1 = some r) ∧ Aside0 (kq ≤ k) ∧ Drawn0 w w')
      case atStart => exact ⟨(0), zT, H', ⟨Nat.le_refl _⟩, by repeat (first | exact Drawn0.refl _ | apply Drawn0.step)⟩
      case round =>
        clear H'
        try clear c1
        try clear p2
        try clear c4
        try clear c4b0
        try clear c4b1
        try clear c5
        try clear c5b0
        try clear c5b1
        obtain ⟨x19_1, rfl, HA, HK1, ⟨m1, rfl⟩⟩ := hrel
        cases gk with
        | zero => exact absurd HA.out (by simp [chips_Check.l0])
        | succ k1 =>
          have H := HA.out
          clear HA
          simp only [chips_Check.l0] at H
          by_cases c6 : x19_1 < (l0.length : Int)
          · rw [if_pos c6] at H
            have c6b0 : decide (x19_1 < (l0.length : Int)) = true := decide_eq_true c6
            clear c6
            by_cases c7 : 0 ≤ x19_1
            · rw [if_pos c7] at H
              have c7b0 : decide (0 ≤ x19_1) = true := decide_eq_true c7
              clear c7
              by_cases c8 : x19_1 < (l0.length : Int)
              · rw [if_pos c8] at H
                have c8b0 : decide (x19_1 < (l0.length : Int)) = true := decide_eq_true c8
                clear c8
                replace H := Option.bind_eq_some_iff.mp H
                obtain ⟨t126, A90, H⟩ := H
                replace H : (if t126 = true then (chips_Check.l0 k1 l0 (l0.length : Int) (wrap64 (x19_1 + 1))) else (some 2)) = some r := H
                have A9 := Aside0.mk A90
                clear A90
                by_cases c10 : t126 = true
                · subst c10
                  have H1 : (chips_Check.l0 k1 l0 (l0.length : Int) (wrap64 (x19_1 + 1))) = some r := by rw [if_pos rfl] at H; exact H
                  clear H
                  have H := H1
                  clear H1
                  have H' := Aside0.mk H
                  clear H
                  have p125 : 0 ≤ (x19_1 : Int) := of_decide_eq_true ‹_›
                  have q125 : x19_1 < (l0.length : Int) := of_decide_eq_true ‹_›
                  obtain ⟨ad125, e125, hx125_0⟩ := Kd.at_int HR0.out x19_1 p125 q125
                  cases e125
                  replace p125 := eq_true p125
                  replace q125 := eq_true q125
                  go_wp2_with (first | ((with_reducible refine gate_callee (f := 110) rfl ?_); refine zL (some 24) Try.func110 #[.int .i64 (rd l0 x19_1)] ?_; (with_reducible refine (chips_within.calls (rd l0 x19_1) true _ A9.out).mono ?_); rintro e w' ⟨rfl, ⟨nd, rfl⟩⟩; refine ⟨_, rfl, ?_⟩))
                  go_roundg k1
                  case measure => have := HK1.out; omega
                  case rel => exact ⟨(wrap64 (x19_1 + 1)), zT, H', ⟨by have := HK1.out; omega⟩, by repeat (first | exact Drawn0.refl _ | apply Drawn0.step)⟩
                · replace c10 := Bool.eq_false_iff.mpr c10
                  subst c10
                  have H1 : (some 2) = some r := by rw [if_neg (show ¬ (false = true) by decide)] at H; exact H
                  clear H
                  have H := H1
                  clear H1
                  obtain rfl := Option.some.inj H
                  have p125 : 0 ≤ (x19_1 : Int) := of_decide_eq_true ‹_›
                  have q125 : x19_1 < (l0.length : Int) := of_decide_eq_true ‹_›
                  obtain ⟨ad125, e125, hx125_0⟩ := Kd.at_int HR0.out x19_1 p125 q125
                  cases e125
                  replace p125 := eq_true p125
                  replace q125 := eq_true q125
                  go_wp2_with (first | ((with_reducible refine gate_callee (f := 110) rfl ?_); refine zL (some 24) Try.func110 #[.int .i64 (rd l0 x19_1)] ?_; (with_reducible refine (chips_within.calls (rd l0 x19_1) false _ A9.out).mono ?_); rintro e w' ⟨rfl, ⟨nd, rfl⟩⟩; refine ⟨_, rfl, ?_⟩))
                  go_ret
                  exact ⟨zT, by repeat (first | exact Drawn0.refl _ | apply Drawn0.step)⟩
              · rw [if_neg c8] at H
                exact absurd H (by simp)
            · rw [if_neg c7] at H
              exact absurd H (by simp)
          · rw [if_neg c6] at H
            have c6b0 : decide (x19_1 < (l0.length : Int)) = false := decide_eq_false c6
            clear c6
            obtain rfl := Option.some.inj H
            go_wp2
            go_ret
            exact ⟨zT, by repeat (first | exact Drawn0.refl _ | apply Drawn0.step)⟩
    · rw [if_neg c5] at H
      have c5b0 : ((l0.length : Int) == a1) = false := beq_eq_false_iff_ne.mpr c5
      have c5b1 : ((l0.length : Int) != a1) = true := bne_iff_ne.mpr c5
      obtain rfl := Option.some.inj H
      go_enter Try.func101, Try.ntmps101
      go_wp2_with (first | ((with_reducible refine gate_callee (f := 109) rfl ?_); refine zL (some 9) Try.func109 #[.int .i64 a1] ?_; (with_reducible refine (chips_vertices.calls a1 t124 _ A3.out).mono ?_); rintro e w' ⟨rfl, ⟨nd, rfl⟩⟩; refine ⟨_, rfl, ?_⟩))
      go_ret
      exact ⟨zT, by repeat (first | exact Drawn0.refl _ | apply Drawn0.step)⟩
  · rw [if_neg c4] at H
    have c4b0 : (t124 == 0) = false := beq_eq_false_iff_ne.mpr c4
    have c4b1 : (t124 != 0) = true := bne_iff_ne.mpr c4
    obtain rfl := Option.some.inj H
    go_enter Try.func101, Try.ntmps101
    go_wp2_with (first | ((with_reducible refine gate_callee (f := 109) rfl ?_); refine zL (some 9) Try.func109 #[.int .i64 a1] ?_; (with_reducible refine (chips_vertices.calls a1 t124 _ A3.out).mono ?_); rintro e w' ⟨rfl, ⟨nd, rfl⟩⟩; refine ⟨_, rfl, ?_⟩))
    go_ret
    exact ⟨zT, by repeat (first | exact Drawn0.refl _ | apply Drawn0.step)⟩
def stabilize_Check.l0 : Nat → Int → List Int → Int → Int → Option (Int)
  | 0, _, _, _, _ => none
  | k + 1, x1, x24, x25, x26 => if x26 < x25 then (if 0 ≤ x26 then (if x26 < (x24.length : Int) then (if x26 = x1 then (stabilize_Check.l0 k x1 x24 x25 (wrap64 (x26 + 1))) else (if (rd x24 x26) < 0 then (some 2) else (stabilize_Check.l0 k x1 x24 x25 (wrap64 (x26 + 1))))) else (none)) else (none)) else (some 0)
def stabilize_Check.f (k : Nat) (a0_0 : Int) (l0_1 : List (S66)) (a1 : Int) (l2 : List Int) : Option (Int) := (stabilize_rooted.f k a0_0 l0_1 a1).bind fun t128 => (if t128 = 0 then ((chips_Check.f k l2 a0_0).bind fun t129 => (if t129 = 0 then (stabilize_Check.l0 k a1 l2 (l2.length : Int) 0) else (some t129))) else (some t128))
set_option maxHeartbeats 8000000 in
set_option maxRecDepth 100000 in
theorem stabilize_Check.calls (k : Nat) (a0_0 : Int) (A0_1 : Option Addr) (c0_1 : Nat) (l0_1 : List (S66)) (a1 : Int) (A2 : Option Addr) (c2 : Nat) (l2 : List Int) (r : Int) (w : World) (hr0_1 : Kd.C k66 w A0_1 l0_1.length l0_1) (hc0_1 : l0_1.length ≤ c0_1) (hr2 : Kd.C (Kd.int .i64) w A2 l2.length l2) (hc2 : l2.length ≤ c2) (h : stabilize_Check.f k a0_0 l0_1 a1 l2 = some r) :
    Calls Try.prog 88 #[.agg #[.int .i64 a0_0, .slice A0_1 l0_1.length c0_1], .int .i64 a1, .slice A2 l2.length c2] w fun e w' => e = .returned (.int .i64 r) ∧ Below w.heap.size w w' := by
  have hu24 := Try.underlying24
  have HR0_1 := Aside0.mk hr0_1
  have HC0_1 := Aside0.mk hc0_1
  clear hr0_1 hc0_1
  have HR2 := Aside0.mk hr2
  have HC2 := Aside0.mk hc2
  clear hr2 hc2
  have HB := Aside0.mk (Below.refl w.heap.size w)
  have H : ((stabilize_rooted.f k a0_0 l0_1 a1).bind fun t128 => (if t128 = 0 then ((chips_Check.f k l2 a0_0).bind fun t129 => (if t129 = 0 then (stabilize_Check.l0 k a1 l2 (l2.length : Int) 0) else (some t129))) else (some t128))) = some r := h
  clear h
  replace H := Option.bind_eq_some_iff.mp H
  obtain ⟨t128, A40, H⟩ := H
  replace H : (if t128 = 0 then ((chips_Check.f k l2 a0_0).bind fun t129 => (if t129 = 0 then (stabilize_Check.l0 k a1 l2 (l2.length : Int) 0) else (some t129))) else (some t128)) = some r := H
  have A4 := Aside0.mk A40
  clear A40
  by_cases c5 : t128 = 0
  · rw [if_pos c5] at H
    have c5b0 : (t128 == 0) = true := beq_iff_eq.mpr c5
    have c5b1 : (t128 != 0) = false := bne_eq_false_iff_eq.mpr c5
    clear c5
    replace H := Option.bind_eq_some_iff.mp H
    obtain ⟨t129, A60, H⟩ := H
    replace H : (if t129 = 0 then (stabilize_Check.l0 k a1 l2 (l2.length : Int) 0) else (some t129)) = some r := H
    have A6 := Aside0.mk A60
    clear A60
    by_cases c7 : t129 = 0
    · rw [if_pos c7] at H
      have c7b0 : (t129 == 0) = true := beq_iff_eq.mpr c7
      have c7b1 : (t129 != 0) = false := bne_eq_false_iff_eq.mpr c7
      clear c7
      have H' := Aside0.mk H
      clear H
      go_enter Try.func88, Try.ntmps88
      go_wp2_with (first | ((with_reducible refine gate_dst (N := 3) rfl ?_); refine box_event ?hg (N := 3) ?hd (cs := #[.int .i64 a0_0, .slice A0_1 l0_1.length c0_1]) (t := 24) ?hr ?_; (case hd => rfl); (case hg => rfl); (case hr => first | (go_simp; done) | (go_simp; rfl)); intro gb127 hg w8 hbox hb; have BK127 := Aside0.mk (hbox); have GW127 := zG HB hg; have GE127 := zG HB hg; replace HB := zS HB hb; clear hb hbox hg; obtain ⟨hcz9_0, hcz9_1, hfz9_0, hfz9_1⟩ := zD2 BK127) | ((with_reducible refine gate_callee (f := 91) rfl ?_); refine zL (some 13) Try.func91 #[.agg #[.int .i64 a0_0, .slice A0_1 l0_1.length c0_1], .int .i64 a1] ?_; (with_reducible refine (stabilize_rooted.calls k a0_0 _ _ l0_1 a1 t128 _ ?side1 ?side2 A4.out).mono ?_); (case side1 => exact Kd.C_below HR0_1.out zB); (case side2 => exact HC0_1.out); rintro e w10 ⟨rfl, hb⟩; refine ⟨_, rfl, ?_⟩; replace BK127 := Aside0.mk (blk_below (zK BK127) hb); replace HB := zS HB hb; (try clear hb); obtain ⟨hcz11_0, hcz11_1, hfz11_0, hfz11_1⟩ := zD2 BK127) | ((with_reducible refine gate_callee (f := 101) rfl ?_); refine zL (some 20) Try.func101 #[.slice A2 l2.length c2, .int .i64 a0_0] ?_; (with_reducible refine (chips_Check.calls k _ _ l2 a0_0 t129 _ ?side1 ?side2 A6.out).mono ?_); (case side1 => exact Kd.C_below HR2.out zB); (case side2 => exact HC2.out); rintro e w' ⟨rfl, ⟨nd, rfl⟩⟩; refine ⟨_, rfl, ?_⟩))
      go_loopg [26] k (fun kq v26 w' => ∃ (x26_1 : Int), v26 = .int .i64 x26_1 ∧ Aside0 (stabilize_Check.l0 kq a1 l2 (l2.length : Int) x26_1 = some r) ∧ Aside0 (kq ≤ k) ∧ Aside0 (w'.heap[gb127]? = some (.cells #[.int .i64 a0_0, (.slice A0_1 l0_1.length c0_1)] 24 (0, 0))) ∧ Aside0 (Below w.heap.size w w'))
      case atStart => exact ⟨(0), zT, H', ⟨Nat.le_refl _⟩, ⟨zK BK127⟩, ⟨zB⟩⟩
      case round =>
        clear H'
        try clear c1
        try clear c2
        try clear p2
        try clear c5
        try clear c5b0
        try clear c5b1
        try clear c7
        try clear c7b0
        try clear c7b1
        try clear c8
        try clear c9
        try clear c10
        try clear hcz11_0
        try clear hcz11_1
        try clear hcz9_0
        try clear hcz9_1
        try clear hfz11_0
        try clear hfz11_1
        try clear hfz9_0
        try clear hfz9_1
        obtain ⟨x26_1, rfl, HA, HK1, BK127, HB⟩ := hrel
        cases gk with
        | zero => exact absurd HA.out (by simp [stabilize_Check.l0])
        | succ k1 =>
          have H := HA.out
          clear HA
          simp only [stabilize_Check.l0] at H
          by_cases c12 : x26_1 < (l2.length : Int)
          · rw [if_pos c12] at H
            have c12b0 : decide (x26_1 < (l2.length : Int)) = true := decide_eq_true c12
            clear c12
            by_cases c13 : 0 ≤ x26_1
            · rw [if_pos c13] at H
              have c13b0 : decide (0 ≤ x26_1) = true := decide_eq_true c13
              clear c13
              by_cases c14 : x26_1 < (l2.length : Int)
              · rw [if_pos c14] at H
                have c14b0 : decide (x26_1 < (l2.length : Int)) = true := decide_eq_true c14
                clear c14
                by_cases c15 : x26_1 = a1
                · rw [if_pos c15] at H
                  have c15b0 : (x26_1 == a1) = true := beq_iff_eq.mpr c15
                  have c15b1 : (x26_1 != a1) = false := bne_eq_false_iff_eq.mpr c15
                  clear c15
                  have H' := Aside0.mk H
                  clear H
                  have p130 : 0 ≤ (x26_1 : Int) := of_decide_eq_true ‹_›
                  have q130 : x26_1 < (l2.length : Int) := of_decide_eq_true ‹_›
                  obtain ⟨ad130, e130, hx130_0⟩ := Kd.at_int HR2.out x26_1 p130 q130
                  cases e130
                  replace hx130_0 := (HB.out.cell (World.block_lt_of_cell? w _ hx130_0)).trans hx130_0
                  replace p130 := eq_true p130
                  replace q130 := eq_true q130
                  go_wp2
                  go_roundg k1
                  case measure => have := HK1.out; omega
                  case rel => exact ⟨(wrap64 (x26_1 + 1)), zT, H', ⟨by have := HK1.out; omega⟩, ⟨zK BK127⟩, ⟨zB⟩⟩
                · rw [if_neg c15] at H
                  have c15b0 : (x26_1 == a1) = false := beq_eq_false_iff_ne.mpr c15
                  have c15b1 : (x26_1 != a1) = true := bne_iff_ne.mpr c15
                  by_cases c16 : (rd l2 x26_1) < 0
                  · rw [if_pos c16] at H
                    have c16b0 : decide ((rd l2 x26_1) < 0) = true := decide_eq_true c16
                    clear c16
                    obtain rfl := Option.some.inj H
                    have p130 : 0 ≤ (x26_1 : Int) := of_decide_eq_true ‹_›
                    have q130 : x26_1 < (l2.length : Int) := of_decide_eq_true ‹_›
                    obtain ⟨ad130, e130, hx130_0⟩ := Kd.at_int HR2.out x26_1 p130 q130
                    cases e130
                    replace hx130_0 := (HB.out.cell (World.block_lt_of_cell? w _ hx130_0)).trans hx130_0
                    replace p130 := eq_true p130
                    replace q130 := eq_true q130
                    go_wp2
                    go_ret
                    exact ⟨zE, zB⟩
                  · rw [if_neg c16] at H
                    have c16b0 : decide ((rd l2 x26_1) < 0) = false := decide_eq_false c16
                    clear c16
                    have H' := Aside0.mk H
                    clear H
                    have p130 : 0 ≤ (x26_1 : Int) := of_decide_eq_true ‹_›
                    have q130 : x26_1 < (l2.length : Int) := of_decide_eq_true ‹_›
                    obtain ⟨ad130, e130, hx130_0⟩ := Kd.at_int HR2.out x26_1 p130 q130
                    cases e130
                    replace hx130_0 := (HB.out.cell (World.block_lt_of_cell? w _ hx130_0)).trans hx130_0
                    replace p130 := eq_true p130
                    replace q130 := eq_true q130
                    go_wp2
                    go_roundg k1
                    case measure => have := HK1.out; omega
                    case rel => exact ⟨(wrap64 (x26_1 + 1)), zT, H', ⟨by have := HK1.out; omega⟩, ⟨zK BK127⟩, ⟨zB⟩⟩
              · rw [if_neg c14] at H
                exact absurd H (by simp)
            · rw [if_neg c13] at H
              exact absurd H (by simp)
          · rw [if_neg c12] at H
            have c12b0 : decide (x26_1 < (l2.length : Int)) = false := decide_eq_false c12
            clear c12
            obtain rfl := Option.some.inj H
            go_wp2
            go_ret
            exact ⟨zE, zB⟩
    · rw [if_neg c7] at H
      have c7b0 : (t129 == 0) = false := beq_eq_false_iff_ne.mpr c7
      have c7b1 : (t129 != 0) = true := bne_iff_ne.mpr c7
      obtain rfl := Option.some.inj H
      go_enter Try.func88, Try.ntmps88
      go_wp2_with (first | ((with_reducible refine gate_dst (N := 3) rfl ?_); refine box_event ?hg (N := 3) ?hd (cs := #[.int .i64 a0_0, .slice A0_1 l0_1.length c0_1]) (t := 24) ?hr ?_; (case hd => rfl); (case hg => rfl); (case hr => first | (go_simp; done) | (go_simp; rfl)); intro gb127 hg w17 hbox hb; have BK127 := Aside0.mk (hbox); have GW127 := zG HB hg; have GE127 := zG HB hg; replace HB := zS HB hb; clear hb hbox hg; obtain ⟨hcz18_0, hcz18_1, hfz18_0, hfz18_1⟩ := zD2 BK127) | ((with_reducible refine gate_callee (f := 91) rfl ?_); refine zL (some 13) Try.func91 #[.agg #[.int .i64 a0_0, .slice A0_1 l0_1.length c0_1], .int .i64 a1] ?_; (with_reducible refine (stabilize_rooted.calls k a0_0 _ _ l0_1 a1 t128 _ ?side1 ?side2 A4.out).mono ?_); (case side1 => exact Kd.C_below HR0_1.out zB); (case side2 => exact HC0_1.out); rintro e w19 ⟨rfl, hb⟩; refine ⟨_, rfl, ?_⟩; replace BK127 := Aside0.mk (blk_below (zK BK127) hb); replace HB := zS HB hb; (try clear hb); obtain ⟨hcz20_0, hcz20_1, hfz20_0, hfz20_1⟩ := zD2 BK127) | ((with_reducible refine gate_callee (f := 101) rfl ?_); refine zL (some 20) Try.func101 #[.slice A2 l2.length c2, .int .i64 a0_0] ?_; (with_reducible refine (chips_Check.calls k _ _ l2 a0_0 t129 _ ?side1 ?side2 A6.out).mono ?_); (case side1 => exact Kd.C_below HR2.out zB); (case side2 => exact HC2.out); rintro e w' ⟨rfl, ⟨nd, rfl⟩⟩; refine ⟨_, rfl, ?_⟩))
      go_ret
      exact ⟨zE, zB⟩
  · rw [if_neg c5] at H
    have c5b0 : (t128 == 0) = false := beq_eq_false_iff_ne.mpr c5
    have c5b1 : (t128 != 0) = true := bne_iff_ne.mpr c5
    obtain rfl := Option.some.inj H
    go_enter Try.func88, Try.ntmps88
    go_wp2_with (first | ((with_reducible refine gate_dst (N := 3) rfl ?_); refine box_event ?hg (N := 3) ?hd (cs := #[.int .i64 a0_0, .slice A0_1 l0_1.length c0_1]) (t := 24) ?hr ?_; (case hd => rfl); (case hg => rfl); (case hr => first | (go_simp; done) | (go_simp; rfl)); intro gb127 hg w21 hbox hb; have BK127 := Aside0.mk (hbox); have GW127 := zG HB hg; have GE127 := zG HB hg; replace HB := zS HB hb; clear hb hbox hg; obtain ⟨hcz22_0, hcz22_1, hfz22_0, hfz22_1⟩ := zD2 BK127) | ((with_reducible refine gate_callee (f := 91) rfl ?_); refine zL (some 13) Try.func91 #[.agg #[.int .i64 a0_0, .slice A0_1 l0_1.length c0_1], .int .i64 a1] ?_; (with_reducible refine (stabilize_rooted.calls k a0_0 _ _ l0_1 a1 t128 _ ?side1 ?side2 A4.out).mono ?_); (case side1 => exact Kd.C_below HR0_1.out zB); (case side2 => exact HC0_1.out); rintro e w23 ⟨rfl, hb⟩; refine ⟨_, rfl, ?_⟩; replace BK127 := Aside0.mk (blk_below (zK BK127) hb); replace HB := zS HB hb; (try clear hb)))
    go_ret
    exact ⟨zE, zB⟩
def noneTo (waits : Nat → Bool) (k : Nat) : Bool := (List.range k).all fun i => !waits i
theorem noneTo_succ (waits : Nat → Bool) (k : Nat) : noneTo waits (k + 1) = (noneTo waits k && !waits k) := by simp [noneTo, List.range_succ, List.all_append]
theorem noneTo_false {waits : Nat → Bool} {k m : Nat} (h : waits k = true) (hk : k < m) : noneTo waits m = false := by
  unfold noneTo
  rw [List.all_eq_false]
  exact ⟨k, List.mem_range.2 hk, by simp [h]⟩
set_option maxHeartbeats 2000000 in
set_option maxRecDepth 100000 in
theorem index_calls (ad : Addr) (waits : Nat → Bool) (w : World) (hc : ∀ i, i < 12 → w.cell? (ad.add i) = some (.bool (waits i))) :
    Calls Try.prog 96 #[.slice (some ad) 12 12, .bool true] w fun e w' => ∃ r : Int, e = .returned (.int .i64 r) ∧ decide (r < 0) = noneTo waits 12 ∧ w = w' := by
  have HC := Aside0.mk hc
  clear hc
  go_enter Try.func96, Try.ntmps96
  go_wp2
  go_loop [8] (fun i => ∃ k : Nat, k ≤ 12 ∧ i = .int .i64 k ∧ Aside0 (noneTo waits k = true)) (fun i => 12 - (intOf i).toNat)
  case atStart => exact ⟨0, by omega, rfl, ⟨rfl⟩⟩
  case round =>
    obtain ⟨k, hk, rfl, HN⟩ := hrel
    by_cases hlt : k < 12
    · have hc := HC.out k hlt
      have hi0 : (0 : Int) ≤ (k : Int) := by omega
      have hi1 : (k : Int) < 12 := by omega
      cases hb : waits k with
      | true =>
        have Hb := Lib.hid hb
        rw [hb] at hc
        clear hb
        go_wp2
        go_ret
        exact ⟨k, rfl, by rw [noneTo_false Hb.out hlt]; simp, rfl⟩
      | false =>
        have Hb := Lib.hid hb
        rw [hb] at hc
        clear hb
        go_wp2
        go_round
        case rel => exact ⟨k + 1, by omega, by go_num, ⟨by rw [noneTo_succ, HN.out, Hb.out]; rfl⟩⟩
        case measure => simp [intOf]; omega
    · obtain rfl : k = 12 := by omega
      go_wp2
      go_ret
      exact ⟨-1, rfl, by rw [HN.out]; decide, rfl⟩
theorem next_calls (g : Nat) (d : Value) (q : Int) (rows val : Value) (waits : Nat → Bool) (w : World) (hw : PileAt w g d q rows val waits) :
    Calls Try.prog 78 #[.pointer (some ⟨g, 0, none⟩)] w fun e w' => ∃ r : Int, e = .returned (.int .i64 r) ∧ decide (r < 0) = noneTo waits 12 ∧ w = w' := by
  have hup := Try.underlying110
  have hub := Try.underlying108
  have HI := Aside0.mk (index_calls ⟨g, 6, none⟩ waits w (fun i hi => by
    have h := hw.cell_waits i hi
    rw [add_at]
    exact h))
  have hfz := hw.frozen 6
  have hlt := hw.lt
  go_enter Try.func78, Try.ntmps78
  go_wp2_with (go_at_call 96; refine HI.out.mono ?_; rintro e w1 ⟨r, rfl, hr, rfl⟩; have HR := Aside0.mk hr; clear hr)
  go_ret
  exact ⟨r, rfl, HR.out, rfl⟩
theorem rooted_zero {k : Nat} {N : Int} {E : List S66} {q : Int} (h : stabilize_rooted.f k N E q = some 0) : graph_Check.f k N E = some 0 ∧ (0 ≤ N ∧ N ≤ 12) ∧ rootsTo (forestOf E) N.toNat = 1 ∧ 0 ≤ q ∧ q < N := by
  unfold stabilize_rooted.f connect_Connected.f at h
  simp only [Option.bind_assoc] at h
  obtain ⟨t, ht, h⟩ := Option.bind_eq_some_iff.1 h
  by_cases h0 : t = 0
  · subst h0
    rw [if_pos rfl] at h
    by_cases hk : okConn N E = true
    · rw [if_pos hk] at h
      simp only [Option.bind_some, if_pos] at h
      simp only [okConn, Bool.and_eq_true, decide_eq_true_eq] at hk
      refine ⟨ht, hk.1, ?_⟩
      by_cases hr : rootsTo (forestOf E) N.toNat = 1
      · simp only [hr, decide_true, if_true] at h
        by_cases h1 : q < 0
        · rw [if_pos h1] at h; exact absurd (Option.some.inj h) (by decide)
        · rw [if_neg h1] at h
          by_cases h2 : q ≥ N
          · rw [if_pos h2] at h; exact absurd (Option.some.inj h) (by decide)
          · exact ⟨hr, by omega, by omega⟩
      · simp [hr] at h
    · rw [if_neg hk] at h; cases h
  · rw [if_neg h0] at h
    simp [h0] at h
def okList (N : Int) (E : List S66) : Bool := multsOk E && edgesInB N E
def stabilize_Stable.f (k : Nat) (N : Int) (E : List S66) (q : Int) (d : List Int) : Option (Bool × Int) :=
  (stabilize_Check.f k N E q d).bind fun t => if t = 0 then (if okList N E = true ∧ d.length = N.toNat then some (noneTo (looseB q (pileVal N.toNat E) d) N.toNat, 0) else none) else some (false, t)
theorem check_zero {k : Nat} {N : Int} {E : List S66} {q : Int} {d : List Int} (h : stabilize_Check.f k N E q d = some 0) : stabilize_rooted.f k N E q = some 0 := by
  unfold stabilize_Check.f at h
  obtain ⟨t, ht, h⟩ := Option.bind_eq_some_iff.1 h
  by_cases h0 : t = 0
  · subst h0; exact ht
  · rw [if_neg h0] at h; exact absurd (Option.some.inj h) h0
theorem noneTo_cut {f : Nat → Bool} {n m : Nat} (h : n ≤ m) : noneTo (fun x => if x < n then f x else false) m = noneTo f n := by
  unfold noneTo
  rw [Bool.eq_iff_iff, List.all_eq_true, List.all_eq_true]
  constructor
  · intro h1 x hx
    have h2 := List.mem_range.1 hx
    have := h1 x (List.mem_range.2 (by omega))
    simpa [h2] using this
  · intro h1 x hx
    by_cases hl : x < n
    · have := h1 x (List.mem_range.2 hl); simpa [hl] using this
    · simp [hl]
set_option maxHeartbeats 2000000 in
set_option maxRecDepth 100000 in
theorem given_good (k n : Nat) (A0 : Option Addr) (c0 : Nat) (E : List S66) (q : Int) (Ad : Option Addr) (cd : Nat) (dl : List Int) (w : World) (hr0 : Kd.C k66 w A0 E.length E) (hc0 : E.length ≤ c0) (hd : Kd.C (Kd.int .i64) w Ad dl.length dl) (hcd : dl.length ≤ cd)
    (hdl : dl.length = n) (hck : stabilize_Check.f k n E q dl = some 0) (hE : multsOk E = true) (hin : EdgesIn n E) :
    Calls Try.prog 77 #[.agg #[.int .i64 n, .slice A0 E.length c0], .int .i64 q, .slice Ad dl.length cd] w fun e w' => ∃ (gp : Nat) (Av1 Av2 : Option Addr) (cv1 cv2 : Nat) (rv : Value), e = .returned (.tuple #[.pointer (some ⟨gp, 0, none⟩), .int .i64 0]) ∧ PileAt w' gp (.slice Av1 dl.length cv1) q rv (.slice Av2 n cv2) (fun x => if x < dl.length then looseB q (pileVal n E) dl x else false) ∧ Below w.heap.size w w' := by
  have hu := Try.underlying24
  obtain ⟨hg, ⟨_, hn⟩, _, _⟩ := rooted_zero (check_zero hck)
  have Hdl := Aside0.mk hdl
  have Hck := Aside0.mk hck
  have Hg := Aside0.mk hg
  have HE := Aside0.mk hE
  have HI := Aside0.mk hin
  have hn12 : n ≤ 12 := by omega
  clear hdl hck hg hE hin hn
  have HX := Aside0.mk (heap_alloc_new w (.cells #[.int .i64 n, .slice A0 E.length c0] 24))
  go_enter Try.func77, Try.ntmps77
  go_wp2_with (first | (go_at_call 88; refine (stabilize_Check.calls k n A0 c0 E q Ad cd dl 0 _ (Kd.C_alloc hr0 _) hc0 (Kd.C_alloc hd _) hcd Hck.out).mono ?_; rintro e w1 ⟨rfl, hb⟩; have HB1 := Aside0.mk (below_step (below_alloc (Below.refl w.heap.size w) _) hb); have hx0 : w1.cell? ⟨w.heap.size, 0, none⟩ = some (.int .i64 n) := (blk_cell (blk_below HX.out hb) 0).trans rfl; have hx1 : w1.cell? ⟨w.heap.size, 1, none⟩ = some (.slice A0 E.length c0) := (blk_cell (blk_below HX.out hb) 1).trans rfl; clear hb) | (go_at_call 92; refine (pileOf_calls k n A0 c0 E q Ad cd dl _ (Kd.C_below hr0 HB1.out) hc0 (Kd.C_below hd HB1.out) hcd hn12 Hdl.out Hg.out HE.out HI.out).mono ?_; rintro e w2 ⟨gp, Av1, Av2, cv1, cv2, rv, rfl, hP, hR, hb⟩; have HP := Aside0.mk hP; have HB2 := Aside0.mk (below_step HB1.out hb); clear hP hR hb))
  go_ret2
  exact ⟨gp, Av1, Av2, cv1, cv2, rv, rfl, HP.out, HB2.out⟩
set_option maxHeartbeats 2000000 in
set_option maxRecDepth 100000 in
theorem given_bad (k : Nat) (N : Int) (A0 : Option Addr) (c0 : Nat) (E : List S66) (q : Int) (Ad : Option Addr) (cd : Nat) (dl : List Int) (t : Int) (w : World) (hr0 : Kd.C k66 w A0 E.length E) (hc0 : E.length ≤ c0) (hd : Kd.C (Kd.int .i64) w Ad dl.length dl) (hcd : dl.length ≤ cd)
    (hck : stabilize_Check.f k N E q dl = some t) (ht : t ≠ 0) :
    Calls Try.prog 77 #[.agg #[.int .i64 N, .slice A0 E.length c0], .int .i64 q, .slice Ad dl.length cd] w fun e w' => e = .returned (.tuple #[.pointer none, .int .i64 t]) ∧ Below w.heap.size w w' := by
  have hu := Try.underlying24
  have Hck := Aside0.mk hck
  have hne : (t != 0) = true := by simpa using ht
  clear hck ht
  go_enter Try.func77, Try.ntmps77
  go_wp2_with (go_at_call 88; refine (stabilize_Check.calls k N A0 c0 E q Ad cd dl t _ (Kd.C_alloc hr0 _) hc0 (Kd.C_alloc hd _) hcd Hck.out).mono ?_; rintro e w1 ⟨rfl, hb⟩; have HB1 := Aside0.mk (below_step (below_alloc (Below.refl w.heap.size w) _) hb); clear hb)
  go_ret2
  exact ⟨rfl, HB1.out⟩
set_option maxHeartbeats 2000000 in
set_option maxRecDepth 100000 in
theorem stabilize_Stable.calls (k : Nat) (a0_0 : Int) (A0_1 : Option Addr) (c0_1 : Nat) (l0_1 : List (S66)) (a1 : Int) (A2 : Option Addr) (c2 : Nat) (l2 : List Int) (r1 : Bool) (r2 : Int) (w : World) (hr0_1 : Kd.C k66 w A0_1 l0_1.length l0_1) (hc0_1 : l0_1.length ≤ c0_1) (hr2 : Kd.C (Kd.int .i64) w A2 l2.length l2) (hc2 : l2.length ≤ c2) (h : stabilize_Stable.f k a0_0 l0_1 a1 l2 = some (r1, r2)) :
    Calls Try.prog 56 #[.agg #[.int .i64 a0_0, .slice A0_1 l0_1.length c0_1], .int .i64 a1, .slice A2 l2.length c2] w fun e w' => e = .returned (.tuple #[.bool r1, .int .i64 r2]) ∧ Below w.heap.size w w' := by
  have hu := Try.underlying24
  unfold stabilize_Stable.f at h
  obtain ⟨t, ht, H⟩ := Option.bind_eq_some_iff.mp h
  clear h
  by_cases h0 : t = 0
  · subst h0
    rw [if_pos rfl] at H
    by_cases hv : okList a0_0 l0_1 = true ∧ l2.length = a0_0.toNat
    · rw [if_pos hv] at H
      simp only [Option.some.injEq, Prod.mk.injEq] at H
      obtain ⟨rfl, rfl⟩ := H
      obtain ⟨_, ⟨hN, hN12⟩, _, _⟩ := rooted_zero (check_zero ht)
      obtain ⟨n, rfl⟩ := Int.eq_ofNat_of_zero_le hN
      obtain ⟨hok, hlen⟩ := hv
      simp only [okList, Bool.and_eq_true] at hok
      rw [Int.toNat_natCast] at hlen ⊢
      have HG := Aside0.mk (fun W h1 h2 => given_good k n A0_1 c0_1 l0_1 a1 A2 c2 l2 W h1 hc0_1 h2 hc2 hlen ht hok.1 (edgesIn_of hok.2))
      have HL := Aside0.mk (show ∀ W : Nat → Bool, noneTo (fun x => if x < l2.length then W x else false) 12 = noneTo W n from fun W => by rw [hlen]; exact noneTo_cut (by omega))
      clear hlen hok ht
      go_enter Try.func56, Try.ntmps56
      go_wp2_with (first | (go_at_call 77; refine (HG.out _ (Kd.C_alloc hr0_1 _) (Kd.C_alloc hr2 _)).mono ?_; rintro e w1 ⟨gp, Av1, Av2, cv1, cv2, rv, rfl, hP, hb⟩; have HB := Aside0.mk (below_step (below_alloc (Below.refl w.heap.size w) _) hb); have HN := Aside0.mk (next_calls gp _ _ _ _ _ w1 hP); clear hP hb) | (go_at_call 78; refine HN.out.mono ?_; rintro e w2 ⟨r, rfl, hr, rfl⟩; rw [HL.out] at hr; have HR := Aside0.mk hr; clear hr))
      go_ret2
      refine ⟨?_, HB.out⟩
      show Ending.returned (.tuple #[.bool (decide (r < 0)), .int .i64 0]) = _
      rw [HR.out]
    · rw [if_neg hv] at H; cases H
  · rw [if_neg h0] at H
    simp only [Option.some.injEq, Prod.mk.injEq] at H
    obtain ⟨rfl, rfl⟩ := H
    have HG := Aside0.mk (fun W h1 h2 => given_bad k a0_0 A0_1 c0_1 l0_1 a1 A2 c2 l2 t W h1 hc0_1 h2 hc2 ht h0)
    have hne : (t == 0) = false := by simpa using h0
    clear ht h0
    go_enter Try.func56, Try.ntmps56
    go_wp2_with (go_at_call 77; refine (HG.out _ (Kd.C_alloc hr0_1 _) (Kd.C_alloc hr2 _)).mono ?_; rintro e w1 ⟨rfl, hb⟩; have HB := Aside0.mk (below_step (below_alloc (Below.refl w.heap.size w) _) hb); clear hb)
    go_ret2
    exact ⟨rfl, HB.out⟩
def sandpileref08_small.f (k : Nat) (a0_0 : Int) (l0_1 : List (S66)) (a1 : Int) (a2 : Int) : Option (Bool) := if (l0_1.length : Int) > 40 then (some false) else ((sandpileref08_Check.f k a0_0 l0_1).bind fun t112 => (if t112 = 0 then (if a0_0 ≤ a1 then ((sandpileref08_Size.f a0_0 l0_1).bind fun t113 => (some (decide (t113 ≤ a2)))) else (some false)) else (some true)))
set_option maxHeartbeats 8000000 in
set_option maxRecDepth 100000 in
theorem sandpileref08_small.calls (k : Nat) (a0_0 : Int) (A0_1 : Option Addr) (c0_1 : Nat) (l0_1 : List (S66)) (a1 : Int) (a2 : Int) (r : Bool) (w : World) (hr0_1 : Kd.C k66 w A0_1 l0_1.length l0_1) (hc0_1 : l0_1.length ≤ c0_1) (h : sandpileref08_small.f k a0_0 l0_1 a1 a2 = some r) :
    Calls Try.prog 41 #[.agg #[.int .i64 a0_0, .slice A0_1 l0_1.length c0_1], .int .i64 a1, .int .i64 a2] w fun e w' => e = .returned (.bool r) ∧ Below w.heap.size w w' := by
  have hu24 := Try.underlying24
  have HR0_1 := Aside0.mk hr0_1
  have HC0_1 := Aside0.mk hc0_1
  clear hr0_1 hc0_1
  have HB := Aside0.mk (Below.refl w.heap.size w)
  have H : (if (l0_1.length : Int) > 40 then (some false) else ((sandpileref08_Check.f k a0_0 l0_1).bind fun t112 => (if t112 = 0 then (if a0_0 ≤ a1 then ((sandpileref08_Size.f a0_0 l0_1).bind fun t113 => (some (decide (t113 ≤ a2)))) else (some false)) else (some true)))) = some r := h
  clear h
  by_cases c4 : (l0_1.length : Int) > 40
  · rw [if_pos c4] at H
    have c4b0 : decide (40 < (l0_1.length : Int)) = true := decide_eq_true c4
    have c4b1 : decide (40 < l0_1.length) = true := decide_eq_true (by omega)
    clear c4
    obtain rfl := Option.some.inj H
    go_enter Try.func41, Try.ntmps41
    go_wp2_with (first | ((with_reducible refine gate_dst (N := 3) rfl ?_); refine box_event ?hg (N := 3) ?hd (cs := #[.int .i64 a0_0, .slice A0_1 l0_1.length c0_1]) (t := 24) ?hr ?_; (case hd => rfl); (case hg => rfl); (case hr => first | (go_simp; done) | (go_simp; rfl)); intro gb111 hg w5 hbox hb; have BK111 := Aside0.mk (hbox); have GW111 := zG HB hg; have GE111 := zG HB hg; replace HB := zS HB hb; clear hb hbox hg; obtain ⟨hcz6_0, hcz6_1, hfz6_0, hfz6_1⟩ := zD2 BK111))
    go_ret
    exact ⟨zE, zB⟩
  · rw [if_neg c4] at H
    have c4b0 : decide (40 < (l0_1.length : Int)) = false := decide_eq_false c4
    have c4b1 : decide (40 < l0_1.length) = false := decide_eq_false (by omega)
    clear c4
    replace H := Option.bind_eq_some_iff.mp H
    obtain ⟨t112, A70, H⟩ := H
    replace H : (if t112 = 0 then (if a0_0 ≤ a1 then ((sandpileref08_Size.f a0_0 l0_1).bind fun t113 => (some (decide (t113 ≤ a2)))) else (some false)) else (some true)) = some r := H
    have A7 := Aside0.mk A70
    clear A70
    by_cases c8 : t112 = 0
    · rw [if_pos c8] at H
      have c8b0 : (t112 == 0) = true := beq_iff_eq.mpr c8
      have c8b1 : (t112 != 0) = false := bne_eq_false_iff_eq.mpr c8
      clear c8
      by_cases c9 : a0_0 ≤ a1
      · rw [if_pos c9] at H
        have c9b0 : decide (a0_0 ≤ a1) = true := decide_eq_true c9
        clear c9
        replace H := Option.bind_eq_some_iff.mp H
        obtain ⟨t113, A100, H⟩ := H
        replace H : (some (decide (t113 ≤ a2))) = some r := H
        have A10 := Aside0.mk A100
        clear A100
        obtain rfl := Option.some.inj H
        go_enter Try.func41, Try.ntmps41
        go_wp2_with (first | ((with_reducible refine gate_dst (N := 3) rfl ?_); refine box_event ?hg (N := 3) ?hd (cs := #[.int .i64 a0_0, .slice A0_1 l0_1.length c0_1]) (t := 24) ?hr ?_; (case hd => rfl); (case hg => rfl); (case hr => first | (go_simp; done) | (go_simp; rfl)); intro gb111 hg w11 hbox hb; have BK111 := Aside0.mk (hbox); have GW111 := zG HB hg; have GE111 := zG HB hg; replace HB := zS HB hb; clear hb hbox hg; obtain ⟨hcz12_0, hcz12_1, hfz12_0, hfz12_1⟩ := zD2 BK111) | ((with_reducible refine gate_callee (f := 46) rfl ?_); refine zL (some 12) Try.func46 #[.agg #[.int .i64 a0_0, .slice A0_1 l0_1.length c0_1]] ?_; (with_reducible refine (sandpileref08_Check.calls k a0_0 _ _ l0_1 t112 _ ?side1 ?side2 A7.out).mono ?_); (case side1 => exact Kd.C_below HR0_1.out zB); (case side2 => exact HC0_1.out); rintro e w13 ⟨rfl, hb⟩; refine ⟨_, rfl, ?_⟩; replace BK111 := Aside0.mk (blk_below (zK BK111) hb); replace HB := zS HB hb; (try clear hb); obtain ⟨hcz14_0, hcz14_1, hfz14_0, hfz14_1⟩ := zD2 BK111) | (go_at_call 59; (with_reducible refine (sandpileref08_Size.calls a0_0 _ _ l0_1 t113 _ ?side1 ?side2 A10.out).mono ?_); (case side1 => exact Kd.C_below HR0_1.out zB); (case side2 => exact HC0_1.out); rintro e w15 ⟨rfl, hb⟩; replace BK111 := Aside0.mk (blk_below (zK BK111) hb); replace HB := zS HB hb; (try clear hb)))
        go_ret
        exact ⟨zE, zB⟩
      · rw [if_neg c9] at H
        have c9b0 : decide (a0_0 ≤ a1) = false := decide_eq_false c9
        clear c9
        obtain rfl := Option.some.inj H
        go_enter Try.func41, Try.ntmps41
        go_wp2_with (first | ((with_reducible refine gate_dst (N := 3) rfl ?_); refine box_event ?hg (N := 3) ?hd (cs := #[.int .i64 a0_0, .slice A0_1 l0_1.length c0_1]) (t := 24) ?hr ?_; (case hd => rfl); (case hg => rfl); (case hr => first | (go_simp; done) | (go_simp; rfl)); intro gb111 hg w16 hbox hb; have BK111 := Aside0.mk (hbox); have GW111 := zG HB hg; have GE111 := zG HB hg; replace HB := zS HB hb; clear hb hbox hg; obtain ⟨hcz17_0, hcz17_1, hfz17_0, hfz17_1⟩ := zD2 BK111) | ((with_reducible refine gate_callee (f := 46) rfl ?_); refine zL (some 12) Try.func46 #[.agg #[.int .i64 a0_0, .slice A0_1 l0_1.length c0_1]] ?_; (with_reducible refine (sandpileref08_Check.calls k a0_0 _ _ l0_1 t112 _ ?side1 ?side2 A7.out).mono ?_); (case side1 => exact Kd.C_below HR0_1.out zB); (case side2 => exact HC0_1.out); rintro e w18 ⟨rfl, hb⟩; refine ⟨_, rfl, ?_⟩; replace BK111 := Aside0.mk (blk_below (zK BK111) hb); replace HB := zS HB hb; (try clear hb); obtain ⟨hcz19_0, hcz19_1, hfz19_0, hfz19_1⟩ := zD2 BK111))
        go_ret
        exact ⟨zE, zB⟩
    · rw [if_neg c8] at H
      have c8b0 : (t112 == 0) = false := beq_eq_false_iff_ne.mpr c8
      have c8b1 : (t112 != 0) = true := bne_iff_ne.mpr c8
      obtain rfl := Option.some.inj H
      go_enter Try.func41, Try.ntmps41
      go_wp2_with (first | ((with_reducible refine gate_dst (N := 3) rfl ?_); refine box_event ?hg (N := 3) ?hd (cs := #[.int .i64 a0_0, .slice A0_1 l0_1.length c0_1]) (t := 24) ?hr ?_; (case hd => rfl); (case hg => rfl); (case hr => first | (go_simp; done) | (go_simp; rfl)); intro gb111 hg w20 hbox hb; have BK111 := Aside0.mk (hbox); have GW111 := zG HB hg; have GE111 := zG HB hg; replace HB := zS HB hb; clear hb hbox hg; obtain ⟨hcz21_0, hcz21_1, hfz21_0, hfz21_1⟩ := zD2 BK111) | ((with_reducible refine gate_callee (f := 46) rfl ?_); refine zL (some 12) Try.func46 #[.agg #[.int .i64 a0_0, .slice A0_1 l0_1.length c0_1]] ?_; (with_reducible refine (sandpileref08_Check.calls k a0_0 _ _ l0_1 t112 _ ?side1 ?side2 A7.out).mono ?_); (case side1 => exact Kd.C_below HR0_1.out zB); (case side2 => exact HC0_1.out); rintro e w22 ⟨rfl, hb⟩; refine ⟨_, rfl, ?_⟩; replace BK111 := Aside0.mk (blk_below (zK BK111) hb); replace HB := zS HB hb; (try clear hb)))
      go_ret
      exact ⟨zE, zB⟩
def sandpileref08_FewTrees.f (k : Nat) (a0_0 : Int) (l0_1 : List (S66)) : Option (Bool) := (sandpileref08_small.f k a0_0 l0_1 5 8).bind fun t115 => (some t115)
set_option maxHeartbeats 8000000 in
set_option maxRecDepth 100000 in
theorem sandpileref08_FewTrees.calls (k : Nat) (a0_0 : Int) (A0_1 : Option Addr) (c0_1 : Nat) (l0_1 : List (S66)) (r : Bool) (w : World) (hr0_1 : Kd.C k66 w A0_1 l0_1.length l0_1) (hc0_1 : l0_1.length ≤ c0_1) (h : sandpileref08_FewTrees.f k a0_0 l0_1 = some r) :
    Calls Try.prog 10 #[.agg #[.int .i64 a0_0, .slice A0_1 l0_1.length c0_1]] w fun e w' => e = .returned (.bool r) ∧ Below w.heap.size w w' := by
  have hu24 := Try.underlying24
  have HR0_1 := Aside0.mk hr0_1
  have HC0_1 := Aside0.mk hc0_1
  clear hr0_1 hc0_1
  have HB := Aside0.mk (Below.refl w.heap.size w)
  have H : ((sandpileref08_small.f k a0_0 l0_1 5 8).bind fun t115 => (some t115)) = some r := h
  clear h
  replace H := Option.bind_eq_some_iff.mp H
  obtain ⟨t115, A20, H⟩ := H
  replace H : (some t115) = some r := H
  have A2 := Aside0.mk A20
  clear A20
  obtain rfl := Option.some.inj H
  go_enter Try.func10, Try.ntmps10
  go_wp2_with (first | ((with_reducible refine gate_dst (N := 1) rfl ?_); refine box_event ?hg (N := 1) ?hd (cs := #[.int .i64 a0_0, .slice A0_1 l0_1.length c0_1]) (t := 24) ?hr ?_; (case hd => rfl); (case hg => rfl); (case hr => first | (go_simp; done) | (go_simp; rfl)); intro gb114 hg w3 hbox hb; have BK114 := Aside0.mk (hbox); have GW114 := zG HB hg; have GE114 := zG HB hg; replace HB := zS HB hb; clear hb hbox hg; obtain ⟨hcz4_0, hcz4_1, hfz4_0, hfz4_1⟩ := zD2 BK114) | ((with_reducible refine gate_callee (f := 41) rfl ?_); refine zL (some 4) Try.func41 #[.agg #[.int .i64 a0_0, .slice A0_1 l0_1.length c0_1], .int .i64 5, .int .i64 8] ?_; (with_reducible refine (sandpileref08_small.calls k a0_0 _ _ l0_1 5 8 t115 _ ?side1 ?side2 A2.out).mono ?_); (case side1 => exact Kd.C_below HR0_1.out zB); (case side2 => exact HC0_1.out); rintro e w5 ⟨rfl, hb⟩; refine ⟨_, rfl, ?_⟩; replace BK114 := Aside0.mk (blk_below (zK BK114) hb); replace HB := zS HB hb; (try clear hb)))
  go_ret
  exact ⟨zE, zB⟩
def sandpileref08_Between.l0 : Nat → Int → Int → Int → Int → List (S66) → Option (Int)
  | 0, _, _, _, _, _ => none
  | k + 1, x1, x2, x7, x151000, x151001 => if x7 < (x151001.length : Int) then (if 0 ≤ x7 then (if ((rd_T66 x151001 x7).f0) = (mn x1 x2) then (if ((rd_T66 x151001 x7).f1) = (mx x1 x2) then (some ((rd_T66 x151001 x7).f2)) else (sandpileref08_Between.l0 k x1 x2 (wrap64 (x7 + 1)) x151000 x151001)) else (sandpileref08_Between.l0 k x1 x2 (wrap64 (x7 + 1)) x151000 x151001)) else (none)) else (some 0)
def sandpileref08_Between.f (k : Nat) (a0_0 : Int) (l0_1 : List (S66)) (a1 : Int) (a2 : Int) : Option (Int) := sandpileref08_Between.l0 k a1 a2 0 a0_0 l0_1
set_option maxHeartbeats 8000000 in
set_option maxRecDepth 100000 in
theorem sandpileref08_Between.calls (k : Nat) (a0_0 : Int) (A0_1 : Option Addr) (c0_1 : Nat) (l0_1 : List (S66)) (a1 : Int) (a2 : Int) (r : Int) (w : World) (hr0_1 : Kd.C k66 w A0_1 l0_1.length l0_1) (hc0_1 : l0_1.length ≤ c0_1) (h : sandpileref08_Between.f k a0_0 l0_1 a1 a2 = some r) :
    Calls Try.prog 97 #[.agg #[.int .i64 a0_0, .slice A0_1 l0_1.length c0_1], .int .i64 a1, .int .i64 a2] w fun e w' => e = .returned (.int .i64 r) ∧ Below w.heap.size w w' := by
  have hu24 := Try.underlying24
  have hu66 := Try.underlying66
  have HR0_1 := Aside0.mk hr0_1
  have HC0_1 := Aside0.mk hc0_1
  clear hr0_1 hc0_1
  have HB := Aside0.mk (Below.refl w.heap.size w)
  have H : (sandpileref08_Between.l0 k a1 a2 0 a0_0 l0_1) = some r := h
  clear h
  have H' := Aside0.mk H
  clear H
  go_enter Try.func97, Try.ntmps97
  go_wp2_with (first | ((with_reducible refine gate_dst (N := 3) rfl ?_); (try (refine gate_guard (by rfl) ?_; dsimp only)); refine box_event ?hg (N := 3) ?hd (cs := #[.int .i64 a0_0, .slice A0_1 l0_1.length c0_1]) (t := 24) ?hr ?_; (case hd => rfl); (case hg => rfl); (case hr => first | (go_simp; done) | (go_simp; rfl)); intro gb150 hg w4 hbox hb; have BK150 := Aside0.mk (hbox); have GW150 := zG HB hg; have GE150 := zG HB hg; replace HB := zS HB hb; clear hb hbox hg))
  go_loopg [7] k (fun kq v7 w' => ∃ (x7_1 : Int), v7 = .int .i64 x7_1 ∧ Aside0 (sandpileref08_Between.l0 kq a1 a2 x7_1 a0_0 l0_1 = some r) ∧ Aside0 (kq ≤ k) ∧ Aside0 (w'.heap[gb150]? = some (.cells #[.int .i64 a0_0, (.slice A0_1 l0_1.length c0_1)] 24 (0, 0))) ∧ Aside0 (Below w.heap.size w w'))
  case atStart => exact ⟨(0), zT, H', ⟨Nat.le_refl _⟩, ⟨zK BK150⟩, ⟨zB⟩⟩
  case round =>
    clear H'
    try clear p2
    obtain ⟨x7_1, rfl, HA, HK1, BK150, HB⟩ := hrel
    cases gk with
    | zero => exact absurd HA.out (by simp [sandpileref08_Between.l0])
    | succ k1 =>
      have H := HA.out
      clear HA
      simp only [sandpileref08_Between.l0] at H
      by_cases c5 : x7_1 < (l0_1.length : Int)
      · rw [if_pos c5] at H
        have c5b0 : decide (x7_1 < (l0_1.length : Int)) = true := decide_eq_true c5
        clear c5
        by_cases c6 : 0 ≤ x7_1
        · rw [if_pos c6] at H
          have c6b0 : decide (0 ≤ x7_1) = true := decide_eq_true c6
          clear c6
          obtain ⟨ji7, hji7⟩ : ∃ j_ : Int, (mn a1 a2) = j_ := ⟨_, rfl⟩
          replace H : (if ((rd_T66 l0_1 x7_1).f0) = (ji7) then (if ((rd_T66 l0_1 x7_1).f1) = (mx a1 a2) then (some ((rd_T66 l0_1 x7_1).f2)) else (sandpileref08_Between.l0 k1 a1 a2 (wrap64 (x7_1 + 1)) a0_0 l0_1)) else (sandpileref08_Between.l0 k1 a1 a2 (wrap64 (x7_1 + 1)) a0_0 l0_1)) = some r := by first | (rw [hji7] at H; exact H) | (simp only [hji7] at H ⊢; exact H)
          have hji7_ : (if a2 < a1 then a2 else a1) = ji7 := hji7
          by_cases c8 : ((rd_T66 l0_1 x7_1).f0) = (ji7)
          · rw [if_pos c8] at H
            have c8b0 : (((rd_T66 l0_1 x7_1).f0) == (ji7)) = true := beq_iff_eq.mpr c8
            have c8b1 : (((rd_T66 l0_1 x7_1).f0) != (ji7)) = false := bne_eq_false_iff_eq.mpr c8
            clear c8
            obtain ⟨ji9, hji9⟩ : ∃ j_ : Int, (mx a1 a2) = j_ := ⟨_, rfl⟩
            replace H : (if ((rd_T66 l0_1 x7_1).f1) = (ji9) then (some ((rd_T66 l0_1 x7_1).f2)) else (sandpileref08_Between.l0 k1 a1 a2 (wrap64 (x7_1 + 1)) a0_0 l0_1)) = some r := by first | (rw [hji9] at H; exact H) | (simp only [hji9] at H ⊢; exact H)
            have hji9_ : (if a1 < a2 then a2 else a1) = ji9 := hji9
            by_cases c10 : ((rd_T66 l0_1 x7_1).f1) = (ji9)
            · rw [if_pos c10] at H
              have c10b0 : (((rd_T66 l0_1 x7_1).f1) == (ji9)) = true := beq_iff_eq.mpr c10
              have c10b1 : (((rd_T66 l0_1 x7_1).f1) != (ji9)) = false := bne_eq_false_iff_eq.mpr c10
              clear c10
              obtain rfl := Option.some.inj H
              have hcz11_0 := z0 BK150
              have hcz11_1 := z1 BK150
              have hfz11_0 := blk_frozen BK150.out 0
              have hfz11_1 := blk_frozen BK150.out 1
              have p151 : 0 ≤ (x7_1 : Int) := of_decide_eq_true ‹_›
              have q151 : x7_1 < (l0_1.length : Int) := of_decide_eq_true ‹_›
              obtain ⟨ad151, e151, hx151_0, hx151_1, hx151_2⟩ := at_T66 HR0_1.out x7_1 p151 q151
              cases e151
              replace hx151_0 := (HB.out.cell (World.block_lt_of_cell? w _ hx151_0)).trans hx151_0
              replace hx151_1 := (HB.out.cell (World.block_lt_of_cell? w _ hx151_1)).trans hx151_1
              replace hx151_2 := (HB.out.cell (World.block_lt_of_cell? w _ hx151_2)).trans hx151_2
              replace p151 := eq_true p151
              replace q151 := eq_true q151
              go_wp2_with (first | ((with_reducible refine gate_dst (N := 8) rfl ?_); (try (refine gate_guard (by rfl) ?_; dsimp only)); refine box_event ?hg (N := 8) ?hd (cs := #[.int .i64 0, .int .i64 0, .int .i64 0]) (t := 66) ?hr ?_; (case hd => rfl); (case hg => rfl); (case hr => first | (go_simp; done) | (go_simp; rfl)); intro gb152 hg w12 hbox hb; have BK152 := Aside0.mk (hbox); have GW152 := zG HB hg; have GE152 := zG HB hg; replace HB := zS HB hb; have NB150_152 := Aside0.mk ((by rw [hg]; exact Nat.ne_of_lt (blk_lt (g := gb150) (o := .cells #[.int .i64 a0_0, .slice (some ad151) l0_1.length c0_1] 24 (0, 0)) (zK BK150)) : gb150 ≠ gb152)); have NB152_150 := Aside0.mk ((by rw [hg]; exact Nat.ne_of_gt (blk_lt (g := gb150) (o := .cells #[.int .i64 a0_0, .slice (some ad151) l0_1.length c0_1] 24 (0, 0)) (zK BK150)) : gb152 ≠ gb150)); replace BK150 := Aside0.mk (blk_below (zK BK150) hb); clear hb hbox hg; have hnb13 := NB152_150.out; have hnc13 := NB150_152.out; obtain ⟨hcz14_0, hcz14_1, hcz14_2, hfz14_0, hfz14_1, hfz14_2⟩ := zD3 BK152))
              go_ret
              exact ⟨by first | rfl | (simp [errW_none, errW_some] <;> rfl) | (simp only [← hji7, ← hji9]; first | rfl | (simp [errW_none, errW_some] <;> rfl)) | (simp [*, errW_none, errW_some] <;> rfl), zB⟩
            · rw [if_neg c10] at H
              have c10b0 : (((rd_T66 l0_1 x7_1).f1) == (ji9)) = false := beq_eq_false_iff_ne.mpr c10
              have c10b1 : (((rd_T66 l0_1 x7_1).f1) != (ji9)) = true := bne_iff_ne.mpr c10
              have H' := Aside0.mk H
              clear H
              have hcz15_0 := z0 BK150
              have hcz15_1 := z1 BK150
              have hfz15_0 := blk_frozen BK150.out 0
              have hfz15_1 := blk_frozen BK150.out 1
              have p151 : 0 ≤ (x7_1 : Int) := of_decide_eq_true ‹_›
              have q151 : x7_1 < (l0_1.length : Int) := of_decide_eq_true ‹_›
              obtain ⟨ad151, e151, hx151_0, hx151_1, hx151_2⟩ := at_T66 HR0_1.out x7_1 p151 q151
              cases e151
              replace hx151_0 := (HB.out.cell (World.block_lt_of_cell? w _ hx151_0)).trans hx151_0
              replace hx151_1 := (HB.out.cell (World.block_lt_of_cell? w _ hx151_1)).trans hx151_1
              replace hx151_2 := (HB.out.cell (World.block_lt_of_cell? w _ hx151_2)).trans hx151_2
              replace p151 := eq_true p151
              replace q151 := eq_true q151
              go_wp2_with (first | ((with_reducible refine gate_dst (N := 8) rfl ?_); (try (refine gate_guard (by rfl) ?_; dsimp only)); refine box_event ?hg (N := 8) ?hd (cs := #[.int .i64 0, .int .i64 0, .int .i64 0]) (t := 66) ?hr ?_; (case hd => rfl); (case hg => rfl); (case hr => first | (go_simp; done) | (go_simp; rfl)); intro gb152 hg w16 hbox hb; have BK152 := Aside0.mk (hbox); have GW152 := zG HB hg; have GE152 := zG HB hg; replace HB := zS HB hb; have NB150_152 := Aside0.mk ((by rw [hg]; exact Nat.ne_of_lt (blk_lt (g := gb150) (o := .cells #[.int .i64 a0_0, .slice (some ad151) l0_1.length c0_1] 24 (0, 0)) (zK BK150)) : gb150 ≠ gb152)); have NB152_150 := Aside0.mk ((by rw [hg]; exact Nat.ne_of_gt (blk_lt (g := gb150) (o := .cells #[.int .i64 a0_0, .slice (some ad151) l0_1.length c0_1] 24 (0, 0)) (zK BK150)) : gb152 ≠ gb150)); replace BK150 := Aside0.mk (blk_below (zK BK150) hb); clear hb hbox hg; have hnb17 := NB152_150.out; have hnc17 := NB150_152.out; obtain ⟨hcz18_0, hcz18_1, hcz18_2, hfz18_0, hfz18_1, hfz18_2⟩ := zD3 BK152))
              go_roundg k1
              case measure => have := HK1.out; omega
              case rel => exact ⟨(wrap64 (x7_1 + 1)), zT, H', ⟨by have := HK1.out; omega⟩, ⟨by refine zk ?_; refine blk_far ?_ NB150_152.out _; refine zk ?_; refine blk_far ?_ NB150_152.out _; refine zk ?_; refine blk_far ?_ NB150_152.out _; exact zK BK150⟩, ⟨zB⟩⟩
          · rw [if_neg c8] at H
            have c8b0 : (((rd_T66 l0_1 x7_1).f0) == (ji7)) = false := beq_eq_false_iff_ne.mpr c8
            have c8b1 : (((rd_T66 l0_1 x7_1).f0) != (ji7)) = true := bne_iff_ne.mpr c8
            have H' := Aside0.mk H
            clear H
            have hcz19_0 := z0 BK150
            have hcz19_1 := z1 BK150
            have hfz19_0 := blk_frozen BK150.out 0
            have hfz19_1 := blk_frozen BK150.out 1
            have p151 : 0 ≤ (x7_1 : Int) := of_decide_eq_true ‹_›
            have q151 : x7_1 < (l0_1.length : Int) := of_decide_eq_true ‹_›
            obtain ⟨ad151, e151, hx151_0, hx151_1, hx151_2⟩ := at_T66 HR0_1.out x7_1 p151 q151
            cases e151
            replace hx151_0 := (HB.out.cell (World.block_lt_of_cell? w _ hx151_0)).trans hx151_0
            replace hx151_1 := (HB.out.cell (World.block_lt_of_cell? w _ hx151_1)).trans hx151_1
            replace hx151_2 := (HB.out.cell (World.block_lt_of_cell? w _ hx151_2)).trans hx151_2
            replace p151 := eq_true p151
            replace q151 := eq_true q151
            go_wp2_with (first | ((with_reducible refine gate_dst (N := 8) rfl ?_); (try (refine gate_guard (by rfl) ?_; dsimp only)); refine box_event ?hg (N := 8) ?hd (cs := #[.int .i64 0, .int .i64 0, .int .i64 0]) (t := 66) ?hr ?_; (case hd => rfl); (case hg => rfl); (case hr => first | (go_simp; done) | (go_simp; rfl)); intro gb152 hg w20 hbox hb; have BK152 := Aside0.mk (hbox); have GW152 := zG HB hg; have GE152 := zG HB hg; replace HB := zS HB hb; have NB150_152 := Aside0.mk ((by rw [hg]; exact Nat.ne_of_lt (blk_lt (g := gb150) (o := .cells #[.int .i64 a0_0, .slice (some ad151) l0_1.length c0_1] 24 (0, 0)) (zK BK150)) : gb150 ≠ gb152)); have NB152_150 := Aside0.mk ((by rw [hg]; exact Nat.ne_of_gt (blk_lt (g := gb150) (o := .cells #[.int .i64 a0_0, .slice (some ad151) l0_1.length c0_1] 24 (0, 0)) (zK BK150)) : gb152 ≠ gb150)); replace BK150 := Aside0.mk (blk_below (zK BK150) hb); clear hb hbox hg; have hnb21 := NB152_150.out; have hnc21 := NB150_152.out; obtain ⟨hcz22_0, hcz22_1, hcz22_2, hfz22_0, hfz22_1, hfz22_2⟩ := zD3 BK152))
            go_roundg k1
            case measure => have := HK1.out; omega
            case rel => exact ⟨(wrap64 (x7_1 + 1)), zT, H', ⟨by have := HK1.out; omega⟩, ⟨by refine zk ?_; refine blk_far ?_ NB150_152.out _; refine zk ?_; refine blk_far ?_ NB150_152.out _; refine zk ?_; refine blk_far ?_ NB150_152.out _; exact zK BK150⟩, ⟨zB⟩⟩
        · rw [if_neg c6] at H
          exact absurd H (by simp)
      · rw [if_neg c5] at H
        have c5b0 : decide (x7_1 < (l0_1.length : Int)) = false := decide_eq_false c5
        clear c5
        obtain rfl := Option.some.inj H
        have hcz23_0 := z0 BK150
        have hcz23_1 := z1 BK150
        have hfz23_0 := blk_frozen BK150.out 0
        have hfz23_1 := blk_frozen BK150.out 1
        go_wp2
        go_ret
        exact ⟨zE, zB⟩
def Before (x y : S66) : Prop := x.f0 < y.f0 ∨ x.f0 = y.f0 ∧ x.f1 < y.f1
structure RightE (N : Int) (E : List S66) : Prop where
  ok : ∀ x ∈ E, edgeOk N x = true
  le : ∀ x ∈ E, x.f0 ≤ x.f1
  order : E.Pairwise Before
theorem checkFrom_zero {N : Int} : ∀ {E : List S66} {p0 p1 : Int}, checkFrom N p0 p1 E = 0 → (∀ x ∈ E, edgeOk N x = true ∧ x.f0 ≤ x.f1 ∧ (p0 < x.f0 ∨ p0 = x.f0 ∧ p1 < x.f1)) ∧ E.Pairwise Before
  | [], _, _, _ => ⟨fun x hx => absurd hx (by simp), List.Pairwise.nil⟩
  | y :: E, p0, p1, h => by
    rw [checkFrom] at h
    by_cases he : edgeErr N p0 p1 y = 0
    · rw [if_pos he] at h
      obtain ⟨h1, h2⟩ := checkFrom_zero h
      have hy : edgeOk N y = true ∧ y.f0 ≤ y.f1 ∧ (p0 < y.f0 ∨ p0 = y.f0 ∧ p1 < y.f1) := by
        unfold edgeErr at he
        cases hok : edgeOk N y with
        | false => rw [hok] at he; simp at he
        | true =>
          rw [hok, if_neg (show ¬ (true = false) by decide)] at he
          by_cases hc : y.f0 < p0 ∨ y.f0 = p0 ∧ y.f1 ≤ p1 ∨ y.f0 > y.f1
          · rw [if_pos hc] at he; exact absurd he (by decide)
          · exact ⟨rfl, by omega, by omega⟩
      refine ⟨fun x hx => ?_, List.Pairwise.cons (fun x hx => (h1 x hx).2.2) h2⟩
      rcases List.mem_cons.1 hx with rfl | hx
      · exact hy
      · have := h1 x hx
        exact ⟨this.1, this.2.1, by omega⟩
    · rw [if_neg he] at h; exact absurd h he
theorem checkG_zero {N : Int} {E : List S66} (h : checkG N E = 0) : 1 ≤ N ∧ N ≤ 12 ∧ RightE N E := by
  unfold checkG at h
  by_cases hN : N < 1 ∨ N > 12
  · rw [if_pos hN] at h; exact absurd h (by decide)
  · rw [if_neg hN] at h
    obtain ⟨h1, h2⟩ := checkFrom_zero h
    exact ⟨by omega, by omega, fun x hx => (h1 x hx).1, fun x hx => (h1 x hx).2.1, h2⟩
theorem RightE.inB {N : Int} {E : List S66} (h : RightE N E) : edgesInB N E = true := by
  refine List.all_eq_true.2 fun x hx => ?_
  have := h.ok x hx
  simpa [edgeOk] using this
theorem RightE.mults {N : Int} {E : List S66} (h : RightE N E) (hl : E.length ≤ 40) : multsOk E = true := by
  unfold multsOk
  rw [decide_eq_true hl, Bool.true_and]
  refine List.all_eq_true.2 fun x hx => ?_
  have := h.ok x hx
  simp [edgeOk] at this ⊢
  omega
def fewB (N : Int) (E : List S66) : Bool := if E.length > 40 then false else if checkG N E = 0 then (if N ≤ 5 then decide (sizeTo E E.length ≤ 8) else false) else true
theorem few_ev (N : Int) (E : List S66) : Ev (fun k => sandpileref08_FewTrees.f k N E) (fewB N E) := by
  unfold sandpileref08_FewTrees.f sandpileref08_small.f fewB
  by_cases hl : E.length > 40
  · simp only [if_pos hl, if_pos (show (E.length : Int) > 40 by omega)]
    exact Ev.const _
  · simp only [if_neg hl, if_neg (show ¬ (E.length : Int) > 40 by omega)]
    refine Ev.bind (a := if checkG N E = 0 then (if N ≤ 5 then decide (sizeTo E E.length ≤ 8) else false) else true) ?_ (Ev.const _)
    refine Ev.bind (check08_ev N E (by omega)) ?_
    by_cases h0 : checkG N E = 0
    · simp only [if_pos h0]
      by_cases h5 : N ≤ 5
      · simp only [if_pos h5, sandpileref08_Size.f, (checkG_zero h0).2.2.mults (by omega), Option.bind_some, if_true]
        rw [show decide (((sizeTo E E.length : Nat) : Int) ≤ 8) = decide (sizeTo E E.length ≤ 8) by congr 1; exact propext (by omega)]
        exact Ev.const _
      · simp only [if_neg h5]; exact Ev.const _
    · simp only [if_neg h0]; exact Ev.const _
def hitB (a b : Int) (x : S66) : Bool := decide (x.f0 = min a b ∧ x.f1 = max a b)
def btw (E : List S66) (a b : Int) : Int := match E.find? (hitB a b) with | some x => x.f2 | none => 0
theorem btw_cons (x : S66) (E : List S66) (a b : Int) : btw (x :: E) a b = if x.f0 = min a b ∧ x.f1 = max a b then x.f2 else btw E a b := by
  unfold btw
  rw [List.find?_cons]
  unfold hitB
  by_cases h : x.f0 = min a b ∧ x.f1 = max a b
  · simp [h]
  · rw [decide_eq_false h, if_neg h]
theorem btw_comm (E : List S66) (a b : Int) : btw E a b = btw E b a := by
  unfold btw hitB
  rw [show min a b = min b a by omega, show max a b = max b a by omega]
theorem between_l0 (N : Int) (E : List S66) (a b : Int) (hE : E.length ≤ 1000) : ∀ (m i : Nat), i + m = E.length → Ev (fun k => sandpileref08_Between.l0 k a b i N E) (btw (E.drop i) a b)
  | 0, i, hi => by
    refine Ev.of_succ ?_
    simp only [sandpileref08_Between.l0, if_neg (show ¬ ((i : Int) < (E.length : Int)) by omega)]
    rw [List.drop_eq_nil_of_le (by omega)]
    exact Ev.const _
  | m + 1, i, hi => by
    have ih := between_l0 N E a b hE m (i + 1) (by omega)
    refine Ev.of_succ ?_
    simp only [sandpileref08_Between.l0, if_pos (show (i : Int) < (E.length : Int) by omega), if_pos (show (0 : Int) ≤ (i : Int) by omega), wrap_succ (show i ≤ 1000000 by omega)]
    rw [rd_T_drop (by omega), btw_cons]
    rw [show mn a b = min a b from by unfold mn; omega, show mx a b = max a b from by unfold mx; omega]
    by_cases h0 : (rd_T66 E i).f0 = min a b
    · simp only [if_pos h0]
      by_cases h1 : (rd_T66 E i).f1 = max a b
      · simp only [if_pos h1]; rw [if_pos ⟨h0, h1⟩]; exact Ev.const _
      · simp only [if_neg h1]; rw [if_neg (fun h => h1 h.2)]; exact ih
    · simp only [if_neg h0]; rw [if_neg (fun h => h0 h.1)]; exact ih
theorem between_ev (N : Int) (E : List S66) (a b : Int) (hE : E.length ≤ 1000) : Ev (fun k => sandpileref08_Between.f k N E a b) (btw E a b) := by
  unfold sandpileref08_Between.f
  have := between_l0 N E a b hE E.length 0 (by omega)
  simpa using this
theorem btw_none {E : List S66} {a b : Int} (h : ∀ x ∈ E, ¬ (x.f0 = min a b ∧ x.f1 = max a b)) : E.find? (hitB a b) = none := by
  rw [List.find?_eq_none]
  intro x hx
  simp [hitB, h x hx]
theorem times_fold (a b : Nat) (hab : a ≠ b) : ∀ (E : List S66) (f : Nat → Nat → Int), (∀ x ∈ E, 0 ≤ x.f0 ∧ x.f0 ≤ x.f1) → E.Pairwise Before → E.foldl timesStep f a b = match E.find? (hitB a b) with | some x => x.f2 | none => f a b
  | [], f, _, _ => rfl
  | x :: E, f, h, hp => by
    have hx := h x (List.mem_cons_self ..)
    obtain ⟨h1, h2⟩ := List.pairwise_cons.1 hp
    rw [List.foldl_cons, times_fold a b hab E _ (fun y hy => h y (List.mem_cons_of_mem _ hy)) h2, List.find?_cons]
    by_cases hh : x.f0 = min (a : Int) b ∧ x.f1 = max (a : Int) b
    · rw [show hitB a b x = true from by simp [hitB, hh]]
      rw [btw_none (fun y hy hy2 => by have := h1 y hy; unfold Before at this; omega)]
      show timesStep f x a b = x.f2
      unfold timesStep
      rw [if_neg (by omega)]
      by_cases h3 : a = x.f1.toNat ∧ b = x.f0.toNat
      · rw [if_pos h3]
      · rw [if_neg h3, if_pos (by omega)]
    · rw [show hitB a b x = false from by simp [hitB]; omega]
      have e : timesStep f x a b = f a b := by
        unfold timesStep
        split
        · rfl
        · dsimp only
          rw [if_neg (by omega), if_neg (by omega)]
      rw [e]
theorem times_btw {N : Int} {E : List S66} (h : RightE N E) (a b : Nat) (hab : a ≠ b) : timesOf E a b = btw E a b := by
  unfold timesOf btw
  exact times_fold a b hab E _ (fun x hx => ⟨by have := h.ok x hx; simp [edgeOk] at this; omega, h.le x hx⟩) h.order
theorem btw_nonneg {N : Int} {E : List S66} (h : RightE N E) (a b : Int) : 0 ≤ btw E a b ∧ btw E a b ≤ 50 := by
  unfold btw
  split
  · rename_i x hx
    have := h.ok x (List.mem_of_find?_eq_some hx)
    simp [edgeOk] at this; omega
  · omega
def EConn (n : Nat) (E : List S66) : Prop := ∀ S : Nat → Bool, (∃ v, v < n ∧ S v = true) → (∃ v, v < n ∧ S v = false) → ∃ x, x ∈ E ∧ S x.f0.toNat ≠ S x.f1.toNat
theorem rootOf_lt {p : Nat → Nat} {v : Nat} (h : p v < v) : rootOf p v = rootOf p (p v) := by rw [rootOf, dif_pos h]
theorem rootOf_ge {p : Nat → Nat} {v : Nat} (h : ¬ p v < v) : rootOf p v = v := by rw [rootOf, dif_neg h]
theorem root_ge {p : Nat → Nat} {v : Nat} (h : rootOf p v = v) : ¬ p v < v := fun hl => by
  have h1 := rootOf_lt hl
  have h2 := rootOf_le p (p v)
  omega
theorem rootOf_join (p : Nat → Nat) (a b v : Nat) : rootOf (joinOf p a b) v = if rootOf p v = max (rootOf p a) (rootOf p b) then min (rootOf p a) (rootOf p b) else rootOf p v := by
  have ha := rootOf_root p a
  have hb := rootOf_root p b
  have hM : rootOf p (max (rootOf p a) (rootOf p b)) = max (rootOf p a) (rootOf p b) := by rw [Nat.max_def]; split <;> assumption
  have hm : rootOf p (min (rootOf p a) (rootOf p b)) = min (rootOf p a) (rootOf p b) := by rw [Nat.min_def]; split <;> assumption
  have hle : min (rootOf p a) (rootOf p b) ≤ max (rootOf p a) (rootOf p b) := by omega
  have hj : ∀ j, joinOf p a b j = if j = max (rootOf p a) (rootOf p b) then min (rootOf p a) (rootOf p b) else p j := fun j => rfl
  generalize max (rootOf p a) (rootOf p b) = M at *
  generalize min (rootOf p a) (rootOf p b) = m at *
  generalize joinOf p a b = q at *
  induction v using Nat.strongRecOn with
  | ind v ih =>
    by_cases e : v = M
    · subst e
      rw [hM, if_pos rfl]
      by_cases hl : m < v
      · have h1 : q v = m := by rw [hj, if_pos rfl]
        rw [rootOf_lt (by omega), h1]
        refine rootOf_ge ?_
        rw [hj, if_neg (by omega)]
        exact root_ge hm
      · rw [rootOf_ge (by rw [hj, if_pos rfl]; exact hl)]
        omega
    · have h1 : q v = p v := by rw [hj, if_neg e]
      by_cases hl : p v < v
      · rw [rootOf_lt (p := q) (by omega), h1, ih _ hl, rootOf_lt (p := p) hl]
      · rw [rootOf_ge (p := q) (by omega), rootOf_ge (p := p) hl, if_neg e]
theorem forest_inside (S : Nat → Bool) : ∀ (E : List S66) (p : Nat → Nat), (∀ x ∈ E, S x.f0.toNat = S x.f1.toNat) → (∀ v, S (rootOf p v) = S v) → ∀ v, S (rootOf (E.foldl (fun p x => joinOf p x.f0.toNat x.f1.toNat) p) v) = S v := by
  intro E
  induction E with
  | nil => exact fun p _ h => h
  | cons x E ih =>
    intro p hE h
    refine ih _ (fun y hy => hE y (List.mem_cons_of_mem _ hy)) fun v => ?_
    rw [rootOf_join]
    split
    · rename_i e
      have hx := hE x (List.mem_cons_self ..)
      have h1 := h x.f0.toNat
      have h2 := h x.f1.toNat
      have hv := h v
      rw [e] at hv
      rw [← hv]
      rw [Nat.min_def, Nat.max_def]
      split <;> simp_all
    · exact h v
theorem forest_joined : ∀ (E : List S66) (p : Nat → Nat) (u v : Nat), rootOf p u = rootOf p v → rootOf (E.foldl (fun p x => joinOf p x.f0.toNat x.f1.toNat) p) u = rootOf (E.foldl (fun p x => joinOf p x.f0.toNat x.f1.toNat) p) v := by
  intro E
  induction E with
  | nil => exact fun p u v h => h
  | cons x E ih =>
    intro p u v h
    refine ih _ u v ?_
    rw [rootOf_join, rootOf_join, h]
theorem forest_edges : ∀ (E : List S66) (p : Nat → Nat), ∀ x ∈ E, rootOf (E.foldl (fun p x => joinOf p x.f0.toNat x.f1.toNat) p) x.f0.toNat = rootOf (E.foldl (fun p x => joinOf p x.f0.toNat x.f1.toNat) p) x.f1.toNat := by
  intro E
  induction E with
  | nil => exact fun p x hx => absurd hx (by simp)
  | cons y E ih =>
    intro p x hx
    rcases List.mem_cons.1 hx with rfl | hx
    · refine forest_joined E _ _ _ ?_
      rw [rootOf_join, rootOf_join]
      by_cases h1 : rootOf p x.f0.toNat = max (rootOf p x.f0.toNat) (rootOf p x.f1.toNat) <;> by_cases h2 : rootOf p x.f1.toNat = max (rootOf p x.f0.toNat) (rootOf p x.f1.toNat)
      · rw [if_pos h1, if_pos h2]
      · rw [if_pos h1, if_neg h2]; omega
      · rw [if_neg h1, if_pos h2]; omega
      · omega
    · exact ih _ x hx
theorem rootsTo_pos (p : Nat → Nat) (h0 : rootOf p 0 = 0) : ∀ u, 1 ≤ u → 1 ≤ rootsTo p u
  | 0, h => by omega
  | u + 1, _ => by
    by_cases e : u = 0
    · subst e; simp [rootsTo, h0]
    · have := rootsTo_pos p h0 u (by omega)
      simp only [rootsTo]
      omega
theorem rootsTo_one (p : Nat → Nat) (h0 : rootOf p 0 = 0) : ∀ u, rootsTo p u = 1 → ∀ v, v < u → rootOf p v = v → v = 0
  | 0, h => by simp [rootsTo] at h
  | u + 1, h => by
    intro v hv hr
    simp only [rootsTo] at h
    by_cases e : u = 0
    · omega
    · have h1 := rootsTo_pos p h0 u (by omega)
      by_cases hu : rootOf p u = u
      · rw [if_pos hu] at h; omega
      · rw [if_neg hu] at h
        by_cases ev : v = u
        · subst ev; exact absurd hr hu
        · exact rootsTo_one p h0 u (by omega) v (by omega) hr
theorem rootsTo_all (p : Nat → Nat) : ∀ u, 1 ≤ u → (∀ v, v < u → rootOf p v = 0) → rootsTo p u = 1
  | 0, h, _ => by omega
  | u + 1, _, h => by
    by_cases e : u = 0
    · subst e; simp [rootsTo, h 0 (by omega)]
    · have := rootsTo_all p u (by omega) (fun v hv => h v (by omega))
      simp only [rootsTo]
      rw [this, h u (by omega), if_neg (fun e2 => e e2.symm)]
theorem conn_iff {n : Nat} {E : List S66} (hn : 1 ≤ n) (hE : EdgesIn n E) : rootsTo (forestOf E) n = 1 ↔ EConn n E := by
  have h0 : rootOf (forestOf E) 0 = 0 := Nat.le_zero.1 (rootOf_le _ 0)
  constructor
  · rintro h S ⟨u, hu, hsu⟩ ⟨v, hv, hsv⟩
    refine Classical.byContradiction fun hx => ?_
    have hS : ∀ x ∈ E, S x.f0.toNat = S x.f1.toNat := fun x hxE => Classical.byContradiction fun hne => hx ⟨x, hxE, hne⟩
    have hin := forest_inside S E id hS (fun v => by rw [rootOf_ge (by simp)])
    have hall : ∀ w, w < n → rootOf (forestOf E) w = 0 := fun w hw => rootsTo_one _ h0 n h _ (Nat.lt_of_le_of_lt (rootOf_le _ w) hw) (rootOf_root _ w)
    have h1 := hin u
    have h2 := hin v
    rw [show E.foldl (fun p x => joinOf p x.f0.toNat x.f1.toNat) id = forestOf E from rfl] at h1 h2
    rw [hall u hu] at h1
    rw [hall v hv] at h2
    rw [h1, hsu] at h2
    rw [hsv] at h2
    cases h2
  · intro h
    refine rootsTo_all _ n hn fun v hv => ?_
    refine Classical.byContradiction fun hne => ?_
    obtain ⟨x, hx, hs⟩ := h (fun u => decide (rootOf (forestOf E) u = 0)) ⟨0, by omega, by simp [h0]⟩ ⟨v, hv, by simp [hne]⟩
    have := forest_edges E id x hx
    rw [show E.foldl (fun p x => joinOf p x.f0.toNat x.f1.toNat) id = forestOf E from rfl] at this
    simp only [this, ne_eq, not_true_eq_false] at hs
end Go.Proofs.Ytffdiakgjakngaa.P
