/- A part of the proof that SuperstableDuals answers true (text 10 of 15): own walks and plain laws; no conditions. -/
import Derived.Test.YtffdiakgjakngaaDuals9
namespace Go.Proofs.Ytffdiakgjakngaa.P
open Go.RowKit Go.Proofs.YtffdiakgjakngaaW.PrintWords Go.Proofs.YtffdiakgjakngaaW.PrintLast Go.Proofs.YtffdiakgjakngaaW.PrintMore
set_option linter.unusedVariables false
set_option linter.unusedSimpArgs false
set_option maxHeartbeats 8000000
set_option maxRecDepth 100000
def superstable_Raise.l0 : Nat → Int → List Int → Int → Int → Int → List (S66) → Option (List Int × Int)
 | 0, _, _, _, _, _, _ => none
 | k + 1, x1, x10, x29, x30, x298000, x298001 => if x30 < x29 then (if x30 = x1 then (superstable_Raise.l0 k x1 x10 x29 (wrap64 (x30 + 1)) x298000 x298001) else ((superstable_raised.f k x298000 x298001 x1 x10 x30).bind fun t303 => (superstable_Raise.l0 k x1 t303 x29 (wrap64 (x30 + 1)) x298000 x298001))) else (some (x10, 0))
def superstable_Raise.f (k : Nat) (a0_0 : Int) (l0_1 : List (S66)) (a1 : Int) (l2 : List Int) : Option (List Int × Int) := (burning_Superstable.f k a0_0 l0_1 a1 l2).bind fun bt298 => (if bt298.2 = 0 then (if bt298.1 = true then ((api_Divisor_int_36.f l2).bind fun t300 => (superstable_Raise.l0 k a1 t300 (t300.length : Int) 0 a0_0 l0_1)) else (some (([] : List Int), 15))) else (some (([] : List Int), bt298.2)))
theorem superstable_Raise.calls (k : Nat) (a0_0 : Int) (A0_1 : Option Addr) (c0_1 : Nat) (l0_1 : List (S66)) (a1 : Int) (A2 : Option Addr) (c2 : Nat) (l2 : List Int) (r1 : List Int) (r2 : Int) (w : World) (hr0_1 : Kd.C k66 w A0_1 l0_1.length l0_1) (hc0_1 : l0_1.length ≤ c0_1) (hr2 : Kd.C (Kd.int .i64) w A2 l2.length l2) (hc2 : l2.length ≤ c2) (h : superstable_Raise.f k a0_0 l0_1 a1 l2 = some (r1, r2)) :
  Calls Try.prog 22 #[.agg #[.int .i64 a0_0, .slice A0_1 l0_1.length c0_1], .int .i64 a1, .slice A2 l2.length c2] w fun e w' => ∃ v0_ : Value, e = .returned (.tuple #[v0_, .int .i64 r2]) ∧ Kd.R (Kd.int .i64) 3 w' w.heap.size (fun _ => True) v0_ r1 ∧ Below w.heap.size w w' := by
 have hu24 := Try.underlying24
 have HR0_1 := Aside0.mk hr0_1
 have HC0_1 := Aside0.mk hc0_1
 clear hr0_1 hc0_1
 have HR2 := Aside0.mk hr2
 have HC2 := Aside0.mk hc2
 clear hr2 hc2
 have HB := Aside0.mk (Below.refl w.heap.size w)
 have H : ((burning_Superstable.f k a0_0 l0_1 a1 l2).bind fun bt298 => (if bt298.2 = 0 then (if bt298.1 = true then ((api_Divisor_int_36.f l2).bind fun t300 => (superstable_Raise.l0 k a1 t300 (t300.length : Int) 0 a0_0 l0_1)) else (some (([] : List Int), 15))) else (some (([] : List Int), bt298.2)))) = some (r1, r2) := h
 clear h
 replace H := Option.bind_eq_some_iff.mp H
 obtain ⟨⟨t298, t299⟩, A40, H⟩ := H
 replace H : (if t299 = 0 then (if t298 = true then ((api_Divisor_int_36.f l2).bind fun t300 => (superstable_Raise.l0 k a1 t300 (t300.length : Int) 0 a0_0 l0_1)) else (some (([] : List Int), 15))) else (some (([] : List Int), t299))) = some (r1, r2) := H
 have A4 := Aside0.mk A40
 clear A40
 by_cases c5 : t299 = 0
 ·rw [if_pos c5] at H
  have c5b0 : (t299 == 0) = true := beq_iff_eq.mpr c5
  have c5b1 : (t299 != 0) = false := bne_eq_false_iff_eq.mpr c5
  clear c5
  by_cases c6 : t298 = true
  ·subst c6
   have H1 : ((api_Divisor_int_36.f l2).bind fun t300 => (superstable_Raise.l0 k a1 t300 (t300.length : Int) 0 a0_0 l0_1)) = some (r1, r2) := by rw [if_pos rfl] at H; exact H
   clear H
   have H := H1
   clear H1
   replace H := Option.bind_eq_some_iff.mp H
   obtain ⟨t300, A70, H⟩ := H
   replace H : (superstable_Raise.l0 k a1 t300 (t300.length : Int) 0 a0_0 l0_1) = some (r1, r2) := H
   have A7 := Aside0.mk A70
   clear A70
   have H' := Aside0.mk H
   clear H
   go_enter Try.func22, Try.ntmps22
   go_wp2_with (first | ((with_reducible refine gate_dst (N := 3) rfl ?_); refine zX 3 #[.int .i64 a0_0, .slice A0_1 l0_1.length c0_1] 24 ?_; intro gb297 hg w8 hbox hb; have BK297 := Aside0.mk (hbox); have GW297 := zG HB hg; have GE297 := zG HB hg; replace HB := zS HB hb; clear hb hbox hg; obtain ⟨hcz9_0, hcz9_1, hfz9_0, hfz9_1⟩ := zD2 BK297) | ((with_reducible refine gate_callee (f := 35) rfl ?_); refine zL (some 16) Try.func35 #[.agg #[.int .i64 a0_0, .slice A0_1 l0_1.length c0_1], .int .i64 a1, .slice A2 l2.length c2] ?_; (with_reducible refine (burning_Superstable.calls k a0_0 _ _ l0_1 a1 _ _ l2 true t299 _ ?side1 ?side2 ?side3 ?side4 A4.out).mono ?_); (case side1 => exact Kd.C_below HR0_1.out zB); (case side2 => exact HC0_1.out); (case side3 => exact Kd.C_below HR2.out zB); (case side4 => exact HC2.out); rintro e w10 ⟨rfl, hb⟩; refine ⟨_, rfl, ?_⟩; replace BK297 := zb BK297 hb; replace HB := zS HB hb; (try clear hb)) | ((with_reducible refine gate_callee (f := 36) rfl ?_); refine zL (some 27) Try.func36 #[.slice A2 l2.length c2] ?_; (with_reducible refine (api_Divisor_int_36.calls _ _ l2 t300 _ ?side1 ?side2 A7.out).mono ?_); (case side1 => exact Kd.C_below HR2.out zB); (case side2 => exact HC2.out); rintro e w11 ⟨v301, rfl, ho0, hb⟩; refine ⟨_, rfl, ?_⟩; have HO302 := Aside0.mk (Kd.R_lower ho0 (below_size zB)); replace BK297 := zb BK297 hb; replace HB := zS HB hb; (try clear hb); (try clear ho0); obtain ⟨Ao12, co12, eo12⟩ := Kd.R_slice HO302.out; subst eo12))
   go_loopg [10, 30] k (fun kq v10 v30 w' => ∃ (x10_1 : List Int) (x30_1 : Int), v30 = .int .i64 x30_1 ∧ Aside0 (superstable_Raise.l0 kq a1 x10_1 (t300.length : Int) x30_1 a0_0 l0_1 = some (r1, r2)) ∧ Aside0 (kq ≤ k) ∧ Aside0 (Kd.R (Kd.int .i64) 3 w' w.heap.size (fun _ => True) v10 x10_1) ∧ Aside0 (w'.heap[gb297]? = some (.cells #[.int .i64 a0_0, (.slice A0_1 l0_1.length c0_1)] 24 (0, 0))) ∧ Aside0 (Below w.heap.size w w'))
   case atStart => exact ⟨(t300), (0), zT, H', ⟨Nat.le_refl _⟩, ⟨zR HO302⟩, ⟨zK BK297⟩, ⟨zB⟩⟩
   case round =>
    clear H'
    try clear c2
    try clear p2
    try clear c3
    try clear c5
    try clear c5b0
    try clear c5b1
    try clear c6
    try clear hcz9_0
    try clear hcz9_1
    try clear hfz9_0
    try clear hfz9_1
    obtain ⟨x10_1, x30_1, rfl, HA, HK1, HO_10, BK297, HB⟩ := hrel
    cases gk with
    | zero => exact absurd HA.out (by simp [superstable_Raise.l0])
    | succ k1 =>
     have H := HA.out
     clear HA
     simp only [superstable_Raise.l0] at H
     by_cases c13 : x30_1 < (t300.length : Int)
     ·rw [if_pos c13] at H
      have c13b0 : decide (x30_1 < (t300.length : Int)) = true := decide_eq_true c13
      clear c13
      by_cases c14 : x30_1 = a1
      ·rw [if_pos c14] at H
       have c14b0 : (x30_1 == a1) = true := beq_iff_eq.mpr c14
       have c14b1 : (x30_1 != a1) = false := bne_eq_false_iff_eq.mpr c14
       clear c14
       have H' := Aside0.mk H
       clear H
       go_wp2
       go_roundg k1
       case measure => have := HK1.out; omega
       case rel => exact ⟨(x10_1), (wrap64 (x30_1 + 1)), zT, H', ⟨by have := HK1.out; omega⟩, ⟨zR HO_10⟩, ⟨zK BK297⟩, ⟨zB⟩⟩
      ·rw [if_neg c14] at H
       have c14b0 : (x30_1 == a1) = false := beq_eq_false_iff_ne.mpr c14
       have c14b1 : (x30_1 != a1) = true := bne_iff_ne.mpr c14
       replace H := Option.bind_eq_some_iff.mp H
       obtain ⟨t303, A150, H⟩ := H
       replace H : (superstable_Raise.l0 k1 a1 t303 (t300.length : Int) (wrap64 (x30_1 + 1)) a0_0 l0_1) = some (r1, r2) := H
       have A15 := Aside0.mk A150
       clear A150
       have H' := Aside0.mk H
       clear H
       obtain ⟨hcz16_0, hcz16_1, hfz16_0, hfz16_1⟩ := zD2 BK297
       obtain ⟨Ao17, co17, eo17⟩ := Kd.R_slice HO_10.out
       subst eo17
       go_wp2_with (first | ((with_reducible refine gate_callee (f := 53) rfl ?_); refine zL (some 40) Try.func53 #[.agg #[.int .i64 a0_0, .slice A0_1 l0_1.length c0_1], .int .i64 a1, .slice Ao17 x10_1.length co17, .int .i64 x30_1] ?_; (with_reducible refine (superstable_raised.calls k1 a0_0 _ _ l0_1 a1 _ _ x10_1 x30_1 t303 _ ?side1 ?side2 ?side3 ?side4 A15.out).mono ?_); (case side1 => exact Kd.C_below HR0_1.out zB); (case side2 => exact HC0_1.out); (case side3 => exact zC (Kd.R_reads' HO_10.out).2.2); (case side4 => exact (Kd.R_reads' HO_10.out).2.1); rintro e w18 ⟨v304, rfl, ho0, hb⟩; refine ⟨_, rfl, ?_⟩; have HO305 := Aside0.mk (Kd.R_lower (Kd.R_new' ho0 (Kd.R_lt (zR HO_10))) (below_size zB)); replace HO_10 := zeRR HO_10 ho0 hb; replace BK297 := zb BK297 hb; replace HB := zS HB hb; (try clear hb); (try clear ho0)))
       go_roundg k1
       case measure => have := HK1.out; omega
       case rel => exact ⟨(t303), (wrap64 (x30_1 + 1)), zT, H', ⟨by have := HK1.out; omega⟩, ⟨by (with_reducible repeat (first | apply Kd.R_alloc | apply Kd.R_drewN | apply Kd.R_drew)); exact Kd.R_mono HO305.out (fun _ hk => trivial)⟩, ⟨zK BK297⟩, ⟨zB⟩⟩
     ·rw [if_neg c13] at H
      have c13b0 : decide (x30_1 < (t300.length : Int)) = false := decide_eq_false c13
      clear c13
      simp only [Option.some.injEq, Prod.mk.injEq] at H
      obtain ⟨rfl, rfl⟩ := H
      go_wp2
      go_ret2
      exact ⟨_, zE, by (with_reducible repeat (first | apply Kd.R_alloc | apply Kd.R_drewN | apply Kd.R_drew)); exact HO_10.out, zB⟩
  ·replace c6 := Bool.eq_false_iff.mpr c6
   subst c6
   have H1 : (some (([] : List Int), 15)) = some (r1, r2) := by rw [if_neg (show ¬ (false = true) by decide)] at H; exact H
   clear H
   have H := H1
   clear H1
   simp only [Option.some.injEq, Prod.mk.injEq] at H
   obtain ⟨rfl, rfl⟩ := H
   go_enter Try.func22, Try.ntmps22
   go_wp2_with (first | ((with_reducible refine gate_dst (N := 3) rfl ?_); refine zX 3 #[.int .i64 a0_0, .slice A0_1 l0_1.length c0_1] 24 ?_; intro gb297 hg w19 hbox hb; have BK297 := Aside0.mk (hbox); have GW297 := zG HB hg; have GE297 := zG HB hg; replace HB := zS HB hb; clear hb hbox hg; obtain ⟨hcz20_0, hcz20_1, hfz20_0, hfz20_1⟩ := zD2 BK297) | ((with_reducible refine gate_callee (f := 35) rfl ?_); refine zL (some 16) Try.func35 #[.agg #[.int .i64 a0_0, .slice A0_1 l0_1.length c0_1], .int .i64 a1, .slice A2 l2.length c2] ?_; (with_reducible refine (burning_Superstable.calls k a0_0 _ _ l0_1 a1 _ _ l2 false t299 _ ?side1 ?side2 ?side3 ?side4 A4.out).mono ?_); (case side1 => exact Kd.C_below HR0_1.out zB); (case side2 => exact HC0_1.out); (case side3 => exact Kd.C_below HR2.out zB); (case side4 => exact HC2.out); rintro e w21 ⟨rfl, hb⟩; refine ⟨_, rfl, ?_⟩; replace BK297 := zb BK297 hb; replace HB := zS HB hb; (try clear hb)))
   go_ret2
   exact ⟨_, zE, by first | exact Kd.R_nil _ _ _ _ _ | exact Kd.N_nil _ _ _ _ _ | exact Kd.V_nil _ _ _ _ _ | exact Kd.Q_nil _ _ _ _ _ | exact Kd.S_nil _ _ _ _ _, zB⟩
 ·rw [if_neg c5] at H
  have c5b0 : (t299 == 0) = false := beq_eq_false_iff_ne.mpr c5
  have c5b1 : (t299 != 0) = true := bne_iff_ne.mpr c5
  simp only [Option.some.injEq, Prod.mk.injEq] at H
  obtain ⟨rfl, rfl⟩ := H
  go_enter Try.func22, Try.ntmps22
  go_wp2_with (first | ((with_reducible refine gate_dst (N := 3) rfl ?_); refine zX 3 #[.int .i64 a0_0, .slice A0_1 l0_1.length c0_1] 24 ?_; intro gb297 hg w22 hbox hb; have BK297 := Aside0.mk (hbox); have GW297 := zG HB hg; have GE297 := zG HB hg; replace HB := zS HB hb; clear hb hbox hg; obtain ⟨hcz23_0, hcz23_1, hfz23_0, hfz23_1⟩ := zD2 BK297) | ((with_reducible refine gate_callee (f := 35) rfl ?_); refine zL (some 16) Try.func35 #[.agg #[.int .i64 a0_0, .slice A0_1 l0_1.length c0_1], .int .i64 a1, .slice A2 l2.length c2] ?_; (with_reducible refine (burning_Superstable.calls k a0_0 _ _ l0_1 a1 _ _ l2 t298 t299 _ ?side1 ?side2 ?side3 ?side4 A4.out).mono ?_); (case side1 => exact Kd.C_below HR0_1.out zB); (case side2 => exact HC0_1.out); (case side3 => exact Kd.C_below HR2.out zB); (case side4 => exact HC2.out); rintro e w24 ⟨rfl, hb⟩; refine ⟨_, rfl, ?_⟩; replace BK297 := zb BK297 hb; replace HB := zS HB hb; (try clear hb)))
  go_ret2
  exact ⟨_, zE, by first | exact Kd.R_nil _ _ _ _ _ | exact Kd.N_nil _ _ _ _ _ | exact Kd.V_nil _ _ _ _ _ | exact Kd.Q_nil _ _ _ _ _ | exact Kd.S_nil _ _ _ _ _, zB⟩
def superstable_Dual.l0 : Nat → List Int → List Int → Int → Int → Option (List Int × Int)
 | 0, _, _, _, _ => none
 | k + 1, x12, x46, x47, x48 => if x48 < x47 then (if 0 ≤ x48 then (if x48 < (x46.length : Int) then (if x48 < (x12.length : Int) then (superstable_Dual.l0 k (x12.set (x48 : Int).toNat (wrap64 ((rd x12 x48) - (rd x46 x48)))) x46 x47 (wrap64 (x48 + 1))) else (none)) else (none)) else (none)) else (some (x12, 0))
def superstable_Dual.f (k : Nat) (a0_0 : Int) (l0_1 : List (S66)) (a1 : Int) (l2 : List Int) : Option (List Int × Int) := (burning_Superstable.f k a0_0 l0_1 a1 l2).bind fun bt342 => (if bt342.2 = 0 then ((stabilize_Stable.f k a0_0 l0_1 a1 l2).bind fun bt344 => (if bt344.2 = 0 then (if bt344.1 = true then ((superstable_first.f k a0_0 l0_1 a1).bind fun bt346 => (if bt346.2 = 0 then (superstable_Dual.l0 k bt346.1 l2 (l2.length : Int) 0) else (some (([] : List Int), bt346.2)))) else (some (([] : List Int), 15))) else (some (([] : List Int), bt344.2)))) else (some (([] : List Int), bt342.2)))
theorem superstable_Dual.calls (k : Nat) (a0_0 : Int) (A0_1 : Option Addr) (c0_1 : Nat) (l0_1 : List (S66)) (a1 : Int) (A2 : Option Addr) (c2 : Nat) (l2 : List Int) (r1 : List Int) (r2 : Int) (w : World) (hr0_1 : Kd.C k66 w A0_1 l0_1.length l0_1) (hc0_1 : l0_1.length ≤ c0_1) (hr2 : Kd.C (Kd.int .i64) w A2 l2.length l2) (hc2 : l2.length ≤ c2) (h : superstable_Dual.f k a0_0 l0_1 a1 l2 = some (r1, r2)) :
  Calls Try.prog 24 #[.agg #[.int .i64 a0_0, .slice A0_1 l0_1.length c0_1], .int .i64 a1, .slice A2 l2.length c2] w fun e w' => ∃ v0_ : Value, e = .returned (.tuple #[v0_, .int .i64 r2]) ∧ Kd.R (Kd.int .i64) 3 w' w.heap.size (fun _ => True) v0_ r1 ∧ Below w.heap.size w w' := by
 have hu24 := Try.underlying24
 have HR0_1 := Aside0.mk hr0_1
 have HC0_1 := Aside0.mk hc0_1
 clear hr0_1 hc0_1
 have HR2 := Aside0.mk hr2
 have HC2 := Aside0.mk hc2
 clear hr2 hc2
 have HB := Aside0.mk (Below.refl w.heap.size w)
 have H : ((burning_Superstable.f k a0_0 l0_1 a1 l2).bind fun bt342 => (if bt342.2 = 0 then ((stabilize_Stable.f k a0_0 l0_1 a1 l2).bind fun bt344 => (if bt344.2 = 0 then (if bt344.1 = true then ((superstable_first.f k a0_0 l0_1 a1).bind fun bt346 => (if bt346.2 = 0 then (superstable_Dual.l0 k bt346.1 l2 (l2.length : Int) 0) else (some (([] : List Int), bt346.2)))) else (some (([] : List Int), 15))) else (some (([] : List Int), bt344.2)))) else (some (([] : List Int), bt342.2)))) = some (r1, r2) := h
 clear h
 replace H := Option.bind_eq_some_iff.mp H
 obtain ⟨⟨t342, t343⟩, A40, H⟩ := H
 replace H : (if t343 = 0 then ((stabilize_Stable.f k a0_0 l0_1 a1 l2).bind fun bt344 => (if bt344.2 = 0 then (if bt344.1 = true then ((superstable_first.f k a0_0 l0_1 a1).bind fun bt346 => (if bt346.2 = 0 then (superstable_Dual.l0 k bt346.1 l2 (l2.length : Int) 0) else (some (([] : List Int), bt346.2)))) else (some (([] : List Int), 15))) else (some (([] : List Int), bt344.2)))) else (some (([] : List Int), t343))) = some (r1, r2) := H
 have A4 := Aside0.mk A40
 clear A40
 by_cases c5 : t343 = 0
 ·rw [if_pos c5] at H
  have c5b0 : (t343 == 0) = true := beq_iff_eq.mpr c5
  have c5b1 : (t343 != 0) = false := bne_eq_false_iff_eq.mpr c5
  clear c5
  replace H := Option.bind_eq_some_iff.mp H
  obtain ⟨⟨t344, t345⟩, A60, H⟩ := H
  replace H : (if t345 = 0 then (if t344 = true then ((superstable_first.f k a0_0 l0_1 a1).bind fun bt346 => (if bt346.2 = 0 then (superstable_Dual.l0 k bt346.1 l2 (l2.length : Int) 0) else (some (([] : List Int), bt346.2)))) else (some (([] : List Int), 15))) else (some (([] : List Int), t345))) = some (r1, r2) := H
  have A6 := Aside0.mk A60
  clear A60
  by_cases c7 : t345 = 0
  ·rw [if_pos c7] at H
   have c7b0 : (t345 == 0) = true := beq_iff_eq.mpr c7
   have c7b1 : (t345 != 0) = false := bne_eq_false_iff_eq.mpr c7
   clear c7
   by_cases c8 : t344 = true
   ·subst c8
    have H1 : ((superstable_first.f k a0_0 l0_1 a1).bind fun bt346 => (if bt346.2 = 0 then (superstable_Dual.l0 k bt346.1 l2 (l2.length : Int) 0) else (some (([] : List Int), bt346.2)))) = some (r1, r2) := by rw [if_pos rfl] at H; exact H
    clear H
    have H := H1
    clear H1
    replace H := Option.bind_eq_some_iff.mp H
    obtain ⟨⟨t346, t349⟩, A90, H⟩ := H
    replace H : (if t349 = 0 then (superstable_Dual.l0 k t346 l2 (l2.length : Int) 0) else (some (([] : List Int), t349))) = some (r1, r2) := H
    have A9 := Aside0.mk A90
    clear A90
    by_cases c10 : t349 = 0
    ·rw [if_pos c10] at H
     have c10b0 : (t349 == 0) = true := beq_iff_eq.mpr c10
     have c10b1 : (t349 != 0) = false := bne_eq_false_iff_eq.mpr c10
     clear c10
     have H' := Aside0.mk H
     clear H
     go_enter Try.func24, Try.ntmps24
     go_wp2_with (first | ((with_reducible refine gate_dst (N := 3) rfl ?_); refine zX 3 #[.int .i64 a0_0, .slice A0_1 l0_1.length c0_1] 24 ?_; intro gb341 hg w11 hbox hb; have BK341 := Aside0.mk (hbox); have GW341 := zG HB hg; have GE341 := zG HB hg; replace HB := zS HB hb; clear hb hbox hg; obtain ⟨hcz12_0, hcz12_1, hfz12_0, hfz12_1⟩ := zD2 BK341) | ((with_reducible refine gate_callee (f := 35) rfl ?_); refine zL (some 19) Try.func35 #[.agg #[.int .i64 a0_0, .slice A0_1 l0_1.length c0_1], .int .i64 a1, .slice A2 l2.length c2] ?_; (with_reducible refine (burning_Superstable.calls k a0_0 _ _ l0_1 a1 _ _ l2 t342 t343 _ ?side1 ?side2 ?side3 ?side4 A4.out).mono ?_); (case side1 => exact Kd.C_below HR0_1.out zB); (case side2 => exact HC0_1.out); (case side3 => exact Kd.C_below HR2.out zB); (case side4 => exact HC2.out); rintro e w13 ⟨rfl, hb⟩; refine ⟨_, rfl, ?_⟩; replace BK341 := zb BK341 hb; replace HB := zS HB hb; (try clear hb); obtain ⟨hcz14_0, hcz14_1, hfz14_0, hfz14_1⟩ := zD2 BK341) | ((with_reducible refine gate_callee (f := 56) rfl ?_); refine zL (some 29) Try.func56 #[.agg #[.int .i64 a0_0, .slice A0_1 l0_1.length c0_1], .int .i64 a1, .slice A2 l2.length c2] ?_; (with_reducible refine (stabilize_Stable.calls k a0_0 _ _ l0_1 a1 _ _ l2 true t345 _ ?side1 ?side2 ?side3 ?side4 A6.out).mono ?_); (case side1 => exact Kd.C_below HR0_1.out zB); (case side2 => exact HC0_1.out); (case side3 => exact Kd.C_below HR2.out zB); (case side4 => exact HC2.out); rintro e w15 ⟨rfl, hb⟩; refine ⟨_, rfl, ?_⟩; replace BK341 := zb BK341 hb; replace HB := zS HB hb; (try clear hb); obtain ⟨hcz16_0, hcz16_1, hfz16_0, hfz16_1⟩ := zD2 BK341) | ((with_reducible refine gate_callee (f := 43) rfl ?_); refine zL (some 40) Try.func43 #[.agg #[.int .i64 a0_0, .slice A0_1 l0_1.length c0_1], .int .i64 a1] ?_; (with_reducible refine (superstable_first.calls k a0_0 _ _ l0_1 a1 t346 t349 _ ?side1 ?side2 A9.out).mono ?_); (case side1 => exact Kd.C_below HR0_1.out zB); (case side2 => exact HC0_1.out); rintro e w17 ⟨v347, rfl, ho0, hb⟩; refine ⟨_, rfl, ?_⟩; have HO348 := Aside0.mk (Kd.R_lower ho0 (below_size zB)); replace BK341 := zb BK341 hb; replace HB := zS HB hb; (try clear hb); (try clear ho0)))
     go_loopg [48] k (fun kq v48 w' => ∃ (x12_1 : List Int) (x48_1 : Int), v48 = .int .i64 x48_1 ∧ Aside0 (superstable_Dual.l0 kq x12_1 l2 (l2.length : Int) x48_1 = some (r1, r2)) ∧ Aside0 (kq ≤ k) ∧ Aside0 (Kd.R (Kd.int .i64) 3 w' w.heap.size (fun _ => True) v347 x12_1) ∧ Aside0 (w'.heap[gb341]? = some (.cells #[.int .i64 a0_0, (.slice A0_1 l0_1.length c0_1)] 24 (0, 0))) ∧ Aside0 (Below w.heap.size w w'))
     case atStart => exact ⟨(t346), (0), zT, H', ⟨Nat.le_refl _⟩, ⟨zR HO348⟩, ⟨zK BK341⟩, ⟨zB⟩⟩
     case round =>
      clear H'
      try clear c1
      try clear c2
      try clear p2
      try clear c3
      try clear c4
      try clear c5
      try clear c5b0
      try clear c5b1
      try clear c7
      try clear c7b0
      try clear c7b1
      try clear c8
      try clear c10
      try clear c10b0
      try clear c10b1
      try clear hcz12_0
      try clear hcz12_1
      try clear hcz14_0
      try clear hcz14_1
      try clear hcz16_0
      try clear hcz16_1
      try clear hfz12_0
      try clear hfz12_1
      try clear hfz14_0
      try clear hfz14_1
      try clear hfz16_0
      try clear hfz16_1
      obtain ⟨x12_1, x48_1, rfl, HA, HK1, HO_12, BK341, HB⟩ := hrel
      cases gk with
      | zero => exact absurd HA.out (by simp [superstable_Dual.l0])
      | succ k1 =>
       have H := HA.out
       clear HA
       simp only [superstable_Dual.l0] at H
       by_cases c18 : x48_1 < (l2.length : Int)
       ·rw [if_pos c18] at H
        have c18b0 : decide (x48_1 < (l2.length : Int)) = true := decide_eq_true c18
        clear c18
        by_cases c19 : 0 ≤ x48_1
        ·rw [if_pos c19] at H
         have c19b0 : decide (0 ≤ x48_1) = true := decide_eq_true c19
         clear c19
         by_cases c20 : x48_1 < (l2.length : Int)
         ·rw [if_pos c20] at H
          have c20b0 : decide (x48_1 < (l2.length : Int)) = true := decide_eq_true c20
          clear c20
          by_cases c21 : x48_1 < (x12_1.length : Int)
          ·rw [if_pos c21] at H
           have c21b0 : decide (x48_1 < (x12_1.length : Int)) = true := decide_eq_true c21
           clear c21
           obtain ⟨y352, hy352⟩ : ∃ y_ : List Int, y_ = (x12_1.set (x48_1 : Int).toNat (wrap64 ((rd x12_1 x48_1) - (rd l2 x48_1)))) := ⟨_, rfl⟩
           replace H : (superstable_Dual.l0 k1 y352 l2 (l2.length : Int) (wrap64 (x48_1 + 1))) = some (r1, r2) := by first | (rw [hy352]; with_reducible exact H) | (have H2_ := (Option.bind_some _ _).symm.trans H; rw [hy352]; with_reducible exact H2_) | (have H2_ := (Option.bind_some _ _).symm.trans H; with_reducible exact H2_) | with_reducible exact H | (rw [hy352]; exact H) | exact H
           have Ny352 := Aside0.mk hy352
           clear hy352
           have H' := Aside0.mk H
           clear H
           have p350 : 0 ≤ (x48_1 : Int) := of_decide_eq_true ‹_›
           have q350 : x48_1 < (l2.length : Int) := of_decide_eq_true ‹_›
           obtain ⟨ad350, e350, hx350_0⟩ := Kd.at_int HR2.out x48_1 p350 q350
           cases e350
           replace hx350_0 := (HB.out.cell (World.block_lt_of_cell? w _ hx350_0)).trans hx350_0
           replace p350 := eq_true p350
           replace q350 := eq_true q350
           obtain ⟨Ao23, co23, eo23⟩ := Kd.R_slice HO_12.out
           subst eo23
           have p351 : 0 ≤ (x48_1 : Int) := of_decide_eq_true ‹_›
           have q351 : x48_1 < (x12_1.length : Int) := of_decide_eq_true ‹_›
           obtain ⟨ad351, e351, hx351_0⟩ := Kd.at_int (Kd.R_reads' HO_12.out).2.2 x48_1 p351 q351
           cases e351
           replace p351 := eq_true p351
           replace q351 := eq_true q351
           have p22 : 0 ≤ (x48_1 : Int) := of_decide_eq_true ‹_›
           have q22 : (x48_1 : Int) < ((x12_1.length : Int) : Int) := of_decide_eq_true ‹_›
           obtain ⟨go22, co22, eo22, gb22, gl22, cl22, HG22⟩ := Kd.R_form HO_12.out (by omega)
           (first | cases eo22 | (injection eo22 with ea_ en_ ec_; (first | subst ea_ | (injection ea_ with ea_; subst ea_)); subst ec_; clear en_))
           have GB22 := Aside0.mk gb22
           have GG22 := Aside0.mk HG22
           clear gb22 gl22 HG22
           (first | simp only [add_plain] at hx351_0 | skip)
           obtain ⟨hx22_0, hf22_0⟩ := Kd.R_celln 0 HO_12.out (x48_1 : Int) p22 q22
           replace p22 := eq_true p22
           replace q22 := eq_true q22
           have HP24 := Kd.R_putg HO_12.out (x48_1 : Int) (wrap64 ((rd x12_1 x48_1) - (rd l2 x48_1)))
           go_wp2_with (first | ((with_reducible refine gate_store (t := 3) (p := 59) rfl ?_); refine store_event (t := 3) (p := 59) (v := ?vo_w25) (w1 := (wr.setCell ⟨go22, (x48_1 : Int).toNat, none⟩ (.int .i64 (wrap64 ((rd x12_1 x48_1) - (rd l2 x48_1)))))) ?hg ?ho ?hn ?hr ?_; (case ho => rfl); (case hg => rfl); (case hn => rfl); (case hr => first | (go_simp; done) | (go_simp; rfl)); intro w25 hw; have hg : wr.grownBy w25 (some go22) := (by rw [hw]; exact HP24.2); have hp_ : Kd.R (Kd.int .i64) 3 w25 w.heap.size (fun _ => True) (.slice (some ⟨go22, 0, none⟩) x12_1.length co23) y352 := (by rw [hw, Ny352.out]; exact HP24.1); clear HP24; replace BK341 := Aside0.mk (blk_grown (zK BK341) hg (Kd.R_ne HO_12.out BK341.out (by decide))); replace HO_12 := Aside0.mk (hp_); replace HB := Aside0.mk ((by rw [hw]; exact below_set (HB.out) GB22.out : Below w.heap.size w w25)); clear hg hw hp_))
           go_roundg k1
           case measure => have := HK1.out; omega
           case rel => exact ⟨(y352), (wrap64 (x48_1 + 1)), zT, H', ⟨by have := HK1.out; omega⟩, ⟨zR HO_12⟩, ⟨zK BK341⟩, ⟨zB⟩⟩
          ·rw [if_neg c21] at H
           exact absurd H (by simp)
         ·rw [if_neg c20] at H
          exact absurd H (by simp)
        ·rw [if_neg c19] at H
         exact absurd H (by simp)
       ·rw [if_neg c18] at H
        have c18b0 : decide (x48_1 < (l2.length : Int)) = false := decide_eq_false c18
        clear c18
        simp only [Option.some.injEq, Prod.mk.injEq] at H
        obtain ⟨rfl, rfl⟩ := H
        go_wp2
        go_ret2
        exact ⟨_, zE, by (with_reducible repeat (first | apply Kd.R_alloc | apply Kd.R_drewN | apply Kd.R_drew)); exact HO_12.out, zB⟩
    ·rw [if_neg c10] at H
     have c10b0 : (t349 == 0) = false := beq_eq_false_iff_ne.mpr c10
     have c10b1 : (t349 != 0) = true := bne_iff_ne.mpr c10
     simp only [Option.some.injEq, Prod.mk.injEq] at H
     obtain ⟨rfl, rfl⟩ := H
     go_enter Try.func24, Try.ntmps24
     go_wp2_with (first | ((with_reducible refine gate_dst (N := 3) rfl ?_); refine zX 3 #[.int .i64 a0_0, .slice A0_1 l0_1.length c0_1] 24 ?_; intro gb341 hg w26 hbox hb; have BK341 := Aside0.mk (hbox); have GW341 := zG HB hg; have GE341 := zG HB hg; replace HB := zS HB hb; clear hb hbox hg; obtain ⟨hcz27_0, hcz27_1, hfz27_0, hfz27_1⟩ := zD2 BK341) | ((with_reducible refine gate_callee (f := 35) rfl ?_); refine zL (some 19) Try.func35 #[.agg #[.int .i64 a0_0, .slice A0_1 l0_1.length c0_1], .int .i64 a1, .slice A2 l2.length c2] ?_; (with_reducible refine (burning_Superstable.calls k a0_0 _ _ l0_1 a1 _ _ l2 t342 t343 _ ?side1 ?side2 ?side3 ?side4 A4.out).mono ?_); (case side1 => exact Kd.C_below HR0_1.out zB); (case side2 => exact HC0_1.out); (case side3 => exact Kd.C_below HR2.out zB); (case side4 => exact HC2.out); rintro e w28 ⟨rfl, hb⟩; refine ⟨_, rfl, ?_⟩; replace BK341 := zb BK341 hb; replace HB := zS HB hb; (try clear hb); obtain ⟨hcz29_0, hcz29_1, hfz29_0, hfz29_1⟩ := zD2 BK341) | ((with_reducible refine gate_callee (f := 56) rfl ?_); refine zL (some 29) Try.func56 #[.agg #[.int .i64 a0_0, .slice A0_1 l0_1.length c0_1], .int .i64 a1, .slice A2 l2.length c2] ?_; (with_reducible refine (stabilize_Stable.calls k a0_0 _ _ l0_1 a1 _ _ l2 true t345 _ ?side1 ?side2 ?side3 ?side4 A6.out).mono ?_); (case side1 => exact Kd.C_below HR0_1.out zB); (case side2 => exact HC0_1.out); (case side3 => exact Kd.C_below HR2.out zB); (case side4 => exact HC2.out); rintro e w30 ⟨rfl, hb⟩; refine ⟨_, rfl, ?_⟩; replace BK341 := zb BK341 hb; replace HB := zS HB hb; (try clear hb); obtain ⟨hcz31_0, hcz31_1, hfz31_0, hfz31_1⟩ := zD2 BK341) | ((with_reducible refine gate_callee (f := 43) rfl ?_); refine zL (some 40) Try.func43 #[.agg #[.int .i64 a0_0, .slice A0_1 l0_1.length c0_1], .int .i64 a1] ?_; (with_reducible refine (superstable_first.calls k a0_0 _ _ l0_1 a1 t346 t349 _ ?side1 ?side2 A9.out).mono ?_); (case side1 => exact Kd.C_below HR0_1.out zB); (case side2 => exact HC0_1.out); rintro e w32 ⟨v347, rfl, ho0, hb⟩; refine ⟨_, rfl, ?_⟩; have HO348 := Aside0.mk (Kd.R_lower ho0 (below_size zB)); replace BK341 := zb BK341 hb; replace HB := zS HB hb; (try clear hb); (try clear ho0)))
     go_ret2
     exact ⟨_, zE, by first | exact Kd.R_nil _ _ _ _ _ | exact Kd.N_nil _ _ _ _ _ | exact Kd.V_nil _ _ _ _ _ | exact Kd.Q_nil _ _ _ _ _ | exact Kd.S_nil _ _ _ _ _, zB⟩
   ·replace c8 := Bool.eq_false_iff.mpr c8
    subst c8
    have H1 : (some (([] : List Int), 15)) = some (r1, r2) := by rw [if_neg (show ¬ (false = true) by decide)] at H; exact H
    clear H
    have H := H1
    clear H1
    simp only [Option.some.injEq, Prod.mk.injEq] at H
    obtain ⟨rfl, rfl⟩ := H
    go_enter Try.func24, Try.ntmps24
    go_wp2_with (first | ((with_reducible refine gate_dst (N := 3) rfl ?_); refine zX 3 #[.int .i64 a0_0, .slice A0_1 l0_1.length c0_1] 24 ?_; intro gb341 hg w33 hbox hb; have BK341 := Aside0.mk (hbox); have GW341 := zG HB hg; have GE341 := zG HB hg; replace HB := zS HB hb; clear hb hbox hg; obtain ⟨hcz34_0, hcz34_1, hfz34_0, hfz34_1⟩ := zD2 BK341) | ((with_reducible refine gate_callee (f := 35) rfl ?_); refine zL (some 19) Try.func35 #[.agg #[.int .i64 a0_0, .slice A0_1 l0_1.length c0_1], .int .i64 a1, .slice A2 l2.length c2] ?_; (with_reducible refine (burning_Superstable.calls k a0_0 _ _ l0_1 a1 _ _ l2 t342 t343 _ ?side1 ?side2 ?side3 ?side4 A4.out).mono ?_); (case side1 => exact Kd.C_below HR0_1.out zB); (case side2 => exact HC0_1.out); (case side3 => exact Kd.C_below HR2.out zB); (case side4 => exact HC2.out); rintro e w35 ⟨rfl, hb⟩; refine ⟨_, rfl, ?_⟩; replace BK341 := zb BK341 hb; replace HB := zS HB hb; (try clear hb); obtain ⟨hcz36_0, hcz36_1, hfz36_0, hfz36_1⟩ := zD2 BK341) | ((with_reducible refine gate_callee (f := 56) rfl ?_); refine zL (some 29) Try.func56 #[.agg #[.int .i64 a0_0, .slice A0_1 l0_1.length c0_1], .int .i64 a1, .slice A2 l2.length c2] ?_; (with_reducible refine (stabilize_Stable.calls k a0_0 _ _ l0_1 a1 _ _ l2 false t345 _ ?side1 ?side2 ?side3 ?side4 A6.out).mono ?_); (case side1 => exact Kd.C_below HR0_1.out zB); (case side2 => exact HC0_1.out); (case side3 => exact Kd.C_below HR2.out zB); (case side4 => exact HC2.out); rintro e w37 ⟨rfl, hb⟩; refine ⟨_, rfl, ?_⟩; replace BK341 := zb BK341 hb; replace HB := zS HB hb; (try clear hb)))
    go_ret2
    exact ⟨_, zE, by first | exact Kd.R_nil _ _ _ _ _ | exact Kd.N_nil _ _ _ _ _ | exact Kd.V_nil _ _ _ _ _ | exact Kd.Q_nil _ _ _ _ _ | exact Kd.S_nil _ _ _ _ _, zB⟩
  ·rw [if_neg c7] at H
   have c7b0 : (t345 == 0) = false := beq_eq_false_iff_ne.mpr c7
   have c7b1 : (t345 != 0) = true := bne_iff_ne.mpr c7
   simp only [Option.some.injEq, Prod.mk.injEq] at H
   obtain ⟨rfl, rfl⟩ := H
   go_enter Try.func24, Try.ntmps24
   go_wp2_with (first | ((with_reducible refine gate_dst (N := 3) rfl ?_); refine zX 3 #[.int .i64 a0_0, .slice A0_1 l0_1.length c0_1] 24 ?_; intro gb341 hg w38 hbox hb; have BK341 := Aside0.mk (hbox); have GW341 := zG HB hg; have GE341 := zG HB hg; replace HB := zS HB hb; clear hb hbox hg; obtain ⟨hcz39_0, hcz39_1, hfz39_0, hfz39_1⟩ := zD2 BK341) | ((with_reducible refine gate_callee (f := 35) rfl ?_); refine zL (some 19) Try.func35 #[.agg #[.int .i64 a0_0, .slice A0_1 l0_1.length c0_1], .int .i64 a1, .slice A2 l2.length c2] ?_; (with_reducible refine (burning_Superstable.calls k a0_0 _ _ l0_1 a1 _ _ l2 t342 t343 _ ?side1 ?side2 ?side3 ?side4 A4.out).mono ?_); (case side1 => exact Kd.C_below HR0_1.out zB); (case side2 => exact HC0_1.out); (case side3 => exact Kd.C_below HR2.out zB); (case side4 => exact HC2.out); rintro e w40 ⟨rfl, hb⟩; refine ⟨_, rfl, ?_⟩; replace BK341 := zb BK341 hb; replace HB := zS HB hb; (try clear hb); obtain ⟨hcz41_0, hcz41_1, hfz41_0, hfz41_1⟩ := zD2 BK341) | ((with_reducible refine gate_callee (f := 56) rfl ?_); refine zL (some 29) Try.func56 #[.agg #[.int .i64 a0_0, .slice A0_1 l0_1.length c0_1], .int .i64 a1, .slice A2 l2.length c2] ?_; (with_reducible refine (stabilize_Stable.calls k a0_0 _ _ l0_1 a1 _ _ l2 t344 t345 _ ?side1 ?side2 ?side3 ?side4 A6.out).mono ?_); (case side1 => exact Kd.C_below HR0_1.out zB); (case side2 => exact HC0_1.out); (case side3 => exact Kd.C_below HR2.out zB); (case side4 => exact HC2.out); rintro e w42 ⟨rfl, hb⟩; refine ⟨_, rfl, ?_⟩; replace BK341 := zb BK341 hb; replace HB := zS HB hb; (try clear hb)))
   go_ret2
   exact ⟨_, zE, by first | exact Kd.R_nil _ _ _ _ _ | exact Kd.N_nil _ _ _ _ _ | exact Kd.V_nil _ _ _ _ _ | exact Kd.Q_nil _ _ _ _ _ | exact Kd.S_nil _ _ _ _ _, zB⟩
 ·rw [if_neg c5] at H
  have c5b0 : (t343 == 0) = false := beq_eq_false_iff_ne.mpr c5
  have c5b1 : (t343 != 0) = true := bne_iff_ne.mpr c5
  simp only [Option.some.injEq, Prod.mk.injEq] at H
  obtain ⟨rfl, rfl⟩ := H
  go_enter Try.func24, Try.ntmps24
  go_wp2_with (first | ((with_reducible refine gate_dst (N := 3) rfl ?_); refine zX 3 #[.int .i64 a0_0, .slice A0_1 l0_1.length c0_1] 24 ?_; intro gb341 hg w43 hbox hb; have BK341 := Aside0.mk (hbox); have GW341 := zG HB hg; have GE341 := zG HB hg; replace HB := zS HB hb; clear hb hbox hg; obtain ⟨hcz44_0, hcz44_1, hfz44_0, hfz44_1⟩ := zD2 BK341) | ((with_reducible refine gate_callee (f := 35) rfl ?_); refine zL (some 19) Try.func35 #[.agg #[.int .i64 a0_0, .slice A0_1 l0_1.length c0_1], .int .i64 a1, .slice A2 l2.length c2] ?_; (with_reducible refine (burning_Superstable.calls k a0_0 _ _ l0_1 a1 _ _ l2 t342 t343 _ ?side1 ?side2 ?side3 ?side4 A4.out).mono ?_); (case side1 => exact Kd.C_below HR0_1.out zB); (case side2 => exact HC0_1.out); (case side3 => exact Kd.C_below HR2.out zB); (case side4 => exact HC2.out); rintro e w45 ⟨rfl, hb⟩; refine ⟨_, rfl, ?_⟩; replace BK341 := zb BK341 hb; replace HB := zS HB hb; (try clear hb)))
  go_ret2
  exact ⟨_, zE, by first | exact Kd.R_nil _ _ _ _ _ | exact Kd.N_nil _ _ _ _ _ | exact Kd.V_nil _ _ _ _ _ | exact Kd.Q_nil _ _ _ _ _ | exact Kd.S_nil _ _ _ _ _, zB⟩
mutual
def sandpileref28_Raised.l0 : Nat → Int → List Int → List Int → List Int → Int → Int → List (S66) → Option (List Int)
 | 0, _, _, _, _, _, _, _ => none
 | k + 1, x1, x2, x7, x8, x9, x316000, x316001 => if x9 < x316000 then (if x9 = x1 then (sandpileref28_Raised.l0 k x1 x2 x7 x8 (wrap64 (x9 + 1)) x316000 x316001) else (if 0 ≤ x9 then (if x9 < (x2.length : Int) then (sandpileref28_Raised.l1 k x1 x2 x7 x8 x9 (wrap64 ((rd x2 x9) + 1)) x316000 x316001) else (none)) else (none))) else (some x7)
def sandpileref28_Raised.l1 : Nat → Int → List Int → List Int → List Int → Int → Int → Int → List (S66) → Option (List Int)
 | 0, _, _, _, _, _, _, _, _ => none
 | k + 1, x1, x2, x7, x8, x9, x10, x316000, x316001 => if 0 ≤ x9 then (if x9 < (x8.length : Int) then (if x10 ≤ (rd x8 x9) then ((some (([] : List Int) : List Int)).bind fun y327 => (if y327.length + x7.length < 17592186044416 then ((some (y327 ++ x7 : List Int)).bind fun y330 => (if x9 < (y330.length : Int) then ((some (y330.set (x9 : Int).toNat x10 : List Int)).bind fun y333 => ((sandpileref23_Is.f k x316000 x316001 x1 y333).bind fun t334 => (if t334 = true then (sandpileref28_Raised.l1 k x1 x2 y333 x8 x9 (wrap64 (x10 + 1)) x316000 x316001) else (sandpileref28_Raised.l1 k x1 x2 x7 x8 x9 (wrap64 (x10 + 1)) x316000 x316001)))) else (none))) else (none))) else (sandpileref28_Raised.l0 k x1 x2 x7 x8 (wrap64 (x9 + 1)) x316000 x316001)) else (none)) else (none)
end
section
theorem map_set {n : Nat} {f g : Nat → Int} {v : Nat} {x : Int} (h : ∀ u, u < n → u ≠ v → f u = g u) (hx : x = g v) : ((List.range n).map f).set v x = (List.range n).map g := by
 apply List.ext_getElem
 ·simp
 ·intro i h1 h2
  rw [List.getElem_set]
  have hi : i < n := by simpa using h2
  split
  ·rename_i e; subst e; simp [hx]
  ·rename_i e; simp only [List.getElem_map, List.getElem_range]; exact h i hi (fun e' => e e'.symm)
theorem rd_map {n : Nat} (f : Nat → Int) {v : Nat} (h : v < n) : rd ((List.range n).map f) v = f v := by simp [rd, List.getD_eq_getElem?_getD, List.getElem?_map, List.getElem?_range h]
namespace Small
variable {n q : Nat} {E : List S66}
end Small
end
section
def wl (E : List S66) (n : Nat) (q : Int) (c : List Int) : Nat → Nat → List Int
 | 0, _ => []
 | m + 1, v => if (v : Int) = q then wl E n q c m (v + 1) else if rd c v ≥ valN E v n then (v : Int) :: wl E n q c m (v + 1) else wl E n q c m (v + 1)
theorem wait_l0 {N : Int} {E : List S66} (hR : RightE N E) (hE : E.length ≤ 1000) (n : Nat) (hn : n ≤ 1000) (q : Int) (c : List Int) (hc : c.length = n) : ∀ (m v : Nat) (o : List Int), v + m = n → o.length ≤ v → Ev (fun k => sandpileref19_Waiting.l0 k q c o v n E) (o ++ wl E n q c m v)
 | 0, v, o, hv, ho => by
  refine Ev.of_succ ?_
  simp only [sandpileref19_Waiting.l0, if_neg (show ¬ (v : Int) < n by omega), wl, List.append_nil]
  exact Ev.const _
 | m + 1, v, o, hv, ho => by
  refine Ev.of_succ ?_
  simp only [sandpileref19_Waiting.l0, if_pos (show (v : Int) < n by omega), wl, wrap_succ (show v ≤ 1000000 by omega)]
  by_cases hq : (v : Int) = q
  ·simp only [if_pos hq]
   exact wait_l0 hR hE n hn q c hc m (v + 1) o (by omega) (by omega)
  ·simp only [if_neg hq, if_pos (show (0 : Int) ≤ v by omega), if_pos (show (v : Int) < c.length by omega)]
   refine Ev.bind (valence_ev hR hE n hn v) ?_
   by_cases hw : rd c v ≥ valN E v n
   ·simp only [if_pos hw, if_pos (show o.length < 17592186044416 by omega)]
    have := wait_l0 hR hE n hn q c hc m (v + 1) (o ++ [(v : Int)]) (by omega) (by simp; omega)
    simpa [List.append_assoc] using this
   ·simp only [if_neg hw]
    exact wait_l0 hR hE n hn q c hc m (v + 1) o (by omega) (by omega)
theorem wl_nil (E : List S66) (n q : Nat) (c : List Int) : ∀ (m v : Nat), v + m ≤ n → (wl E n q c m v = [] ↔ ∀ i, v ≤ i → i < v + m → looseB q (valL E n) c i = false)
 | 0, v, _ => by simp [wl]; intro i h1 h2; omega
 | m + 1, v, hv => by
  have ih := wl_nil E n q c m (v + 1) (by omega)
  rw [wl]
  by_cases hq : (v : Int) = q
  ·rw [if_pos hq, ih]
   constructor
   ·intro h i h1 h2
    by_cases e : i = v
    ·subst e; simp [looseB, hq]
    ·exact h i (by omega) (by omega)
   ·exact fun h i h1 h2 => h i (by omega) (by omega)
  ·rw [if_neg hq]
   by_cases hw : rd c v ≥ valN E v n
   ·rw [if_pos hw]
    refine ⟨fun h => (by cases h), fun h => ?_⟩
    have := h v (Nat.le_refl _) (by omega)
    unfold looseB at this
    rw [rd_valL E n v (by omega), decide_eq_true hq, decide_eq_true (show valN E v n ≤ rd c v from hw)] at this
    cases this
   ·rw [if_neg hw, ih]
    constructor
    ·intro h i h1 h2
     by_cases e : i = v
     ·subst e
      unfold looseB
      rw [rd_valL E n i (by omega), decide_eq_false (show ¬ valN E i n ≤ rd c i from hw), Bool.and_false]
     ·exact h i (by omega) (by omega)
    ·exact fun h i h1 h2 => h i (by omega) (by omega)
def calmB (E : List S66) (n q : Nat) (c : List Int) : Bool := noneTo (looseB q (valL E n) c) n
theorem calm19_ev {n q : Nat} {E : List S66} (h : Small n q E) {c : List Int} (hc : c.length = n) : Ev (fun k => sandpileref19_Calm.f k n E q c) (calmB E n q c) := by
 unfold sandpileref19_Calm.f sandpileref19_Waiting.f
 refine Ev.bind (wait_l0 h.right (by have := h.len; omega) n (by have := h.n5; omega) q c hc n 0 [] (by omega) (by simp)) ?_
 have e : (((([] : List Int) ++ wl E n q c n 0).length : Int) == 0) = calmB E n q c := by
  rw [List.nil_append, Bool.eq_iff_iff]
  have h1 := wl_nil E n q c n 0 (by omega)
  unfold calmB noneTo
  rw [List.all_eq_true]
  constructor
  ·intro h2 i hi
   have h3 : wl E n q c n 0 = [] := by
    have := beq_iff_eq.1 h2
    exact List.length_eq_zero_iff.1 (by omega)
   simp [h1.1 h3 i (by omega) (by simpa using hi)]
  ·intro h2
   rw [h1.2 fun i _ hi => by have := h2 i (List.mem_range.2 (by omega)); simpa using this]
   rfl
 rw [e]
 exact Ev.const _
namespace Small
variable {n q : Nat} {E : List S66}
theorem stable_ev (h : Small n q E) {c : List Int} (he : err23 n E q c = 0) : Ev (fun k => stabilize_Stable.f k n E q c) (calmB E n q c, (0 : Int)) := by
 obtain ⟨hr, hg⟩ := err23_good he
 have h0 : errC n E q c = 0 := by
  unfold err23 at he
  by_cases e : errC n E q c = 0
  ·exact e
  ·rw [if_neg e] at he; exact absurd he e
 have hs := stCheck_ev n E q c (by have := h.len; omega)
 rw [h0] at hs
 unfold stabilize_Stable.f
 refine Ev.bind hs ?_
 simp only [if_true, Int.toNat_natCast, if_pos (show okList n E = true ∧ c.length = n from ⟨h.list_ok, hg.len⟩), pileVal_eq h.right]
 exact Ev.const _
def topE (E : List S66) (n q : Nat) : List Int := topTo (valL E n) q n n
theorem rd_topE (E : List S66) {n q v : Nat} (hv : v < n) : rd (topE E n q) v = if v = q then 0 else valN E v n - 1 := by
 unfold topE topTo
 rw [rd_map _ hv, rd_valL E n v hv]
 by_cases e : v = q
 ·rw [if_neg (by omega), if_pos e]
 ·rw [if_pos (by omega), if_neg e]
def dualOf (E : List S66) (n q : Nat) (c : List Int) : List Int := (List.range n).map fun (v : Nat) => rd (topE E n q) v - rd c v
theorem dual_l0 (h : Small n q E) {c : List Int} (hg : GoodC n q c) : ∀ (m v : Nat), v + m = n → Ev (fun k => superstable_Dual.l0 k ((List.range n).map fun (u : Nat) => if u < v then rd (topE E n q) u - rd c u else rd (topE E n q) u) c n v) (dualOf E n q c, (0 : Int))
 | 0, v, hv => by
  refine Ev.of_succ ?_
  simp only [superstable_Dual.l0, if_neg (show ¬ (v : Int) < n by omega)]
  have : (List.range n).map (fun (u : Nat) => if u < v then rd (topE E n q) u - rd c u else rd (topE E n q) u) = dualOf E n q c := List.map_congr_left fun u hu => by
   have := List.mem_range.1 hu
   rw [if_pos (by omega)]
  rw [this]
  exact Ev.const _
 | m + 1, v, hv => by
  have ih := dual_l0 h hg m (v + 1) (by omega)
  have hl := hg.len
  have hp := hg.pos v
  have hu := hg.up v
  have hval := h.val_le v
  have hb := (valN_bound h.right v n).1
  have hn5 := h.n5
  have ht : -1 ≤ rd (topE E n q) v ∧ rd (topE E n q) v ≤ 8 := by
   rw [rd_topE E (by omega)]; split <;> omega
  refine Ev.of_succ ?_
  simp only [superstable_Dual.l0, if_pos (show (v : Int) < n by omega), if_pos (show (0 : Int) ≤ v by omega), if_pos (show (v : Int) < c.length by omega), if_pos (show (v : Int) < ((List.range n).map fun (u : Nat) => if u < v then rd (topE E n q) u - rd c u else rd (topE E n q) u).length by simp; omega),
   rd_map (fun (u : Nat) => if u < v then rd (topE E n q) u - rd c u else rd (topE E n q) u) (show v < n by omega), if_neg (show ¬ v < v by omega), wrap_id (show -1000000000 ≤ rd (topE E n q) v - rd c v ∧ rd (topE E n q) v - rd c v ≤ 1000000000 by omega), wrap_succ (show v ≤ 1000000 by omega), Int.toNat_natCast]
  rw [map_set (g := fun (u : Nat) => if u < v + 1 then rd (topE E n q) u - rd c u else rd (topE E n q) u) (fun u _ hu => by
   by_cases e : u < v
   ·rw [if_pos e, if_pos (by omega)]
   ·rw [if_neg e, if_neg (by omega)]) (by rw [if_pos (by omega)])]
  exact ih
theorem dual_ev (h : Small n q E) {c : List Int} (he : err23 n E q c = 0) : Ev (fun k => superstable_Dual.f k n E q c) (if calmB E n q c = true then (dualOf E n q c, (0 : Int)) else (([] : List Int), (15 : Int))) := by
 obtain ⟨hr, hg⟩ := err23_good he
 unfold superstable_Dual.f
 refine Ev.bind (burn_ev (by have := h.len; omega) (by have := h.n5; omega) h.right.inB he) ?_
 simp only [if_true]
 refine Ev.bind (h.stable_ev he) ?_
 simp only [if_true]
 by_cases hcalm : calmB E n q c = true
 ·simp only [if_pos hcalm]
  have hf := h.first_ev hr
  rw [pileVal_eq h.right] at hf
  refine Ev.bind hf ?_
  simp only [if_true, hg.len]
  have := dual_l0 h hg n 0 (by omega)
  rw [show (List.range n).map (fun (u : Nat) => if u < 0 then rd (topE E n q) u - rd c u else rd (topE E n q) u) = topE E n q by
   apply List.ext_getElem
   ·simp [topE, topTo_length]
   ·intro i h1 h2
    have hi : i < n := by simpa using h1
    simp [rd, List.getD_eq_getElem?_getD, List.getElem?_eq_getElem h2]] at this
  exact this
 ·simp only [if_neg hcalm]; exact Ev.const _
end Small
end
section
theorem rd_ext {a b : List Int} (hl : a.length = b.length) (h : ∀ v : Nat, v < a.length → rd a v = rd b v) : a = b := by
 apply List.ext_getElem hl
 intro i h1 h2
 have := h i h1
 simpa [rd, List.getD_eq_getElem?_getD, List.getElem?_eq_getElem h1, List.getElem?_eq_getElem h2] using this
namespace Small
variable {n q : Nat} {E : List S66}
end Small
end
section
def conB (B : Nat → Bool) (v u : Int) (x : S66) : Int := if x.f0 ≠ x.f1 ∧ (x.f0 = v ∧ x.f1 < u ∧ B x.f1.toNat = true ∨ x.f1 = v ∧ x.f0 < u ∧ B x.f0.toNat = true) then x.f2 else 0
theorem flames_sum {N : Int} {E : List S66} (hR : RightE N E) (B : Nat → Bool) (v : Nat) (hv : B v = false) : ∀ u : Nat, flamesTo (timesOf E) B v u = sumE (conB B v u) E
 | 0 => by
  rw [sumE_zero]
  ·rfl
  ·intro x hx
   have := hR.ok x hx
   simp [edgeOk] at this
   rw [conB, if_neg (by omega)]
 | u + 1 => by
  rw [flamesTo, flames_sum hR B v hv u]
  cases hb : B u with
  | false =>
   rw [if_neg (by decide), sumE_congr (f := conB B v (u + 1 : Nat)) (g := conB B v u)]
   ·omega
   ·intro x hx
    have ho := hR.ok x hx
    simp [edgeOk] at ho
    unfold conB
    by_cases h : x.f0 ≠ x.f1 ∧ (x.f0 = (v : Int) ∧ x.f1 < (u : Int) ∧ B x.f1.toNat = true ∨ x.f1 = (v : Int) ∧ x.f0 < (u : Int) ∧ B x.f0.toNat = true)
    ·rw [if_pos h, if_pos ⟨h.1, by rcases h.2 with h | h; exact Or.inl ⟨h.1, by omega, h.2.2⟩; exact Or.inr ⟨h.1, by omega, h.2.2⟩⟩]
    ·rw [if_neg h, if_neg]
     rintro ⟨h1, h2 | h2⟩
     ·refine h ⟨h1, Or.inl ⟨h2.1, ?_, h2.2.2⟩⟩
      by_cases e : x.f1 = u
      ·have := h2.2.2; rw [show x.f1.toNat = u by omega, hb] at this; cases this
      ·omega
     ·refine h ⟨h1, Or.inr ⟨h2.1, ?_, h2.2.2⟩⟩
      by_cases e : x.f0 = u
      ·have := h2.2.2; rw [show x.f0.toNat = u by omega, hb] at this; cases this
      ·omega
  | true =>
   have huv : u ≠ v := fun e => by subst e; rw [hv] at hb; cases hb
   rw [if_pos rfl, times_btw hR v u (fun e => huv e.symm), btw_sum _ _ hR.order, ← sumE_add]
   refine (sumE_congr fun x hx => ?_).symm
   have hl := hR.le x hx
   have ho := hR.ok x hx
   simp [edgeOk] at ho
   show conB B v (u + 1 : Nat) x = conB B v u x + _
   by_cases h2 : x.f0 = min (v : Int) u ∧ x.f1 = max (v : Int) u
   ·have hA : conB B v (u + 1 : Nat) x = x.f2 := if_pos ⟨by omega, by
     by_cases e : v < u
     ·exact Or.inl ⟨by omega, by omega, by rw [show x.f1.toNat = u by omega]; exact hb⟩
     ·exact Or.inr ⟨by omega, by omega, by rw [show x.f0.toNat = u by omega]; exact hb⟩⟩
    have hB : conB B v u x = 0 := if_neg (by omega)
    rw [hA, hB, if_pos h2]
    omega
   ·unfold conB
    rw [if_neg h2]
    by_cases h : x.f0 ≠ x.f1 ∧ (x.f0 = (v : Int) ∧ x.f1 < (u : Int) ∧ B x.f1.toNat = true ∨ x.f1 = (v : Int) ∧ x.f0 < (u : Int) ∧ B x.f0.toNat = true)
    ·rw [if_pos h, if_pos ⟨h.1, by rcases h.2 with h | h; exact Or.inl ⟨h.1, by omega, h.2.2⟩; exact Or.inr ⟨h.1, by omega, h.2.2⟩⟩]; omega
    ·rw [if_neg h, if_neg]
     ·rfl
     ·rintro ⟨h1, h3 | h3⟩
      ·exact h ⟨h1, Or.inl ⟨h3.1, by omega, h3.2.2⟩⟩
      ·exact h ⟨h1, Or.inr ⟨h3.1, by omega, h3.2.2⟩⟩
theorem flamesTo_up {t : Nat → Nat → Int} (ht : ∀ i j, 0 ≤ t i j) {b b' : Nat → Bool} {v : Nat} : ∀ n, (∀ u, u < n → b u = true → b' u = true) → flamesTo t b v n ≤ flamesTo t b' v n
 | 0, _ => Int.le_refl _
 | n + 1, h => by
  have ih := flamesTo_up ht (v := v) n fun u hu => h u (by omega)
  have h0 := ht v n
  rw [flamesTo, flamesTo]
  cases hb : b n with
  | false => rw [if_neg (by decide)]; split <;> omega
  | true => rw [if_pos rfl, h n (by omega) hb, if_pos rfl]; omega
theorem NoBlock.congr {n : Nat} {t : Nat → Nat → Int} {q : Nat} {c c' : Nat → Int} (h : NoBlock n t q c) (hc : ∀ v, v < n → v ≠ q → c' v ≤ c v) : NoBlock n t q c' := by
 rintro S hS hq
 obtain ⟨v, h1, h2, h3⟩ := h S hS hq
 have : v ≠ q := fun e => by subst e; rw [hq] at h2; cases h2
 exact ⟨v, h1, h2, by have := hc v h1 this; omega⟩
namespace Small
variable {n q : Nat} {E : List S66}
end Small
end
def recurrent_check.f (k : Nat) (a0_0 : Int) (l0_1 : List (S66)) (a1 : Int) (l2 : List Int) : Option (Int) := (stabilize_Check.f k a0_0 l0_1 a1 l2).bind fun t401 => (if t401 = 0 then (if 0 ≤ a1 then (if a1 < (l2.length : Int) then (if (rd l2 a1) = 0 then (some 0) else (some 3)) else (none)) else (none)) else (some t401))
theorem recurrent_check.calls (k : Nat) (a0_0 : Int) (A0_1 : Option Addr) (c0_1 : Nat) (l0_1 : List (S66)) (a1 : Int) (A2 : Option Addr) (c2 : Nat) (l2 : List Int) (r : Int) (w : World) (hr0_1 : Kd.C k66 w A0_1 l0_1.length l0_1) (hc0_1 : l0_1.length ≤ c0_1) (hr2 : Kd.C (Kd.int .i64) w A2 l2.length l2) (hc2 : l2.length ≤ c2) (h : recurrent_check.f k a0_0 l0_1 a1 l2 = some r) :
  Calls Try.prog 66 #[.agg #[.int .i64 a0_0, .slice A0_1 l0_1.length c0_1], .int .i64 a1, .slice A2 l2.length c2] w fun e w' => e = .returned (.int .i64 r) ∧ Below w.heap.size w w' := by
 have hu24 := Try.underlying24
 have HR0_1 := Aside0.mk hr0_1
 have HC0_1 := Aside0.mk hc0_1
 clear hr0_1 hc0_1
 have HR2 := Aside0.mk hr2
 have HC2 := Aside0.mk hc2
 clear hr2 hc2
 have HB := Aside0.mk (Below.refl w.heap.size w)
 have H : ((stabilize_Check.f k a0_0 l0_1 a1 l2).bind fun t401 => (if t401 = 0 then (if 0 ≤ a1 then (if a1 < (l2.length : Int) then (if (rd l2 a1) = 0 then (some 0) else (some 3)) else (none)) else (none)) else (some t401))) = some r := h
 clear h
 replace H := Option.bind_eq_some_iff.mp H
 obtain ⟨t401, A40, H⟩ := H
 replace H : (if t401 = 0 then (if 0 ≤ a1 then (if a1 < (l2.length : Int) then (if (rd l2 a1) = 0 then (some 0) else (some 3)) else (none)) else (none)) else (some t401)) = some r := H
 have A4 := Aside0.mk A40
 clear A40
 by_cases c5 : t401 = 0
 ·rw [if_pos c5] at H
  have c5b0 : (t401 == 0) = true := beq_iff_eq.mpr c5
  have c5b1 : (t401 != 0) = false := bne_eq_false_iff_eq.mpr c5
  clear c5
  by_cases c6 : 0 ≤ a1
  ·rw [if_pos c6] at H
   have c6b0 : decide (0 ≤ a1) = true := decide_eq_true c6
   clear c6
   by_cases c7 : a1 < (l2.length : Int)
   ·rw [if_pos c7] at H
    have c7b0 : decide (a1 < (l2.length : Int)) = true := decide_eq_true c7
    clear c7
    by_cases c8 : (rd l2 a1) = 0
    ·rw [if_pos c8] at H
     have c8b0 : ((rd l2 a1) == 0) = true := beq_iff_eq.mpr c8
     have c8b1 : ((rd l2 a1) != 0) = false := bne_eq_false_iff_eq.mpr c8
     clear c8
     obtain rfl := Option.some.inj H
     go_enter Try.func66, Try.ntmps66
     go_wp2_with (first | ((with_reducible refine gate_dst (N := 3) rfl ?_); refine zX 3 #[.int .i64 a0_0, .slice A0_1 l0_1.length c0_1] 24 ?_; intro gb400 hg w9 hbox hb; have BK400 := Aside0.mk (hbox); have GW400 := zG HB hg; have GE400 := zG HB hg; replace HB := zS HB hb; clear hb hbox hg; obtain ⟨hcz10_0, hcz10_1, hfz10_0, hfz10_1⟩ := zD2 BK400) | ((with_reducible refine gate_callee (f := 88) rfl ?_); refine zL (some 11) Try.func88 #[.agg #[.int .i64 a0_0, .slice A0_1 l0_1.length c0_1], .int .i64 a1, .slice A2 l2.length c2] ?_; (with_reducible refine (stabilize_Check.calls k a0_0 _ _ l0_1 a1 _ _ l2 t401 _ ?side1 ?side2 ?side3 ?side4 A4.out).mono ?_); (case side1 => exact Kd.C_below HR0_1.out zB); (case side2 => exact HC0_1.out); (case side3 => exact Kd.C_below HR2.out zB); (case side4 => exact HC2.out); rintro e w11 ⟨rfl, hb⟩; refine ⟨_, rfl, ?_⟩; replace BK400 := zb BK400 hb; replace HB := zS HB hb; (try clear hb); have p402 : 0 ≤ (a1 : Int) := of_decide_eq_true ‹_›; have q402 : a1 < (l2.length : Int) := of_decide_eq_true ‹_›; obtain ⟨ad402, e402, hx402_0⟩ := Kd.at_int HR2.out a1 p402 q402; cases e402; replace hx402_0 := (HB.out.cell (World.block_lt_of_cell? w _ hx402_0)).trans hx402_0; replace p402 := eq_true p402; replace q402 := eq_true q402))
     go_ret
     exact ⟨zE, zB⟩
    ·rw [if_neg c8] at H
     have c8b0 : ((rd l2 a1) == 0) = false := beq_eq_false_iff_ne.mpr c8
     have c8b1 : ((rd l2 a1) != 0) = true := bne_iff_ne.mpr c8
     obtain rfl := Option.some.inj H
     go_enter Try.func66, Try.ntmps66
     go_wp2_with (first | ((with_reducible refine gate_dst (N := 3) rfl ?_); refine zX 3 #[.int .i64 a0_0, .slice A0_1 l0_1.length c0_1] 24 ?_; intro gb400 hg w12 hbox hb; have BK400 := Aside0.mk (hbox); have GW400 := zG HB hg; have GE400 := zG HB hg; replace HB := zS HB hb; clear hb hbox hg; obtain ⟨hcz13_0, hcz13_1, hfz13_0, hfz13_1⟩ := zD2 BK400) | ((with_reducible refine gate_callee (f := 88) rfl ?_); refine zL (some 11) Try.func88 #[.agg #[.int .i64 a0_0, .slice A0_1 l0_1.length c0_1], .int .i64 a1, .slice A2 l2.length c2] ?_; (with_reducible refine (stabilize_Check.calls k a0_0 _ _ l0_1 a1 _ _ l2 t401 _ ?side1 ?side2 ?side3 ?side4 A4.out).mono ?_); (case side1 => exact Kd.C_below HR0_1.out zB); (case side2 => exact HC0_1.out); (case side3 => exact Kd.C_below HR2.out zB); (case side4 => exact HC2.out); rintro e w14 ⟨rfl, hb⟩; refine ⟨_, rfl, ?_⟩; replace BK400 := zb BK400 hb; replace HB := zS HB hb; (try clear hb); have p402 : 0 ≤ (a1 : Int) := of_decide_eq_true ‹_›; have q402 : a1 < (l2.length : Int) := of_decide_eq_true ‹_›; obtain ⟨ad402, e402, hx402_0⟩ := Kd.at_int HR2.out a1 p402 q402; cases e402; replace hx402_0 := (HB.out.cell (World.block_lt_of_cell? w _ hx402_0)).trans hx402_0; replace p402 := eq_true p402; replace q402 := eq_true q402))
     go_ret
     exact ⟨zE, zB⟩
   ·rw [if_neg c7] at H
    exact absurd H (by simp)
  ·rw [if_neg c6] at H
   exact absurd H (by simp)
 ·rw [if_neg c5] at H
  have c5b0 : (t401 == 0) = false := beq_eq_false_iff_ne.mpr c5
  have c5b1 : (t401 != 0) = true := bne_iff_ne.mpr c5
  obtain rfl := Option.some.inj H
  go_enter Try.func66, Try.ntmps66
  go_wp2_with (first | ((with_reducible refine gate_dst (N := 3) rfl ?_); refine zX 3 #[.int .i64 a0_0, .slice A0_1 l0_1.length c0_1] 24 ?_; intro gb400 hg w15 hbox hb; have BK400 := Aside0.mk (hbox); have GW400 := zG HB hg; have GE400 := zG HB hg; replace HB := zS HB hb; clear hb hbox hg; obtain ⟨hcz16_0, hcz16_1, hfz16_0, hfz16_1⟩ := zD2 BK400) | ((with_reducible refine gate_callee (f := 88) rfl ?_); refine zL (some 11) Try.func88 #[.agg #[.int .i64 a0_0, .slice A0_1 l0_1.length c0_1], .int .i64 a1, .slice A2 l2.length c2] ?_; (with_reducible refine (stabilize_Check.calls k a0_0 _ _ l0_1 a1 _ _ l2 t401 _ ?side1 ?side2 ?side3 ?side4 A4.out).mono ?_); (case side1 => exact Kd.C_below HR0_1.out zB); (case side2 => exact HC0_1.out); (case side3 => exact Kd.C_below HR2.out zB); (case side4 => exact HC2.out); rintro e w17 ⟨rfl, hb⟩; refine ⟨_, rfl, ?_⟩; replace BK400 := zb BK400 hb; replace HB := zS HB hb; (try clear hb)))
  go_ret
  exact ⟨zE, zB⟩
def graph_at.l0 : Nat → List Int → Int → Int → Int → List (S66) → Option (Int)
 | 0, _, _, _, _, _ => none
 | k + 1, x13, x14, x15, x421000, x421001 => if x15 < x14 then (if 0 ≤ x15 then (if x15 < (x13.length : Int) then ((graph_vertex.f x421000 (rd x13 x15)).bind fun t423 => (if t423 = true then (graph_at.l0 k x13 x14 (wrap64 (x15 + 1)) x421000 x421001) else (some 2))) else (none)) else (none)) else (some 0)
def graph_at.f (k : Nat) (a0_0 : Int) (l0_1 : List (S66)) (l1 : List Int) : Option (Int) := (graph_Check.f k a0_0 l0_1).bind fun t421 => (if t421 = 0 then (graph_at.l0 k l1 (l1.length : Int) 0 a0_0 l0_1) else (some t421))
theorem graph_at.calls (k : Nat) (a0_0 : Int) (A0_1 : Option Addr) (c0_1 : Nat) (l0_1 : List (S66)) (A1 : Option Addr) (c1 : Nat) (l1 : List Int) (r : Int) (w : World) (hr0_1 : Kd.C k66 w A0_1 l0_1.length l0_1) (hc0_1 : l0_1.length ≤ c0_1) (hr1 : Kd.C (Kd.int .i64) w A1 l1.length l1) (hc1 : l1.length ≤ c1) (h : graph_at.f k a0_0 l0_1 l1 = some r) :
  Calls Try.prog 116 #[.agg #[.int .i64 a0_0, .slice A0_1 l0_1.length c0_1], .slice A1 l1.length c1] w fun e w' => e = .returned (.int .i64 r) ∧ Below w.heap.size w w' := by
 have hu24 := Try.underlying24
 have HR0_1 := Aside0.mk hr0_1
 have HC0_1 := Aside0.mk hc0_1
 clear hr0_1 hc0_1
 have HR1 := Aside0.mk hr1
 have HC1 := Aside0.mk hc1
 clear hr1 hc1
 have HB := Aside0.mk (Below.refl w.heap.size w)
 have H : ((graph_Check.f k a0_0 l0_1).bind fun t421 => (if t421 = 0 then (graph_at.l0 k l1 (l1.length : Int) 0 a0_0 l0_1) else (some t421))) = some r := h
 clear h
 replace H := Option.bind_eq_some_iff.mp H
 obtain ⟨t421, A30, H⟩ := H
 replace H : (if t421 = 0 then (graph_at.l0 k l1 (l1.length : Int) 0 a0_0 l0_1) else (some t421)) = some r := H
 have A3 := Aside0.mk A30
 clear A30
 by_cases c4 : t421 = 0
 ·rw [if_pos c4] at H
  have c4b0 : (t421 == 0) = true := beq_iff_eq.mpr c4
  have c4b1 : (t421 != 0) = false := bne_eq_false_iff_eq.mpr c4
  clear c4
  have H' := Aside0.mk H
  clear H
  go_enter Try.func116, Try.ntmps116
  go_wp2_with (first | ((with_reducible refine gate_dst (N := 2) rfl ?_); refine zX 2 #[.int .i64 a0_0, .slice A0_1 l0_1.length c0_1] 24 ?_; intro gb420 hg w5 hbox hb; have BK420 := Aside0.mk (hbox); have GW420 := zG HB hg; have GE420 := zG HB hg; replace HB := zS HB hb; clear hb hbox hg; obtain ⟨hcz6_0, hcz6_1, hfz6_0, hfz6_1⟩ := zD2 BK420) | ((with_reducible refine gate_callee (f := 113) rfl ?_); refine zL (some 9) Try.func113 #[.agg #[.int .i64 a0_0, .slice A0_1 l0_1.length c0_1]] ?_; (with_reducible refine (graph_Check.calls k a0_0 _ _ l0_1 t421 _ ?side1 ?side2 A3.out).mono ?_); (case side1 => exact Kd.C_below HR0_1.out zB); (case side2 => exact HC0_1.out); rintro e w7 ⟨rfl, hb⟩; refine ⟨_, rfl, ?_⟩; replace BK420 := zb BK420 hb; replace HB := zS HB hb; (try clear hb)))
  go_loopg [15] k (fun kq v15 w' => ∃ (x15_1 : Int), v15 = .int .i64 x15_1 ∧ Aside0 (graph_at.l0 kq l1 (l1.length : Int) x15_1 a0_0 l0_1 = some r) ∧ Aside0 (kq ≤ k) ∧ Aside0 (w'.heap[gb420]? = some (.cells #[.int .i64 a0_0, (.slice A0_1 l0_1.length c0_1)] 24 (0, 0))) ∧ Aside0 (Below w.heap.size w w'))
  case atStart => exact ⟨(0), zT, H', ⟨Nat.le_refl _⟩, ⟨zK BK420⟩, ⟨zB⟩⟩
  case round =>
   clear H'
   try clear c1
   try clear p2
   try clear c4
   try clear c4b0
   try clear c4b1
   try clear hcz6_0
   try clear hcz6_1
   try clear hfz6_0
   try clear hfz6_1
   obtain ⟨x15_1, rfl, HA, HK1, BK420, HB⟩ := hrel
   cases gk with
   | zero => exact absurd HA.out (by simp [graph_at.l0])
   | succ k1 =>
    have H := HA.out
    clear HA
    simp only [graph_at.l0] at H
    by_cases c8 : x15_1 < (l1.length : Int)
    ·rw [if_pos c8] at H
     have c8b0 : decide (x15_1 < (l1.length : Int)) = true := decide_eq_true c8
     clear c8
     by_cases c9 : 0 ≤ x15_1
     ·rw [if_pos c9] at H
      have c9b0 : decide (0 ≤ x15_1) = true := decide_eq_true c9
      clear c9
      by_cases c10 : x15_1 < (l1.length : Int)
      ·rw [if_pos c10] at H
       have c10b0 : decide (x15_1 < (l1.length : Int)) = true := decide_eq_true c10
       clear c10
       replace H := Option.bind_eq_some_iff.mp H
       obtain ⟨t423, A110, H⟩ := H
       replace H : (if t423 = true then (graph_at.l0 k1 l1 (l1.length : Int) (wrap64 (x15_1 + 1)) a0_0 l0_1) else (some 2)) = some r := H
       have A11 := Aside0.mk A110
       clear A110
       by_cases c12 : t423 = true
       ·subst c12
        have H1 : (graph_at.l0 k1 l1 (l1.length : Int) (wrap64 (x15_1 + 1)) a0_0 l0_1) = some r := by rw [if_pos rfl] at H; exact H
        clear H
        have H := H1
        clear H1
        have H' := Aside0.mk H
        clear H
        have p422 : 0 ≤ (x15_1 : Int) := of_decide_eq_true ‹_›
        have q422 : x15_1 < (l1.length : Int) := of_decide_eq_true ‹_›
        obtain ⟨ad422, e422, hx422_0⟩ := Kd.at_int HR1.out x15_1 p422 q422
        cases e422
        replace hx422_0 := (HB.out.cell (World.block_lt_of_cell? w _ hx422_0)).trans hx422_0
        replace p422 := eq_true p422
        replace q422 := eq_true q422
        obtain ⟨hcz13_0, hcz13_1, hfz13_0, hfz13_1⟩ := zD2 BK420
        go_wp2_with (first | ((with_reducible refine gate_callee (f := 119) rfl ?_); refine zL (some 22) Try.func119 #[.int .i64 a0_0, .int .i64 (rd l1 x15_1)] ?_; (with_reducible refine (graph_vertex.calls a0_0 (rd l1 x15_1) true _ A11.out).mono ?_); rintro e w' ⟨rfl, ⟨nd, rfl⟩⟩; refine ⟨_, rfl, ?_⟩))
        go_roundg k1
        case measure => have := HK1.out; omega
        case rel => exact ⟨(wrap64 (x15_1 + 1)), zT, H', ⟨by have := HK1.out; omega⟩, ⟨zK BK420⟩, ⟨zB⟩⟩
       ·replace c12 := Bool.eq_false_iff.mpr c12
        subst c12
        have H1 : (some 2) = some r := by rw [if_neg (show ¬ (false = true) by decide)] at H; exact H
        clear H
        have H := H1
        clear H1
        obtain rfl := Option.some.inj H
        have p422 : 0 ≤ (x15_1 : Int) := of_decide_eq_true ‹_›
        have q422 : x15_1 < (l1.length : Int) := of_decide_eq_true ‹_›
        obtain ⟨ad422, e422, hx422_0⟩ := Kd.at_int HR1.out x15_1 p422 q422
        cases e422
        replace hx422_0 := (HB.out.cell (World.block_lt_of_cell? w _ hx422_0)).trans hx422_0
        replace p422 := eq_true p422
        replace q422 := eq_true q422
        obtain ⟨hcz14_0, hcz14_1, hfz14_0, hfz14_1⟩ := zD2 BK420
        go_wp2_with (first | ((with_reducible refine gate_callee (f := 119) rfl ?_); refine zL (some 22) Try.func119 #[.int .i64 a0_0, .int .i64 (rd l1 x15_1)] ?_; (with_reducible refine (graph_vertex.calls a0_0 (rd l1 x15_1) false _ A11.out).mono ?_); rintro e w' ⟨rfl, ⟨nd, rfl⟩⟩; refine ⟨_, rfl, ?_⟩))
        go_ret
        exact ⟨zE, zB⟩
      ·rw [if_neg c10] at H
       exact absurd H (by simp)
     ·rw [if_neg c9] at H
      exact absurd H (by simp)
    ·rw [if_neg c8] at H
     have c8b0 : decide (x15_1 < (l1.length : Int)) = false := decide_eq_false c8
     clear c8
     obtain rfl := Option.some.inj H
     go_wp2
     go_ret
     exact ⟨zE, zB⟩
 ·rw [if_neg c4] at H
  have c4b0 : (t421 == 0) = false := beq_eq_false_iff_ne.mpr c4
  have c4b1 : (t421 != 0) = true := bne_iff_ne.mpr c4
  obtain rfl := Option.some.inj H
  go_enter Try.func116, Try.ntmps116
  go_wp2_with (first | ((with_reducible refine gate_dst (N := 2) rfl ?_); refine zX 2 #[.int .i64 a0_0, .slice A0_1 l0_1.length c0_1] 24 ?_; intro gb420 hg w15 hbox hb; have BK420 := Aside0.mk (hbox); have GW420 := zG HB hg; have GE420 := zG HB hg; replace HB := zS HB hb; clear hb hbox hg; obtain ⟨hcz16_0, hcz16_1, hfz16_0, hfz16_1⟩ := zD2 BK420) | ((with_reducible refine gate_callee (f := 113) rfl ?_); refine zL (some 9) Try.func113 #[.agg #[.int .i64 a0_0, .slice A0_1 l0_1.length c0_1]] ?_; (with_reducible refine (graph_Check.calls k a0_0 _ _ l0_1 t421 _ ?side1 ?side2 A3.out).mono ?_); (case side1 => exact Kd.C_below HR0_1.out zB); (case side2 => exact HC0_1.out); rintro e w17 ⟨rfl, hb⟩; refine ⟨_, rfl, ?_⟩; replace BK420 := zb BK420 hb; replace HB := zS HB hb; (try clear hb)))
  go_ret
  exact ⟨zE, zB⟩
def graph_Valence.l0 : Nat → Int → Int → List (S66) → Int → Int → Option (Int × Int)
 | 0, _, _, _, _, _ => none
 | k + 1, x1, x7, x18, x19, x20 => if x20 < x19 then (if 0 ≤ x20 then (if x20 < (x18.length : Int) then (if ((rd_T66 x18 x20).f0) = ((rd_T66 x18 x20).f1) then (graph_Valence.l0 k x1 x7 x18 x19 (wrap64 (x20 + 1))) else (if ((rd_T66 x18 x20).f0) = x1 then (graph_Valence.l0 k x1 (wrap64 (x7 + ((rd_T66 x18 x20).f2))) x18 x19 (wrap64 (x20 + 1))) else (if ((rd_T66 x18 x20).f1) = x1 then (graph_Valence.l0 k x1 (wrap64 (x7 + ((rd_T66 x18 x20).f2))) x18 x19 (wrap64 (x20 + 1))) else (graph_Valence.l0 k x1 x7 x18 x19 (wrap64 (x20 + 1)))))) else (none)) else (none)) else (some (x7, 0))
def graph_Valence.f (k : Nat) (a0_0 : Int) (l0_1 : List (S66)) (a1 : Int) : Option (Int × Int) := (graph_at.f k a0_0 l0_1 (([a1] : List Int))).bind fun t428 => (if t428 = 0 then (graph_Valence.l0 k a1 0 l0_1 (l0_1.length : Int) 0) else (some (0, t428)))
theorem graph_Valence.calls (k : Nat) (a0_0 : Int) (A0_1 : Option Addr) (c0_1 : Nat) (l0_1 : List (S66)) (a1 : Int) (r1 : Int) (r2 : Int) (w : World) (hr0_1 : Kd.C k66 w A0_1 l0_1.length l0_1) (hc0_1 : l0_1.length ≤ c0_1) (h : graph_Valence.f k a0_0 l0_1 a1 = some (r1, r2)) :
  Calls Try.prog 111 #[.agg #[.int .i64 a0_0, .slice A0_1 l0_1.length c0_1], .int .i64 a1] w fun e w' => e = .returned (.tuple #[.int .i64 r1, .int .i64 r2]) ∧ Below w.heap.size w w' := by
 have hu24 := Try.underlying24
 have hu66 := Try.underlying66
 have HR0_1 := Aside0.mk hr0_1
 have HC0_1 := Aside0.mk hc0_1
 clear hr0_1 hc0_1
 have HB := Aside0.mk (Below.refl w.heap.size w)
 have H : ((graph_at.f k a0_0 l0_1 (([a1] : List Int))).bind fun t428 => (if t428 = 0 then (graph_Valence.l0 k a1 0 l0_1 (l0_1.length : Int) 0) else (some (0, t428)))) = some (r1, r2) := h
 clear h
 obtain ⟨y425, hy425⟩ : ∃ y_ : List Int, y_ = (([a1] : List Int)) := ⟨_, rfl⟩
 replace H : ((graph_at.f k a0_0 l0_1 y425).bind fun t428 => (if t428 = 0 then (graph_Valence.l0 k a1 0 l0_1 (l0_1.length : Int) 0) else (some (0, t428)))) = some (r1, r2) := by first | (rw [hy425]; with_reducible exact H) | (have H2_ := (Option.bind_some _ _).symm.trans H; rw [hy425]; with_reducible exact H2_) | (have H2_ := (Option.bind_some _ _).symm.trans H; with_reducible exact H2_) | with_reducible exact H | (rw [hy425]; exact H) | exact H
 have Ny425 := Aside0.mk hy425
 clear hy425
 replace H := Option.bind_eq_some_iff.mp H
 obtain ⟨t428, A30, H⟩ := H
 replace H : (if t428 = 0 then (graph_Valence.l0 k a1 0 l0_1 (l0_1.length : Int) 0) else (some (0, t428))) = some (r1, r2) := H
 have A3 := Aside0.mk A30
 clear A30
 by_cases c4 : t428 = 0
 ·rw [if_pos c4] at H
  have c4b0 : (t428 == 0) = true := beq_iff_eq.mpr c4
  have c4b1 : (t428 != 0) = false := bne_eq_false_iff_eq.mpr c4
  clear c4
  have H' := Aside0.mk H
  clear H
  go_enter Try.func111, Try.ntmps111
  go_wp2_with (first | ((with_reducible refine gate_dst (N := 2) rfl ?_); refine zX 2 #[.int .i64 a0_0, .slice A0_1 l0_1.length c0_1] 24 ?_; intro gb424 hg w5 hbox hb; have BK424 := Aside0.mk (hbox); have GW424 := zG HB hg; have GE424 := zG HB hg; replace HB := zS HB hb; clear hb hbox hg; obtain ⟨hcz6_0, hcz6_1, hfz6_0, hfz6_1⟩ := zD2 BK424) | ((with_reducible refine gate_dst (N := 12) rfl ?_); refine Kd.R_lit (Kd.int .i64) _ 3 ?hg (N := 12) ?hd (xs := ([a1] : List Int)) (inner := [.int .i64 a1]) (ok := fun _ => True) (okp := fun _ => True) ?hr ?hp (fun _ hk => hk) trivial (Below.refl _ _) (Nat.le_refl _) (by simp) ?_; (case hd => rfl); (case hg => rfl); (case hr => first | (go_simp; done) | (go_simp; rfl)); (case hp => exact (Reps.one (show Kd.M (Kd.int .i64) _ _ _ a1 [.int .i64 a1] from rfl) (Reps.none _ _))); intro v426 w7 ho8 hb hg_ hnew_; clear hg_ hnew_; (first | rw [← Ny425.out] at ho8 | (simp only [Int.reduceToNat] at ho8; rw [← Ny425.out] at ho8)); have HO427 := Aside0.mk (Kd.R_lower ho8 (below_size zB)); replace BK424 := zb BK424 hb; replace HB := zS HB hb; clear hb ho8; obtain ⟨Ao9, co9, eo9⟩ := Kd.R_slice HO427.out; subst eo9) | ((with_reducible refine gate_callee (f := 116) rfl ?_); refine zL (some 13) Try.func116 #[.agg #[.int .i64 a0_0, .slice A0_1 l0_1.length c0_1], .slice Ao9 y425.length co9] ?_; (with_reducible refine (graph_at.calls k a0_0 _ _ l0_1 _ _ y425 t428 _ ?side1 ?side2 ?side3 ?side4 A3.out).mono ?_); (case side1 => exact Kd.C_below HR0_1.out zB); (case side2 => exact HC0_1.out); (case side3 => exact zC (Kd.R_reads' HO427.out).2.2); (case side4 => exact (Kd.R_reads' HO427.out).2.1); rintro e w10 ⟨rfl, hb⟩; refine ⟨_, rfl, ?_⟩; replace HO427 := zbR HO427 hb; replace BK424 := zb BK424 hb; replace HB := zS HB hb; (try clear hb); obtain ⟨hcz11_0, hcz11_1, hfz11_0, hfz11_1⟩ := zD2 BK424))
  go_loopg [7, 20] k (fun kq v7 v20 w' => ∃ (x7_1 : Int) (x20_1 : Int), v7 = .int .i64 x7_1 ∧ v20 = .int .i64 x20_1 ∧ Aside0 (graph_Valence.l0 kq a1 x7_1 l0_1 (l0_1.length : Int) x20_1 = some (r1, r2)) ∧ Aside0 (kq ≤ k) ∧ Aside0 (w'.heap[gb424]? = some (.cells #[.int .i64 a0_0, (.slice A0_1 l0_1.length c0_1)] 24 (0, 0))) ∧ Aside0 (Below w.heap.size w w'))
  case atStart => exact ⟨(0), (0), zT, zT, H', ⟨Nat.le_refl _⟩, ⟨zK BK424⟩, ⟨zB⟩⟩
  case round =>
   clear H'
   try clear c1
   try clear p2
   try clear c4
   try clear c4b0
   try clear c4b1
   try clear c11
   try clear hcz11_0
   try clear hcz11_1
   try clear hcz6_0
   try clear hcz6_1
   try clear hfz11_0
   try clear hfz11_1
   try clear hfz6_0
   try clear hfz6_1
   obtain ⟨x7_1, x20_1, rfl, rfl, HA, HK1, BK424, HB⟩ := hrel
   cases gk with
   | zero => exact absurd HA.out (by simp [graph_Valence.l0])
   | succ k1 =>
    have H := HA.out
    clear HA
    simp only [graph_Valence.l0] at H
    by_cases c12 : x20_1 < (l0_1.length : Int)
    ·rw [if_pos c12] at H
     have c12b0 : decide (x20_1 < (l0_1.length : Int)) = true := decide_eq_true c12
     clear c12
     by_cases c13 : 0 ≤ x20_1
     ·rw [if_pos c13] at H
      have c13b0 : decide (0 ≤ x20_1) = true := decide_eq_true c13
      clear c13
      by_cases c14 : x20_1 < (l0_1.length : Int)
      ·rw [if_pos c14] at H
       have c14b0 : decide (x20_1 < (l0_1.length : Int)) = true := decide_eq_true c14
       clear c14
       by_cases c15 : ((rd_T66 l0_1 x20_1).f0) = ((rd_T66 l0_1 x20_1).f1)
       ·rw [if_pos c15] at H
        have c15b0 : (((rd_T66 l0_1 x20_1).f0) == ((rd_T66 l0_1 x20_1).f1)) = true := beq_iff_eq.mpr c15
        have c15b1 : (((rd_T66 l0_1 x20_1).f0) != ((rd_T66 l0_1 x20_1).f1)) = false := bne_eq_false_iff_eq.mpr c15
        clear c15
        have H' := Aside0.mk H
        clear H
        have p429 : 0 ≤ (x20_1 : Int) := of_decide_eq_true ‹_›
        have q429 : x20_1 < (l0_1.length : Int) := of_decide_eq_true ‹_›
        obtain ⟨ad429, e429, hx429_0, hx429_1, hx429_2⟩ := at_T66 HR0_1.out x20_1 p429 q429
        cases e429
        replace hx429_0 := (HB.out.cell (World.block_lt_of_cell? w _ hx429_0)).trans hx429_0
        replace hx429_1 := (HB.out.cell (World.block_lt_of_cell? w _ hx429_1)).trans hx429_1
        replace hx429_2 := (HB.out.cell (World.block_lt_of_cell? w _ hx429_2)).trans hx429_2
        replace p429 := eq_true p429
        replace q429 := eq_true q429
        go_wp2_with (first | ((with_reducible refine gate_dst (N := 9) rfl ?_); refine zX 9 #[.int .i64 0, .int .i64 0, .int .i64 0] 66 ?_; intro gb430 hg w16 hbox hb; have BK430 := Aside0.mk (hbox); have GW430 := zG HB hg; have GE430 := zG HB hg; replace HB := zS HB hb; have NB424_430 := Aside0.mk ((by rw [hg]; exact Nat.ne_of_lt (blk_lt (g := gb424) (o := .cells #[.int .i64 a0_0, .slice (some ad429) l0_1.length c0_1] 24 (0, 0)) (zK BK424)) : gb424 ≠ gb430)); have NB430_424 := Aside0.mk ((by rw [hg]; exact Nat.ne_of_gt (blk_lt (g := gb424) (o := .cells #[.int .i64 a0_0, .slice (some ad429) l0_1.length c0_1] 24 (0, 0)) (zK BK424)) : gb430 ≠ gb424)); replace BK424 := zb BK424 hb; clear hb hbox hg; have hnb17 := NB430_424.out; have hnc17 := NB424_430.out; obtain ⟨hcz18_0, hcz18_1, hcz18_2, hfz18_0, hfz18_1, hfz18_2⟩ := zD3 BK430))
        go_roundg k1
        case measure => have := HK1.out; omega
        case rel => exact ⟨(x7_1), (wrap64 (x20_1 + 1)), zT, zT, H', ⟨by have := HK1.out; omega⟩, ⟨by refine zk ?_; refine blk_far ?_ NB424_430.out _; refine zk ?_; refine blk_far ?_ NB424_430.out _; refine zk ?_; refine blk_far ?_ NB424_430.out _; exact zK BK424⟩, ⟨zB⟩⟩
       ·rw [if_neg c15] at H
        have c15b0 : (((rd_T66 l0_1 x20_1).f0) == ((rd_T66 l0_1 x20_1).f1)) = false := beq_eq_false_iff_ne.mpr c15
        have c15b1 : (((rd_T66 l0_1 x20_1).f0) != ((rd_T66 l0_1 x20_1).f1)) = true := bne_iff_ne.mpr c15
        by_cases c19 : ((rd_T66 l0_1 x20_1).f0) = a1
        ·rw [if_pos c19] at H
         have c19b0 : (((rd_T66 l0_1 x20_1).f0) == a1) = true := beq_iff_eq.mpr c19
         have c19b1 : (((rd_T66 l0_1 x20_1).f0) != a1) = false := bne_eq_false_iff_eq.mpr c19
         clear c19
         have H' := Aside0.mk H
         clear H
         have p429 : 0 ≤ (x20_1 : Int) := of_decide_eq_true ‹_›
         have q429 : x20_1 < (l0_1.length : Int) := of_decide_eq_true ‹_›
         obtain ⟨ad429, e429, hx429_0, hx429_1, hx429_2⟩ := at_T66 HR0_1.out x20_1 p429 q429
         cases e429
         replace hx429_0 := (HB.out.cell (World.block_lt_of_cell? w _ hx429_0)).trans hx429_0
         replace hx429_1 := (HB.out.cell (World.block_lt_of_cell? w _ hx429_1)).trans hx429_1
         replace hx429_2 := (HB.out.cell (World.block_lt_of_cell? w _ hx429_2)).trans hx429_2
         replace p429 := eq_true p429
         replace q429 := eq_true q429
         go_wp2_with (first | ((with_reducible refine gate_dst (N := 9) rfl ?_); refine zX 9 #[.int .i64 0, .int .i64 0, .int .i64 0] 66 ?_; intro gb430 hg w20 hbox hb; have BK430 := Aside0.mk (hbox); have GW430 := zG HB hg; have GE430 := zG HB hg; replace HB := zS HB hb; have NB424_430 := Aside0.mk ((by rw [hg]; exact Nat.ne_of_lt (blk_lt (g := gb424) (o := .cells #[.int .i64 a0_0, .slice (some ad429) l0_1.length c0_1] 24 (0, 0)) (zK BK424)) : gb424 ≠ gb430)); have NB430_424 := Aside0.mk ((by rw [hg]; exact Nat.ne_of_gt (blk_lt (g := gb424) (o := .cells #[.int .i64 a0_0, .slice (some ad429) l0_1.length c0_1] 24 (0, 0)) (zK BK424)) : gb430 ≠ gb424)); replace BK424 := zb BK424 hb; clear hb hbox hg; have hnb21 := NB430_424.out; have hnc21 := NB424_430.out; obtain ⟨hcz22_0, hcz22_1, hcz22_2, hfz22_0, hfz22_1, hfz22_2⟩ := zD3 BK430))
         go_roundg k1
         case measure => have := HK1.out; omega
         case rel => exact ⟨(wrap64 (x7_1 + ((rd_T66 l0_1 x20_1).f2))), (wrap64 (x20_1 + 1)), zT, zT, H', ⟨by have := HK1.out; omega⟩, ⟨by refine zk ?_; refine blk_far ?_ NB424_430.out _; refine zk ?_; refine blk_far ?_ NB424_430.out _; refine zk ?_; refine blk_far ?_ NB424_430.out _; exact zK BK424⟩, ⟨zB⟩⟩
        ·rw [if_neg c19] at H
         have c19b0 : (((rd_T66 l0_1 x20_1).f0) == a1) = false := beq_eq_false_iff_ne.mpr c19
         have c19b1 : (((rd_T66 l0_1 x20_1).f0) != a1) = true := bne_iff_ne.mpr c19
         by_cases c23 : ((rd_T66 l0_1 x20_1).f1) = a1
         ·rw [if_pos c23] at H
          have c23b0 : (((rd_T66 l0_1 x20_1).f1) == a1) = true := beq_iff_eq.mpr c23
          have c23b1 : (((rd_T66 l0_1 x20_1).f1) != a1) = false := bne_eq_false_iff_eq.mpr c23
          clear c23
          have H' := Aside0.mk H
          clear H
          have p429 : 0 ≤ (x20_1 : Int) := of_decide_eq_true ‹_›
          have q429 : x20_1 < (l0_1.length : Int) := of_decide_eq_true ‹_›
          obtain ⟨ad429, e429, hx429_0, hx429_1, hx429_2⟩ := at_T66 HR0_1.out x20_1 p429 q429
          cases e429
          replace hx429_0 := (HB.out.cell (World.block_lt_of_cell? w _ hx429_0)).trans hx429_0
          replace hx429_1 := (HB.out.cell (World.block_lt_of_cell? w _ hx429_1)).trans hx429_1
          replace hx429_2 := (HB.out.cell (World.block_lt_of_cell? w _ hx429_2)).trans hx429_2
          replace p429 := eq_true p429
          replace q429 := eq_true q429
          go_wp2_with (first | ((with_reducible refine gate_dst (N := 9) rfl ?_); refine zX 9 #[.int .i64 0, .int .i64 0, .int .i64 0] 66 ?_; intro gb430 hg w24 hbox hb; have BK430 := Aside0.mk (hbox); have GW430 := zG HB hg; have GE430 := zG HB hg; replace HB := zS HB hb; have NB424_430 := Aside0.mk ((by rw [hg]; exact Nat.ne_of_lt (blk_lt (g := gb424) (o := .cells #[.int .i64 a0_0, .slice (some ad429) l0_1.length c0_1] 24 (0, 0)) (zK BK424)) : gb424 ≠ gb430)); have NB430_424 := Aside0.mk ((by rw [hg]; exact Nat.ne_of_gt (blk_lt (g := gb424) (o := .cells #[.int .i64 a0_0, .slice (some ad429) l0_1.length c0_1] 24 (0, 0)) (zK BK424)) : gb430 ≠ gb424)); replace BK424 := zb BK424 hb; clear hb hbox hg; have hnb25 := NB430_424.out; have hnc25 := NB424_430.out; obtain ⟨hcz26_0, hcz26_1, hcz26_2, hfz26_0, hfz26_1, hfz26_2⟩ := zD3 BK430))
          go_roundg k1
          case measure => have := HK1.out; omega
          case rel => exact ⟨(wrap64 (x7_1 + ((rd_T66 l0_1 x20_1).f2))), (wrap64 (x20_1 + 1)), zT, zT, H', ⟨by have := HK1.out; omega⟩, ⟨by refine zk ?_; refine blk_far ?_ NB424_430.out _; refine zk ?_; refine blk_far ?_ NB424_430.out _; refine zk ?_; refine blk_far ?_ NB424_430.out _; exact zK BK424⟩, ⟨zB⟩⟩
         ·rw [if_neg c23] at H
          have c23b0 : (((rd_T66 l0_1 x20_1).f1) == a1) = false := beq_eq_false_iff_ne.mpr c23
          have c23b1 : (((rd_T66 l0_1 x20_1).f1) != a1) = true := bne_iff_ne.mpr c23
          have H' := Aside0.mk H
          clear H
          have p429 : 0 ≤ (x20_1 : Int) := of_decide_eq_true ‹_›
          have q429 : x20_1 < (l0_1.length : Int) := of_decide_eq_true ‹_›
          obtain ⟨ad429, e429, hx429_0, hx429_1, hx429_2⟩ := at_T66 HR0_1.out x20_1 p429 q429
          cases e429
          replace hx429_0 := (HB.out.cell (World.block_lt_of_cell? w _ hx429_0)).trans hx429_0
          replace hx429_1 := (HB.out.cell (World.block_lt_of_cell? w _ hx429_1)).trans hx429_1
          replace hx429_2 := (HB.out.cell (World.block_lt_of_cell? w _ hx429_2)).trans hx429_2
          replace p429 := eq_true p429
          replace q429 := eq_true q429
          go_wp2_with (first | ((with_reducible refine gate_dst (N := 9) rfl ?_); refine zX 9 #[.int .i64 0, .int .i64 0, .int .i64 0] 66 ?_; intro gb430 hg w27 hbox hb; have BK430 := Aside0.mk (hbox); have GW430 := zG HB hg; have GE430 := zG HB hg; replace HB := zS HB hb; have NB424_430 := Aside0.mk ((by rw [hg]; exact Nat.ne_of_lt (blk_lt (g := gb424) (o := .cells #[.int .i64 a0_0, .slice (some ad429) l0_1.length c0_1] 24 (0, 0)) (zK BK424)) : gb424 ≠ gb430)); have NB430_424 := Aside0.mk ((by rw [hg]; exact Nat.ne_of_gt (blk_lt (g := gb424) (o := .cells #[.int .i64 a0_0, .slice (some ad429) l0_1.length c0_1] 24 (0, 0)) (zK BK424)) : gb430 ≠ gb424)); replace BK424 := zb BK424 hb; clear hb hbox hg; have hnb28 := NB430_424.out; have hnc28 := NB424_430.out; obtain ⟨hcz29_0, hcz29_1, hcz29_2, hfz29_0, hfz29_1, hfz29_2⟩ := zD3 BK430))
          go_roundg k1
          case measure => have := HK1.out; omega
          case rel => exact ⟨(x7_1), (wrap64 (x20_1 + 1)), zT, zT, H', ⟨by have := HK1.out; omega⟩, ⟨by refine zk ?_; refine blk_far ?_ NB424_430.out _; refine zk ?_; refine blk_far ?_ NB424_430.out _; refine zk ?_; refine blk_far ?_ NB424_430.out _; exact zK BK424⟩, ⟨zB⟩⟩
      ·rw [if_neg c14] at H
       exact absurd H (by simp)
     ·rw [if_neg c13] at H
      exact absurd H (by simp)
    ·rw [if_neg c12] at H
     have c12b0 : decide (x20_1 < (l0_1.length : Int)) = false := decide_eq_false c12
     clear c12
     simp only [Option.some.injEq, Prod.mk.injEq] at H
     obtain ⟨rfl, rfl⟩ := H
     go_wp2
     go_ret2
     exact ⟨zE, zB⟩
 ·rw [if_neg c4] at H
  have c4b0 : (t428 == 0) = false := beq_eq_false_iff_ne.mpr c4
  have c4b1 : (t428 != 0) = true := bne_iff_ne.mpr c4
  simp only [Option.some.injEq, Prod.mk.injEq] at H
  obtain ⟨rfl, rfl⟩ := H
  go_enter Try.func111, Try.ntmps111
  go_wp2_with (first | ((with_reducible refine gate_dst (N := 2) rfl ?_); refine zX 2 #[.int .i64 a0_0, .slice A0_1 l0_1.length c0_1] 24 ?_; intro gb424 hg w30 hbox hb; have BK424 := Aside0.mk (hbox); have GW424 := zG HB hg; have GE424 := zG HB hg; replace HB := zS HB hb; clear hb hbox hg; obtain ⟨hcz31_0, hcz31_1, hfz31_0, hfz31_1⟩ := zD2 BK424) | ((with_reducible refine gate_dst (N := 12) rfl ?_); refine Kd.R_lit (Kd.int .i64) _ 3 ?hg (N := 12) ?hd (xs := ([a1] : List Int)) (inner := [.int .i64 a1]) (ok := fun _ => True) (okp := fun _ => True) ?hr ?hp (fun _ hk => hk) trivial (Below.refl _ _) (Nat.le_refl _) (by simp) ?_; (case hd => rfl); (case hg => rfl); (case hr => first | (go_simp; done) | (go_simp; rfl)); (case hp => exact (Reps.one (show Kd.M (Kd.int .i64) _ _ _ a1 [.int .i64 a1] from rfl) (Reps.none _ _))); intro v426 w32 ho33 hb hg_ hnew_; clear hg_ hnew_; (first | rw [← Ny425.out] at ho33 | (simp only [Int.reduceToNat] at ho33; rw [← Ny425.out] at ho33)); have HO427 := Aside0.mk (Kd.R_lower ho33 (below_size zB)); replace BK424 := zb BK424 hb; replace HB := zS HB hb; clear hb ho33; obtain ⟨Ao34, co34, eo34⟩ := Kd.R_slice HO427.out; subst eo34) | ((with_reducible refine gate_callee (f := 116) rfl ?_); refine zL (some 13) Try.func116 #[.agg #[.int .i64 a0_0, .slice A0_1 l0_1.length c0_1], .slice Ao34 y425.length co34] ?_; (with_reducible refine (graph_at.calls k a0_0 _ _ l0_1 _ _ y425 t428 _ ?side1 ?side2 ?side3 ?side4 A3.out).mono ?_); (case side1 => exact Kd.C_below HR0_1.out zB); (case side2 => exact HC0_1.out); (case side3 => exact zC (Kd.R_reads' HO427.out).2.2); (case side4 => exact (Kd.R_reads' HO427.out).2.1); rintro e w35 ⟨rfl, hb⟩; refine ⟨_, rfl, ?_⟩; replace HO427 := zbR HO427 hb; replace BK424 := zb BK424 hb; replace HB := zS HB hb; (try clear hb)))
  go_ret2
  exact ⟨zE, zB⟩
def recurrent_pile_valence.f (k : Nat) (a0_0 : Int) (l0_1 : List (S66)) (a0_2 : Int) (l0_3 : List Int) (a1 : Int) : Option (Int) := (graph_Valence.f k a0_0 l0_1 a1).bind fun bt432 => (some bt432.1)
theorem recurrent_pile_valence.calls (k : Nat) (a0_0 : Int) (A0_1 : Option Addr) (c0_1 : Nat) (l0_1 : List (S66)) (a0_2 : Int) (A0_3 : Option Addr) (c0_3 : Nat) (l0_3 : List Int) (a1 : Int) (r : Int) (w : World) (hr0_1 : Kd.C k66 w A0_1 l0_1.length l0_1) (hc0_1 : l0_1.length ≤ c0_1) (hr0_3 : Kd.C (Kd.int .i64) w A0_3 l0_3.length l0_3) (hc0_3 : l0_3.length ≤ c0_3) (h : recurrent_pile_valence.f k a0_0 l0_1 a0_2 l0_3 a1 = some r) :
  Calls Try.prog 102 #[.agg #[.int .i64 a0_0, .slice A0_1 l0_1.length c0_1, .int .i64 a0_2, .slice A0_3 l0_3.length c0_3], .int .i64 a1] w fun e w' => e = .returned (.int .i64 r) ∧ Below w.heap.size w w' := by
 have hu84 := Try.underlying84
 have hu24 := Try.underlying24
 have HR0_1 := Aside0.mk hr0_1
 have HC0_1 := Aside0.mk hc0_1
 clear hr0_1 hc0_1
 have HR0_3 := Aside0.mk hr0_3
 have HC0_3 := Aside0.mk hc0_3
 clear hr0_3 hc0_3
 have HB := Aside0.mk (Below.refl w.heap.size w)
 have H : ((graph_Valence.f k a0_0 l0_1 a1).bind fun bt432 => (some bt432.1)) = some r := h
 clear h
 replace H := Option.bind_eq_some_iff.mp H
 obtain ⟨⟨t432, t433⟩, A30, H⟩ := H
 replace H : (some t432) = some r := H
 have A3 := Aside0.mk A30
 clear A30
 obtain rfl := Option.some.inj H
 go_enter Try.func102, Try.ntmps102
 go_wp2_with (first | ((with_reducible refine gate_dst (N := 2) rfl ?_); refine zX 2 #[.int .i64 a0_0, .slice A0_1 l0_1.length c0_1, .int .i64 a0_2, .slice A0_3 l0_3.length c0_3] 84 ?_; intro gb431 hg w4 hbox hb; have BK431 := Aside0.mk (hbox); have GW431 := zG HB hg; have GE431 := zG HB hg; replace HB := zS HB hb; clear hb hbox hg; have hcz5_0 := z0 BK431; have hcz5_1 := z1 BK431; have hcz5_2 := z2 BK431; have hcz5_3 : w4.cell? ⟨gb431, 3, none⟩ = some (.slice A0_3 l0_3.length c0_3) := (blk_cell BK431.out 3).trans rfl; have hfz5_0 := blk_frozen BK431.out 0; have hfz5_1 := blk_frozen BK431.out 1; have hfz5_2 := blk_frozen BK431.out 2; have hfz5_3 := blk_frozen BK431.out 3) | ((with_reducible refine gate_callee (f := 111) rfl ?_); refine zL (some 11) Try.func111 #[.agg #[.int .i64 a0_0, .slice A0_1 l0_1.length c0_1], .int .i64 a1] ?_; (with_reducible refine (graph_Valence.calls k a0_0 _ _ l0_1 a1 t432 t433 _ ?side1 ?side2 A3.out).mono ?_); (case side1 => exact Kd.C_below HR0_1.out zB); (case side2 => exact HC0_1.out); rintro e w6 ⟨rfl, hb⟩; refine ⟨_, rfl, ?_⟩; replace BK431 := zb BK431 hb; replace HB := zS HB hb; (try clear hb)))
 go_ret
 exact ⟨zE, zB⟩
end Go.Proofs.Ytffdiakgjakngaa.P
