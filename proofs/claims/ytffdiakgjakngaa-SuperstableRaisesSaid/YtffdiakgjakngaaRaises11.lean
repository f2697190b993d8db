/- A part of the proof that SuperstableRaises answers true (text 11 of 15): own walks and plain laws; no conditions. -/
import Derived.Test.YtffdiakgjakngaaRaises10
namespace Go.Proofs.Ytffdiakgjakngaa.P
open Go.RowKit Go.Proofs.YtffdiakgjakngaaW.PrintWords Go.Proofs.YtffdiakgjakngaaW.PrintLast Go.Proofs.YtffdiakgjakngaaW.PrintMore
set_option linter.unusedVariables false
set_option linter.unusedSimpArgs false
set_option maxHeartbeats 8000000
set_option maxRecDepth 100000
def superstable_Raise.l0 : Nat → Int → List Int → Int → Int → Int → List (S66) → Option (List Int × Int)
 | 0, _, _, _, _, _, _ => none
 | k + 1, x1, x10, x29, x30, x298000, x298001 => if x30 < x29 then (if x30 = x1 then (superstable_Raise.l0 k x1 x10 x29 (wrap64 (x30 + 1)) x298000 x298001) else ((superstable_raised.f k x298000 x298001 x1 x10 x30).bind fun t303 => (superstable_Raise.l0 k x1 t303 x29 (wrap64 (x30 + 1)) x298000 x298001))) else (some (x10, 0))
def superstable_Raise.f (k : Nat) (a0_0 : Int) (l0_1 : List (S66)) (a1 : Int) (l2 : List Int) : Option (List Int × Int) := (burning_Superstable.f k a0_0 l0_1 a1 l2).bind fun bt298 => (if bt298.2 = 0 then (if bt298.1 = true then ((api_Divisor_int_36.f l2).bind fun t300 => (superstable_Raise.l0 k a1 t300 (t300.length : Int) 0 a0_0 l0_1)) else (some (([] : List Int), 15))) else (some (([] : List Int), bt298.2)))
theorem superstable_Raise.calls (k : Nat) (a0_0 : Int) (A0_1 : Option Addr) (c0_1 : Nat) (l0_1 : List (S66)) (a1 : Int) (A2 : Option Addr) (c2 : Nat) (l2 : List Int) (r1 : List Int) (r2 : Int) (w : World) (hr0_1 : Kd.C k66 w A0_1 l0_1.length l0_1) (hc0_1 : l0_1.length ≤ c0_1) (hr2 : Kd.C (Kd.int .i64) w A2 l2.length l2) (hc2 : l2.length ≤ c2) (h : superstable_Raise.f k a0_0 l0_1 a1 l2 = some (r1, r2)) :
  Calls Try.prog 22 #[.agg #[.int .i64 a0_0, .slice A0_1 l0_1.length c0_1], .int .i64 a1, .slice A2 l2.length c2] w fun e w' => ∃ v0_ : Value, e = .returned (.tuple #[v0_, .int .i64 r2]) ∧ Kd.R (Kd.int .i64) 3 w' w.heap.size (fun _ => True) v0_ r1 ∧ Below w.heap.size w w' := by
 have hu24 := Try.underlying24
 have HR0_1 := Aside0.mk hr0_1
 have HC0_1 := Aside0.mk hc0_1
 clear hr0_1 hc0_1
 have HR2 := Aside0.mk hr2
 have HC2 := Aside0.mk hc2
 clear hr2 hc2
 have HB := Aside0.mk (Below.refl w.heap.size w)
 have H : ((burning_Superstable.f k a0_0 l0_1 a1 l2).bind fun bt298 => (if bt298.2 = 0 then (if bt298.1 = true then ((api_Divisor_int_36.f l2).bind fun t300 => (superstable_Raise.l0 k a1 t300 (t300.length : Int) 0 a0_0 l0_1)) else (some (([] : List Int), 15))) else (some (([] : List Int), bt298.2)))) = some (r1, r2) := h
 clear h
 replace H := Option.bind_eq_some_iff.mp H
 obtain ⟨⟨t298, t299⟩, A40, H⟩ := H
 replace H : (if t299 = 0 then (if t298 = true then ((api_Divisor_int_36.f l2).bind fun t300 => (superstable_Raise.l0 k a1 t300 (t300.length : Int) 0 a0_0 l0_1)) else (some (([] : List Int), 15))) else (some (([] : List Int), t299))) = some (r1, r2) := H
 have A4 := Aside0.mk A40
 clear A40
 by_cases c5 : t299 = 0
 ·rw [if_pos c5] at H
  have c5b0 : (t299 == 0) = true := beq_iff_eq.mpr c5
  have c5b1 : (t299 != 0) = false := bne_eq_false_iff_eq.mpr c5
  clear c5
  by_cases c6 : t298 = true
  ·subst c6
   have H1 : ((api_Divisor_int_36.f l2).bind fun t300 => (superstable_Raise.l0 k a1 t300 (t300.length : Int) 0 a0_0 l0_1)) = some (r1, r2) := by rw [if_pos rfl] at H; exact H
   clear H
   have H := H1
   clear H1
   replace H := Option.bind_eq_some_iff.mp H
   obtain ⟨t300, A70, H⟩ := H
   replace H : (superstable_Raise.l0 k a1 t300 (t300.length : Int) 0 a0_0 l0_1) = some (r1, r2) := H
   have A7 := Aside0.mk A70
   clear A70
   have H' := Aside0.mk H
   clear H
   go_enter Try.func22, Try.ntmps22
   go_wp2_with (first | ((with_reducible refine gate_dst (N := 3) rfl ?_); refine zX 3 #[.int .i64 a0_0, .slice A0_1 l0_1.length c0_1] 24 ?_; intro gb297 hg w8 hbox hb; have BK297 := Aside0.mk (hbox); have GW297 := zG HB hg; have GE297 := zG HB hg; replace HB := zS HB hb; clear hb hbox hg; obtain ⟨hcz9_0, hcz9_1, hfz9_0, hfz9_1⟩ := zD2 BK297) | ((with_reducible refine gate_callee (f := 35) rfl ?_); refine zL (some 16) Try.func35 #[.agg #[.int .i64 a0_0, .slice A0_1 l0_1.length c0_1], .int .i64 a1, .slice A2 l2.length c2] ?_; (with_reducible refine (burning_Superstable.calls k a0_0 _ _ l0_1 a1 _ _ l2 true t299 _ ?side1 ?side2 ?side3 ?side4 A4.out).mono ?_); (case side1 => exact Kd.C_below HR0_1.out zB); (case side2 => exact HC0_1.out); (case side3 => exact Kd.C_below HR2.out zB); (case side4 => exact HC2.out); rintro e w10 ⟨rfl, hb⟩; refine ⟨_, rfl, ?_⟩; replace BK297 := zb BK297 hb; replace HB := zS HB hb; (try clear hb)) | ((with_reducible refine gate_callee (f := 36) rfl ?_); refine zL (some 27) Try.func36 #[.slice A2 l2.length c2] ?_; (with_reducible refine (api_Divisor_int_36.calls _ _ l2 t300 _ ?side1 ?side2 A7.out).mono ?_); (case side1 => exact Kd.C_below HR2.out zB); (case side2 => exact HC2.out); rintro e w11 ⟨v301, rfl, ho0, hb⟩; refine ⟨_, rfl, ?_⟩; have HO302 := Aside0.mk (Kd.R_lower ho0 (below_size zB)); replace BK297 := zb BK297 hb; replace HB := zS HB hb; (try clear hb); (try clear ho0); obtain ⟨Ao12, co12, eo12⟩ := Kd.R_slice HO302.out; subst eo12))
   go_loopg [10, 30] k (fun kq v10 v30 w' => ∃ (x10_1 : List Int) (x30_1 : Int), v30 = .int .i64 x30_1 ∧ Aside0 (superstable_Raise.l0 kq a1 x10_1 (t300.length : Int) x30_1 a0_0 l0_1 = some (r1, r2)) ∧ Aside0 (kq ≤ k) ∧ Aside0 (Kd.R (Kd.int .i64) 3 w' w.heap.size (fun _ => True) v10 x10_1) ∧ Aside0 (w'.heap[gb297]? = some (.cells #[.int .i64 a0_0, (.slice A0_1 l0_1.length c0_1)] 24 (0, 0))) ∧ Aside0 (Below w.heap.size w w'))
   case atStart => exact ⟨(t300), (0), zT, H', ⟨Nat.le_refl _⟩, ⟨zR HO302⟩, ⟨zK BK297⟩, ⟨zB⟩⟩
   case round =>
    clear H'
    try clear c2
    try clear p2
    try clear c3
    try clear c5
    try clear c5b0
    try clear c5b1
    try clear c6
    try clear hcz9_0
    try clear hcz9_1
    try clear hfz9_0
    try clear hfz9_1
    obtain ⟨x10_1, x30_1, rfl, HA, HK1, HO_10, BK297, HB⟩ := hrel
    cases gk with
    | zero => exact absurd HA.out (by simp [superstable_Raise.l0])
    | succ k1 =>
     have H := HA.out
     clear HA
     simp only [superstable_Raise.l0] at H
     by_cases c13 : x30_1 < (t300.length : Int)
     ·rw [if_pos c13] at H
      have c13b0 : decide (x30_1 < (t300.length : Int)) = true := decide_eq_true c13
      clear c13
      by_cases c14 : x30_1 = a1
      ·rw [if_pos c14] at H
       have c14b0 : (x30_1 == a1) = true := beq_iff_eq.mpr c14
       have c14b1 : (x30_1 != a1) = false := bne_eq_false_iff_eq.mpr c14
       clear c14
       have H' := Aside0.mk H
       clear H
       go_wp2
       go_roundg k1
       case measure => have := HK1.out; omega
       case rel => exact ⟨(x10_1), (wrap64 (x30_1 + 1)), zT, H', ⟨by have := HK1.out; omega⟩, ⟨zR HO_10⟩, ⟨zK BK297⟩, ⟨zB⟩⟩
      ·rw [if_neg c14] at H
       have c14b0 : (x30_1 == a1) = false := beq_eq_false_iff_ne.mpr c14
       have c14b1 : (x30_1 != a1) = true := bne_iff_ne.mpr c14
       replace H := Option.bind_eq_some_iff.mp H
       obtain ⟨t303, A150, H⟩ := H
       replace H : (superstable_Raise.l0 k1 a1 t303 (t300.length : Int) (wrap64 (x30_1 + 1)) a0_0 l0_1) = some (r1, r2) := H
       have A15 := Aside0.mk A150
       clear A150
       have H' := Aside0.mk H
       clear H
       obtain ⟨hcz16_0, hcz16_1, hfz16_0, hfz16_1⟩ := zD2 BK297
       obtain ⟨Ao17, co17, eo17⟩ := Kd.R_slice HO_10.out
       subst eo17
       go_wp2_with (first | ((with_reducible refine gate_callee (f := 53) rfl ?_); refine zL (some 40) Try.func53 #[.agg #[.int .i64 a0_0, .slice A0_1 l0_1.length c0_1], .int .i64 a1, .slice Ao17 x10_1.length co17, .int .i64 x30_1] ?_; (with_reducible refine (superstable_raised.calls k1 a0_0 _ _ l0_1 a1 _ _ x10_1 x30_1 t303 _ ?side1 ?side2 ?side3 ?side4 A15.out).mono ?_); (case side1 => exact Kd.C_below HR0_1.out zB); (case side2 => exact HC0_1.out); (case side3 => exact zC (Kd.R_reads' HO_10.out).2.2); (case side4 => exact (Kd.R_reads' HO_10.out).2.1); rintro e w18 ⟨v304, rfl, ho0, hb⟩; refine ⟨_, rfl, ?_⟩; have HO305 := Aside0.mk (Kd.R_lower (Kd.R_new' ho0 (Kd.R_lt (zR HO_10))) (below_size zB)); replace HO_10 := zeRR HO_10 ho0 hb; replace BK297 := zb BK297 hb; replace HB := zS HB hb; (try clear hb); (try clear ho0)))
       go_roundg k1
       case measure => have := HK1.out; omega
       case rel => exact ⟨(t303), (wrap64 (x30_1 + 1)), zT, H', ⟨by have := HK1.out; omega⟩, ⟨by (with_reducible repeat (first | apply Kd.R_alloc | apply Kd.R_drewN | apply Kd.R_drew)); exact Kd.R_mono HO305.out (fun _ hk => trivial)⟩, ⟨zK BK297⟩, ⟨zB⟩⟩
     ·rw [if_neg c13] at H
      have c13b0 : decide (x30_1 < (t300.length : Int)) = false := decide_eq_false c13
      clear c13
      simp only [Option.some.injEq, Prod.mk.injEq] at H
      obtain ⟨rfl, rfl⟩ := H
      go_wp2
      go_ret2
      exact ⟨_, zE, by (with_reducible repeat (first | apply Kd.R_alloc | apply Kd.R_drewN | apply Kd.R_drew)); exact HO_10.out, zB⟩
  ·replace c6 := Bool.eq_false_iff.mpr c6
   subst c6
   have H1 : (some (([] : List Int), 15)) = some (r1, r2) := by rw [if_neg (show ¬ (false = true) by decide)] at H; exact H
   clear H
   have H := H1
   clear H1
   simp only [Option.some.injEq, Prod.mk.injEq] at H
   obtain ⟨rfl, rfl⟩ := H
   go_enter Try.func22, Try.ntmps22
   go_wp2_with (first | ((with_reducible refine gate_dst (N := 3) rfl ?_); refine zX 3 #[.int .i64 a0_0, .slice A0_1 l0_1.length c0_1] 24 ?_; intro gb297 hg w19 hbox hb; have BK297 := Aside0.mk (hbox); have GW297 := zG HB hg; have GE297 := zG HB hg; replace HB := zS HB hb; clear hb hbox hg; obtain ⟨hcz20_0, hcz20_1, hfz20_0, hfz20_1⟩ := zD2 BK297) | ((with_reducible refine gate_callee (f := 35) rfl ?_); refine zL (some 16) Try.func35 #[.agg #[.int .i64 a0_0, .slice A0_1 l0_1.length c0_1], .int .i64 a1, .slice A2 l2.length c2] ?_; (with_reducible refine (burning_Superstable.calls k a0_0 _ _ l0_1 a1 _ _ l2 false t299 _ ?side1 ?side2 ?side3 ?side4 A4.out).mono ?_); (case side1 => exact Kd.C_below HR0_1.out zB); (case side2 => exact HC0_1.out); (case side3 => exact Kd.C_below HR2.out zB); (case side4 => exact HC2.out); rintro e w21 ⟨rfl, hb⟩; refine ⟨_, rfl, ?_⟩; replace BK297 := zb BK297 hb; replace HB := zS HB hb; (try clear hb)))
   go_ret2
   exact ⟨_, zE, by first | exact Kd.R_nil _ _ _ _ _ | exact Kd.N_nil _ _ _ _ _ | exact Kd.V_nil _ _ _ _ _ | exact Kd.Q_nil _ _ _ _ _ | exact Kd.S_nil _ _ _ _ _, zB⟩
 ·rw [if_neg c5] at H
  have c5b0 : (t299 == 0) = false := beq_eq_false_iff_ne.mpr c5
  have c5b1 : (t299 != 0) = true := bne_iff_ne.mpr c5
  simp only [Option.some.injEq, Prod.mk.injEq] at H
  obtain ⟨rfl, rfl⟩ := H
  go_enter Try.func22, Try.ntmps22
  go_wp2_with (first | ((with_reducible refine gate_dst (N := 3) rfl ?_); refine zX 3 #[.int .i64 a0_0, .slice A0_1 l0_1.length c0_1] 24 ?_; intro gb297 hg w22 hbox hb; have BK297 := Aside0.mk (hbox); have GW297 := zG HB hg; have GE297 := zG HB hg; replace HB := zS HB hb; clear hb hbox hg; obtain ⟨hcz23_0, hcz23_1, hfz23_0, hfz23_1⟩ := zD2 BK297) | ((with_reducible refine gate_callee (f := 35) rfl ?_); refine zL (some 16) Try.func35 #[.agg #[.int .i64 a0_0, .slice A0_1 l0_1.length c0_1], .int .i64 a1, .slice A2 l2.length c2] ?_; (with_reducible refine (burning_Superstable.calls k a0_0 _ _ l0_1 a1 _ _ l2 t298 t299 _ ?side1 ?side2 ?side3 ?side4 A4.out).mono ?_); (case side1 => exact Kd.C_below HR0_1.out zB); (case side2 => exact HC0_1.out); (case side3 => exact Kd.C_below HR2.out zB); (case side4 => exact HC2.out); rintro e w24 ⟨rfl, hb⟩; refine ⟨_, rfl, ?_⟩; replace BK297 := zb BK297 hb; replace HB := zS HB hb; (try clear hb)))
  go_ret2
  exact ⟨_, zE, by first | exact Kd.R_nil _ _ _ _ _ | exact Kd.N_nil _ _ _ _ _ | exact Kd.V_nil _ _ _ _ _ | exact Kd.Q_nil _ _ _ _ _ | exact Kd.S_nil _ _ _ _ _, zB⟩
def superstable_Dual.l0 : Nat → List Int → List Int → Int → Int → Option (List Int × Int)
 | 0, _, _, _, _ => none
 | k + 1, x12, x46, x47, x48 => if x48 < x47 then (if 0 ≤ x48 then (if x48 < (x46.length : Int) then (if x48 < (x12.length : Int) then (superstable_Dual.l0 k (x12.set (x48 : Int).toNat (wrap64 ((rd x12 x48) - (rd x46 x48)))) x46 x47 (wrap64 (x48 + 1))) else (none)) else (none)) else (none)) else (some (x12, 0))
def superstable_Dual.f (k : Nat) (a0_0 : Int) (l0_1 : List (S66)) (a1 : Int) (l2 : List Int) : Option (List Int × Int) := (burning_Superstable.f k a0_0 l0_1 a1 l2).bind fun bt342 => (if bt342.2 = 0 then ((stabilize_Stable.f k a0_0 l0_1 a1 l2).bind fun bt344 => (if bt344.2 = 0 then (if bt344.1 = true then ((superstable_first.f k a0_0 l0_1 a1).bind fun bt346 => (if bt346.2 = 0 then (superstable_Dual.l0 k bt346.1 l2 (l2.length : Int) 0) else (some (([] : List Int), bt346.2)))) else (some (([] : List Int), 15))) else (some (([] : List Int), bt344.2)))) else (some (([] : List Int), bt342.2)))
theorem superstable_Dual.calls (k : Nat) (a0_0 : Int) (A0_1 : Option Addr) (c0_1 : Nat) (l0_1 : List (S66)) (a1 : Int) (A2 : Option Addr) (c2 : Nat) (l2 : List Int) (r1 : List Int) (r2 : Int) (w : World) (hr0_1 : Kd.C k66 w A0_1 l0_1.length l0_1) (hc0_1 : l0_1.length ≤ c0_1) (hr2 : Kd.C (Kd.int .i64) w A2 l2.length l2) (hc2 : l2.length ≤ c2) (h : superstable_Dual.f k a0_0 l0_1 a1 l2 = some (r1, r2)) :
  Calls Try.prog 24 #[.agg #[.int .i64 a0_0, .slice A0_1 l0_1.length c0_1], .int .i64 a1, .slice A2 l2.length c2] w fun e w' => ∃ v0_ : Value, e = .returned (.tuple #[v0_, .int .i64 r2]) ∧ Kd.R (Kd.int .i64) 3 w' w.heap.size (fun _ => True) v0_ r1 ∧ Below w.heap.size w w' := by
 have hu24 := Try.underlying24
 have HR0_1 := Aside0.mk hr0_1
 have HC0_1 := Aside0.mk hc0_1
 clear hr0_1 hc0_1
 have HR2 := Aside0.mk hr2
 have HC2 := Aside0.mk hc2
 clear hr2 hc2
 have HB := Aside0.mk (Below.refl w.heap.size w)
 have H : ((burning_Superstable.f k a0_0 l0_1 a1 l2).bind fun bt342 => (if bt342.2 = 0 then ((stabilize_Stable.f k a0_0 l0_1 a1 l2).bind fun bt344 => (if bt344.2 = 0 then (if bt344.1 = true then ((superstable_first.f k a0_0 l0_1 a1).bind fun bt346 => (if bt346.2 = 0 then (superstable_Dual.l0 k bt346.1 l2 (l2.length : Int) 0) else (some (([] : List Int), bt346.2)))) else (some (([] : List Int), 15))) else (some (([] : List Int), bt344.2)))) else (some (([] : List Int), bt342.2)))) = some (r1, r2) := h
 clear h
 replace H := Option.bind_eq_some_iff.mp H
 obtain ⟨⟨t342, t343⟩, A40, H⟩ := H
 replace H : (if t343 = 0 then ((stabilize_Stable.f k a0_0 l0_1 a1 l2).bind fun bt344 => (if bt344.2 = 0 then (if bt344.1 = true then ((superstable_first.f k a0_0 l0_1 a1).bind fun bt346 => (if bt346.2 = 0 then (superstable_Dual.l0 k bt346.1 l2 (l2.length : Int) 0) else (some (([] : List Int), bt346.2)))) else (some (([] : List Int), 15))) else (some (([] : List Int), bt344.2)))) else (some (([] : List Int), t343))) = some (r1, r2) := H
 have A4 := Aside0.mk A40
 clear A40
 by_cases c5 : t343 = 0
 ·rw [if_pos c5] at H
  have c5b0 : (t343 == 0) = true := beq_iff_eq.mpr c5
  have c5b1 : (t343 != 0) = false := bne_eq_false_iff_eq.mpr c5
  clear c5
  replace H := Option.bind_eq_some_iff.mp H
  obtain ⟨⟨t344, t345⟩, A60, H⟩ := H
  replace H : (if t345 = 0 then (if t344 = true then ((superstable_first.f k a0_0 l0_1 a1).bind fun bt346 => (if bt346.2 = 0 then (superstable_Dual.l0 k bt346.1 l2 (l2.length : Int) 0) else (some (([] : List Int), bt346.2)))) else (some (([] : List Int), 15))) else (some (([] : List Int), t345))) = some (r1, r2) := H
  have A6 := Aside0.mk A60
  clear A60
  by_cases c7 : t345 = 0
  ·rw [if_pos c7] at H
   have c7b0 : (t345 == 0) = true := beq_iff_eq.mpr c7
   have c7b1 : (t345 != 0) = false := bne_eq_false_iff_eq.mpr c7
   clear c7
   by_cases c8 : t344 = true
   ·subst c8
    have H1 : ((superstable_first.f k a0_0 l0_1 a1).bind fun bt346 => (if bt346.2 = 0 then (superstable_Dual.l0 k bt346.1 l2 (l2.length : Int) 0) else (some (([] : List Int), bt346.2)))) = some (r1, r2) := by rw [if_pos rfl] at H; exact H
    clear H
    have H := H1
    clear H1
    replace H := Option.bind_eq_some_iff.mp H
    obtain ⟨⟨t346, t349⟩, A90, H⟩ := H
    replace H : (if t349 = 0 then (superstable_Dual.l0 k t346 l2 (l2.length : Int) 0) else (some (([] : List Int), t349))) = some (r1, r2) := H
    have A9 := Aside0.mk A90
    clear A90
    by_cases c10 : t349 = 0
    ·rw [if_pos c10] at H
     have c10b0 : (t349 == 0) = true := beq_iff_eq.mpr c10
     have c10b1 : (t349 != 0) = false := bne_eq_false_iff_eq.mpr c10
     clear c10
     have H' := Aside0.mk H
     clear H
     go_enter Try.func24, Try.ntmps24
     go_wp2_with (first | ((with_reducible refine gate_dst (N := 3) rfl ?_); refine zX 3 #[.int .i64 a0_0, .slice A0_1 l0_1.length c0_1] 24 ?_; intro gb341 hg w11 hbox hb; have BK341 := Aside0.mk (hbox); have GW341 := zG HB hg; have GE341 := zG HB hg; replace HB := zS HB hb; clear hb hbox hg; obtain ⟨hcz12_0, hcz12_1, hfz12_0, hfz12_1⟩ := zD2 BK341) | ((with_reducible refine gate_callee (f := 35) rfl ?_); refine zL (some 19) Try.func35 #[.agg #[.int .i64 a0_0, .slice A0_1 l0_1.length c0_1], .int .i64 a1, .slice A2 l2.length c2] ?_; (with_reducible refine (burning_Superstable.calls k a0_0 _ _ l0_1 a1 _ _ l2 t342 t343 _ ?side1 ?side2 ?side3 ?side4 A4.out).mono ?_); (case side1 => exact Kd.C_below HR0_1.out zB); (case side2 => exact HC0_1.out); (case side3 => exact Kd.C_below HR2.out zB); (case side4 => exact HC2.out); rintro e w13 ⟨rfl, hb⟩; refine ⟨_, rfl, ?_⟩; replace BK341 := zb BK341 hb; replace HB := zS HB hb; (try clear hb); obtain ⟨hcz14_0, hcz14_1, hfz14_0, hfz14_1⟩ := zD2 BK341) | ((with_reducible refine gate_callee (f := 56) rfl ?_); refine zL (some 29) Try.func56 #[.agg #[.int .i64 a0_0, .slice A0_1 l0_1.length c0_1], .int .i64 a1, .slice A2 l2.length c2] ?_; (with_reducible refine (stabilize_Stable.calls k a0_0 _ _ l0_1 a1 _ _ l2 true t345 _ ?side1 ?side2 ?side3 ?side4 A6.out).mono ?_); (case side1 => exact Kd.C_below HR0_1.out zB); (case side2 => exact HC0_1.out); (case side3 => exact Kd.C_below HR2.out zB); (case side4 => exact HC2.out); rintro e w15 ⟨rfl, hb⟩; refine ⟨_, rfl, ?_⟩; replace BK341 := zb BK341 hb; replace HB := zS HB hb; (try clear hb); obtain ⟨hcz16_0, hcz16_1, hfz16_0, hfz16_1⟩ := zD2 BK341) | ((with_reducible refine gate_callee (f := 43) rfl ?_); refine zL (some 40) Try.func43 #[.agg #[.int .i64 a0_0, .slice A0_1 l0_1.length c0_1], .int .i64 a1] ?_; (with_reducible refine (superstable_first.calls k a0_0 _ _ l0_1 a1 t346 t349 _ ?side1 ?side2 A9.out).mono ?_); (case side1 => exact Kd.C_below HR0_1.out zB); (case side2 => exact HC0_1.out); rintro e w17 ⟨v347, rfl, ho0, hb⟩; refine ⟨_, rfl, ?_⟩; have HO348 := Aside0.mk (Kd.R_lower ho0 (below_size zB)); replace BK341 := zb BK341 hb; replace HB := zS HB hb; (try clear hb); (try clear ho0)))
     go_loopg [48] k (fun kq v48 w' => ∃ (x12_1 : List Int) (x48_1 : Int), v48 = .int .i64 x48_1 ∧ Aside0 (superstable_Dual.l0 kq x12_1 l2 (l2.length : Int) x48_1 = some (r1, r2)) ∧ Aside0 (kq ≤ k) ∧ Aside0 (Kd.R (Kd.int .i64) 3 w' w.heap.size (fun _ => True) v347 x12_1) ∧ Aside0 (w'.heap[gb341]? = some (.cells #[.int .i64 a0_0, (.slice A0_1 l0_1.length c0_1)] 24 (0, 0))) ∧ Aside0 (Below w.heap.size w w'))
     case atStart => exact ⟨(t346), (0), zT, H', ⟨Nat.le_refl _⟩, ⟨zR HO348⟩, ⟨zK BK341⟩, ⟨zB⟩⟩
     case round =>
      clear H'
      try clear c1
      try clear c2
      try clear p2
      try clear c3
      try clear c4
      try clear c5
      try clear c5b0
      try clear c5b1
      try clear c7
      try clear c7b0
      try clear c7b1
      try clear c8
      try clear c10
      try clear c10b0
      try clear c10b1
      try clear hcz12_0
      try clear hcz12_1
      try clear hcz14_0
      try clear hcz14_1
      try clear hcz16_0
      try clear hcz16_1
      try clear hfz12_0
      try clear hfz12_1
      try clear hfz14_0
      try clear hfz14_1
      try clear hfz16_0
      try clear hfz16_1
      obtain ⟨x12_1, x48_1, rfl, HA, HK1, HO_12, BK341, HB⟩ := hrel
      cases gk with
      | zero => exact absurd HA.out (by simp [superstable_Dual.l0])
      | succ k1 =>
       have H := HA.out
       clear HA
       simp only [superstable_Dual.l0] at H
       by_cases c18 : x48_1 < (l2.length : Int)
       ·rw [if_pos c18] at H
        have c18b0 : decide (x48_1 < (l2.length : Int)) = true := decide_eq_true c18
        clear c18
        by_cases c19 : 0 ≤ x48_1
        ·rw [if_pos c19] at H
         have c19b0 : decide (0 ≤ x48_1) = true := decide_eq_true c19
         clear c19
         by_cases c20 : x48_1 < (l2.length : Int)
         ·rw [if_pos c20] at H
          have c20b0 : decide (x48_1 < (l2.length : Int)) = true := decide_eq_true c20
          clear c20
          by_cases c21 : x48_1 < (x12_1.length : Int)
          ·rw [if_pos c21] at H
           have c21b0 : decide (x48_1 < (x12_1.length : Int)) = true := decide_eq_true c21
           clear c21
           obtain ⟨y352, hy352⟩ : ∃ y_ : List Int, y_ = (x12_1.set (x48_1 : Int).toNat (wrap64 ((rd x12_1 x48_1) - (rd l2 x48_1)))) := ⟨_, rfl⟩
           replace H : (superstable_Dual.l0 k1 y352 l2 (l2.length : Int) (wrap64 (x48_1 + 1))) = some (r1, r2) := by first | (rw [hy352]; with_reducible exact H) | (have H2_ := (Option.bind_some _ _).symm.trans H; rw [hy352]; with_reducible exact H2_) | (have H2_ := (Option.bind_some _ _).symm.trans H; with_reducible exact H2_) | with_reducible exact H | (rw [hy352]; exact H) | exact H
           have Ny352 := Aside0.mk hy352
           clear hy352
           have H' := Aside0.mk H
           clear H
           have p350 : 0 ≤ (x48_1 : Int) := of_decide_eq_true ‹_›
           have q350 : x48_1 < (l2.length : Int) := of_decide_eq_true ‹_›
           obtain ⟨ad350, e350, hx350_0⟩ := Kd.at_int HR2.out x48_1 p350 q350
           cases e350
           replace hx350_0 := (HB.out.cell (World.block_lt_of_cell? w _ hx350_0)).trans hx350_0
           replace p350 := eq_true p350
           replace q350 := eq_true q350
           obtain ⟨Ao23, co23, eo23⟩ := Kd.R_slice HO_12.out
           subst eo23
           have p351 : 0 ≤ (x48_1 : Int) := of_decide_eq_true ‹_›
           have q351 : x48_1 < (x12_1.length : Int) := of_decide_eq_true ‹_›
           obtain ⟨ad351, e351, hx351_0⟩ := Kd.at_int (Kd.R_reads' HO_12.out).2.2 x48_1 p351 q351
           cases e351
           replace p351 := eq_true p351
           replace q351 := eq_true q351
           have p22 : 0 ≤ (x48_1 : Int) := of_decide_eq_true ‹_›
           have q22 : (x48_1 : Int) < ((x12_1.length : Int) : Int) := of_decide_eq_true ‹_›
           obtain ⟨go22, co22, eo22, gb22, gl22, cl22, HG22⟩ := Kd.R_form HO_12.out (by omega)
           (first | cases eo22 | (injection eo22 with ea_ en_ ec_; (first | subst ea_ | (injection ea_ with ea_; subst ea_)); subst ec_; clear en_))
           have GB22 := Aside0.mk gb22
           have GG22 := Aside0.mk HG22
           clear gb22 gl22 HG22
           (first | simp only [add_plain] at hx351_0 | skip)
           obtain ⟨hx22_0, hf22_0⟩ := Kd.R_celln 0 HO_12.out (x48_1 : Int) p22 q22
           replace p22 := eq_true p22
           replace q22 := eq_true q22
           have HP24 := Kd.R_putg HO_12.out (x48_1 : Int) (wrap64 ((rd x12_1 x48_1) - (rd l2 x48_1)))
           go_wp2_with (first | ((with_reducible refine gate_store (t := 3) (p := 59) rfl ?_); refine store_event (t := 3) (p := 59) (v := ?vo_w25) (w1 := (wr.setCell ⟨go22, (x48_1 : Int).toNat, none⟩ (.int .i64 (wrap64 ((rd x12_1 x48_1) - (rd l2 x48_1)))))) ?hg ?ho ?hn ?hr ?_; (case ho => rfl); (case hg => rfl); (case hn => rfl); (case hr => first | (go_simp; done) | (go_simp; rfl)); intro w25 hw; have hg : wr.grownBy w25 (some go22) := (by rw [hw]; exact HP24.2); have hp_ : Kd.R (Kd.int .i64) 3 w25 w.heap.size (fun _ => True) (.slice (some ⟨go22, 0, none⟩) x12_1.length co23) y352 := (by rw [hw, Ny352.out]; exact HP24.1); clear HP24; replace BK341 := Aside0.mk (blk_grown (zK BK341) hg (Kd.R_ne HO_12.out BK341.out (by decide))); replace HO_12 := Aside0.mk (hp_); replace HB := Aside0.mk ((by rw [hw]; exact below_set (HB.out) GB22.out : Below w.heap.size w w25)); clear hg hw hp_))
           go_roundg k1
           case measure => have := HK1.out; omega
           case rel => exact ⟨(y352), (wrap64 (x48_1 + 1)), zT, H', ⟨by have := HK1.out; omega⟩, ⟨zR HO_12⟩, ⟨zK BK341⟩, ⟨zB⟩⟩
          ·rw [if_neg c21] at H
           exact absurd H (by simp)
         ·rw [if_neg c20] at H
          exact absurd H (by simp)
        ·rw [if_neg c19] at H
         exact absurd H (by simp)
       ·rw [if_neg c18] at H
        have c18b0 : decide (x48_1 < (l2.length : Int)) = false := decide_eq_false c18
        clear c18
        simp only [Option.some.injEq, Prod.mk.injEq] at H
        obtain ⟨rfl, rfl⟩ := H
        go_wp2
        go_ret2
        exact ⟨_, zE, by (with_reducible repeat (first | apply Kd.R_alloc | apply Kd.R_drewN | apply Kd.R_drew)); exact HO_12.out, zB⟩
    ·rw [if_neg c10] at H
     have c10b0 : (t349 == 0) = false := beq_eq_false_iff_ne.mpr c10
     have c10b1 : (t349 != 0) = true := bne_iff_ne.mpr c10
     simp only [Option.some.injEq, Prod.mk.injEq] at H
     obtain ⟨rfl, rfl⟩ := H
     go_enter Try.func24, Try.ntmps24
     go_wp2_with (first | ((with_reducible refine gate_dst (N := 3) rfl ?_); refine zX 3 #[.int .i64 a0_0, .slice A0_1 l0_1.length c0_1] 24 ?_; intro gb341 hg w26 hbox hb; have BK341 := Aside0.mk (hbox); have GW341 := zG HB hg; have GE341 := zG HB hg; replace HB := zS HB hb; clear hb hbox hg; obtain ⟨hcz27_0, hcz27_1, hfz27_0, hfz27_1⟩ := zD2 BK341) | ((with_reducible refine gate_callee (f := 35) rfl ?_); refine zL (some 19) Try.func35 #[.agg #[.int .i64 a0_0, .slice A0_1 l0_1.length c0_1], .int .i64 a1, .slice A2 l2.length c2] ?_; (with_reducible refine (burning_Superstable.calls k a0_0 _ _ l0_1 a1 _ _ l2 t342 t343 _ ?side1 ?side2 ?side3 ?side4 A4.out).mono ?_); (case side1 => exact Kd.C_below HR0_1.out zB); (case side2 => exact HC0_1.out); (case side3 => exact Kd.C_below HR2.out zB); (case side4 => exact HC2.out); rintro e w28 ⟨rfl, hb⟩; refine ⟨_, rfl, ?_⟩; replace BK341 := zb BK341 hb; replace HB := zS HB hb; (try clear hb); obtain ⟨hcz29_0, hcz29_1, hfz29_0, hfz29_1⟩ := zD2 BK341) | ((with_reducible refine gate_callee (f := 56) rfl ?_); refine zL (some 29) Try.func56 #[.agg #[.int .i64 a0_0, .slice A0_1 l0_1.length c0_1], .int .i64 a1, .slice A2 l2.length c2] ?_; (with_reducible refine (stabilize_Stable.calls k a0_0 _ _ l0_1 a1 _ _ l2 true t345 _ ?side1 ?side2 ?side3 ?side4 A6.out).mono ?_); (case side1 => exact Kd.C_below HR0_1.out zB); (case side2 => exact HC0_1.out); (case side3 => exact Kd.C_below HR2.out zB); (case side4 => exact HC2.out); rintro e w30 ⟨rfl, hb⟩; refine ⟨_, rfl, ?_⟩; replace BK341 := zb BK341 hb; replace HB := zS HB hb; (try clear hb); obtain ⟨hcz31_0, hcz31_1, hfz31_0, hfz31_1⟩ := zD2 BK341) | ((with_reducible refine gate_callee (f := 43) rfl ?_); refine zL (some 40) Try.func43 #[.agg #[.int .i64 a0_0, .slice A0_1 l0_1.length c0_1], .int .i64 a1] ?_; (with_reducible refine (superstable_first.calls k a0_0 _ _ l0_1 a1 t346 t349 _ ?side1 ?side2 A9.out).mono ?_); (case side1 => exact Kd.C_below HR0_1.out zB); (case side2 => exact HC0_1.out); rintro e w32 ⟨v347, rfl, ho0, hb⟩; refine ⟨_, rfl, ?_⟩; have HO348 := Aside0.mk (Kd.R_lower ho0 (below_size zB)); replace BK341 := zb BK341 hb; replace HB := zS HB hb; (try clear hb); (try clear ho0)))
     go_ret2
     exact ⟨_, zE, by first | exact Kd.R_nil _ _ _ _ _ | exact Kd.N_nil _ _ _ _ _ | exact Kd.V_nil _ _ _ _ _ | exact Kd.Q_nil _ _ _ _ _ | exact Kd.S_nil _ _ _ _ _, zB⟩
   ·replace c8 := Bool.eq_false_iff.mpr c8
    subst c8
    have H1 : (some (([] : List Int), 15)) = some (r1, r2) := by rw [if_neg (show ¬ (false = true) by decide)] at H; exact H
    clear H
    have H := H1
    clear H1
    simp only [Option.some.injEq, Prod.mk.injEq] at H
    obtain ⟨rfl, rfl⟩ := H
    go_enter Try.func24, Try.ntmps24
    go_wp2_with (first | ((with_reducible refine gate_dst (N := 3) rfl ?_); refine zX 3 #[.int .i64 a0_0, .slice A0_1 l0_1.length c0_1] 24 ?_; intro gb341 hg w33 hbox hb; have BK341 := Aside0.mk (hbox); have GW341 := zG HB hg; have GE341 := zG HB hg; replace HB := zS HB hb; clear hb hbox hg; obtain ⟨hcz34_0, hcz34_1, hfz34_0, hfz34_1⟩ := zD2 BK341) | ((with_reducible refine gate_callee (f := 35) rfl ?_); refine zL (some 19) Try.func35 #[.agg #[.int .i64 a0_0, .slice A0_1 l0_1.length c0_1], .int .i64 a1, .slice A2 l2.length c2] ?_; (with_reducible refine (burning_Superstable.calls k a0_0 _ _ l0_1 a1 _ _ l2 t342 t343 _ ?side1 ?side2 ?side3 ?side4 A4.out).mono ?_); (case side1 => exact Kd.C_below HR0_1.out zB); (case side2 => exact HC0_1.out); (case side3 => exact Kd.C_below HR2.out zB); (case side4 => exact HC2.out); rintro e w35 ⟨rfl, hb⟩; refine ⟨_, rfl, ?_⟩; replace BK341 := zb BK341 hb; replace HB := zS HB hb; (try clear hb); obtain ⟨hcz36_0, hcz36_1, hfz36_0, hfz36_1⟩ := zD2 BK341) | ((with_reducible refine gate_callee (f := 56) rfl ?_); refine zL (some 29) Try.func56 #[.agg #[.int .i64 a0_0, .slice A0_1 l0_1.length c0_1], .int .i64 a1, .slice A2 l2.length c2] ?_; (with_reducible refine (stabilize_Stable.calls k a0_0 _ _ l0_1 a1 _ _ l2 false t345 _ ?side1 ?side2 ?side3 ?side4 A6.out).mono ?_); (case side1 => exact Kd.C_below HR0_1.out zB); (case side2 => exact HC0_1.out); (case side3 => exact Kd.C_below HR2.out zB); (case side4 => exact HC2.out); rintro e w37 ⟨rfl, hb⟩; refine ⟨_, rfl, ?_⟩; replace BK341 := zb BK341 hb; replace HB := zS HB hb; (try clear hb)))
    go_ret2
    exact ⟨_, zE, by first | exact Kd.R_nil _ _ _ _ _ | exact Kd.N_nil _ _ _ _ _ | exact Kd.V_nil _ _ _ _ _ | exact Kd.Q_nil _ _ _ _ _ | exact Kd.S_nil _ _ _ _ _, zB⟩
  ·rw [if_neg c7] at H
   have c7b0 : (t345 == 0) = false := beq_eq_false_iff_ne.mpr c7
   have c7b1 : (t345 != 0) = true := bne_iff_ne.mpr c7
   simp only [Option.some.injEq, Prod.mk.injEq] at H
   obtain ⟨rfl, rfl⟩ := H
   go_enter Try.func24, Try.ntmps24
   go_wp2_with (first | ((with_reducible refine gate_dst (N := 3) rfl ?_); refine zX 3 #[.int .i64 a0_0, .slice A0_1 l0_1.length c0_1] 24 ?_; intro gb341 hg w38 hbox hb; have BK341 := Aside0.mk (hbox); have GW341 := zG HB hg; have GE341 := zG HB hg; replace HB := zS HB hb; clear hb hbox hg; obtain ⟨hcz39_0, hcz39_1, hfz39_0, hfz39_1⟩ := zD2 BK341) | ((with_reducible refine gate_callee (f := 35) rfl ?_); refine zL (some 19) Try.func35 #[.agg #[.int .i64 a0_0, .slice A0_1 l0_1.length c0_1], .int .i64 a1, .slice A2 l2.length c2] ?_; (with_reducible refine (burning_Superstable.calls k a0_0 _ _ l0_1 a1 _ _ l2 t342 t343 _ ?side1 ?side2 ?side3 ?side4 A4.out).mono ?_); (case side1 => exact Kd.C_below HR0_1.out zB); (case side2 => exact HC0_1.out); (case side3 => exact Kd.C_below HR2.out zB); (case side4 => exact HC2.out); rintro e w40 ⟨rfl, hb⟩; refine ⟨_, rfl, ?_⟩; replace BK341 := zb BK341 hb; replace HB := zS HB hb; (try clear hb); obtain ⟨hcz41_0, hcz41_1, hfz41_0, hfz41_1⟩ := zD2 BK341) | ((with_reducible refine gate_callee (f := 56) rfl ?_); refine zL (some 29) Try.func56 #[.agg #[.int .i64 a0_0, .slice A0_1 l0_1.length c0_1], .int .i64 a1, .slice A2 l2.length c2] ?_; (with_reducible refine (stabilize_Stable.calls k a0_0 _ _ l0_1 a1 _ _ l2 t344 t345 _ ?side1 ?side2 ?side3 ?side4 A6.out).mono ?_); (case side1 => exact Kd.C_below HR0_1.out zB); (case side2 => exact HC0_1.out); (case side3 => exact Kd.C_below HR2.out zB); (case side4 => exact HC2.out); rintro e w42 ⟨rfl, hb⟩; refine ⟨_, rfl, ?_⟩; replace BK341 := zb BK341 hb; replace HB := zS HB hb; (try clear hb)))
   go_ret2
   exact ⟨_, zE, by first | exact Kd.R_nil _ _ _ _ _ | exact Kd.N_nil _ _ _ _ _ | exact Kd.V_nil _ _ _ _ _ | exact Kd.Q_nil _ _ _ _ _ | exact Kd.S_nil _ _ _ _ _, zB⟩
 ·rw [if_neg c5] at H
  have c5b0 : (t343 == 0) = false := beq_eq_false_iff_ne.mpr c5
  have c5b1 : (t343 != 0) = true := bne_iff_ne.mpr c5
  simp only [Option.some.injEq, Prod.mk.injEq] at H
  obtain ⟨rfl, rfl⟩ := H
  go_enter Try.func24, Try.ntmps24
  go_wp2_with (first | ((with_reducible refine gate_dst (N := 3) rfl ?_); refine zX 3 #[.int .i64 a0_0, .slice A0_1 l0_1.length c0_1] 24 ?_; intro gb341 hg w43 hbox hb; have BK341 := Aside0.mk (hbox); have GW341 := zG HB hg; have GE341 := zG HB hg; replace HB := zS HB hb; clear hb hbox hg; obtain ⟨hcz44_0, hcz44_1, hfz44_0, hfz44_1⟩ := zD2 BK341) | ((with_reducible refine gate_callee (f := 35) rfl ?_); refine zL (some 19) Try.func35 #[.agg #[.int .i64 a0_0, .slice A0_1 l0_1.length c0_1], .int .i64 a1, .slice A2 l2.length c2] ?_; (with_reducible refine (burning_Superstable.calls k a0_0 _ _ l0_1 a1 _ _ l2 t342 t343 _ ?side1 ?side2 ?side3 ?side4 A4.out).mono ?_); (case side1 => exact Kd.C_below HR0_1.out zB); (case side2 => exact HC0_1.out); (case side3 => exact Kd.C_below HR2.out zB); (case side4 => exact HC2.out); rintro e w45 ⟨rfl, hb⟩; refine ⟨_, rfl, ?_⟩; replace BK341 := zb BK341 hb; replace HB := zS HB hb; (try clear hb)))
  go_ret2
  exact ⟨_, zE, by first | exact Kd.R_nil _ _ _ _ _ | exact Kd.N_nil _ _ _ _ _ | exact Kd.V_nil _ _ _ _ _ | exact Kd.Q_nil _ _ _ _ _ | exact Kd.S_nil _ _ _ _ _, zB⟩
mutual
def sandpileref28_Raised.l0 : Nat → Int → List Int → List Int → List Int → Int → Int → List (S66) → Option (List Int)
 | 0, _, _, _, _, _, _, _ => none
 | k + 1, x1, x2, x7, x8, x9, x316000, x316001 => if x9 < x316000 then (if x9 = x1 then (sandpileref28_Raised.l0 k x1 x2 x7 x8 (wrap64 (x9 + 1)) x316000 x316001) else (if 0 ≤ x9 then (if x9 < (x2.length : Int) then (sandpileref28_Raised.l1 k x1 x2 x7 x8 x9 (wrap64 ((rd x2 x9) + 1)) x316000 x316001) else (none)) else (none))) else (some x7)
def sandpileref28_Raised.l1 : Nat → Int → List Int → List Int → List Int → Int → Int → Int → List (S66) → Option (List Int)
 | 0, _, _, _, _, _, _, _, _ => none
 | k + 1, x1, x2, x7, x8, x9, x10, x316000, x316001 => if 0 ≤ x9 then (if x9 < (x8.length : Int) then (if x10 ≤ (rd x8 x9) then ((some (([] : List Int) : List Int)).bind fun y327 => (if y327.length + x7.length < 17592186044416 then ((some (y327 ++ x7 : List Int)).bind fun y330 => (if x9 < (y330.length : Int) then ((some (y330.set (x9 : Int).toNat x10 : List Int)).bind fun y333 => ((sandpileref23_Is.f k x316000 x316001 x1 y333).bind fun t334 => (if t334 = true then (sandpileref28_Raised.l1 k x1 x2 y333 x8 x9 (wrap64 (x10 + 1)) x316000 x316001) else (sandpileref28_Raised.l1 k x1 x2 x7 x8 x9 (wrap64 (x10 + 1)) x316000 x316001)))) else (none))) else (none))) else (sandpileref28_Raised.l0 k x1 x2 x7 x8 (wrap64 (x9 + 1)) x316000 x316001)) else (none)) else (none)
end
def sandpileref28_Raised.f (k : Nat) (a0_0 : Int) (l0_1 : List (S66)) (a1 : Int) (l2 : List Int) : Option (List Int) := (some (([] : List Int) : List Int)).bind fun y316 => (if y316.length + l2.length < 17592186044416 then ((sandpileref19_Top.f k a0_0 l0_1 a1).bind fun t322 => (sandpileref28_Raised.l0 k a1 l2 (y316 ++ l2) t322 0 a0_0 l0_1)) else (none))
theorem sandpileref28_Raised.calls (k : Nat) (a0_0 : Int) (A0_1 : Option Addr) (c0_1 : Nat) (l0_1 : List (S66)) (a1 : Int) (A2 : Option Addr) (c2 : Nat) (l2 : List Int) (r : List Int) (w : World) (hr0_1 : Kd.C k66 w A0_1 l0_1.length l0_1) (hc0_1 : l0_1.length ≤ c0_1) (hr2 : Kd.C (Kd.int .i64) w A2 l2.length l2) (hc2 : l2.length ≤ c2) (h : sandpileref28_Raised.f k a0_0 l0_1 a1 l2 = some r) :
  Calls Try.prog 55 #[.agg #[.int .i64 a0_0, .slice A0_1 l0_1.length c0_1], .int .i64 a1, .slice A2 l2.length c2] w fun e w' => ∃ v0_ : Value, e = .returned (v0_) ∧ Kd.R (Kd.int .i64) 3 w' w.heap.size (fun _ => True) v0_ r ∧ Below w.heap.size w w' := by
 have hu24 := Try.underlying24
 have HR0_1 := Aside0.mk hr0_1
 have HC0_1 := Aside0.mk hc0_1
 clear hr0_1 hc0_1
 have HR2 := Aside0.mk hr2
 have HC2 := Aside0.mk hc2
 clear hr2 hc2
 have HB := Aside0.mk (Below.refl w.heap.size w)
 have H : ((some (([] : List Int) : List Int)).bind fun y316 => (if y316.length + l2.length < 17592186044416 then ((sandpileref19_Top.f k a0_0 l0_1 a1).bind fun t322 => (sandpileref28_Raised.l0 k a1 l2 (y316 ++ l2) t322 0 a0_0 l0_1)) else (none))) = some r := h
 clear h
 obtain ⟨y316, hy316⟩ : ∃ y_ : List Int, y_ = (([] : List Int)) := ⟨_, rfl⟩
 replace H : (if y316.length + l2.length < 17592186044416 then ((sandpileref19_Top.f k a0_0 l0_1 a1).bind fun t322 => (sandpileref28_Raised.l0 k a1 l2 (y316 ++ l2) t322 0 a0_0 l0_1)) else (none)) = some r := by first | (rw [hy316]; with_reducible exact H) | (have H2_ := (Option.bind_some _ _).symm.trans H; rw [hy316]; with_reducible exact H2_) | (have H2_ := (Option.bind_some _ _).symm.trans H; with_reducible exact H2_) | with_reducible exact H | (rw [hy316]; exact H) | exact H
 have Ny316 := Aside0.mk hy316
 clear hy316
 by_cases c4 : y316.length + l2.length < 17592186044416
 ·rw [if_pos c4] at H
  have LMc4 := Aside0.mk c4
  clear c4
  obtain ⟨y319, hy319⟩ : ∃ y_ : List Int, y_ = (y316 ++ l2) := ⟨_, rfl⟩
  replace H : ((sandpileref19_Top.f k a0_0 l0_1 a1).bind fun t322 => (sandpileref28_Raised.l0 k a1 l2 y319 t322 0 a0_0 l0_1)) = some r := by first | (rw [hy319]; with_reducible exact H) | (have H2_ := (Option.bind_some _ _).symm.trans H; rw [hy319]; with_reducible exact H2_) | (have H2_ := (Option.bind_some _ _).symm.trans H; with_reducible exact H2_) | with_reducible exact H | (rw [hy319]; exact H) | exact H
  have Ny319 := Aside0.mk hy319
  clear hy319
  replace H := Option.bind_eq_some_iff.mp H
  obtain ⟨t322, A50, H⟩ := H
  replace H : (sandpileref28_Raised.l0 k a1 l2 y319 t322 0 a0_0 l0_1) = some r := H
  have A5 := Aside0.mk A50
  clear A50
  have H' := Aside0.mk H
  clear H
  go_enter Try.func55, Try.ntmps55
  go_wp2_with (first | ((with_reducible refine gate_dst (N := 3) rfl ?_); refine zX 3 #[.int .i64 a0_0, .slice A0_1 l0_1.length c0_1] 24 ?_; intro gb315 hg w6 hbox hb; have BK315 := Aside0.mk (hbox); have GW315 := zG HB hg; have GE315 := zG HB hg; replace HB := zS HB hb; clear hb hbox hg) | ((with_reducible refine gate_dst (N := 12) rfl ?_); refine Kd.R_lit (Kd.int .i64) _ 3 ?hg (N := 12) ?hd (xs := ([] : List Int)) (inner := []) (ok := fun _ => True) (okp := fun _ => True) ?hr ?hp (fun _ hk => hk) trivial (Below.refl _ _) (Nat.le_refl _) (by simp) ?_; (case hd => rfl); (case hg => rfl); (case hr => first | (go_simp; done) | (go_simp; rfl)); (case hp => exact (Reps.none _ _)); intro v317 w7 ho8 hb hg_ hnew_; clear hg_ hnew_; (first | rw [← Ny316.out] at ho8 | (simp only [Int.reduceToNat] at ho8; rw [← Ny316.out] at ho8)); have HO318 := Aside0.mk (Kd.R_lower ho8 (below_size zB)); replace BK315 := zb BK315 hb; replace HB := zS HB hb; clear hb ho8) | ((with_reducible refine gate_builtin (b := .append) (xs := #[.tmp 12, .tmp 13]) rfl ?_); at_builtin; refine Kd.R_append_rows (Kd.int .i64) (w0 := w) w.heap.size rfl (.tmp 12) (.tmp 13) 42 3 (.int .i64 0) 8 rfl Try.underlying42 info3 rfl (by decide) (by omega) v317 y316 l2 _ _ _ (fun _ => True) (fun _ => False) rfl rfl ?aO ?aR (fun _ _ h => h) (fun _ h => h.elim) ?aF ?aB ?aS ?aL ?_; (case aR => exact Kd.C_below HR2.out zB); (case aB => exact zB); (case aF => exact (fun _ _ => trivial)); (case aO => exact (zR HO318)); (case aS => exact (below_size zB)); (case aL => have := LMc4.out; omega); intro v320 w9 ho hb hg hat; rw [← Ny319.out] at ho; replace BK315 := Aside0.mk (blk_grown (zK BK315) hg (Kd.R_ne HO318.out BK315.out (by decide))); replace HB := Aside0.mk (hb); have HO321 := Aside0.mk (ho); clear HO318; clear ho hb hg hat; obtain ⟨hcz10_0, hcz10_1, hfz10_0, hfz10_1⟩ := zD2 BK315) | ((with_reducible refine gate_callee (f := 74) rfl ?_); refine zL (some 17) Try.func74 #[.agg #[.int .i64 a0_0, .slice A0_1 l0_1.length c0_1], .int .i64 a1] ?_; (with_reducible refine (sandpileref19_Top.calls k a0_0 _ _ l0_1 a1 t322 _ ?side1 ?side2 A5.out).mono ?_); (case side1 => exact Kd.C_below HR0_1.out zB); (case side2 => exact HC0_1.out); rintro e w11 ⟨v323, rfl, ho0, hb⟩; refine ⟨_, rfl, ?_⟩; have HO324 := Aside0.mk (Kd.R_lower (Kd.R_new' ho0 (Kd.R_lt (zR HO321))) (below_size zB)); replace HO321 := zeRR HO321 ho0 hb; replace BK315 := zb BK315 hb; replace HB := zS HB hb; (try clear hb); (try clear ho0)))
  go_loopg [7, 9] k (fun kq v7 v9 w' => ∃ (x7_1 : List Int) (x8_1 : List Int) (x9_1 : Int), v9 = .int .i64 x9_1 ∧ Aside0 (sandpileref28_Raised.l0 kq a1 l2 x7_1 x8_1 x9_1 a0_0 l0_1 = some r) ∧ Aside0 (kq ≤ k) ∧ Aside0 (Kd.R (Kd.int .i64) 3 w' w.heap.size (fun k_ => some k_ ≠ (v323 : Value).ownBlock) v7 x7_1) ∧ Aside0 (Kd.R (Kd.int .i64) 3 w' w.heap.size (fun k_ => some k_ ≠ (v7 : Value).ownBlock) v323 x8_1) ∧ Aside0 (w'.heap[gb315]? = some (.cells #[.int .i64 a0_0, (.slice A0_1 l0_1.length c0_1)] 24 (0, 0))) ∧ Aside0 (Below w.heap.size w w'))
  case atStart => exact ⟨(y319), (t322), (0), zT, H', ⟨Nat.le_refl _⟩, ⟨by (with_reducible repeat (first | apply Kd.R_alloc | apply Kd.R_drewN | apply Kd.R_drew)); exact Kd.R_mono HO321.out (fun _ hk => hk.2)⟩, ⟨by (with_reducible repeat (first | apply Kd.R_alloc | apply Kd.R_drewN | apply Kd.R_drew)); exact Kd.R_mono HO324.out (fun _ hk => hk.2)⟩, ⟨zK BK315⟩, ⟨zB⟩⟩
  case round =>
   clear H'
   try clear c2
   try clear p2
   try clear c4
   try clear c5
   try clear c7
   try clear hcz10_0
   try clear hcz10_1
   try clear hfz10_0
   try clear hfz10_1
   obtain ⟨x7_1, x8_1, x9_1, rfl, HA, HK1, HO_7, HO_8, BK315, HB⟩ := hrel
   cases gk with
   | zero => exact absurd HA.out (by simp [sandpileref28_Raised.l0])
   | succ k1 =>
    have H := HA.out
    clear HA
    simp only [sandpileref28_Raised.l0] at H
    by_cases c12 : x9_1 < a0_0
    ·rw [if_pos c12] at H
     have c12b0 : decide (x9_1 < a0_0) = true := decide_eq_true c12
     clear c12
     by_cases c13 : x9_1 = a1
     ·rw [if_pos c13] at H
      have c13b0 : (x9_1 == a1) = true := beq_iff_eq.mpr c13
      have c13b1 : (x9_1 != a1) = false := bne_eq_false_iff_eq.mpr c13
      clear c13
      have H' := Aside0.mk H
      clear H
      obtain ⟨hcz14_0, hcz14_1, hfz14_0, hfz14_1⟩ := zD2 BK315
      go_wp2
      go_roundg k1
      case measure => have := HK1.out; omega
      case rel => exact ⟨(x7_1), (x8_1), (wrap64 (x9_1 + 1)), zT, H', ⟨by have := HK1.out; omega⟩, ⟨zR HO_7⟩, ⟨zR HO_8⟩, ⟨zK BK315⟩, ⟨zB⟩⟩
     ·rw [if_neg c13] at H
      have c13b0 : (x9_1 == a1) = false := beq_eq_false_iff_ne.mpr c13
      have c13b1 : (x9_1 != a1) = true := bne_iff_ne.mpr c13
      by_cases c15 : 0 ≤ x9_1
      ·rw [if_pos c15] at H
       have c15b0 : decide (0 ≤ x9_1) = true := decide_eq_true c15
       clear c15
       by_cases c16 : x9_1 < (l2.length : Int)
       ·rw [if_pos c16] at H
        have c16b0 : decide (x9_1 < (l2.length : Int)) = true := decide_eq_true c16
        clear c16
        have H' := Aside0.mk H
        clear H
        obtain ⟨hcz17_0, hcz17_1, hfz17_0, hfz17_1⟩ := zD2 BK315
        have p325 : 0 ≤ (x9_1 : Int) := of_decide_eq_true ‹_›
        have q325 : x9_1 < (l2.length : Int) := of_decide_eq_true ‹_›
        obtain ⟨ad325, e325, hx325_0⟩ := Kd.at_int HR2.out x9_1 p325 q325
        cases e325
        replace hx325_0 := (HB.out.cell (World.block_lt_of_cell? w _ hx325_0)).trans hx325_0
        replace p325 := eq_true p325
        replace q325 := eq_true q325
        go_wp2
        go_loopg [7, 10] k1 (fun kq v7 v10 w' => ∃ (x7_2 : List Int) (x8_2 : List Int) (x10_2 : Int), v10 = .int .i64 x10_2 ∧ Aside0 (sandpileref28_Raised.l1 kq a1 l2 x7_2 x8_2 x9_1 x10_2 a0_0 l0_1 = some r) ∧ Aside0 (kq ≤ k1) ∧ Aside0 (Kd.R (Kd.int .i64) 3 w' w.heap.size (fun k_ => some k_ ≠ (v323 : Value).ownBlock) v7 x7_2) ∧ Aside0 (Kd.R (Kd.int .i64) 3 w' w.heap.size (fun k_ => some k_ ≠ (v7 : Value).ownBlock) v323 x8_2) ∧ Aside0 (w'.heap[gb315]? = some (.cells #[.int .i64 a0_0, (.slice A0_1 l0_1.length c0_1)] 24 (0, 0))) ∧ Aside0 (Below w.heap.size w w'))
        case atStart => exact ⟨(x7_1), (x8_1), (wrap64 ((rd l2 x9_1) + 1)), zT, H', ⟨Nat.le_refl _⟩, ⟨zR HO_7⟩, ⟨zR HO_8⟩, ⟨zK BK315⟩, ⟨zB⟩⟩
        case round =>
         clear H'
         try clear c1
         try clear c2
         try clear p2
         try clear p3
         try clear q3
         try clear hx3
         try clear c4
         try clear c5
         try clear p6
         try clear c7
         try clear c12
         try clear c12b0
         try clear c13
         try clear c13b0
         try clear c13b1
         try clear c15
         try clear c15b0
         try clear c16
         try clear c16b0
         try clear hcz10_0
         try clear hcz10_1
         try clear hcz14_0
         try clear hcz14_1
         try clear hcz17_0
         try clear hcz17_1
         try clear hfz10_0
         try clear hfz10_1
         try clear hfz14_0
         try clear hfz14_1
         try clear hfz17_0
         try clear hfz17_1
         try clear hx325_0
         try clear p2
         try clear p325
         try clear q325
         obtain ⟨x7_2, x8_2, x10_2, rfl, HA, HK2, HO_7, HO_8, BK315, HB⟩ := hrel
         cases gk with
         | zero => exact absurd HA.out (by simp [sandpileref28_Raised.l1])
         | succ k2 =>
          have H := HA.out
          clear HA
          simp only [sandpileref28_Raised.l1] at H
          by_cases c18 : 0 ≤ x9_1
          ·rw [if_pos c18] at H
           have c18b0 : decide (0 ≤ x9_1) = true := decide_eq_true c18
           clear c18
           by_cases c19 : x9_1 < (x8_2.length : Int)
           ·rw [if_pos c19] at H
            have c19b0 : decide (x9_1 < (x8_2.length : Int)) = true := decide_eq_true c19
            clear c19
            by_cases c20 : x10_2 ≤ (rd x8_2 x9_1)
            ·rw [if_pos c20] at H
             have c20b0 : decide (x10_2 ≤ (rd x8_2 x9_1)) = true := decide_eq_true c20
             clear c20
             obtain ⟨y327, hy327⟩ : ∃ y_ : List Int, y_ = (([] : List Int)) := ⟨_, rfl⟩
             replace H : (if y327.length + x7_2.length < 17592186044416 then ((some (y327 ++ x7_2 : List Int)).bind fun y330 => (if x9_1 < (y330.length : Int) then ((some (y330.set (x9_1 : Int).toNat x10_2 : List Int)).bind fun y333 => ((sandpileref23_Is.f k2 a0_0 l0_1 a1 y333).bind fun t334 => (if t334 = true then (sandpileref28_Raised.l1 k2 a1 l2 y333 x8_2 x9_1 (wrap64 (x10_2 + 1)) a0_0 l0_1) else (sandpileref28_Raised.l1 k2 a1 l2 x7_2 x8_2 x9_1 (wrap64 (x10_2 + 1)) a0_0 l0_1)))) else (none))) else (none)) = some r := by first | (rw [hy327]; with_reducible exact H) | (have H2_ := (Option.bind_some _ _).symm.trans H; rw [hy327]; with_reducible exact H2_) | (have H2_ := (Option.bind_some _ _).symm.trans H; with_reducible exact H2_) | with_reducible exact H | (rw [hy327]; exact H) | exact H
             have Ny327 := Aside0.mk hy327
             clear hy327
             by_cases c21 : y327.length + x7_2.length < 17592186044416
             ·rw [if_pos c21] at H
              have LMc21 := Aside0.mk c21
              clear c21
              obtain ⟨y330, hy330⟩ : ∃ y_ : List Int, y_ = (y327 ++ x7_2) := ⟨_, rfl⟩
              replace H : (if x9_1 < (y330.length : Int) then ((some (y330.set (x9_1 : Int).toNat x10_2 : List Int)).bind fun y333 => ((sandpileref23_Is.f k2 a0_0 l0_1 a1 y333).bind fun t334 => (if t334 = true then (sandpileref28_Raised.l1 k2 a1 l2 y333 x8_2 x9_1 (wrap64 (x10_2 + 1)) a0_0 l0_1) else (sandpileref28_Raised.l1 k2 a1 l2 x7_2 x8_2 x9_1 (wrap64 (x10_2 + 1)) a0_0 l0_1)))) else (none)) = some r := by first | (rw [hy330]; with_reducible exact H) | (have H2_ := (Option.bind_some _ _).symm.trans H; rw [hy330]; with_reducible exact H2_) | (have H2_ := (Option.bind_some _ _).symm.trans H; with_reducible exact H2_) | with_reducible exact H | (rw [hy330]; exact H) | exact H
              have Ny330 := Aside0.mk hy330
              clear hy330
              by_cases c22 : x9_1 < (y330.length : Int)
              ·rw [if_pos c22] at H
               have c22b0 : decide (x9_1 < (y330.length : Int)) = true := decide_eq_true c22
               clear c22
               obtain ⟨y333, hy333⟩ : ∃ y_ : List Int, y_ = (y330.set (x9_1 : Int).toNat x10_2) := ⟨_, rfl⟩
               replace H : ((sandpileref23_Is.f k2 a0_0 l0_1 a1 y333).bind fun t334 => (if t334 = true then (sandpileref28_Raised.l1 k2 a1 l2 y333 x8_2 x9_1 (wrap64 (x10_2 + 1)) a0_0 l0_1) else (sandpileref28_Raised.l1 k2 a1 l2 x7_2 x8_2 x9_1 (wrap64 (x10_2 + 1)) a0_0 l0_1))) = some r := by first | (rw [hy333]; with_reducible exact H) | (have H2_ := (Option.bind_some _ _).symm.trans H; rw [hy333]; with_reducible exact H2_) | (have H2_ := (Option.bind_some _ _).symm.trans H; with_reducible exact H2_) | with_reducible exact H | (rw [hy333]; exact H) | exact H
               have Ny333 := Aside0.mk hy333
               clear hy333
               replace H := Option.bind_eq_some_iff.mp H
               obtain ⟨t334, A240, H⟩ := H
               replace H : (if t334 = true then (sandpileref28_Raised.l1 k2 a1 l2 y333 x8_2 x9_1 (wrap64 (x10_2 + 1)) a0_0 l0_1) else (sandpileref28_Raised.l1 k2 a1 l2 x7_2 x8_2 x9_1 (wrap64 (x10_2 + 1)) a0_0 l0_1)) = some r := H
               have A24 := Aside0.mk A240
               clear A240
               by_cases c25 : t334 = true
               ·subst c25
                have H1 : (sandpileref28_Raised.l1 k2 a1 l2 y333 x8_2 x9_1 (wrap64 (x10_2 + 1)) a0_0 l0_1) = some r := by rw [if_pos rfl] at H; exact H
                clear H
                have H := H1
                clear H1
                have H' := Aside0.mk H
                clear H
                obtain ⟨Ao26, co26, eo26⟩ := Kd.R_slice HO_8.out
                subst eo26
                have p326 : 0 ≤ (x9_1 : Int) := of_decide_eq_true ‹_›
                have q326 : x9_1 < (x8_2.length : Int) := of_decide_eq_true ‹_›
                obtain ⟨ad326, e326, hx326_0⟩ := Kd.at_int (Kd.R_reads' HO_8.out).2.2 x9_1 p326 q326
                cases e326
                replace p326 := eq_true p326
                replace q326 := eq_true q326
                go_wp2_with (first | ((with_reducible refine gate_dst (N := 40) rfl ?_); refine Kd.R_lit (Kd.int .i64) _ 3 ?hg (N := 40) ?hd (xs := ([] : List Int)) (inner := []) (ok := fun _ => True) (okp := fun _ => True) ?hr ?hp (fun _ hk => hk) trivial (Below.refl _ _) (Nat.le_refl _) (by simp) ?_; (case hd => rfl); (case hg => rfl); (case hr => first | (go_simp; done) | (go_simp; rfl)); (case hp => exact (Reps.none _ _)); intro v328 w27 ho28 hb hg_ hnew_; clear hg_ hnew_; (first | rw [← Ny327.out] at ho28 | (simp only [Int.reduceToNat] at ho28; rw [← Ny327.out] at ho28)); have HO329 := Aside0.mk (Kd.R_lower (Kd.R_new' (Kd.R_new' ho28 (Kd.R_lt (zR HO_7))) (Kd.R_lt (zR HO_8))) (below_size zB)); replace HO_7 := zeRR HO_7 ho28 hb; replace HO_8 := zeRR HO_8 ho28 hb; replace BK315 := zb BK315 hb; replace HB := zS HB hb; clear hb ho28; obtain ⟨Ao30, co30, eo30⟩ := Kd.R_slice HO_7.out; subst eo30) | ((with_reducible refine gate_builtin (b := .append) (xs := #[.tmp 40, .tmp 41]) rfl ?_); at_builtin; refine Kd.R_append_rows (Kd.int .i64) (w0 := w) w.heap.size rfl (.tmp 40) (.tmp 41) 42 3 (.int .i64 0) 8 rfl Try.underlying42 info3 rfl (by decide) (by omega) v328 y327 x7_2 _ _ _ (fun k_ => some k_ ≠ (.slice Ao30 x7_2.length co30 : Value).ownBlock ∧ some k_ ≠ (.slice (some ad326) x8_2.length co26 : Value).ownBlock) (fun _ => False) rfl rfl ?aO ?aR (fun _ _ h => h) (fun _ h => h.elim) ?aF ?aB ?aS ?aL ?_; (case aR => exact zC (Kd.R_reads' HO_7.out).2.2); (case aB => exact zB); (case aF => exact (fun k_ hk => ⟨Kd.fresh' (Kd.R_lt (zR HO_7)) k_ hk, Kd.fresh' (Kd.R_lt (zR HO_8)) k_ hk⟩)); (case aO => exact (by (with_reducible repeat (first | apply Kd.R_alloc | apply Kd.R_drewN | apply Kd.R_drew)); exact Kd.R_mono HO329.out (fun _ hk => ⟨hk.1.2, hk.2⟩))); (case aS => exact (below_size zB)); (case aL => have := LMc21.out; omega); intro v331 w29 ho hb hg hat; rw [← Ny330.out] at ho; replace HO_7 := Aside0.mk (Kd.R_after (ok := (fun k_ => some k_ ≠ (.slice (some ad326) x8_2.length co26 : Value).ownBlock)) (zR HO_7) hg hat); replace HO_8 := Aside0.mk (Kd.R_after (ok := (fun k_ => some k_ ≠ (.slice Ao30 x7_2.length co30 : Value).ownBlock)) (zR HO_8) hg hat); replace BK315 := Aside0.mk (blk_grown (zK BK315) hg (Kd.R_ne HO329.out BK315.out (by decide))); replace HB := Aside0.mk (hb); have HO332 := Aside0.mk (ho); clear HO329; clear ho hb hg hat; have p23 : 0 ≤ (x9_1 : Int) := of_decide_eq_true ‹_›; have q23 : (x9_1 : Int) < ((y330.length : Int) : Int) := of_decide_eq_true ‹_›; obtain ⟨go23, co23, eo23, gb23, gl23, cl23, HG23⟩ := Kd.R_form HO332.out (by omega); (first | cases eo23 | (injection eo23 with ea_ en_ ec_; (first | subst ea_ | (injection ea_ with ea_; subst ea_)); subst ec_; clear en_)); have GB23 := Aside0.mk gb23; have GG23 := Aside0.mk HG23; clear gb23 gl23 HG23; obtain ⟨hx23_0, hf23_0⟩ := Kd.R_celln 0 HO332.out (x9_1 : Int) p23 q23; replace p23 := eq_true p23; replace q23 := eq_true q23; obtain ⟨hy31_, hz31_⟩ := Kd.R_celln 0 HO332.out (x9_1 : Int) (of_decide_eq_true ‹_›) (of_decide_eq_true ‹_›); have HP31 := Kd.R_putg HO332.out (x9_1 : Int) x10_2) | ((with_reducible refine gate_store (t := 3) (p := 46) rfl ?_); refine store_event (t := 3) (p := 46) (v := ?vo_w32) (w1 := (w29.setCell ⟨go23, (x9_1 : Int).toNat, none⟩ (.int .i64 x10_2))) ?hg ?ho ?hn ?hr ?_; (case ho => rfl); (case hg => rfl); (case hn => rfl); (case hr => first | (go_simp; done) | (go_simp; rfl)); intro w32 hw; have hg : w29.grownBy w32 (some go23) := (by rw [hw]; exact HP31.2); have hp_ : Kd.R (Kd.int .i64) 3 w32 w.heap.size (fun k_ => some k_ ≠ (.slice Ao30 x7_2.length co30 : Value).ownBlock ∧ some k_ ≠ (.slice (some ad326) x8_2.length co26 : Value).ownBlock) (.slice (some ⟨go23, 0, none⟩) y330.length co23) y333 := (by rw [hw, Ny333.out]; exact HP31.1); clear HP31; replace HO_7 := Aside0.mk (Kd.R_after (v := (.slice (some ⟨go23, 0, none⟩) y330.length co23)) (v1 := (.slice (some ⟨go23, 0, none⟩) y330.length co23)) (ok := (fun k_ => some k_ ≠ (.slice (some ad326) x8_2.length co26 : Value).ownBlock)) (zR HO_7) hg (.inl rfl)); replace HO_8 := Aside0.mk (Kd.R_after (v := (.slice (some ⟨go23, 0, none⟩) y330.length co23)) (v1 := (.slice (some ⟨go23, 0, none⟩) y330.length co23)) (ok := (fun k_ => some k_ ≠ (.slice Ao30 x7_2.length co30 : Value).ownBlock)) (zR HO_8) hg (.inl rfl)); replace BK315 := Aside0.mk (blk_grown (zK BK315) hg (Kd.R_ne HO332.out BK315.out (by decide))); replace HO332 := Aside0.mk (hp_); replace HB := Aside0.mk ((by rw [hw]; exact below_set (HB.out) GB23.out : Below w.heap.size w w32)); clear hg hw hp_; obtain ⟨hcz33_0, hcz33_1, hfz33_0, hfz33_1⟩ := zD2 BK315) | ((with_reducible refine gate_callee (f := 50) rfl ?_); refine goesL_ (some 50) rfl rfl Try.func50 (by kernel_rfl) rfl #[.agg #[.int .i64 a0_0, .slice A0_1 l0_1.length c0_1], .int .i64 a1, .slice (some ⟨go23, 0, none⟩) y333.length co23] rfl (by (try simp only [List.map_toArray, List.map_cons, List.map_nil]); first | done | (rw [show y333.length = y330.length from (Kd.R_reads' HO332.out).1.symm] <;> rfl) | rfl | (simp only [List.length_drop, List.length_take]; rfl)) ?_; (with_reducible refine (sandpileref23_Is.calls k2 a0_0 _ _ l0_1 a1 _ _ y333 true _ ?side1 ?side2 ?side3 ?side4 A24.out).mono ?_); (case side1 => exact Kd.C_below HR0_1.out zB); (case side2 => exact HC0_1.out); (case side3 => exact zC (Kd.R_reads' HO332.out).2.2); (case side4 => rw [show y333.length = y330.length from (Kd.R_reads' HO332.out).1.symm]; exact (Kd.R_reads' HO332.out).2.1); rintro e w34 ⟨rfl, hb⟩; refine ⟨_, rfl, ?_⟩; replace HO_7 := zbR HO_7 hb; replace HO_8 := zbR HO_8 hb; replace HO332 := zbR HO332 hb; replace BK315 := zb BK315 hb; replace HB := zS HB hb; (try clear hb)))
                go_roundg k2
                case measure => have := HK1.out; have := HK2.out; omega
                case rel => exact ⟨(y333), (x8_2), (wrap64 (x10_2 + 1)), zT, H', ⟨by have := HK1.out; have := HK2.out; omega⟩, ⟨by (with_reducible repeat (first | apply Kd.R_alloc | apply Kd.R_drewN | apply Kd.R_drew)); exact Kd.R_mono HO332.out (fun _ hk => hk.2)⟩, ⟨by (with_reducible repeat (first | apply Kd.R_alloc | apply Kd.R_drewN | apply Kd.R_drew)); exact Kd.R_mono HO_8.out (fun _ hk => hk.2)⟩, ⟨zK BK315⟩, ⟨zB⟩⟩
               ·replace c25 := Bool.eq_false_iff.mpr c25
                subst c25
                have H1 : (sandpileref28_Raised.l1 k2 a1 l2 x7_2 x8_2 x9_1 (wrap64 (x10_2 + 1)) a0_0 l0_1) = some r := by rw [if_neg (show ¬ (false = true) by decide)] at H; exact H
                clear H
                have H := H1
                clear H1
                have H' := Aside0.mk H
                clear H
                obtain ⟨Ao35, co35, eo35⟩ := Kd.R_slice HO_8.out
                subst eo35
                have p326 : 0 ≤ (x9_1 : Int) := of_decide_eq_true ‹_›
                have q326 : x9_1 < (x8_2.length : Int) := of_decide_eq_true ‹_›
                obtain ⟨ad326, e326, hx326_0⟩ := Kd.at_int (Kd.R_reads' HO_8.out).2.2 x9_1 p326 q326
                cases e326
                replace p326 := eq_true p326
                replace q326 := eq_true q326
                go_wp2_with (first | ((with_reducible refine gate_dst (N := 40) rfl ?_); refine Kd.R_lit (Kd.int .i64) _ 3 ?hg (N := 40) ?hd (xs := ([] : List Int)) (inner := []) (ok := fun _ => True) (okp := fun _ => True) ?hr ?hp (fun _ hk => hk) trivial (Below.refl _ _) (Nat.le_refl _) (by simp) ?_; (case hd => rfl); (case hg => rfl); (case hr => first | (go_simp; done) | (go_simp; rfl)); (case hp => exact (Reps.none _ _)); intro v328 w36 ho37 hb hg_ hnew_; clear hg_ hnew_; (first | rw [← Ny327.out] at ho37 | (simp only [Int.reduceToNat] at ho37; rw [← Ny327.out] at ho37)); have HO329 := Aside0.mk (Kd.R_lower (Kd.R_new' (Kd.R_new' ho37 (Kd.R_lt (zR HO_7))) (Kd.R_lt (zR HO_8))) (below_size zB)); replace HO_7 := zeRR HO_7 ho37 hb; replace HO_8 := zeRR HO_8 ho37 hb; replace BK315 := zb BK315 hb; replace HB := zS HB hb; clear hb ho37; obtain ⟨Ao39, co39, eo39⟩ := Kd.R_slice HO_7.out; subst eo39) | ((with_reducible refine gate_builtin (b := .append) (xs := #[.tmp 40, .tmp 41]) rfl ?_); at_builtin; refine Kd.R_append_rows (Kd.int .i64) (w0 := w) w.heap.size rfl (.tmp 40) (.tmp 41) 42 3 (.int .i64 0) 8 rfl Try.underlying42 info3 rfl (by decide) (by omega) v328 y327 x7_2 _ _ _ (fun k_ => some k_ ≠ (.slice Ao39 x7_2.length co39 : Value).ownBlock ∧ some k_ ≠ (.slice (some ad326) x8_2.length co35 : Value).ownBlock) (fun _ => False) rfl rfl ?aO ?aR (fun _ _ h => h) (fun _ h => h.elim) ?aF ?aB ?aS ?aL ?_; (case aR => exact zC (Kd.R_reads' HO_7.out).2.2); (case aB => exact zB); (case aF => exact (fun k_ hk => ⟨Kd.fresh' (Kd.R_lt (zR HO_7)) k_ hk, Kd.fresh' (Kd.R_lt (zR HO_8)) k_ hk⟩)); (case aO => exact (by (with_reducible repeat (first | apply Kd.R_alloc | apply Kd.R_drewN | apply Kd.R_drew)); exact Kd.R_mono HO329.out (fun _ hk => ⟨hk.1.2, hk.2⟩))); (case aS => exact (below_size zB)); (case aL => have := LMc21.out; omega); intro v331 w38 ho hb hg hat; rw [← Ny330.out] at ho; replace HO_7 := Aside0.mk (Kd.R_after (ok := (fun k_ => some k_ ≠ (.slice (some ad326) x8_2.length co35 : Value).ownBlock)) (zR HO_7) hg hat); replace HO_8 := Aside0.mk (Kd.R_after (ok := (fun k_ => some k_ ≠ (.slice Ao39 x7_2.length co39 : Value).ownBlock)) (zR HO_8) hg hat); replace BK315 := Aside0.mk (blk_grown (zK BK315) hg (Kd.R_ne HO329.out BK315.out (by decide))); replace HB := Aside0.mk (hb); have HO332 := Aside0.mk (ho); clear HO329; clear ho hb hg hat; have p23 : 0 ≤ (x9_1 : Int) := of_decide_eq_true ‹_›; have q23 : (x9_1 : Int) < ((y330.length : Int) : Int) := of_decide_eq_true ‹_›; obtain ⟨go23, co23, eo23, gb23, gl23, cl23, HG23⟩ := Kd.R_form HO332.out (by omega); (first | cases eo23 | (injection eo23 with ea_ en_ ec_; (first | subst ea_ | (injection ea_ with ea_; subst ea_)); subst ec_; clear en_)); have GB23 := Aside0.mk gb23; have GG23 := Aside0.mk HG23; clear gb23 gl23 HG23; obtain ⟨hx23_0, hf23_0⟩ := Kd.R_celln 0 HO332.out (x9_1 : Int) p23 q23; replace p23 := eq_true p23; replace q23 := eq_true q23; obtain ⟨hy40_, hz40_⟩ := Kd.R_celln 0 HO332.out (x9_1 : Int) (of_decide_eq_true ‹_›) (of_decide_eq_true ‹_›); have HP40 := Kd.R_putg HO332.out (x9_1 : Int) x10_2) | ((with_reducible refine gate_store (t := 3) (p := 46) rfl ?_); refine store_event (t := 3) (p := 46) (v := ?vo_w41) (w1 := (w38.setCell ⟨go23, (x9_1 : Int).toNat, none⟩ (.int .i64 x10_2))) ?hg ?ho ?hn ?hr ?_; (case ho => rfl); (case hg => rfl); (case hn => rfl); (case hr => first | (go_simp; done) | (go_simp; rfl)); intro w41 hw; have hg : w38.grownBy w41 (some go23) := (by rw [hw]; exact HP40.2); have hp_ : Kd.R (Kd.int .i64) 3 w41 w.heap.size (fun k_ => some k_ ≠ (.slice Ao39 x7_2.length co39 : Value).ownBlock ∧ some k_ ≠ (.slice (some ad326) x8_2.length co35 : Value).ownBlock) (.slice (some ⟨go23, 0, none⟩) y330.length co23) y333 := (by rw [hw, Ny333.out]; exact HP40.1); clear HP40; replace HO_7 := Aside0.mk (Kd.R_after (v := (.slice (some ⟨go23, 0, none⟩) y330.length co23)) (v1 := (.slice (some ⟨go23, 0, none⟩) y330.length co23)) (ok := (fun k_ => some k_ ≠ (.slice (some ad326) x8_2.length co35 : Value).ownBlock)) (zR HO_7) hg (.inl rfl)); replace HO_8 := Aside0.mk (Kd.R_after (v := (.slice (some ⟨go23, 0, none⟩) y330.length co23)) (v1 := (.slice (some ⟨go23, 0, none⟩) y330.length co23)) (ok := (fun k_ => some k_ ≠ (.slice Ao39 x7_2.length co39 : Value).ownBlock)) (zR HO_8) hg (.inl rfl)); replace BK315 := Aside0.mk (blk_grown (zK BK315) hg (Kd.R_ne HO332.out BK315.out (by decide))); replace HO332 := Aside0.mk (hp_); replace HB := Aside0.mk ((by rw [hw]; exact below_set (HB.out) GB23.out : Below w.heap.size w w41)); clear hg hw hp_; obtain ⟨hcz42_0, hcz42_1, hfz42_0, hfz42_1⟩ := zD2 BK315) | ((with_reducible refine gate_callee (f := 50) rfl ?_); refine goesL_ (some 50) rfl rfl Try.func50 (by kernel_rfl) rfl #[.agg #[.int .i64 a0_0, .slice A0_1 l0_1.length c0_1], .int .i64 a1, .slice (some ⟨go23, 0, none⟩) y333.length co23] rfl (by (try simp only [List.map_toArray, List.map_cons, List.map_nil]); first | done | (rw [show y333.length = y330.length from (Kd.R_reads' HO332.out).1.symm] <;> rfl) | rfl | (simp only [List.length_drop, List.length_take]; rfl)) ?_; (with_reducible refine (sandpileref23_Is.calls k2 a0_0 _ _ l0_1 a1 _ _ y333 false _ ?side1 ?side2 ?side3 ?side4 A24.out).mono ?_); (case side1 => exact Kd.C_below HR0_1.out zB); (case side2 => exact HC0_1.out); (case side3 => exact zC (Kd.R_reads' HO332.out).2.2); (case side4 => rw [show y333.length = y330.length from (Kd.R_reads' HO332.out).1.symm]; exact (Kd.R_reads' HO332.out).2.1); rintro e w43 ⟨rfl, hb⟩; refine ⟨_, rfl, ?_⟩; replace HO_7 := zbR HO_7 hb; replace HO_8 := zbR HO_8 hb; replace HO332 := zbR HO332 hb; replace BK315 := zb BK315 hb; replace HB := zS HB hb; (try clear hb)))
                go_roundg k2
                case measure => have := HK1.out; have := HK2.out; omega
                case rel => exact ⟨(x7_2), (x8_2), (wrap64 (x10_2 + 1)), zT, H', ⟨by have := HK1.out; have := HK2.out; omega⟩, ⟨by (with_reducible repeat (first | apply Kd.R_alloc | apply Kd.R_drewN | apply Kd.R_drew)); exact Kd.R_mono HO_7.out (fun _ hk => hk.1)⟩, ⟨by (with_reducible repeat (first | apply Kd.R_alloc | apply Kd.R_drewN | apply Kd.R_drew)); exact Kd.R_mono HO_8.out (fun _ hk => hk.1)⟩, ⟨zK BK315⟩, ⟨zB⟩⟩
              ·rw [if_neg c22] at H
               exact absurd H (by simp)
             ·rw [if_neg c21] at H
              exact absurd H (by simp)
            ·rw [if_neg c20] at H
             have c20b0 : decide (x10_2 ≤ (rd x8_2 x9_1)) = false := decide_eq_false c20
             clear c20
             have H' := Aside0.mk H
             clear H
             obtain ⟨Ao44, co44, eo44⟩ := Kd.R_slice HO_8.out
             subst eo44
             have p326 : 0 ≤ (x9_1 : Int) := of_decide_eq_true ‹_›
             have q326 : x9_1 < (x8_2.length : Int) := of_decide_eq_true ‹_›
             obtain ⟨ad326, e326, hx326_0⟩ := Kd.at_int (Kd.R_reads' HO_8.out).2.2 x9_1 p326 q326
             cases e326
             replace p326 := eq_true p326
             replace q326 := eq_true q326
             go_wp2
             go_roundg k2
             case measure => have := HK1.out; have := HK2.out; omega
             case rel => exact ⟨(x7_2), (x8_2), (wrap64 (x9_1 + 1)), zT, H', ⟨by have := HK1.out; have := HK2.out; omega⟩, ⟨zR HO_7⟩, ⟨zR HO_8⟩, ⟨zK BK315⟩, ⟨zB⟩⟩
           ·rw [if_neg c19] at H
            exact absurd H (by simp)
          ·rw [if_neg c18] at H
           exact absurd H (by simp)
       ·rw [if_neg c16] at H
        exact absurd H (by simp)
      ·rw [if_neg c15] at H
       exact absurd H (by simp)
    ·rw [if_neg c12] at H
     have c12b0 : decide (x9_1 < a0_0) = false := decide_eq_false c12
     clear c12
     obtain rfl := Option.some.inj H
     obtain ⟨hcz45_0, hcz45_1, hfz45_0, hfz45_1⟩ := zD2 BK315
     go_wp2
     go_ret
     exact ⟨_, zE, by (with_reducible repeat (first | apply Kd.R_alloc | apply Kd.R_drewN | apply Kd.R_drew)); exact Kd.R_mono HO_7.out (fun _ hk => trivial), zB⟩
 ·rw [if_neg c4] at H
  exact absurd H (by simp)
def sandpileref28_Raise.f (k : Nat) (a0_0 : Int) (l0_1 : List (S66)) (a1 : Int) (l2 : List Int) : Option (List Int × Int) := (sandpileref23_Check.f k a0_0 l0_1 a1 l2).bind fun t336 => (if t336 = 0 then ((sandpileref23_Is.f k a0_0 l0_1 a1 l2).bind fun t337 => (if t337 = true then ((sandpileref28_Raised.f k a0_0 l0_1 a1 l2).bind fun t338 => (some (t338, 0))) else (some (([] : List Int), 15)))) else (some (([] : List Int), t336)))
theorem sandpileref28_Raise.calls (k : Nat) (a0_0 : Int) (A0_1 : Option Addr) (c0_1 : Nat) (l0_1 : List (S66)) (a1 : Int) (A2 : Option Addr) (c2 : Nat) (l2 : List Int) (r1 : List Int) (r2 : Int) (w : World) (hr0_1 : Kd.C k66 w A0_1 l0_1.length l0_1) (hc0_1 : l0_1.length ≤ c0_1) (hr2 : Kd.C (Kd.int .i64) w A2 l2.length l2) (hc2 : l2.length ≤ c2) (h : sandpileref28_Raise.f k a0_0 l0_1 a1 l2 = some (r1, r2)) :
  Calls Try.prog 23 #[.agg #[.int .i64 a0_0, .slice A0_1 l0_1.length c0_1], .int .i64 a1, .slice A2 l2.length c2] w fun e w' => ∃ v0_ : Value, e = .returned (.tuple #[v0_, .int .i64 r2]) ∧ Kd.R (Kd.int .i64) 3 w' w.heap.size (fun _ => True) v0_ r1 ∧ Below w.heap.size w w' := by
 have hu24 := Try.underlying24
 have HR0_1 := Aside0.mk hr0_1
 have HC0_1 := Aside0.mk hc0_1
 clear hr0_1 hc0_1
 have HR2 := Aside0.mk hr2
 have HC2 := Aside0.mk hc2
 clear hr2 hc2
 have HB := Aside0.mk (Below.refl w.heap.size w)
 have H : ((sandpileref23_Check.f k a0_0 l0_1 a1 l2).bind fun t336 => (if t336 = 0 then ((sandpileref23_Is.f k a0_0 l0_1 a1 l2).bind fun t337 => (if t337 = true then ((sandpileref28_Raised.f k a0_0 l0_1 a1 l2).bind fun t338 => (some (t338, 0))) else (some (([] : List Int), 15)))) else (some (([] : List Int), t336)))) = some (r1, r2) := h
 clear h
 replace H := Option.bind_eq_some_iff.mp H
 obtain ⟨t336, A40, H⟩ := H
 replace H : (if t336 = 0 then ((sandpileref23_Is.f k a0_0 l0_1 a1 l2).bind fun t337 => (if t337 = true then ((sandpileref28_Raised.f k a0_0 l0_1 a1 l2).bind fun t338 => (some (t338, 0))) else (some (([] : List Int), 15)))) else (some (([] : List Int), t336))) = some (r1, r2) := H
 have A4 := Aside0.mk A40
 clear A40
 by_cases c5 : t336 = 0
 ·rw [if_pos c5] at H
  have c5b0 : (t336 == 0) = true := beq_iff_eq.mpr c5
  have c5b1 : (t336 != 0) = false := bne_eq_false_iff_eq.mpr c5
  clear c5
  replace H := Option.bind_eq_some_iff.mp H
  obtain ⟨t337, A60, H⟩ := H
  replace H : (if t337 = true then ((sandpileref28_Raised.f k a0_0 l0_1 a1 l2).bind fun t338 => (some (t338, 0))) else (some (([] : List Int), 15))) = some (r1, r2) := H
  have A6 := Aside0.mk A60
  clear A60
  by_cases c7 : t337 = true
  ·subst c7
   have H1 : ((sandpileref28_Raised.f k a0_0 l0_1 a1 l2).bind fun t338 => (some (t338, 0))) = some (r1, r2) := by rw [if_pos rfl] at H; exact H
   clear H
   have H := H1
   clear H1
   replace H := Option.bind_eq_some_iff.mp H
   obtain ⟨t338, A80, H⟩ := H
   replace H : (some (t338, 0)) = some (r1, r2) := H
   have A8 := Aside0.mk A80
   clear A80
   simp only [Option.some.injEq, Prod.mk.injEq] at H
   obtain ⟨rfl, rfl⟩ := H
   go_enter Try.func23, Try.ntmps23
   go_wp2_with (first | ((with_reducible refine gate_dst (N := 3) rfl ?_); refine zX 3 #[.int .i64 a0_0, .slice A0_1 l0_1.length c0_1] 24 ?_; intro gb335 hg w9 hbox hb; have BK335 := Aside0.mk (hbox); have GW335 := zG HB hg; have GE335 := zG HB hg; replace HB := zS HB hb; clear hb hbox hg; obtain ⟨hcz10_0, hcz10_1, hfz10_0, hfz10_1⟩ := zD2 BK335) | ((with_reducible refine gate_callee (f := 38) rfl ?_); refine zL (some 12) Try.func38 #[.agg #[.int .i64 a0_0, .slice A0_1 l0_1.length c0_1], .int .i64 a1, .slice A2 l2.length c2] ?_; (with_reducible refine (sandpileref23_Check.calls k a0_0 _ _ l0_1 a1 _ _ l2 t336 _ ?side1 ?side2 ?side3 ?side4 A4.out).mono ?_); (case side1 => exact Kd.C_below HR0_1.out zB); (case side2 => exact HC0_1.out); (case side3 => exact Kd.C_below HR2.out zB); (case side4 => exact HC2.out); rintro e w11 ⟨rfl, hb⟩; refine ⟨_, rfl, ?_⟩; replace BK335 := zb BK335 hb; replace HB := zS HB hb; (try clear hb); obtain ⟨hcz12_0, hcz12_1, hfz12_0, hfz12_1⟩ := zD2 BK335) | ((with_reducible refine gate_callee (f := 50) rfl ?_); refine zL (some 19) Try.func50 #[.agg #[.int .i64 a0_0, .slice A0_1 l0_1.length c0_1], .int .i64 a1, .slice A2 l2.length c2] ?_; (with_reducible refine (sandpileref23_Is.calls k a0_0 _ _ l0_1 a1 _ _ l2 true _ ?side1 ?side2 ?side3 ?side4 A6.out).mono ?_); (case side1 => exact Kd.C_below HR0_1.out zB); (case side2 => exact HC0_1.out); (case side3 => exact Kd.C_below HR2.out zB); (case side4 => exact HC2.out); rintro e w13 ⟨rfl, hb⟩; refine ⟨_, rfl, ?_⟩; replace BK335 := zb BK335 hb; replace HB := zS HB hb; (try clear hb); obtain ⟨hcz14_0, hcz14_1, hfz14_0, hfz14_1⟩ := zD2 BK335) | ((with_reducible refine gate_callee (f := 55) rfl ?_); refine zL (some 24) Try.func55 #[.agg #[.int .i64 a0_0, .slice A0_1 l0_1.length c0_1], .int .i64 a1, .slice A2 l2.length c2] ?_; (with_reducible refine (sandpileref28_Raised.calls k a0_0 _ _ l0_1 a1 _ _ l2 t338 _ ?side1 ?side2 ?side3 ?side4 A8.out).mono ?_); (case side1 => exact Kd.C_below HR0_1.out zB); (case side2 => exact HC0_1.out); (case side3 => exact Kd.C_below HR2.out zB); (case side4 => exact HC2.out); rintro e w15 ⟨v339, rfl, ho0, hb⟩; refine ⟨_, rfl, ?_⟩; have HO340 := Aside0.mk (Kd.R_lower ho0 (below_size zB)); replace BK335 := zb BK335 hb; replace HB := zS HB hb; (try clear hb); (try clear ho0)))
   go_ret2
   exact ⟨_, zE, by (with_reducible repeat (first | apply Kd.R_alloc | apply Kd.R_drewN | apply Kd.R_drew)); exact HO340.out, zB⟩
  ·replace c7 := Bool.eq_false_iff.mpr c7
   subst c7
   have H1 : (some (([] : List Int), 15)) = some (r1, r2) := by rw [if_neg (show ¬ (false = true) by decide)] at H; exact H
   clear H
   have H := H1
   clear H1
   simp only [Option.some.injEq, Prod.mk.injEq] at H
   obtain ⟨rfl, rfl⟩ := H
   go_enter Try.func23, Try.ntmps23
   go_wp2_with (first | ((with_reducible refine gate_dst (N := 3) rfl ?_); refine zX 3 #[.int .i64 a0_0, .slice A0_1 l0_1.length c0_1] 24 ?_; intro gb335 hg w16 hbox hb; have BK335 := Aside0.mk (hbox); have GW335 := zG HB hg; have GE335 := zG HB hg; replace HB := zS HB hb; clear hb hbox hg; obtain ⟨hcz17_0, hcz17_1, hfz17_0, hfz17_1⟩ := zD2 BK335) | ((with_reducible refine gate_callee (f := 38) rfl ?_); refine zL (some 12) Try.func38 #[.agg #[.int .i64 a0_0, .slice A0_1 l0_1.length c0_1], .int .i64 a1, .slice A2 l2.length c2] ?_; (with_reducible refine (sandpileref23_Check.calls k a0_0 _ _ l0_1 a1 _ _ l2 t336 _ ?side1 ?side2 ?side3 ?side4 A4.out).mono ?_); (case side1 => exact Kd.C_below HR0_1.out zB); (case side2 => exact HC0_1.out); (case side3 => exact Kd.C_below HR2.out zB); (case side4 => exact HC2.out); rintro e w18 ⟨rfl, hb⟩; refine ⟨_, rfl, ?_⟩; replace BK335 := zb BK335 hb; replace HB := zS HB hb; (try clear hb); obtain ⟨hcz19_0, hcz19_1, hfz19_0, hfz19_1⟩ := zD2 BK335) | ((with_reducible refine gate_callee (f := 50) rfl ?_); refine zL (some 19) Try.func50 #[.agg #[.int .i64 a0_0, .slice A0_1 l0_1.length c0_1], .int .i64 a1, .slice A2 l2.length c2] ?_; (with_reducible refine (sandpileref23_Is.calls k a0_0 _ _ l0_1 a1 _ _ l2 false _ ?side1 ?side2 ?side3 ?side4 A6.out).mono ?_); (case side1 => exact Kd.C_below HR0_1.out zB); (case side2 => exact HC0_1.out); (case side3 => exact Kd.C_below HR2.out zB); (case side4 => exact HC2.out); rintro e w20 ⟨rfl, hb⟩; refine ⟨_, rfl, ?_⟩; replace BK335 := zb BK335 hb; replace HB := zS HB hb; (try clear hb)))
   go_ret2
   exact ⟨_, zE, by first | exact Kd.R_nil _ _ _ _ _ | exact Kd.N_nil _ _ _ _ _ | exact Kd.V_nil _ _ _ _ _ | exact Kd.Q_nil _ _ _ _ _ | exact Kd.S_nil _ _ _ _ _, zB⟩
 ·rw [if_neg c5] at H
  have c5b0 : (t336 == 0) = false := beq_eq_false_iff_ne.mpr c5
  have c5b1 : (t336 != 0) = true := bne_iff_ne.mpr c5
  simp only [Option.some.injEq, Prod.mk.injEq] at H
  obtain ⟨rfl, rfl⟩ := H
  go_enter Try.func23, Try.ntmps23
  go_wp2_with (first | ((with_reducible refine gate_dst (N := 3) rfl ?_); refine zX 3 #[.int .i64 a0_0, .slice A0_1 l0_1.length c0_1] 24 ?_; intro gb335 hg w21 hbox hb; have BK335 := Aside0.mk (hbox); have GW335 := zG HB hg; have GE335 := zG HB hg; replace HB := zS HB hb; clear hb hbox hg; obtain ⟨hcz22_0, hcz22_1, hfz22_0, hfz22_1⟩ := zD2 BK335) | ((with_reducible refine gate_callee (f := 38) rfl ?_); refine zL (some 12) Try.func38 #[.agg #[.int .i64 a0_0, .slice A0_1 l0_1.length c0_1], .int .i64 a1, .slice A2 l2.length c2] ?_; (with_reducible refine (sandpileref23_Check.calls k a0_0 _ _ l0_1 a1 _ _ l2 t336 _ ?side1 ?side2 ?side3 ?side4 A4.out).mono ?_); (case side1 => exact Kd.C_below HR0_1.out zB); (case side2 => exact HC0_1.out); (case side3 => exact Kd.C_below HR2.out zB); (case side4 => exact HC2.out); rintro e w23 ⟨rfl, hb⟩; refine ⟨_, rfl, ?_⟩; replace BK335 := zb BK335 hb; replace HB := zS HB hb; (try clear hb)))
  go_ret2
  exact ⟨_, zE, by first | exact Kd.R_nil _ _ _ _ _ | exact Kd.N_nil _ _ _ _ _ | exact Kd.V_nil _ _ _ _ _ | exact Kd.Q_nil _ _ _ _ _ | exact Kd.S_nil _ _ _ _ _, zB⟩
def sandpileref28_Turned.l0 : Nat → Int → List Int → List Int → List Int → Int → Int → List (S66) → Option (List Int)
 | 0, _, _, _, _, _, _, _ => none
 | k + 1, x1, x2, x7, x8, x9, x364000, x364001 => if x9 < x364000 then (if x9 = x1 then (sandpileref28_Turned.l0 k x1 x2 x7 x8 (wrap64 (x9 + 1)) x364000 x364001) else (if 0 ≤ x9 then (if x9 < (x7.length : Int) then (if x9 < (x2.length : Int) then (if x9 < (x8.length : Int) then (sandpileref28_Turned.l0 k x1 x2 x7 (x8.set (x9 : Int).toNat (wrap64 ((rd x7 x9) - (rd x2 x9)))) (wrap64 (x9 + 1)) x364000 x364001) else (none)) else (none)) else (none)) else (none))) else (some x8)
def sandpileref28_Turned.f (k : Nat) (a0_0 : Int) (l0_1 : List (S66)) (a1 : Int) (l2 : List Int) : Option (List Int) := (sandpileref19_Top.f k a0_0 l0_1 a1).bind fun t364 => (if 0 ≤ a0_0 then (if (a0_0 : Int).toNat ≤ 35184372088832 then (sandpileref28_Turned.l0 k a1 l2 t364 (List.replicate (a0_0 : Int).toNat 0) 0 a0_0 l0_1) else (none)) else (none))
def sandpileref28_Turned.T7 : Bool × List (List Nat × List Nat) := (true, [([], []), ([], []), ([], []), ([], []), ([2, 3], [2, 3]), ([4], [4]), ([], []), ([], []), ([6, 7], [6, 7]), ([8], [8]), ([5, 9], [5, 9]), ([0, 1, 0, 1, 2, 3, 4, 5, 6, 7, 8, 9, 10], [0, 1]), ([11, 10, 0, 1, 2, 3, 4, 5, 6, 7, 8, 9, 10], [10, 11])])
def sandpileref28_Turned.B7 : List Nat := [0, 0, 0, 0, 12, 28, 0, 0, 192, 448, 1020, 2047, 4095]
theorem sandpileref28_Turned.tab7 : rtab .any (opsOf Try.f57 7) = sandpileref28_Turned.T7 := by kernel_rfl
theorem sandpileref28_Turned.bits7 : waitsOk sandpileref28_Turned.T7.2 sandpileref28_Turned.B7 = true := by kernel_rfl
theorem sandpileref28_Turned.calls (k : Nat) (a0_0 : Int) (A0_1 : Option Addr) (c0_1 : Nat) (l0_1 : List (S66)) (a1 : Int) (A2 : Option Addr) (c2 : Nat) (l2 : List Int) (r : List Int) (w : World) (hr0_1 : Kd.C k66 w A0_1 l0_1.length l0_1) (hc0_1 : l0_1.length ≤ c0_1) (hr2 : Kd.C (Kd.int .i64) w A2 l2.length l2) (hc2 : l2.length ≤ c2) (h : sandpileref28_Turned.f k a0_0 l0_1 a1 l2 = some r) :
  Calls Try.prog 57 #[.agg #[.int .i64 a0_0, .slice A0_1 l0_1.length c0_1], .int .i64 a1, .slice A2 l2.length c2] w fun e w' => ∃ v0_ : Value, e = .returned (v0_) ∧ Kd.R (Kd.int .i64) 3 w' w.heap.size (fun _ => True) v0_ r ∧ Below w.heap.size w w' := by
 have hu24 := Try.underlying24
 have HR0_1 := Aside0.mk hr0_1
 have HC0_1 := Aside0.mk hc0_1
 clear hr0_1 hc0_1
 have HR2 := Aside0.mk hr2
 have HC2 := Aside0.mk hc2
 clear hr2 hc2
 have HB := Aside0.mk (Below.refl w.heap.size w)
 have H : ((sandpileref19_Top.f k a0_0 l0_1 a1).bind fun t364 => (if 0 ≤ a0_0 then (if (a0_0 : Int).toNat ≤ 35184372088832 then (sandpileref28_Turned.l0 k a1 l2 t364 (List.replicate (a0_0 : Int).toNat 0) 0 a0_0 l0_1) else (none)) else (none))) = some r := h
 clear h
 replace H := Option.bind_eq_some_iff.mp H
 obtain ⟨t364, A40, H⟩ := H
 replace H : (if 0 ≤ a0_0 then (if (a0_0 : Int).toNat ≤ 35184372088832 then (sandpileref28_Turned.l0 k a1 l2 t364 (List.replicate (a0_0 : Int).toNat 0) 0 a0_0 l0_1) else (none)) else (none)) = some r := H
 have A4 := Aside0.mk A40
 clear A40
 by_cases c5 : 0 ≤ a0_0
 ·rw [if_pos c5] at H
  have c5b0 := eq_true c5
  have c5b1 : decide (0 ≤ a0_0) = true := decide_eq_true c5
  clear c5
  by_cases c6 : (a0_0 : Int).toNat ≤ 35184372088832
  ·rw [if_pos c6] at H
   have c6b0 := eq_true c6
   have c6b1 : decide ((a0_0 : Int).toNat ≤ 35184372088832) = true := decide_eq_true c6
   clear c6
   obtain ⟨y367, hy367⟩ : ∃ y_ : List Int, y_ = (List.replicate (a0_0 : Int).toNat 0) := ⟨_, rfl⟩
   replace H : (sandpileref28_Turned.l0 k a1 l2 t364 y367 0 a0_0 l0_1) = some r := by first | (rw [hy367]; with_reducible exact H) | (have H2_ := (Option.bind_some _ _).symm.trans H; rw [hy367]; with_reducible exact H2_) | (have H2_ := (Option.bind_some _ _).symm.trans H; with_reducible exact H2_) | with_reducible exact H | (rw [hy367]; exact H) | exact H
   have Ny367 := Aside0.mk hy367
   clear hy367
   have H' := Aside0.mk H
   clear H
   go_enter Try.func57, Try.ntmps57
   go_wp2_with (first | ((with_reducible refine gate_dst (N := 3) rfl ?_); refine zX 3 #[.int .i64 a0_0, .slice A0_1 l0_1.length c0_1] 24 ?_; intro gb363 hg w7 hbox hb; have BK363 := Aside0.mk (hbox); have GW363 := zG HB hg; have GE363 := zG HB hg; replace HB := zS HB hb; clear hb hbox hg; obtain ⟨hcz8_0, hcz8_1, hfz8_0, hfz8_1⟩ := zD2 BK363) | ((with_reducible refine gate_callee (f := 74) rfl ?_); refine zL (some 12) Try.func74 #[.agg #[.int .i64 a0_0, .slice A0_1 l0_1.length c0_1], .int .i64 a1] ?_; (with_reducible refine (sandpileref19_Top.calls k a0_0 _ _ l0_1 a1 t364 _ ?side1 ?side2 A4.out).mono ?_); (case side1 => exact Kd.C_below HR0_1.out zB); (case side2 => exact HC0_1.out); rintro e w9 ⟨v365, rfl, ho0, hb⟩; refine ⟨_, rfl, ?_⟩; have HO366 := Aside0.mk (Kd.R_lower ho0 (below_size zB)); replace BK363 := zb BK363 hb; replace HB := zS HB hb; (try clear hb); (try clear ho0); obtain ⟨hcz10_0, hcz10_1, hfz10_0, hfz10_1⟩ := zD2 BK363) | ((with_reducible refine gate_dst (N := 15) rfl ?_); refine Kd.R_make (Kd.int .i64) _ 3 rfl (N := 15) rfl 42 _ _ rfl a0_0 rfl rfl Try.underlying42 (.int .i64 0) 8 info3 rfl (by decide) (by omega) 0 (ok := fun _ => True) (okp := fun _ => True) rfl (fun _ hk => hk) trivial (of_decide_eq_true ‹_›) (Nat.le_trans (Nat.mul_le_mul_right _ (of_decide_eq_true ‹_› : a0_0.toNat ≤ 35184372088832)) (by omega)) (Below.refl _ _) (Nat.le_refl _) ?_; intro v368 w11 ho12 hb hg_ hnew_; clear hg_ hnew_; (first | rw [← Ny367.out] at ho12 | (simp only [Int.reduceToNat] at ho12; rw [← Ny367.out] at ho12)); have HO369 := Aside0.mk (Kd.R_lower (Kd.R_new' ho12 (Kd.R_lt (zR HO366))) (below_size zB)); replace HO366 := zeRR HO366 ho12 hb; replace BK363 := zb BK363 hb; replace HB := zS HB hb; clear hb ho12))
   go_loopg [9] k (fun kq v9 w' => ∃ (x8_1 : List Int) (x9_1 : Int), v9 = .int .i64 x9_1 ∧ Aside0 (sandpileref28_Turned.l0 kq a1 l2 t364 x8_1 x9_1 a0_0 l0_1 = some r) ∧ Aside0 (kq ≤ k) ∧ Aside0 (Kd.R (Kd.int .i64) 3 w' w.heap.size (fun k_ => some k_ ≠ (v368 : Value).ownBlock) v365 t364) ∧ Aside0 (Kd.R (Kd.int .i64) 3 w' w.heap.size (fun k_ => some k_ ≠ (v365 : Value).ownBlock) v368 x8_1) ∧ Aside0 (w'.heap[gb363]? = some (.cells #[.int .i64 a0_0, (.slice A0_1 l0_1.length c0_1)] 24 (0, 0))) ∧ Aside0 (Below w.heap.size w w'))
   case atStart => exact ⟨(y367), (0), zT, H', ⟨Nat.le_refl _⟩, ⟨by (with_reducible repeat (first | apply Kd.R_alloc | apply Kd.R_drewN | apply Kd.R_drew)); exact Kd.R_mono HO366.out (fun _ hk => hk.2)⟩, ⟨by (with_reducible repeat (first | apply Kd.R_alloc | apply Kd.R_drewN | apply Kd.R_drew)); exact Kd.R_mono HO369.out (fun _ hk => hk.2)⟩, ⟨zK BK363⟩, ⟨zB⟩⟩
   case round =>
    clear H'
    try clear c2
    try clear p2
    try clear c5
    try clear c5b0
    try clear c5b1
    try clear c6
    try clear c6b0
    try clear c6b1
    try clear c7
    try clear hcz10_0
    try clear hcz10_1
    try clear hcz8_0
    try clear hcz8_1
    try clear hfz10_0
    try clear hfz10_1
    try clear hfz8_0
    try clear hfz8_1
    obtain ⟨x8_1, x9_1, rfl, HA, HK1, HO_7, HO_8, BK363, HB⟩ := hrel
    cases gk with
    | zero => exact absurd HA.out (by simp [sandpileref28_Turned.l0])
    | succ k1 =>
     have H := HA.out
     clear HA
     simp only [sandpileref28_Turned.l0] at H
     by_cases c13 : x9_1 < a0_0
     ·rw [if_pos c13] at H
      have c13b0 : decide (x9_1 < a0_0) = true := decide_eq_true c13
      clear c13
      by_cases c14 : x9_1 = a1
      ·rw [if_pos c14] at H
       have c14b0 : (x9_1 == a1) = true := beq_iff_eq.mpr c14
       have c14b1 : (x9_1 != a1) = false := bne_eq_false_iff_eq.mpr c14
       clear c14
       have H' := Aside0.mk H
       clear H
       obtain ⟨hcz15_0, hcz15_1, hfz15_0, hfz15_1⟩ := zD2 BK363
       go_wp2
       go_roundg k1
       case measure => have := HK1.out; omega
       case rel => exact ⟨(x8_1), (wrap64 (x9_1 + 1)), zT, H', ⟨by have := HK1.out; omega⟩, ⟨zR HO_7⟩, ⟨zR HO_8⟩, ⟨zK BK363⟩, ⟨zB⟩⟩
      ·rw [if_neg c14] at H
       have c14b0 : (x9_1 == a1) = false := beq_eq_false_iff_ne.mpr c14
       have c14b1 : (x9_1 != a1) = true := bne_iff_ne.mpr c14
       by_cases c16 : 0 ≤ x9_1
       ·rw [if_pos c16] at H
        have c16b0 : decide (0 ≤ x9_1) = true := decide_eq_true c16
        clear c16
        by_cases c17 : x9_1 < (t364.length : Int)
        ·rw [if_pos c17] at H
         have c17b0 : decide (x9_1 < (t364.length : Int)) = true := decide_eq_true c17
         clear c17
         by_cases c18 : x9_1 < (l2.length : Int)
         ·rw [if_pos c18] at H
          have c18b0 : decide (x9_1 < (l2.length : Int)) = true := decide_eq_true c18
          clear c18
          by_cases c19 : x9_1 < (x8_1.length : Int)
          ·rw [if_pos c19] at H
           have c19b0 : decide (x9_1 < (x8_1.length : Int)) = true := decide_eq_true c19
           clear c19
           obtain ⟨y372, hy372⟩ : ∃ y_ : List Int, y_ = (x8_1.set (x9_1 : Int).toNat (wrap64 ((rd t364 x9_1) - (rd l2 x9_1)))) := ⟨_, rfl⟩
           replace H : (sandpileref28_Turned.l0 k1 a1 l2 t364 y372 (wrap64 (x9_1 + 1)) a0_0 l0_1) = some r := by first | (rw [hy372]; with_reducible exact H) | (have H2_ := (Option.bind_some _ _).symm.trans H; rw [hy372]; with_reducible exact H2_) | (have H2_ := (Option.bind_some _ _).symm.trans H; with_reducible exact H2_) | with_reducible exact H | (rw [hy372]; exact H) | exact H
           have Ny372 := Aside0.mk hy372
           clear hy372
           have H' := Aside0.mk H
           clear H
           obtain ⟨hcz21_0, hcz21_1, hfz21_0, hfz21_1⟩ := zD2 BK363
           try go_wp2
           have n0_ := Aside0.mk (Kd.R_drew HO_7.out)
           have n1_ := Aside0.mk (Kd.R_drew HO_8.out)
           have n2_ := Aside0.mk (blk_drew BK363.out)
           have n3_ := Aside0.mk (below_drew1 HB.out)
           clear HO_7
           clear HO_8
           clear BK363
           clear HB
           have HO_7 := n0_
           have HO_8 := n1_
           have BK363 := n2_
           have HB := n3_
           clear n0_ n1_ n2_ n3_
           obtain ⟨Ao23, co23, eo23⟩ := Kd.R_slice HO_7.out
           (first | subst eo23 | (injection eo23 with f1_ f2_ f3_; have f4_ := f1_.symm; have f5_ := f3_.symm; clear f1_ f2_ f3_; subst f4_; subst f5_))
           have p370 : 0 ≤ (x9_1 : Int) := of_decide_eq_true ‹_›
           have q370 : x9_1 < (t364.length : Int) := of_decide_eq_true ‹_›
           obtain ⟨ad370, e370, hx370_0⟩ := Kd.at_int (Kd.R_reads' HO_7.out).2.2 x9_1 p370 q370
           cases e370
           replace p370 := eq_true p370
           replace q370 := eq_true q370
           have p371 : 0 ≤ (x9_1 : Int) := of_decide_eq_true ‹_›
           have q371 : x9_1 < (l2.length : Int) := of_decide_eq_true ‹_›
           obtain ⟨ad371, e371, hx371_0⟩ := Kd.at_int HR2.out x9_1 p371 q371
           have hw371_0 := hx371_0
           cases e371
           replace hx371_0 := (HB.out.cell (World.block_lt_of_cell? w _ hx371_0)).trans hx371_0
           replace p371 := eq_true p371
           replace q371 := eq_true q371
           have p20 : 0 ≤ (x9_1 : Int) := of_decide_eq_true ‹_›
           have q20 : (x9_1 : Int) < ((x8_1.length : Int) : Int) := of_decide_eq_true ‹_›
           obtain ⟨go20, co20, eo20, gb20, gl20, cl20, HG20⟩ := Kd.R_form HO_8.out (by omega)
           (first | cases eo20 | (injection eo20 with ea_ en_ ec_; (first | subst ea_ | (injection ea_ with ea_; subst ea_)); subst ec_; clear en_))
           have GB20 := Aside0.mk gb20
           have GG20 := Aside0.mk HG20
           clear gb20 gl20 HG20
           obtain ⟨hx20_0, hf20_0⟩ := Kd.R_celln 0 HO_8.out (x9_1 : Int) p20 q20
           replace p20 := eq_true p20
           replace q20 := eq_true q20
           have HP24 := Kd.R_putn HO_8.out (x9_1 : Int) (wrap64 ((rd t364 x9_1) - (rd l2 x9_1)))
           rw [← Ny372.out] at HP24
           have HQ24 := Aside0.mk HP24
           clear HP24
           refine start_ (n := 13) (S := fun w' => w'.cell? (ad370.add (x9_1).toNat) = some (.int .i64 (rd t364 x9_1)) ∧ w'.cell? (ad371.add (x9_1).toNat) = some (.int .i64 (rd l2 x9_1))) (ds := [12]) #[false, false, false, false, false, false, false, false, false, false, false, false, false] (by kernel_rfl) rfl rfl ⟨hx370_0, ((HB.out.cell (World.block_lt_of_cell? w _ hw371_0)).trans hw371_0)⟩ (fun hHeld => ?_); refine with_tabW sandpileref28_Turned.tab7 sandpileref28_Turned.bits7 (fun HT_ HW_ => ?_)
           generalize wr.drew = w22 at HO_7 HO_8 BK363 HB GG20 HQ24 hf20_0 hx20_0 hx370_0 hx371_0 hHeld ⊢
           refine pure_ (i := 0) (N := some 25) (v := ?_) (a' := ?_) #[true, false, false, false, false, false, false, false, false, false, false, false, false] rfl rfl (any_of HT_.out (by kernel_rfl)) (fun _ _ _ h => h) (Or.inl ⟨by rfl, ?_⟩) ?_ ?_
           rotate_left
           ·intro w'
            go_simp
            with_reducible rfl
           rotate_left
           ·simp only [Act.put, List.setIfInBounds_toArray, List.set_cons_zero, List.set_cons_succ, i64_w, i32_w]
            rfl
           refine pure_ (i := 1) (N := some 26) (v := ?_) (a' := ?_) #[true, true, false, false, false, false, false, false, false, false, false, false, false] rfl rfl (any_of HT_.out (by kernel_rfl)) (fun _ _ _ h => h) (Or.inl ⟨by rfl, ?_⟩) ?_ ?_
           rotate_left
           ·intro w'
            go_simp
            with_reducible rfl
           rotate_left
           ·simp only [Act.put, List.setIfInBounds_toArray, List.set_cons_zero, List.set_cons_succ, i64_w, i32_w]
            rfl
           refine pure_ (i := 2) (N := some 27) (v := ?_) (a' := ?_) #[true, true, true, false, false, false, false, false, false, false, false, false, false] rfl rfl (any_of HT_.out (by kernel_rfl)) (fun _ _ _ h => h) (Or.inl ⟨by rfl, ?_⟩) ?_ ?_
           rotate_left
           ·intro w'
            go_simp
            with_reducible rfl
           rotate_left
           ·simp only [Act.put, List.setIfInBounds_toArray, List.set_cons_zero, List.set_cons_succ, i64_w, i32_w]
            rfl
           refine pure_ (i := 3) (N := some 28) (v := ?_) (a' := ?_) #[true, true, true, true, false, false, false, false, false, false, false, false, false] rfl rfl (any_of HT_.out (by kernel_rfl)) (fun _ _ _ h => h) (Or.inl ⟨by rfl, ?_⟩) ?_ ?_
           rotate_left
           ·intro w'
            go_simp
            with_reducible rfl
           rotate_left
           ·simp only [Act.put, List.setIfInBounds_toArray, List.set_cons_zero, List.set_cons_succ, i64_w, i32_w]
            rfl
           refine pure_ (i := 4) (N := some 29) (v := ?_) (a' := ?_) #[true, true, true, true, true, false, false, false, false, false, false, false, false] rfl rfl (any_of HT_.out (by kernel_rfl)) (fun _ _ _ h => h) (Or.inl ⟨by rfl, ?_⟩) ?_ ?_
           rotate_left
           ·intro w'
            go_simp
            with_reducible rfl
           rotate_left
           ·simp only [Act.put, List.setIfInBounds_toArray, List.set_cons_zero, List.set_cons_succ, i64_w, i32_w]
            rfl
           refine pure_ (i := 6) (N := some 31) (v := ?_) (a' := ?_) #[true, true, true, true, true, false, true, false, false, false, false, false, false] rfl rfl (any_of HT_.out (by kernel_rfl)) (fun _ _ _ h => h) (Or.inl ⟨by rfl, ?_⟩) ?_ ?_
           rotate_left
           ·intro w'
            go_simp
            with_reducible rfl
           rotate_left
           ·simp only [Act.put, List.setIfInBounds_toArray, List.set_cons_zero, List.set_cons_succ, i64_w, i32_w]
            rfl
           refine pure_ (i := 7) (N := some 32) (v := ?_) (a' := ?_) #[true, true, true, true, true, false, true, true, false, false, false, false, false] rfl rfl (any_of HT_.out (by kernel_rfl)) (fun _ _ _ h => h) (Or.inl ⟨by rfl, ?_⟩) ?_ ?_
           rotate_left
           ·intro w'
            go_simp
            with_reducible rfl
           rotate_left
           ·simp only [Act.put, List.setIfInBounds_toArray, List.set_cons_zero, List.set_cons_succ, i64_w, i32_w]
            rfl
           refine pure_ (i := 8) (N := some 33) (v := ?_) (a' := ?_) #[true, true, true, true, true, false, true, true, true, false, false, false, false] rfl rfl (any_of HT_.out (by kernel_rfl)) (fun _ _ _ h => h) (Or.inl ⟨by rfl, ?_⟩) ?_ ?_
           rotate_left
           ·intro w'
            go_simp
            with_reducible rfl
           rotate_left
           ·simp only [Act.put, List.setIfInBounds_toArray, List.set_cons_zero, List.set_cons_succ, i64_w, i32_w]
            rfl
           refine take_ (i := 5) (N := some 30) (v := ?_) (a' := ?_) #[true, true, true, true, true, true, true, true, true, false, false, false, false] rfl rfl (take_ofW HT_.out HW_.out (by kernel_rfl)) (fun _ _ _ h => h) (Or.inl ⟨by rfl, ?_⟩) hHeld ?_ ?_
           rotate_left
           ·rintro w' ⟨s0, s1⟩
            go_simp
            with_reducible rfl
           rotate_left
           ·simp only [Act.put, List.setIfInBounds_toArray, List.set_cons_zero, List.set_cons_succ, i64_w, i32_w]
            rfl
           refine take_ (i := 9) (N := some 34) (v := ?_) (a' := ?_) #[true, true, true, true, true, true, true, true, true, true, false, false, false] rfl rfl (take_ofW HT_.out HW_.out (by kernel_rfl)) (fun _ _ _ h => h) (Or.inl ⟨by rfl, ?_⟩) hHeld ?_ ?_
           rotate_left
           ·rintro w' ⟨s0, s1⟩
            go_simp
            with_reducible rfl
           rotate_left
           ·simp only [Act.put, List.setIfInBounds_toArray, List.set_cons_zero, List.set_cons_succ, i64_w, i32_w]
            rfl
           refine pure_ (i := 10) (N := some 35) (v := ?_) (a' := ?_) #[true, true, true, true, true, true, true, true, true, true, true, false, false] rfl rfl (any_of HT_.out (by kernel_rfl)) (fun _ _ _ h => h) (Or.inl ⟨by rfl, ?_⟩) ?_ ?_
           rotate_left
           ·intro w'
            go_simp
            with_reducible rfl
           rotate_left
           ·simp only [Act.put, List.setIfInBounds_toArray, List.set_cons_zero, List.set_cons_succ, i64_w, i32_w]
            rfl
           refine pure_ (i := 11) (N := some 36) (v := ?_) (a' := ?_) #[true, true, true, true, true, true, true, true, true, true, true, true, false] rfl rfl (any_of HT_.out (by kernel_rfl)) (fun _ _ _ h => h) (Or.inl ⟨by rfl, ?_⟩) ?_ ?_
           rotate_left
           ·intro w'
            go_simp
            with_reducible rfl
           rotate_left
           ·simp only [Act.put, List.setIfInBounds_toArray, List.set_cons_zero, List.set_cons_succ, i64_w, i32_w]
            rfl
           refine last_ (i := 12) (N := none) #[true, true, true, true, true, true, true, true, true, true, true, true, true] rfl rfl (one_of HT_.out (by kernel_rfl)) (by decide) (fun K hK => ?_)
           refine skip_ (w1 := ?_) (by rfl) rfl ?_ ?_
           rotate_left
           ·go_simp
            rfl
           refine hK.out _ _ ?_
           clear hK K
           refine done_ (done_of HT_.out (by kernel_rfl)) ?_
           try go_wp2
           go_roundg k1
           case measure => have := HK1.out; omega
           case rel => exact ⟨(y372), (wrap64 (x9_1 + 1)), zT, H', ⟨by have := HK1.out; omega⟩, ⟨by (with_reducible repeat (first | apply Kd.R_alloc | apply Kd.R_drewN | apply Kd.R_drew)); exact Kd.R_mono (Kd.R_far (p := ⟨go20, (x9_1 : Int).toNat, none⟩) (Kd.R_mono HO_7.out (fun k_ hk => (⟨hk, fun e_ => hk (by rw [e_]; rfl)⟩ : _ ∧ k_ ≠ go20))) (fun _ hk => hk.2) (.int .i64 (wrap64 ((rd t364 x9_1) - (rd l2 x9_1))))) (fun _ hk => hk.1)⟩, ⟨zR HQ24⟩, ⟨by refine zk ?_; refine blk_far ?_ (by have h_ := Kd.R_ne HO_8.out BK363.out (by decide); intro e_; exact h_ (by rw [e_]; rfl)) _; exact zK BK363⟩, ⟨by repeat (first | (with_reducible first | exact HB.out | apply below_alloc | apply pw_below_drewN | apply below_drew1 | refine below_set ?_ GB20.out | refine below_set ?_ GE363.out) | exact HB.out)⟩⟩
          ·rw [if_neg c19] at H
           exact absurd H (by simp)
         ·rw [if_neg c18] at H
          exact absurd H (by simp)
        ·rw [if_neg c17] at H
         exact absurd H (by simp)
       ·rw [if_neg c16] at H
        exact absurd H (by simp)
     ·rw [if_neg c13] at H
      have c13b0 : decide (x9_1 < a0_0) = false := decide_eq_false c13
      clear c13
      obtain rfl := Option.some.inj H
      obtain ⟨hcz25_0, hcz25_1, hfz25_0, hfz25_1⟩ := zD2 BK363
      go_wp2
      go_ret
      exact ⟨_, zE, by (with_reducible repeat (first | apply Kd.R_alloc | apply Kd.R_drewN | apply Kd.R_drew)); exact Kd.R_mono HO_8.out (fun _ hk => trivial), zB⟩
  ·rw [if_neg c6] at H
   exact absurd H (by simp)
 ·rw [if_neg c5] at H
  exact absurd H (by simp)
end Go.Proofs.Ytffdiakgjakngaa.P
