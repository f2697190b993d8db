/- A part of the proof that SuperstableTops answers true (text 8 of 15): own walks and plain laws; no conditions. -/
import Derived.Laws.EntriesVeiled
import Derived.Test.YtffdiakgjakngaaTops7
namespace Go.Proofs.Ytffdiakgjakngaa.P
open Go.RowKit Go.Proofs.YtffdiakgjakngaaW.PrintWords Go.Proofs.YtffdiakgjakngaaW.PrintLast Go.Proofs.YtffdiakgjakngaaW.PrintMore
set_option linter.unusedVariables false
set_option linter.unusedSimpArgs false
set_option maxHeartbeats 8000000
set_option maxRecDepth 100000
def sandpileref23_Blocking.f (k : Nat) (a0_0 : Int) (l0_1 : List (S66)) (a1 : Int) (l2 : List Int) (l3 : List Int) : Option (Bool) := if (l3.length : Int) > 0 then ((sandpileref08_Holds.f k l3 a1).bind fun t231 => (if t231 = true then (some false) else ((sandpileref18_MaySet.f k a0_0 l0_1 l2 l3).bind fun t232 => (some t232)))) else (some false)
theorem sandpileref23_Blocking.calls (k : Nat) (a0_0 : Int) (A0_1 : Option Addr) (c0_1 : Nat) (l0_1 : List (S66)) (a1 : Int) (A2 : Option Addr) (c2 : Nat) (l2 : List Int) (A3 : Option Addr) (c3 : Nat) (l3 : List Int) (r : Bool) (w : World) (hr0_1 : Kd.C k66 w A0_1 l0_1.length l0_1) (hc0_1 : l0_1.length ≤ c0_1) (hr2 : Kd.C (Kd.int .i64) w A2 l2.length l2) (hc2 : l2.length ≤ c2) (hr3 : Kd.C (Kd.int .i64) w A3 l3.length l3) (hc3 : l3.length ≤ c3) (h : sandpileref23_Blocking.f k a0_0 l0_1 a1 l2 l3 = some r) :
  Calls Try.prog 76 #[.agg #[.int .i64 a0_0, .slice A0_1 l0_1.length c0_1], .int .i64 a1, .slice A2 l2.length c2, .slice A3 l3.length c3] w fun e w' => e = .returned (.bool r) ∧ Below w.heap.size w w' := by
 have hu24 := Try.underlying24
 have HR0_1 := Aside0.mk hr0_1
 have HC0_1 := Aside0.mk hc0_1
 clear hr0_1 hc0_1
 have HR2 := Aside0.mk hr2
 have HC2 := Aside0.mk hc2
 clear hr2 hc2
 have HR3 := Aside0.mk hr3
 have HC3 := Aside0.mk hc3
 clear hr3 hc3
 have HB := Aside0.mk (Below.refl w.heap.size w)
 have H : (if (l3.length : Int) > 0 then ((sandpileref08_Holds.f k l3 a1).bind fun t231 => (if t231 = true then (some false) else ((sandpileref18_MaySet.f k a0_0 l0_1 l2 l3).bind fun t232 => (some t232)))) else (some false)) = some r := h
 clear h
 by_cases c5 : (l3.length : Int) > 0
 ·rw [if_pos c5] at H
  have c5b0 : decide (0 < (l3.length : Int)) = true := decide_eq_true c5
  have c5b1 : decide (0 < l3.length) = true := decide_eq_true (by omega)
  clear c5
  replace H := Option.bind_eq_some_iff.mp H
  obtain ⟨t231, A60, H⟩ := H
  replace H : (if t231 = true then (some false) else ((sandpileref18_MaySet.f k a0_0 l0_1 l2 l3).bind fun t232 => (some t232))) = some r := H
  have A6 := Aside0.mk A60
  clear A60
  by_cases c7 : t231 = true
  ·subst c7
   have H1 : (some false) = some r := by rw [if_pos rfl] at H; exact H
   clear H
   have H := H1
   clear H1
   obtain rfl := Option.some.inj H
   go_enter Try.func76, Try.ntmps76
   go_wp2_with (first | ((with_reducible refine gate_dst (N := 4) rfl ?_); refine zX 4 #[.int .i64 a0_0, .slice A0_1 l0_1.length c0_1] 24 ?_; intro gb230 hg w8 hbox hb; have BK230 := Aside0.mk (hbox); have GW230 := zG HB hg; have GE230 := zG HB hg; replace HB := zS HB hb; clear hb hbox hg) | (go_at_call 94; (with_reducible refine (sandpileref08_Holds.calls k _ _ l3 a1 true _ ?side1 ?side2 A6.out).mono ?_); (case side1 => exact Kd.C_below HR3.out zB); (case side2 => exact HC3.out); rintro e w' ⟨rfl, ⟨nd, rfl⟩⟩))
   go_ret
   exact ⟨zE, zB⟩
  ·replace c7 := Bool.eq_false_iff.mpr c7
   subst c7
   have H1 : ((sandpileref18_MaySet.f k a0_0 l0_1 l2 l3).bind fun t232 => (some t232)) = some r := by rw [if_neg (show ¬ (false = true) by decide)] at H; exact H
   clear H
   have H := H1
   clear H1
   replace H := Option.bind_eq_some_iff.mp H
   obtain ⟨t232, A90, H⟩ := H
   replace H : (some t232) = some r := H
   have A9 := Aside0.mk A90
   clear A90
   obtain rfl := Option.some.inj H
   go_enter Try.func76, Try.ntmps76
   go_wp2_with (first | ((with_reducible refine gate_dst (N := 4) rfl ?_); refine zX 4 #[.int .i64 a0_0, .slice A0_1 l0_1.length c0_1] 24 ?_; intro gb230 hg w10 hbox hb; have BK230 := Aside0.mk (hbox); have GW230 := zG HB hg; have GE230 := zG HB hg; replace HB := zS HB hb; clear hb hbox hg) | (go_at_call 94; (with_reducible refine (sandpileref08_Holds.calls k _ _ l3 a1 false _ ?side1 ?side2 A6.out).mono ?_); (case side1 => exact Kd.C_below HR3.out zB); (case side2 => exact HC3.out); rintro e w' ⟨rfl, ⟨nd, rfl⟩⟩; obtain ⟨hcz11_0, hcz11_1, hfz11_0, hfz11_1⟩ := zD2 BK230) | (go_at_call 95; (with_reducible refine (sandpileref18_MaySet.calls k a0_0 _ _ l0_1 _ _ l2 _ _ l3 t232 _ ?side1 ?side2 ?side3 ?side4 ?side5 ?side6 A9.out).mono ?_); (case side1 => exact Kd.C_below HR0_1.out zB); (case side2 => exact HC0_1.out); (case side3 => exact Kd.C_below HR2.out zB); (case side4 => exact HC2.out); (case side5 => exact Kd.C_below HR3.out zB); (case side6 => exact HC3.out); rintro e w12 ⟨rfl, hb⟩; replace BK230 := zb BK230 hb; replace HB := zS HB hb; (try clear hb)))
   go_ret
   exact ⟨zE, zB⟩
 ·rw [if_neg c5] at H
  have c5b0 : decide (0 < (l3.length : Int)) = false := decide_eq_false c5
  have c5b1 : decide (0 < l3.length) = false := decide_eq_false (by omega)
  clear c5
  obtain rfl := Option.some.inj H
  go_enter Try.func76, Try.ntmps76
  go_wp2_with (first | ((with_reducible refine gate_dst (N := 4) rfl ?_); refine zX 4 #[.int .i64 a0_0, .slice A0_1 l0_1.length c0_1] 24 ?_; intro gb230 hg w13 hbox hb; have BK230 := Aside0.mk (hbox); have GW230 := zG HB hg; have GE230 := zG HB hg; replace HB := zS HB hb; clear hb hbox hg))
  go_ret
  exact ⟨zE, zB⟩
def sandpileref23_Is.l0 : Nat → Int → List Int → List (List Int) → Int → Int → List (S66) → Option (Bool)
 | 0, _, _, _, _, _, _ => none
 | k + 1, x1, x2, x7, x8, x234000, x234001 => if x8 < (x7.length : Int) then (if 0 ≤ x8 then ((sandpileref23_Blocking.f k x234000 x234001 x1 x2 (rd_L2 x7 x8)).bind fun t238 => (if t238 = true then (some false) else (sandpileref23_Is.l0 k x1 x2 x7 (wrap64 (x8 + 1)) x234000 x234001))) else (none)) else (some true)
def sandpileref23_Is.f (k : Nat) (a0_0 : Int) (l0_1 : List (S66)) (a1 : Int) (l2 : List Int) : Option (Bool) := (sandpileref23_Subsets.f k a0_0 l0_1).bind fun t234 => (sandpileref23_Is.l0 k a1 l2 t234 0 a0_0 l0_1)
def sandpileref23_Is.T5 : Bool × List (List Nat × List Nat) := (true, [([], []), ([], []), ([], []), ([], []), ([], []), ([3, 4], [3, 4]), ([5], [5]), ([0, 1, 2, 6], [0, 1, 2, 6])])
def sandpileref23_Is.B5 : List Nat := [0, 0, 0, 0, 0, 24, 56, 127]
theorem sandpileref23_Is.tab5 : rtab .any (opsOf Try.f50 5) = sandpileref23_Is.T5 := by kernel_rfl
theorem sandpileref23_Is.bits5 : waitsOk sandpileref23_Is.T5.2 sandpileref23_Is.B5 = true := by kernel_rfl
theorem sandpileref23_Is.calls (k : Nat) (a0_0 : Int) (A0_1 : Option Addr) (c0_1 : Nat) (l0_1 : List (S66)) (a1 : Int) (A2 : Option Addr) (c2 : Nat) (l2 : List Int) (r : Bool) (w : World) (hr0_1 : Kd.C k66 w A0_1 l0_1.length l0_1) (hc0_1 : l0_1.length ≤ c0_1) (hr2 : Kd.C (Kd.int .i64) w A2 l2.length l2) (hc2 : l2.length ≤ c2) (h : sandpileref23_Is.f k a0_0 l0_1 a1 l2 = some r) :
  Calls Try.prog 50 #[.agg #[.int .i64 a0_0, .slice A0_1 l0_1.length c0_1], .int .i64 a1, .slice A2 l2.length c2] w fun e w' => e = .returned (.bool r) ∧ Below w.heap.size w w' := by
 have hu24 := Try.underlying24
 have HR0_1 := Aside0.mk hr0_1
 have HC0_1 := Aside0.mk hc0_1
 clear hr0_1 hc0_1
 have HR2 := Aside0.mk hr2
 have HC2 := Aside0.mk hc2
 clear hr2 hc2
 have HB := Aside0.mk (Below.refl w.heap.size w)
 have H : ((sandpileref23_Subsets.f k a0_0 l0_1).bind fun t234 => (sandpileref23_Is.l0 k a1 l2 t234 0 a0_0 l0_1)) = some r := h
 clear h
 replace H := Option.bind_eq_some_iff.mp H
 obtain ⟨t234, A40, H⟩ := H
 replace H : (sandpileref23_Is.l0 k a1 l2 t234 0 a0_0 l0_1) = some r := H
 have A4 := Aside0.mk A40
 clear A40
 have H' := Aside0.mk H
 clear H
 go_enter Try.func50, Try.ntmps50
 go_wp2_with (first | ((with_reducible refine gate_dst (N := 3) rfl ?_); refine zX 3 #[.int .i64 a0_0, .slice A0_1 l0_1.length c0_1] 24 ?_; intro gb233 hg w5 hbox hb; have BK233 := Aside0.mk (hbox); have GW233 := zG HB hg; have GE233 := zG HB hg; replace HB := zS HB hb; clear hb hbox hg; obtain ⟨hcz6_0, hcz6_1, hfz6_0, hfz6_1⟩ := zD2 BK233) | ((with_reducible refine gate_callee (f := 75) rfl ?_); refine zL (some 10) Try.func75 #[.agg #[.int .i64 a0_0, .slice A0_1 l0_1.length c0_1]] ?_; (with_reducible refine (sandpileref23_Subsets.calls k a0_0 _ _ l0_1 t234 _ ?side1 ?side2 A4.out).mono ?_); (case side1 => exact Kd.C_below HR0_1.out zB); (case side2 => exact HC0_1.out); rintro e w7 ⟨v235, rfl, ho0, hb⟩; refine ⟨_, rfl, ?_⟩; have HO236 := Aside0.mk (Kd.S_lower ho0 (below_size zB)); replace BK233 := zb BK233 hb; replace HB := zS HB hb; (try clear hb); (try clear ho0)))
 go_loopg [8] k (fun kq v8 w' => ∃ (x8_1 : Int), v8 = .int .i64 x8_1 ∧ Aside0 (sandpileref23_Is.l0 kq a1 l2 t234 x8_1 a0_0 l0_1 = some r) ∧ Aside0 (kq ≤ k) ∧ Aside0 (Kd.S (Kd.slice 3 (Kd.int .i64)) 33 w' w.heap.size (fun _ => True) v235 t234) ∧ Aside0 (w'.heap[gb233]? = some (.cells #[.int .i64 a0_0, (.slice A0_1 l0_1.length c0_1)] 24 (0, 0))) ∧ Aside0 (Below w.heap.size w w'))
 case atStart => exact ⟨(0), zT, H', ⟨Nat.le_refl _⟩, ⟨zSS HO236⟩, ⟨zK BK233⟩, ⟨zB⟩⟩
 case round =>
  clear H'
  try clear c2
  try clear p2
  try clear c5
  try clear c7
  try clear hcz6_0
  try clear hcz6_1
  try clear hfz6_0
  try clear hfz6_1
  obtain ⟨x8_1, rfl, HA, HK1, HO_7, BK233, HB⟩ := hrel
  cases gk with
  | zero => exact absurd HA.out (by simp [sandpileref23_Is.l0])
  | succ k1 =>
   have H := HA.out
   clear HA
   simp only [sandpileref23_Is.l0] at H
   by_cases c8 : x8_1 < (t234.length : Int)
   ·rw [if_pos c8] at H
    have c8b0 : decide (x8_1 < (t234.length : Int)) = true := decide_eq_true c8
    clear c8
    by_cases c9 : 0 ≤ x8_1
    ·rw [if_pos c9] at H
     have c9b0 : decide (0 ≤ x8_1) = true := decide_eq_true c9
     clear c9
     replace H := Option.bind_eq_some_iff.mp H
     obtain ⟨t238, A100, H⟩ := H
     replace H : (if t238 = true then (some false) else (sandpileref23_Is.l0 k1 a1 l2 t234 (wrap64 (x8_1 + 1)) a0_0 l0_1)) = some r := H
     have A10 := Aside0.mk A100
     clear A100
     by_cases c11 : t238 = true
     ·subst c11
      have H1 : (some false) = some r := by rw [if_pos rfl] at H; exact H
      clear H
      have H := H1
      clear H1
      obtain rfl := Option.some.inj H
      obtain ⟨Ao12, co12, eo12⟩ := Kd.S_slice HO_7.out
      subst eo12
      try go_wp2
      have n0_ := Aside0.mk (Kd.S_drew HO_7.out)
      have n1_ := Aside0.mk (blk_drew BK233.out)
      have n2_ := Aside0.mk (below_drew1 HB.out)
      clear HO_7
      clear BK233
      clear HB
      have HO_7 := n0_
      have BK233 := n1_
      have HB := n2_
      clear n0_ n1_ n2_
      have p237 : 0 ≤ (x8_1 : Int) := of_decide_eq_true ‹_›
      have q237 : x8_1 < (t234.length : Int) := of_decide_eq_true ‹_›
      obtain ⟨ad237, A237_0, c237_0, e237, hx237_0, hl237_0, hi237_0⟩ := at_L2 (Kd.S_reads' HO_7.out).2.2 x8_1 p237 q237
      cases e237
      obtain ⟨ce237, hce237, hMe237, hcc237⟩ := Kd.S_get HO_7.out [] x8_1 p237 (by first | exact q237 | exact of_decide_eq_true ‹_› | (have e_ := (Kd.S_reads' HO_7.out).1; omega))
      obtain ⟨ve237_0, rfl, ge237_0⟩ := hMe237
      have hv237_0 := hcc237 0 _ rfl
      rw [Nat.add_zero, show ((Kd.slice 3 (Kd.int .i64))).sz = 1 from rfl, Nat.mul_one] at hv237_0
      replace hv237_0 := Option.some.inj (hv237_0.symm.trans hx237_0)
      rw [hv237_0] at ge237_0
      have HL237_0 := Aside0.mk (show Kd.R (Kd.int .i64) 3 _ _ _ _ (rd_L2 t234 x8_1) from ge237_0)
      clear hv237_0 ge237_0
      clear hcc237 hce237
      have HR237_0 := Aside0.mk hi237_0
      have HC237_0 := Aside0.mk hl237_0
      clear hi237_0 hl237_0
      replace p237 := eq_true p237
      replace q237 := eq_true q237
      refine start_ (n := 8) (S := fun w' => w'.cell? ⟨gb233, 0, none⟩ = some (.int .i64 a0_0) ∧ w'.cell? ⟨gb233, 1, none⟩ = some (.slice A0_1 l0_1.length c0_1) ∧ w'.cell? (ad237.add (x8_1).toNat) = some (.slice A237_0 (rd_L2 t234 x8_1).length c237_0)) (ds := []) #[false, false, false, false, false, false, false, false] (by kernel_rfl) rfl rfl ⟨(blk_cell BK233.out 0).trans rfl, (blk_cell BK233.out 1).trans rfl, hx237_0⟩ (fun hHeld => ?_); refine with_tabW sandpileref23_Is.tab5 sandpileref23_Is.bits5 (fun HT_ HW_ => ?_)
      generalize wr.drew = w13 at HO_7 BK233 HB HL237_0 HR237_0 hx237_0 hHeld ⊢
      refine pure_ (i := 1) (N := some 18) (v := ?_) (a' := ?_) #[false, true, false, false, false, false, false, false] rfl rfl (any_of HT_.out (by kernel_rfl)) (fun _ _ _ h => h) (Or.inl ⟨by rfl, ?_⟩) ?_ ?_
      rotate_left
      ·intro w'
       go_simp
       with_reducible rfl
      rotate_left
      ·simp only [Act.put, List.setIfInBounds_toArray, List.set_cons_zero, List.set_cons_succ, i64_w, i32_w]
       rfl
      refine pure_ (i := 2) (N := some 19) (v := ?_) (a' := ?_) #[false, true, true, false, false, false, false, false] rfl rfl (any_of HT_.out (by kernel_rfl)) (fun _ _ _ h => h) (Or.inl ⟨by rfl, ?_⟩) ?_ ?_
      rotate_left
      ·intro w'
       go_simp
       with_reducible rfl
      rotate_left
      ·simp only [Act.put, List.setIfInBounds_toArray, List.set_cons_zero, List.set_cons_succ, i64_w, i32_w]
       rfl
      refine pure_ (i := 3) (N := some 20) (v := ?_) (a' := ?_) #[false, true, true, true, false, false, false, false] rfl rfl (any_of HT_.out (by kernel_rfl)) (fun _ _ _ h => h) (Or.inl ⟨by rfl, ?_⟩) ?_ ?_
      rotate_left
      ·intro w'
       go_simp
       with_reducible rfl
      rotate_left
      ·simp only [Act.put, List.setIfInBounds_toArray, List.set_cons_zero, List.set_cons_succ, i64_w, i32_w]
       rfl
      refine pure_ (i := 4) (N := some 21) (v := ?_) (a' := ?_) #[false, true, true, true, true, false, false, false] rfl rfl (any_of HT_.out (by kernel_rfl)) (fun _ _ _ h => h) (Or.inl ⟨by rfl, ?_⟩) ?_ ?_
      rotate_left
      ·intro w'
       go_simp
       with_reducible rfl
      rotate_left
      ·simp only [Act.put, List.setIfInBounds_toArray, List.set_cons_zero, List.set_cons_succ, i64_w, i32_w]
       rfl
      refine pure_ (i := 5) (N := some 22) (v := ?_) (a' := ?_) #[false, true, true, true, true, true, false, false] rfl rfl (any_of HT_.out (by kernel_rfl)) (fun _ _ _ h => h) (Or.inl ⟨by rfl, ?_⟩) ?_ ?_
      rotate_left
      ·intro w'
       go_simp
       with_reducible rfl
      rotate_left
      ·simp only [Act.put, List.setIfInBounds_toArray, List.set_cons_zero, List.set_cons_succ, i64_w, i32_w]
       rfl
      refine take_ (i := 0) (N := some 17) (v := ?_) (a' := ?_) #[true, true, true, true, true, true, false, false] rfl rfl (take_ofW HT_.out HW_.out (by kernel_rfl)) (fun _ _ _ h => h) (Or.inl ⟨by rfl, ?_⟩) hHeld ?_ ?_
      rotate_left
      ·rintro w' ⟨s0, s1, s2⟩
       go_simp
       with_reducible rfl
      rotate_left
      ·simp only [Act.put, List.setIfInBounds_toArray, List.set_cons_zero, List.set_cons_succ, i64_w, i32_w]
       rfl
      refine take_ (i := 6) (N := some 23) (v := ?_) (a' := ?_) #[true, true, true, true, true, true, true, false] rfl rfl (take_ofW HT_.out HW_.out (by kernel_rfl)) (fun _ _ _ h => h) (Or.inl ⟨by rfl, ?_⟩) hHeld ?_ ?_
      rotate_left
      ·rintro w' ⟨s0, s1, s2⟩
       go_simp
       with_reducible rfl
      rotate_left
      ·simp only [Act.put, List.setIfInBounds_toArray, List.set_cons_zero, List.set_cons_succ, i64_w, i32_w]
       rfl
      refine one_ (i := 7) (N := some 24) #[true, true, true, true, true, true, true, true] rfl rfl (one_of HT_.out (by kernel_rfl)) (by decide) (fun K hK => ?_)
      refine goes_ Try.func76 (by kernel_rfl) rfl #[.agg #[.int .i64 a0_0, .slice A0_1 l0_1.length c0_1], .int .i64 a1, .slice A2 l2.length c2, .slice A237_0 (rd_L2 t234 x8_1).length c237_0] (by rfl) rfl rfl (by (try simp only [List.map_toArray, List.map_cons, List.map_nil]); first | done | rfl | (simp only [List.length_drop, List.length_take]; rfl)) ?_
      with_reducible refine (sandpileref23_Blocking.calls k1 a0_0 _ _ l0_1 a1 _ _ l2 _ _ (rd_L2 t234 x8_1) true _ ?side1 ?side2 ?side3 ?side4 ?side5 ?side6 A10.out).mono ?_
      (case side1 => exact Kd.C_below HR0_1.out zB)
      (case side2 => exact HC0_1.out)
      (case side3 => exact Kd.C_below HR2.out zB)
      (case side4 => exact HC2.out)
      (case side5 => repeat (first | exact (by repeat (first | (with_reducible exact HR237_0.out) | (with_reducible refine Kd.C_alloc ?_ _) | (with_reducible refine Kd.C_drewN ?_ _) | (with_reducible refine Kd.C_drew ?_) | exact HR237_0.out)) | (with_reducible refine Kd.C_alloc ?_ _) | (with_reducible refine Kd.C_drewN ?_ _) | (with_reducible refine Kd.C_drew ?_)))
      (case side6 => exact HC237_0.out)
      rintro e w14 ⟨rfl, hb⟩
      have HS2_ := (hb.cell (World.block_lt_of_cell? _ _ (hHeld.2.2))).trans (hHeld.2.2)
      refine ⟨_, rfl, ?_⟩
      have n0_ := Aside0.mk (Kd.S_below (zSS HO_7) hb)
      have n1_ := zbR HL237_0 hb
      have n2_ := zb BK233 hb
      have n3_ := Aside0.mk (Kd.C_below (by repeat (first | (with_reducible exact HR237_0.out) | (with_reducible refine Kd.C_alloc ?_ _) | (with_reducible refine Kd.C_drewN ?_ _) | (with_reducible refine Kd.C_drew ?_) | exact HR237_0.out)) hb)
      have n4_ := zS HB hb
      clear HO_7
      clear HL237_0
      clear BK233
      clear HR237_0
      clear HB
      have HO_7 := n0_
      have HL237_0 := n1_
      have BK233 := n2_
      have HR237_0 := n3_
      have HB := n4_
      clear n0_ n1_ n2_ n3_ n4_
      (try clear hb)
      skip
      skip
      skip
      refine hK.out _ _ ⟨(blk_cell BK233.out 0).trans rfl, (blk_cell BK233.out 1).trans rfl, HS2_⟩ (fun hHeld => ?_)
      clear hK K
      refine norm_ (a' := ?_) ?_ ?_
      rotate_left
      ·show Act.put _ (some 24) _ = _
       simp only [Act.put, List.setIfInBounds_toArray, List.set_cons_zero, List.set_cons_succ, i64_w, i32_w]
       rfl
      refine done_ (done_of HT_.out (by kernel_rfl)) ?_
      try go_wp2
      go_ret
      exact ⟨zE, zB⟩
     ·replace c11 := Bool.eq_false_iff.mpr c11
      subst c11
      have H1 : (sandpileref23_Is.l0 k1 a1 l2 t234 (wrap64 (x8_1 + 1)) a0_0 l0_1) = some r := by rw [if_neg (show ¬ (false = true) by decide)] at H; exact H
      clear H
      have H := H1
      clear H1
      have H' := Aside0.mk H
      clear H
      obtain ⟨Ao15, co15, eo15⟩ := Kd.S_slice HO_7.out
      subst eo15
      try go_wp2
      have n0_ := Aside0.mk (Kd.S_drew HO_7.out)
      have n1_ := Aside0.mk (blk_drew BK233.out)
      have n2_ := Aside0.mk (below_drew1 HB.out)
      clear HO_7
      clear BK233
      clear HB
      have HO_7 := n0_
      have BK233 := n1_
      have HB := n2_
      clear n0_ n1_ n2_
      have p237 : 0 ≤ (x8_1 : Int) := of_decide_eq_true ‹_›
      have q237 : x8_1 < (t234.length : Int) := of_decide_eq_true ‹_›
      obtain ⟨ad237, A237_0, c237_0, e237, hx237_0, hl237_0, hi237_0⟩ := at_L2 (Kd.S_reads' HO_7.out).2.2 x8_1 p237 q237
      cases e237
      obtain ⟨ce237, hce237, hMe237, hcc237⟩ := Kd.S_get HO_7.out [] x8_1 p237 (by first | exact q237 | exact of_decide_eq_true ‹_› | (have e_ := (Kd.S_reads' HO_7.out).1; omega))
      obtain ⟨ve237_0, rfl, ge237_0⟩ := hMe237
      have hv237_0 := hcc237 0 _ rfl
      rw [Nat.add_zero, show ((Kd.slice 3 (Kd.int .i64))).sz = 1 from rfl, Nat.mul_one] at hv237_0
      replace hv237_0 := Option.some.inj (hv237_0.symm.trans hx237_0)
      rw [hv237_0] at ge237_0
      have HL237_0 := Aside0.mk (show Kd.R (Kd.int .i64) 3 _ _ _ _ (rd_L2 t234 x8_1) from ge237_0)
      clear hv237_0 ge237_0
      clear hcc237 hce237
      have HR237_0 := Aside0.mk hi237_0
      have HC237_0 := Aside0.mk hl237_0
      clear hi237_0 hl237_0
      replace p237 := eq_true p237
      replace q237 := eq_true q237
      refine start_ (n := 8) (S := fun w' => w'.cell? ⟨gb233, 0, none⟩ = some (.int .i64 a0_0) ∧ w'.cell? ⟨gb233, 1, none⟩ = some (.slice A0_1 l0_1.length c0_1) ∧ w'.cell? (ad237.add (x8_1).toNat) = some (.slice A237_0 (rd_L2 t234 x8_1).length c237_0)) (ds := []) #[false, false, false, false, false, false, false, false] (by kernel_rfl) rfl rfl ⟨(blk_cell BK233.out 0).trans rfl, (blk_cell BK233.out 1).trans rfl, hx237_0⟩ (fun hHeld => ?_); refine with_tabW sandpileref23_Is.tab5 sandpileref23_Is.bits5 (fun HT_ HW_ => ?_)
      generalize wr.drew = w16 at HO_7 BK233 HB HL237_0 HR237_0 hx237_0 hHeld ⊢
      refine pure_ (i := 1) (N := some 18) (v := ?_) (a' := ?_) #[false, true, false, false, false, false, false, false] rfl rfl (any_of HT_.out (by kernel_rfl)) (fun _ _ _ h => h) (Or.inl ⟨by rfl, ?_⟩) ?_ ?_
      rotate_left
      ·intro w'
       go_simp
       with_reducible rfl
      rotate_left
      ·simp only [Act.put, List.setIfInBounds_toArray, List.set_cons_zero, List.set_cons_succ, i64_w, i32_w]
       rfl
      refine pure_ (i := 2) (N := some 19) (v := ?_) (a' := ?_) #[false, true, true, false, false, false, false, false] rfl rfl (any_of HT_.out (by kernel_rfl)) (fun _ _ _ h => h) (Or.inl ⟨by rfl, ?_⟩) ?_ ?_
      rotate_left
      ·intro w'
       go_simp
       with_reducible rfl
      rotate_left
      ·simp only [Act.put, List.setIfInBounds_toArray, List.set_cons_zero, List.set_cons_succ, i64_w, i32_w]
       rfl
      refine pure_ (i := 3) (N := some 20) (v := ?_) (a' := ?_) #[false, true, true, true, false, false, false, false] rfl rfl (any_of HT_.out (by kernel_rfl)) (fun _ _ _ h => h) (Or.inl ⟨by rfl, ?_⟩) ?_ ?_
      rotate_left
      ·intro w'
       go_simp
       with_reducible rfl
      rotate_left
      ·simp only [Act.put, List.setIfInBounds_toArray, List.set_cons_zero, List.set_cons_succ, i64_w, i32_w]
       rfl
      refine pure_ (i := 4) (N := some 21) (v := ?_) (a' := ?_) #[false, true, true, true, true, false, false, false] rfl rfl (any_of HT_.out (by kernel_rfl)) (fun _ _ _ h => h) (Or.inl ⟨by rfl, ?_⟩) ?_ ?_
      rotate_left
      ·intro w'
       go_simp
       with_reducible rfl
      rotate_left
      ·simp only [Act.put, List.setIfInBounds_toArray, List.set_cons_zero, List.set_cons_succ, i64_w, i32_w]
       rfl
      refine pure_ (i := 5) (N := some 22) (v := ?_) (a' := ?_) #[false, true, true, true, true, true, false, false] rfl rfl (any_of HT_.out (by kernel_rfl)) (fun _ _ _ h => h) (Or.inl ⟨by rfl, ?_⟩) ?_ ?_
      rotate_left
      ·intro w'
       go_simp
       with_reducible rfl
      rotate_left
      ·simp only [Act.put, List.setIfInBounds_toArray, List.set_cons_zero, List.set_cons_succ, i64_w, i32_w]
       rfl
      refine take_ (i := 0) (N := some 17) (v := ?_) (a' := ?_) #[true, true, true, true, true, true, false, false] rfl rfl (take_ofW HT_.out HW_.out (by kernel_rfl)) (fun _ _ _ h => h) (Or.inl ⟨by rfl, ?_⟩) hHeld ?_ ?_
      rotate_left
      ·rintro w' ⟨s0, s1, s2⟩
       go_simp
       with_reducible rfl
      rotate_left
      ·simp only [Act.put, List.setIfInBounds_toArray, List.set_cons_zero, List.set_cons_succ, i64_w, i32_w]
       rfl
      refine take_ (i := 6) (N := some 23) (v := ?_) (a' := ?_) #[true, true, true, true, true, true, true, false] rfl rfl (take_ofW HT_.out HW_.out (by kernel_rfl)) (fun _ _ _ h => h) (Or.inl ⟨by rfl, ?_⟩) hHeld ?_ ?_
      rotate_left
      ·rintro w' ⟨s0, s1, s2⟩
       go_simp
       with_reducible rfl
      rotate_left
      ·simp only [Act.put, List.setIfInBounds_toArray, List.set_cons_zero, List.set_cons_succ, i64_w, i32_w]
       rfl
      refine one_ (i := 7) (N := some 24) #[true, true, true, true, true, true, true, true] rfl rfl (one_of HT_.out (by kernel_rfl)) (by decide) (fun K hK => ?_)
      refine goes_ Try.func76 (by kernel_rfl) rfl #[.agg #[.int .i64 a0_0, .slice A0_1 l0_1.length c0_1], .int .i64 a1, .slice A2 l2.length c2, .slice A237_0 (rd_L2 t234 x8_1).length c237_0] (by rfl) rfl rfl (by (try simp only [List.map_toArray, List.map_cons, List.map_nil]); first | done | rfl | (simp only [List.length_drop, List.length_take]; rfl)) ?_
      with_reducible refine (sandpileref23_Blocking.calls k1 a0_0 _ _ l0_1 a1 _ _ l2 _ _ (rd_L2 t234 x8_1) false _ ?side1 ?side2 ?side3 ?side4 ?side5 ?side6 A10.out).mono ?_
      (case side1 => exact Kd.C_below HR0_1.out zB)
      (case side2 => exact HC0_1.out)
      (case side3 => exact Kd.C_below HR2.out zB)
      (case side4 => exact HC2.out)
      (case side5 => repeat (first | exact (by repeat (first | (with_reducible exact HR237_0.out) | (with_reducible refine Kd.C_alloc ?_ _) | (with_reducible refine Kd.C_drewN ?_ _) | (with_reducible refine Kd.C_drew ?_) | exact HR237_0.out)) | (with_reducible refine Kd.C_alloc ?_ _) | (with_reducible refine Kd.C_drewN ?_ _) | (with_reducible refine Kd.C_drew ?_)))
      (case side6 => exact HC237_0.out)
      rintro e w17 ⟨rfl, hb⟩
      have HS2_ := (hb.cell (World.block_lt_of_cell? _ _ (hHeld.2.2))).trans (hHeld.2.2)
      refine ⟨_, rfl, ?_⟩
      have n0_ := Aside0.mk (Kd.S_below (zSS HO_7) hb)
      have n1_ := zbR HL237_0 hb
      have n2_ := zb BK233 hb
      have n3_ := Aside0.mk (Kd.C_below (by repeat (first | (with_reducible exact HR237_0.out) | (with_reducible refine Kd.C_alloc ?_ _) | (with_reducible refine Kd.C_drewN ?_ _) | (with_reducible refine Kd.C_drew ?_) | exact HR237_0.out)) hb)
      have n4_ := zS HB hb
      clear HO_7
      clear HL237_0
      clear BK233
      clear HR237_0
      clear HB
      have HO_7 := n0_
      have HL237_0 := n1_
      have BK233 := n2_
      have HR237_0 := n3_
      have HB := n4_
      clear n0_ n1_ n2_ n3_ n4_
      (try clear hb)
      skip
      skip
      skip
      refine hK.out _ _ ⟨(blk_cell BK233.out 0).trans rfl, (blk_cell BK233.out 1).trans rfl, HS2_⟩ (fun hHeld => ?_)
      clear hK K
      refine norm_ (a' := ?_) ?_ ?_
      rotate_left
      ·show Act.put _ (some 24) _ = _
       simp only [Act.put, List.setIfInBounds_toArray, List.set_cons_zero, List.set_cons_succ, i64_w, i32_w]
       rfl
      refine done_ (done_of HT_.out (by kernel_rfl)) ?_
      try go_wp2
      go_roundg k1
      case measure => have := HK1.out; omega
      case rel => exact ⟨(wrap64 (x8_1 + 1)), zT, H', ⟨by have := HK1.out; omega⟩, ⟨zSS HO_7⟩, ⟨zK BK233⟩, ⟨zB⟩⟩
    ·rw [if_neg c9] at H
     exact absurd H (by simp)
   ·rw [if_neg c8] at H
    have c8b0 : decide (x8_1 < (t234.length : Int)) = false := decide_eq_false c8
    clear c8
    obtain rfl := Option.some.inj H
    obtain ⟨Ao18, co18, eo18⟩ := Kd.S_slice HO_7.out
    subst eo18
    go_wp2
    go_ret
    exact ⟨zE, zB⟩
theorem rd_drop {l : List Int} {i : Nat} (h : i < l.length) : l.drop i = rd l i :: l.drop (i + 1) := by
 rw [List.drop_eq_getElem_cons h]
 simp [rd, List.getD_eq_getElem?_getD, List.getElem?_eq_getElem h]
theorem holds_l0 (l : List Int) (v : Int) (hl : l.length ≤ 1000) : ∀ (m i : Nat), i + m = l.length → Ev (fun k => sandpileref08_Holds.l0 k l v i) (decide (v ∈ l.drop i))
 | 0, i, hi => by
  refine Ev.of_succ ?_
  simp only [sandpileref08_Holds.l0, if_neg (show ¬ ((i : Int) < (l.length : Int)) by omega)]
  rw [List.drop_eq_nil_of_le (by omega)]
  exact Ev.const _
 | m + 1, i, hi => by
  have ih := holds_l0 l v hl m (i + 1) (by omega)
  refine Ev.of_succ ?_
  simp only [sandpileref08_Holds.l0, if_pos (show (i : Int) < (l.length : Int) by omega), if_pos (show (0 : Int) ≤ (i : Int) by omega), wrap_succ (show i ≤ 1000000 by omega)]
  rw [rd_drop (by omega)]
  by_cases h : rd l i = v
  ·simp only [if_pos h, h, List.mem_cons, true_or, decide_true]; exact Ev.const _
  ·simp only [if_neg h]
   rw [show decide (v ∈ rd l i :: l.drop (i + 1)) = decide (v ∈ l.drop (i + 1)) by congr 1; simp only [List.mem_cons]; exact propext ⟨fun h2 => h2.resolve_left (fun e => h e.symm), .inr⟩]
   exact ih
theorem holds_ev (l : List Int) (v : Int) (hl : l.length ≤ 1000) : Ev (fun k => sandpileref08_Holds.f k l v) (decide (v ∈ l)) := by
 unfold sandpileref08_Holds.f
 have := holds_l0 l v hl l.length 0 (by omega)
 simpa using this
def memF : Nat → Nat → Nat → List Int
 | 0, _, _ => []
 | m + 1, i, d => (if d % 2 = 1 then [(i : Int)] else []) ++ memF m (i + 1) (d / 2)
theorem memF_length : ∀ m i d, (memF m i d).length ≤ m
 | 0, _, _ => by simp [memF]
 | m + 1, i, d => by
  have := memF_length m (i + 1) (d / 2)
  rw [memF, List.length_append]
  split <;> simp <;> omega
theorem members_l0 (n : Nat) (hn : n ≤ 1000) : ∀ (m i d : Nat) (o : List Int), i + m = n → d ≤ 1000000 → o.length ≤ i → Ev (fun k => sandpileref23_members.l0 k n d o i) (o ++ memF m i d)
 | 0, i, d, o, hi, hd, ho => by
  refine Ev.of_succ ?_
  simp only [sandpileref23_members.l0, if_neg (show ¬ ((i : Int) < (n : Int)) by omega), memF, List.append_nil]
  exact Ev.const _
 | m + 1, i, d, o, hi, hd, ho => by
  refine Ev.of_succ ?_
  simp only [sandpileref23_members.l0, if_pos (show (i : Int) < (n : Int) by omega), wrap_succ (show i ≤ 1000000 by omega), if_pos (show o.length < 17592186044416 by omega)]
  rw [show Int.tmod (d : Int) 2 = ((d % 2 : Nat) : Int) from by rw [Int.tmod_eq_emod_of_nonneg (by omega)]; omega, show wrap64 (Int.tdiv (d : Int) 2) = ((d / 2 : Nat) : Int) from by rw [Int.tdiv_eq_ediv_of_nonneg (by omega), wrap_id (by omega)]; omega]
  by_cases h : d % 2 = 1
  ·simp only [if_pos (show ((d % 2 : Nat) : Int) = 1 by omega)]
   have ih := members_l0 n hn m (i + 1) (d / 2) (o ++ [(i : Int)]) (by omega) (by omega) (by simp; omega)
   rw [memF, if_pos h]
   simpa using ih
  ·simp only [if_neg (show ¬ ((d % 2 : Nat) : Int) = 1 by omega)]
   have ih := members_l0 n hn m (i + 1) (d / 2) o (by omega) (by omega) (by omega)
   rw [memF, if_neg h]
   simpa using ih
theorem members_ev (n d : Nat) (hn : n ≤ 1000) (hd : d ≤ 1000000) : Ev (fun k => sandpileref23_members.f k n d) (memF n 0 d) := by
 unfold sandpileref23_members.f
 have := members_l0 n hn n 0 d [] (by omega) hd (by simp)
 simpa using this
def subsetsOf (n : Nat) : List (List Int) := (List.range (2 ^ n)).map (memF n 0)
theorem subsets_l1 (N : Nat) (E : List S66) (n C : Nat) (hn : n ≤ 15) (hC : C ≤ 100000) : ∀ (m i : Nat) (o : List (List Int)), i + m = C → o.length ≤ i → Ev (fun k => sandpileref23_Subsets.l1 k C o i n E) (o ++ (List.range' i m).map (memF n 0))
 | 0, i, o, hi, ho => by
  refine Ev.of_succ ?_
  simp only [sandpileref23_Subsets.l1, if_neg (show ¬ ((i : Int) < (C : Int)) by omega)]
  simpa using Ev.const _
 | m + 1, i, o, hi, ho => by
  refine Ev.of_succ ?_
  simp only [sandpileref23_Subsets.l1, if_pos (show (i : Int) < (C : Int) by omega), if_pos (show o.length < 5864062014805 by omega), wrap_succ (show i ≤ 1000000 by omega)]
  refine Ev.bind (members_ev n i (by omega) (by omega)) ?_
  have ih := subsets_l1 N E n C hn hC m (i + 1) (o ++ [memF n 0 i]) (by omega) (by simp; omega)
  rw [List.range'_succ, List.map_cons]
  simpa using ih
theorem subsets_l0 (E : List S66) (n : Nat) (hn : n ≤ 15) : ∀ (m v : Nat), v + m = n → Ev (fun k => sandpileref23_Subsets.l0 k ((2 ^ v : Nat) : Int) v n E) (subsetsOf n)
 | 0, v, hv => by
  obtain rfl : v = n := by omega
  have hp : 2 ^ v ≤ 2 ^ 15 := Nat.pow_le_pow_right (by omega) hn
  refine Ev.of_succ ?_
  simp only [sandpileref23_Subsets.l0, if_neg (show ¬ ((v : Int) < (v : Int)) by omega)]
  have := subsets_l1 v E v (2 ^ v) hn (by omega) (2 ^ v) 0 [] (by omega) (by simp)
  unfold subsetsOf
  rw [List.range_eq_range']
  simpa using this
 | m + 1, v, hv => by
  have hp : 2 ^ v ≤ 2 ^ 15 := Nat.pow_le_pow_right (by omega) (by omega)
  have ih := subsets_l0 E n hn m (v + 1) (by omega)
  refine Ev.of_succ ?_
  simp only [sandpileref23_Subsets.l0, if_pos (show (v : Int) < (n : Int) by omega), wrap_succ (show v ≤ 1000000 by omega)]
  rw [show 2 ^ (v + 1) = 2 * 2 ^ v by rw [Nat.pow_succ, Nat.mul_comm]] at ih
  generalize 2 ^ v = C at ih hp ⊢
  rw [show wrap64 (2 * (C : Int)) = ((2 * C : Nat) : Int) from by rw [wrap_id (by omega)]; omega]
  exact ih
theorem subsets_ev (E : List S66) (n : Nat) (hn : n ≤ 15) : Ev (fun k => sandpileref23_Subsets.f k n E) (subsetsOf n) := by
 unfold sandpileref23_Subsets.f
 have := subsets_l0 E n hn n 0 (by omega)
 simpa using this
def outN (E : List S66) (s : List Int) (v : Int) : Nat → Int
 | 0 => 0
 | u + 1 => outN E s v u + (if (u : Int) ∈ s then 0 else btw E v u)
theorem outN_bound {N : Int} {E : List S66} (h : RightE N E) (s : List Int) (v : Int) : ∀ u : Nat, 0 ≤ outN E s v u ∧ outN E s v u ≤ 50 * u
 | 0 => by simp [outN]
 | u + 1 => by
  have h1 := outN_bound h s v u
  have h2 := btw_nonneg h v u
  simp only [outN]
  split <;> omega
theorem out_l0 {N : Int} {E : List S66} (hR : RightE N E) (hE : E.length ≤ 1000) (n : Nat) (hn : n ≤ 1000) (s : List Int) (hs : s.length ≤ 1000) (v : Int) : ∀ (m u : Nat), u + m = n → Ev (fun k => sandpileref18_Out.l0 k s v (outN E s v u) u n E) (outN E s v n)
 | 0, u, hu => by
  obtain rfl : u = n := by omega
  refine Ev.of_succ ?_
  simp only [sandpileref18_Out.l0, if_neg (show ¬ ((u : Int) < (u : Int)) by omega)]
  exact Ev.const _
 | m + 1, u, hu => by
  have ih := out_l0 hR hE n hn s hs v m (u + 1) (by omega)
  have hb := outN_bound hR s v u
  have hb2 := btw_nonneg hR v u
  refine Ev.of_succ ?_
  simp only [sandpileref18_Out.l0, if_pos (show (u : Int) < (n : Int) by omega), wrap_succ (show u ≤ 1000000 by omega)]
  refine Ev.bind (holds_ev s u hs) ?_
  simp only [outN] at ih
  by_cases h : (u : Int) ∈ s
  ·simp only [decide_eq_true h, if_true]
   rw [if_pos h, Int.add_zero] at ih; exact ih
  ·simp only [decide_eq_false h, Bool.false_eq_true, if_false]
   rw [if_neg h] at ih
   refine Ev.bind (between_ev n E v u hE) ?_
   rw [show wrap64 (outN E s v u + btw E v u) = outN E s v u + btw E v u from wrap_id (by omega)]
   exact ih
theorem out_ev {N : Int} {E : List S66} (hR : RightE N E) (hE : E.length ≤ 1000) (n : Nat) (hn : n ≤ 1000) (s : List Int) (hs : s.length ≤ 1000) (v : Int) : Ev (fun k => sandpileref18_Out.f k n E s v) (outN E s v n) := by
 unfold sandpileref18_Out.f
 have := out_l0 hR hE n hn s hs v n 0 (by omega)
 simpa [outN] using this
def mayFrom (E : List S66) (n : Nat) (c s : List Int) : Int → List Int → Bool
 | a, [] => decide (a > 0)
 | a, v :: l => if rd c v < outN E s v n then false else mayFrom E n c s (a + outN E s v n) l
theorem may_l0 {N : Int} {E : List S66} (hR : RightE N E) (hE : E.length ≤ 1000) (n : Nat) (hn : n ≤ 1000) (c s : List Int) (hc : c.length = n) (hs : s.length ≤ 1000) (hsn : ∀ v ∈ s, 0 ≤ v ∧ v < n) : ∀ (m i : Nat) (a : Int), i + m = s.length → 0 ≤ a → a ≤ 50000 * i → Ev (fun k => sandpileref18_MaySet.l0 k c s a i n E) (mayFrom E n c s a (s.drop i))
 | 0, i, a, hi, h0, ha => by
  refine Ev.of_succ ?_
  simp only [sandpileref18_MaySet.l0, if_neg (show ¬ ((i : Int) < (s.length : Int)) by omega)]
  rw [List.drop_eq_nil_of_le (by omega), mayFrom]
  exact Ev.const _
 | m + 1, i, a, hi, h0, ha => by
  have hv := hsn (rd s i) (by
   have e : rd s i = s[i] := by simp [rd, List.getD_eq_getElem?_getD, List.getElem?_eq_getElem (by omega : i < s.length)]
   rw [e]; exact List.getElem_mem _)
  have hb := outN_bound hR s (rd s i) n
  refine Ev.of_succ ?_
  simp only [sandpileref18_MaySet.l0, if_pos (show (i : Int) < (s.length : Int) by omega), if_pos (show (0 : Int) ≤ (i : Int) by omega), wrap_succ (show i ≤ 1000000 by omega)]
  refine Ev.bind (out_ev hR hE n hn s hs (rd s i)) ?_
  simp only [if_pos hv.1, if_pos (show rd s i < (c.length : Int) by omega)]
  rw [rd_drop (by omega), mayFrom]
  by_cases h : rd c (rd s i) < outN E s (rd s i) n
  ·simp only [if_pos h]; exact Ev.const _
  ·simp only [if_neg h]
   rw [show wrap64 (a + outN E s (rd s i) n) = a + outN E s (rd s i) n from wrap_id (by omega)]
   exact may_l0 hR hE n hn c s hc hs hsn m (i + 1) _ (by omega) (by omega) (by omega)
theorem may_ev {N : Int} {E : List S66} (hR : RightE N E) (hE : E.length ≤ 1000) (n : Nat) (hn : n ≤ 1000) (c s : List Int) (hc : c.length = n) (hs : s.length ≤ 1000) (hsn : ∀ v ∈ s, 0 ≤ v ∧ v < n) : Ev (fun k => sandpileref18_MaySet.f k n E c s) (mayFrom E n c s 0 s) := by
 unfold sandpileref18_MaySet.f
 have := may_l0 hR hE n hn c s hc hs hsn s.length 0 0 (by omega) (by omega) (by omega)
 simpa using this
def blockB (E : List S66) (n : Nat) (q : Int) (c s : List Int) : Bool := decide (0 < s.length) && !decide (q ∈ s) && mayFrom E n c s 0 s
theorem blocking_ev {N : Int} {E : List S66} (hR : RightE N E) (hE : E.length ≤ 1000) (n : Nat) (hn : n ≤ 1000) (q : Int) (c s : List Int) (hc : c.length = n) (hs : s.length ≤ 1000) (hsn : ∀ v ∈ s, 0 ≤ v ∧ v < n) : Ev (fun k => sandpileref23_Blocking.f k n E q c s) (blockB E n q c s) := by
 unfold sandpileref23_Blocking.f blockB
 by_cases h0 : 0 < s.length
 ·simp only [if_pos (show (s.length : Int) > 0 by omega), decide_eq_true h0, Bool.true_and]
  refine Ev.bind (holds_ev s q hs) ?_
  by_cases h : q ∈ s
  ·simp only [decide_eq_true h, if_true, Bool.not_true, Bool.false_and]; exact Ev.const _
  ·simp only [decide_eq_false h, Bool.false_eq_true, if_false, Bool.not_false, Bool.true_and]
   exact Ev.bind (may_ev hR hE n hn c s hc hs hsn) (Ev.const _)
 ·simp only [if_neg (show ¬ (s.length : Int) > 0 by omega), decide_eq_false h0, Bool.false_and]; exact Ev.const _
theorem rd_L2_drop {l : List (List Int)} {i : Nat} (h : i < l.length) : l.drop i = rd_L2 l i :: l.drop (i + 1) := by
 rw [List.drop_eq_getElem_cons h]
 simp [rd_L2, List.getD_eq_getElem?_getD, List.getElem?_eq_getElem h]
theorem is_l0 {N : Int} {E : List S66} (hR : RightE N E) (hE : E.length ≤ 1000) (n : Nat) (hn : n ≤ 1000) (q : Int) (c : List Int) (hc : c.length = n) (l : List (List Int)) (hl : l.length ≤ 100000) (hls : ∀ s ∈ l, s.length ≤ 1000 ∧ ∀ v ∈ s, 0 ≤ v ∧ v < n) : ∀ (m i : Nat), i + m = l.length → Ev (fun k => sandpileref23_Is.l0 k q c l i n E) ((l.drop i).all fun s => !blockB E n q c s)
 | 0, i, hi => by
  refine Ev.of_succ ?_
  simp only [sandpileref23_Is.l0, if_neg (show ¬ ((i : Int) < (l.length : Int)) by omega)]
  rw [List.drop_eq_nil_of_le (by omega)]
  exact Ev.const _
 | m + 1, i, hi => by
  have ih := is_l0 hR hE n hn q c hc l hl hls m (i + 1) (by omega)
  have hm := hls (rd_L2 l i) (by
   have e : rd_L2 l i = l[i] := by simp [rd_L2, List.getD_eq_getElem?_getD, List.getElem?_eq_getElem (by omega : i < l.length)]
   rw [e]; exact List.getElem_mem _)
  refine Ev.of_succ ?_
  simp only [sandpileref23_Is.l0, if_pos (show (i : Int) < (l.length : Int) by omega), if_pos (show (0 : Int) ≤ (i : Int) by omega), wrap_succ (show i ≤ 1000000 by omega)]
  refine Ev.bind (blocking_ev hR hE n hn q c _ hc hm.1 hm.2) ?_
  rw [rd_L2_drop (by omega), List.all_cons]
  cases hb : blockB E n q c (rd_L2 l i) with
  | true => simp only [if_true, Bool.not_true, Bool.false_and]; exact Ev.const _
  | false => simp only [Bool.false_eq_true, if_false, Bool.not_false, Bool.true_and]; exact ih
theorem memF_mem : ∀ {m i d : Nat} {x : Int}, x ∈ memF m i d ↔ ∃ j : Nat, j < m ∧ x = ((i + j : Nat) : Int) ∧ d.testBit j = true
 | 0, i, d, x => by simp [memF]
 | m + 1, i, d, x => by
  rw [memF, List.mem_append, memF_mem (m := m)]
  constructor
  ·rintro (h | ⟨j, hj, h1, h2⟩)
   ·split at h
    ·rename_i h1
     simp at h
     exact ⟨0, by omega, by simpa using h, by rw [Nat.testBit_zero]; simpa using h1⟩
    ·simp at h
   ·exact ⟨j + 1, by omega, by rw [h1]; congr 1; omega, by rw [Nat.testBit_succ]; exact h2⟩
  ·rintro ⟨j, hj, h1, h2⟩
   cases j with
   | zero =>
    left
    rw [Nat.testBit_zero] at h2
    rw [if_pos (by simpa using h2)]
    simpa using h1
   | succ j => exact .inr ⟨j, by omega, by rw [h1]; congr 1; omega, by rw [Nat.testBit_succ] at h2; exact h2⟩
theorem subsets_in {n : Nat} : ∀ s ∈ subsetsOf n, s.length ≤ n ∧ ∀ v ∈ s, 0 ≤ v ∧ v < n := by
 intro s hs
 obtain ⟨d, _, rfl⟩ := List.mem_map.1 hs
 refine ⟨memF_length n 0 d, fun v hv => ?_⟩
 obtain ⟨j, hj, rfl, _⟩ := memF_mem.1 hv
 omega
def isB (E : List S66) (n : Nat) (q : Int) (c : List Int) : Bool := (subsetsOf n).all fun s => !blockB E n q c s
theorem is_ev {N : Int} {E : List S66} (hR : RightE N E) (hE : E.length ≤ 1000) (n : Nat) (hn : n ≤ 15) (q : Int) (c : List Int) (hc : c.length = n) : Ev (fun k => sandpileref23_Is.f k n E q c) (isB E n q c) := by
 unfold sandpileref23_Is.f
 refine Ev.bind (subsets_ev E n hn) ?_
 have hp : 2 ^ n ≤ 2 ^ 15 := Nat.pow_le_pow_right (by omega) hn
 have := is_l0 hR hE n (by omega) q c hc (subsetsOf n) (by unfold subsetsOf; simp; omega) (fun s hs => ⟨by have := (subsets_in s hs).1; omega, (subsets_in s hs).2⟩) (subsetsOf n).length 0 (by omega)
 simpa [isB] using this
theorem bits_of (S : Nat → Bool) : ∀ n, ∃ d, d < 2 ^ n ∧ ∀ j, j < n → d.testBit j = S j
 | 0 => ⟨0, by simp, fun j hj => by omega⟩
 | n + 1 => by
  obtain ⟨d, hd, h⟩ := bits_of (fun j => S (j + 1)) n
  refine ⟨(if S 0 then 1 else 0) + 2 * d, ?_, fun j hj => ?_⟩
  ·rw [Nat.pow_succ]; split <;> omega
  ·cases j with
   | zero =>
    rw [Nat.testBit_zero]
    cases hs : S 0 <;> simp <;> omega
   | succ j =>
    rw [Nat.testBit_succ, show ((if S 0 then 1 else 0) + 2 * d) / 2 = d by split <;> omega]
    exact h j (by omega)
theorem outN_flames {n : Nat} {E : List S66} (hR : RightE n E) (s : List Int) (v : Nat) (hv : (v : Int) ∈ s) : ∀ u, outN E s v u = flamesTo (timesOf E) (fun u => !decide ((u : Int) ∈ s)) v u
 | 0 => rfl
 | u + 1 => by
  rw [outN, flamesTo, outN_flames hR s v hv u]
  congr 1
  by_cases h : (u : Int) ∈ s
  ·simp [h]
  ·have hne : v ≠ u := fun e => by subst e; exact h hv
   simp only [if_neg h, h, decide_false, Bool.not_false, if_true]
   exact (times_btw hR v u hne).symm
theorem mayFrom_iff (E : List S66) (n : Nat) (c s : List Int) : ∀ (l : List Int) (a : Int), mayFrom E n c s a l = true ↔ (∀ v ∈ l, outN E s v n ≤ rd c v) ∧ 0 < a + (l.map fun v => outN E s v n).sum
 | [], a => by simp [mayFrom]
 | v :: l, a => by
  rw [mayFrom]
  by_cases h : rd c v < outN E s v n
  ·rw [if_pos h]
   simp; intro h2; omega
  ·rw [if_neg h, mayFrom_iff E n c s l]
   simp only [List.mem_cons, forall_eq_or_imp, List.map_cons, List.sum_cons]
   constructor
   ·rintro ⟨h1, h2⟩; exact ⟨⟨by omega, h1⟩, by omega⟩
   ·rintro ⟨⟨_, h1⟩, h2⟩; exact ⟨h1, by omega⟩
theorem sum_pos {f : Int → Int} : ∀ {l : List Int}, (∀ v ∈ l, 0 ≤ f v) → (∃ v ∈ l, 0 < f v) → 0 < (l.map f).sum
 | [], _, ⟨v, hv, _⟩ => by simp at hv
 | x :: l, h0, ⟨v, hv, h1⟩ => by
  have hx := h0 x (List.mem_cons_self ..)
  have hl : ∀ v ∈ l, 0 ≤ f v := fun v hv => h0 v (List.mem_cons_of_mem _ hv)
  have hs : 0 ≤ (l.map f).sum := by
   clear h1 hv h0 hx
   induction l with
   | nil => simp
   | cons y l ih =>
    have := ih (fun v hv => hl v (List.mem_cons_of_mem _ hv))
    have := hl y (List.mem_cons_self ..)
    simp only [List.map_cons, List.sum_cons]; omega
  simp only [List.map_cons, List.sum_cons]
  rcases List.mem_cons.1 hv with rfl | hv
  ·omega
  ·have := sum_pos hl ⟨v, hv, h1⟩
   omega
theorem is_iff {n q : Nat} {E : List S66} (hR : RightE n E) (hC : EConn n E) (hq : q < n) (c : List Int) : isB E n q c = true ↔ NoBlock n (timesOf E) q (fun v => rd c v) := by
 unfold isB
 rw [List.all_eq_true]
 constructor
 ·intro h S hS hSq
  obtain ⟨d, hd, hb⟩ := bits_of S n
  have hmem : ∀ v : Nat, v < n → ((v : Int) ∈ memF n 0 d ↔ S v = true) := fun v hv => by
   rw [memF_mem]
   constructor
   ·rintro ⟨j, hj, h1, h2⟩
    rw [hb j hj] at h2
    rw [show v = j by omega]; exact h2
   ·intro h1; exact ⟨v, hv, by simp, by rw [hb v hv]; exact h1⟩
  have h1 := h (memF n 0 d) (List.mem_map.2 ⟨d, List.mem_range.2 hd, rfl⟩)
  generalize hs : memF n 0 d = s at h1 hmem
  have hsn : ∀ v ∈ s, ∃ j : Nat, j < n ∧ v = (j : Int) := fun v hv => by
   rw [← hs] at hv
   obtain ⟨j, hj, h2, _⟩ := memF_mem.1 hv
   exact ⟨j, hj, by simpa using h2⟩
  obtain ⟨v0, hv0, hS0⟩ := hS
  have hne : 0 < s.length := List.length_pos_of_mem ((hmem v0 hv0).2 hS0)
  have hqs : ¬ ((q : Int) ∈ s) := fun h2 => by rw [(hmem q hq).1 h2] at hSq; cases hSq
  have hfl : ∀ v : Nat, v < n → (v : Int) ∈ s → outN E s v n = flamesTo (timesOf E) (fun u => !S u) v n := fun v hv hvs => by
   rw [outN_flames hR s v hvs n]
   refine flamesTo_congr v n fun u hu => ?_
   have := hmem u hu
   cases hSu : S u with
   | true => simp [this.2 hSu]
   | false => simp [show ¬ ((u : Int) ∈ s) from fun h2 => by rw [this.1 h2] at hSu; cases hSu]
  unfold blockB at h1
  rw [decide_eq_true hne, decide_eq_false hqs, Bool.true_and, Bool.not_false, Bool.true_and, Bool.not_eq_true'] at h1
  have h2 := mt (mayFrom_iff E n c s s 0).2 (by rw [h1]; decide)
  by_cases h3 : ∀ v ∈ s, outN E s v n ≤ rd c v
  ·exfalso
   refine h2 ⟨h3, ?_⟩
   rw [Int.zero_add]
   refine sum_pos (fun v hv => (outN_bound hR s v n).1) ?_
   obtain ⟨x, hx, hxe⟩ := hC S ⟨v0, hv0, hS0⟩ ⟨q, hq, hSq⟩
   have hbx := btw_edge hR hx
   have hok := hR.ok x hx
   simp [edgeOk] at hok
   have hbig : ∀ (a b : Nat), a < n → b < n → S a = true → S b = false → btw E a b > 0 → ∃ v ∈ s, 0 < outN E s v n := fun a b ha hb2 hSa hSb hbt => by
    refine ⟨a, (hmem a ha).2 hSa, ?_⟩
    have hbs : ¬ ((b : Int) ∈ s) := fun h4 => by rw [(hmem b hb2).1 h4] at hSb; cases hSb
    have key : ∀ u, b < u → 0 < outN E s a u := fun u => by
     induction u with
     | zero => omega
     | succ u ih =>
      intro hu
      have hbd := outN_bound hR s a u
      have hb3 := btw_nonneg hR a u
      rw [outN]
      by_cases e : b = u
      ·subst e; rw [if_neg hbs]; omega
      ·have := ih (by omega)
       split <;> omega
    exact key n hb2
   have e0 : ((x.f0.toNat : Nat) : Int) = x.f0 := by omega
   have e1 : ((x.f1.toNat : Nat) : Int) = x.f1 := by omega
   cases hs0 : S x.f0.toNat with
   | true =>
    refine hbig x.f0.toNat x.f1.toNat (by omega) (by omega) hs0 ?_ (by rw [e0, e1]; exact hbx)
    cases hs1 : S x.f1.toNat with
    | false => rfl
    | true => rw [hs0, hs1] at hxe; exact absurd rfl hxe
   | false =>
    refine hbig x.f1.toNat x.f0.toNat (by omega) (by omega) ?_ hs0 (by rw [e0, e1, btw_comm]; exact hbx)
    cases hs1 : S x.f1.toNat with
    | true => rfl
    | false => rw [hs0, hs1] at hxe; exact absurd rfl hxe
  ·simp only [Classical.not_forall] at h3
   obtain ⟨v, hv, h4⟩ := h3
   obtain ⟨j, hj, rfl⟩ := hsn v hv
   refine ⟨j, hj, (hmem j hj).1 hv, ?_⟩
   rw [← hfl j hj hv]
   show rd c j < _
   omega
 ·intro h s hs
  obtain ⟨d, hd, rfl⟩ := List.mem_map.1 hs
  generalize hs2 : memF n 0 d = s
  have hsn : ∀ v ∈ s, ∃ j : Nat, j < n ∧ v = (j : Int) := fun v hv => by
   rw [← hs2] at hv
   obtain ⟨j, hj, h2, _⟩ := memF_mem.1 hv
   exact ⟨j, hj, by simpa using h2⟩
  unfold blockB
  by_cases hne : 0 < s.length
  ·by_cases hqs : (q : Int) ∈ s
   ·simp [hqs]
   ·rw [decide_eq_true hne, decide_eq_false hqs, Bool.true_and, Bool.not_false, Bool.true_and, Bool.not_eq_true', Bool.eq_false_iff]
    intro hm
    have h1 := ((mayFrom_iff E n c s s 0).1 hm).1
    obtain ⟨v0, hv0⟩ := List.exists_mem_of_length_pos hne
    obtain ⟨j0, hj0, rfl⟩ := hsn v0 hv0
    obtain ⟨v, hv, hSv, hlt⟩ := h (fun u => decide ((u : Int) ∈ s)) ⟨j0, hj0, by simpa using hv0⟩ (by simpa using hqs)
    have hvs : (v : Int) ∈ s := by simpa using hSv
    have h2 := h1 v hvs
    rw [outN_flames hR s v hvs n] at h2
    have hlt2 : rd c v < flamesTo (timesOf E) (fun u => !decide ((u : Int) ∈ s)) v n := hlt
    omega
  ·simp [show s.length = 0 by omega]
def extB (most : Nat → Nat) : Nat → List Int → List (List Int)
 | 0, p => [p]
 | k + 1, p => (List.range (most p.length + 1)).flatMap fun (x : Nat) => extB most k (p ++ [(x : Int)])
def outB (q B : Nat) (calm : List Int → Bool) : Nat → List Int → List (List Int)
 | 0, p => [p]
 | k + 1, p => if p.length = q then outB q B calm k (p ++ [0]) else ((List.range B).takeWhile fun (x : Nat) => calm (p ++ (x : Int) :: List.replicate k 0)).flatMap fun (x : Nat) => outB q B calm k (p ++ [(x : Int)])
def Leq : List Int → List Int → Prop
 | [], [] => True
 | x :: a, y :: b => x ≤ y ∧ Leq a b
 | _, _ => False
theorem Leq.refl : ∀ l, Leq l l
 | [] => trivial
 | x :: l => ⟨Int.le_refl x, Leq.refl l⟩
theorem Leq.append {a b c d : List Int} (h : Leq a b) (h2 : Leq c d) : Leq (a ++ c) (b ++ d) := by
 induction a generalizing b with
 | nil => cases b with | nil => exact h2 | cons => exact h.elim
 | cons x a ih => cases b with | nil => exact h.elim | cons y b => exact ⟨h.1, ih h.2⟩
theorem Leq.trans {a b c : List Int} (h : Leq a b) (h2 : Leq b c) : Leq a c := by
 induction a generalizing b c with
 | nil => cases b with | nil => exact h2 | cons => exact h.elim
 | cons x a ih => cases b with
  | nil => exact h.elim
  | cons y b => cases c with | nil => exact h2.elim | cons z c => exact ⟨Int.le_trans h.1 h2.1, ih h.2 h2.2⟩
theorem Leq.length {a b : List Int} (h : Leq a b) : a.length = b.length := by
 induction a generalizing b with
 | nil => cases b with | nil => rfl | cons => exact h.elim
 | cons x a ih => cases b with | nil => exact h.elim | cons y b => simp [ih h.2]
theorem ext_above (most : Nat → Nat) : ∀ (k : Nat) (p l : List Int), l ∈ extB most k p → Leq (p ++ List.replicate k 0) l := by
 intro k
 induction k with
 | zero => intro p l h; simp [extB] at h; subst h; simpa using Leq.refl l
 | succ k ih =>
  intro p l h
  simp only [extB, List.mem_flatMap] at h
  obtain ⟨x, hx, hl⟩ := h
  refine Leq.trans ?_ (ih _ _ hl)
  rw [List.replicate_succ, List.append_assoc]
  exact (Leq.refl p).append ⟨by omega, Leq.refl _⟩
theorem range_split {B m : Nat} (h : m ≤ B) : List.range B = List.range m ++ (List.range (B - m)).map (m + ·) := by
 conv => lhs; rw [show B = m + (B - m) by omega, List.range_add]
theorem flat_takeWhile {α : Type} (P : Nat → Bool) (F : Nat → List α) (hP : ∀ x y, y ≤ x → P x = true → P y = true) : ∀ (B : Nat), ((List.range B).takeWhile P).flatMap F = (List.range B).flatMap fun x => if P x then F x else [] := by
 intro B
 induction B with
 | zero => rfl
 | succ B ih =>
  rw [List.range_succ, List.flatMap_append, ← ih]
  by_cases h : ∀ x ∈ List.range B, P x = true
  ·rw [List.takeWhile_append_of_pos h, List.flatMap_append]
   have h2 : (List.range B).takeWhile P = List.range B := by
    have := List.takeWhile_append_of_pos (l₂ := []) h
    simpa using this
   rw [h2]
   congr 1
   cases hB : P B <;> simp [hB]
  ·have hB : P B = false := by
    cases hB : P B with
    | false => rfl
    | true => exact absurd (fun x hx => hP B x (by have := List.mem_range.1 hx; omega) hB) h
   rw [List.takeWhile_append, if_neg ?_]
   ·simp [hB]
   ·intro e
    refine h fun x hx => ?_
    have hs : (List.range B).takeWhile P = List.range B := (List.takeWhile_prefix P).eq_of_length e
    rw [← hs] at hx
    exact List.all_eq_true.1 (List.all_takeWhile) x hx
theorem flat_cut {α : Type} (P : Nat → Bool) (F : Nat → List α) (M B : Nat) (hMB : M ≤ B) (hM : ∀ x, P x = true → x < M) : ((List.range B).flatMap fun x => if P x then F x else []) = (List.range M).flatMap fun x => if P x then F x else [] := by
 rw [range_split hMB, List.flatMap_append]
 rw [show ((List.range (B - M)).map (M + ·)).flatMap (fun x => if P x then F x else []) = [] from ?_]
 ·simp
 ·rw [List.flatMap_eq_nil_iff]
  intro x hx
  obtain ⟨y, _, rfl⟩ := List.mem_map.1 hx
  cases h : P (M + y) with
  | false => simp
  | true => have := hM _ h; omega
theorem outB_eq (q B : Nat) (calm : List Int → Bool) (most : Nat → Nat) (n : Nat) (hdown : ∀ a b, a.length = n → Leq a b → calm b = true → calm a = true) (hmost : ∀ l v, l.length = n → v < n → v ≠ q → calm l = true → rd l v ≤ (most v : Int)) (hq : most q = 0) (hB : ∀ v, v < n → most v + 1 ≤ B) :
  ∀ (k : Nat) (p : List Int), p.length + k = n → (calm (p ++ List.replicate k 0) = true ∨ ∃ v, p.length ≤ v ∧ v < n ∧ v ≠ q) → outB q B calm k p = (extB most k p).filter calm := by
 intro k
 induction k with
 | zero =>
  rintro p hp (h | ⟨v, h1, h2, _⟩)
  ·simp at h; simp [outB, extB, h]
  ·omega
 | succ k ih =>
  intro p hp h
  have hpl : (p ++ [(0 : Int)]).length = p.length + 1 := by simp
  by_cases e : p.length = q
  ·rw [outB, if_pos e, extB, e, hq]
   simp only [Nat.zero_add, List.range_one, List.flatMap_cons, List.flatMap_nil, List.append_nil, Int.natCast_zero, Int.ofNat_zero]
   refine ih (p ++ [0]) (by simp; omega) ?_
   rcases h with h | ⟨v, h1, h2, h3⟩
   ·left; rw [List.append_assoc]; simpa [List.replicate_succ] using h
   ·right; exact ⟨v, by simp; omega, h2, h3⟩
  ·rw [outB, if_neg e, extB, List.filter_flatMap]
   have hdn : ∀ x y : Nat, y ≤ x → calm (p ++ (x : Int) :: List.replicate k 0) = true → calm (p ++ (y : Int) :: List.replicate k 0) = true := fun x y hxy hx => hdown _ _ (by simp; omega) ((Leq.refl p).append (show Leq ((y : Int) :: List.replicate k 0) ((x : Int) :: List.replicate k 0) from ⟨by omega, Leq.refl _⟩)) hx
   rw [flat_takeWhile (fun x : Nat => calm (p ++ (x : Int) :: List.replicate k 0)) _ hdn]
   rw [flat_cut (fun x : Nat => calm (p ++ (x : Int) :: List.replicate k 0)) _ (most p.length + 1) B (hB _ (by omega)) (fun x hx => by
    have := hmost _ p.length (by simp; omega) (by omega) e hx
    have hr : rd (p ++ (x : Int) :: List.replicate k 0) p.length = x := by simp [rd, List.getD_eq_getElem?_getD]
    rw [hr] at this; omega)]
   congr 1
   funext x
   have hl : (p ++ [(x : Int)]) ++ List.replicate k 0 = p ++ (x : Int) :: List.replicate k 0 := by simp
   cases hc : calm (p ++ (x : Int) :: List.replicate k 0) with
   | true =>
    rw [if_pos rfl]
    exact ih _ (by simp; omega) (.inl (by rw [hl]; exact hc))
   | false =>
    rw [if_neg (by simp)]
    symm
    rw [List.filter_eq_nil_iff]
    intro l hl2
    have h1 := ext_above most k _ l hl2
    rw [hl] at h1
    cases hcl : calm l with
    | false => simp
    | true => have := hdown _ _ (by simp; omega) h1 hcl; rw [hc] at this; cases this
def stepB (most : Nat → Nat) (v : Nat) (L : List (List Int)) : List (List Int) := L.flatMap fun p => (List.range (most v + 1)).map fun (x : Nat) => p ++ [(x : Int)]
def stabB (most : Nat → Nat) : Nat → List (List Int)
 | 0 => [[]]
 | v + 1 => stepB most v (stabB most v)
theorem stabB_len (most : Nat → Nat) : ∀ (v : Nat) (l : List Int), l ∈ stabB most v → l.length = v
 | 0, l, h => by simp [stabB] at h; subst h; rfl
 | v + 1, l, h => by
  simp only [stabB, stepB, List.mem_flatMap, List.mem_map] at h
  obtain ⟨p, hp, x, _, rfl⟩ := h
  simp [stabB_len most v p hp]
theorem flatMap_congr' {α β : Type} {f g : α → List β} : ∀ (l : List α), (∀ x ∈ l, f x = g x) → l.flatMap f = l.flatMap g
 | [], _ => rfl
 | x :: l, h => by simp only [List.flatMap_cons]; rw [h x (by simp), flatMap_congr' l (fun y hy => h y (by simp [hy]))]
theorem stabB_ext (most : Nat → Nat) (k : Nat) : ∀ v, (stabB most v).flatMap (extB most k) = stabB most (v + k) := by
 induction k with
 | zero => intro v; simp only [Nat.add_zero]; rw [show extB most 0 = fun p => [p] from rfl]; simp
 | succ k ih =>
  intro v
  rw [show v + (k + 1) = (v + 1) + k by omega, ← ih (v + 1), stabB, stepB, List.flatMap_assoc]
  refine flatMap_congr' _ fun p hp => ?_
  rw [extB, stabB_len most v p hp, List.flatMap_map]
theorem stabB_eq (most : Nat → Nat) (n : Nat) : stabB most n = extB most n [] := by
 have h := stabB_ext most n 0
 simpa [stabB] using h.symm
def burning_Superstable.f (k : Nat) (a0_0 : Int) (l0_1 : List (S66)) (a1 : Int) (l2 : List Int) : Option (Bool × Int) := (burning_Burn.f k a0_0 l0_1 a1 l2).bind fun bt135 => (if bt135.2.2 = 0 then (some (((bt135.2.1.length : Int) == 0), bt135.2.2)) else (some (false, bt135.2.2)))
theorem burning_Superstable.calls (k : Nat) (a0_0 : Int) (A0_1 : Option Addr) (c0_1 : Nat) (l0_1 : List (S66)) (a1 : Int) (A2 : Option Addr) (c2 : Nat) (l2 : List Int) (r1 : Bool) (r2 : Int) (w : World) (hr0_1 : Kd.C k66 w A0_1 l0_1.length l0_1) (hc0_1 : l0_1.length ≤ c0_1) (hr2 : Kd.C (Kd.int .i64) w A2 l2.length l2) (hc2 : l2.length ≤ c2) (h : burning_Superstable.f k a0_0 l0_1 a1 l2 = some (r1, r2)) :
  Calls Try.prog 35 #[.agg #[.int .i64 a0_0, .slice A0_1 l0_1.length c0_1], .int .i64 a1, .slice A2 l2.length c2] w fun e w' => e = .returned (.tuple #[.bool r1, .int .i64 r2]) ∧ Below w.heap.size w w' := by
 have hu24 := Try.underlying24
 have HR0_1 := Aside0.mk hr0_1
 have HC0_1 := Aside0.mk hc0_1
 clear hr0_1 hc0_1
 have HR2 := Aside0.mk hr2
 have HC2 := Aside0.mk hc2
 clear hr2 hc2
 have HB := Aside0.mk (Below.refl w.heap.size w)
 have H : ((burning_Burn.f k a0_0 l0_1 a1 l2).bind fun bt135 => (if bt135.2.2 = 0 then (some (((bt135.2.1.length : Int) == 0), bt135.2.2)) else (some (false, bt135.2.2)))) = some (r1, r2) := h
 clear h
 replace H := Option.bind_eq_some_iff.mp H
 obtain ⟨⟨t135, t138, t141⟩, A40, H⟩ := H
 replace H : (if t141 = 0 then (some (((t138.length : Int) == 0), t141)) else (some (false, t141))) = some (r1, r2) := H
 have A4 := Aside0.mk A40
 clear A40
 by_cases c5 : t141 = 0
 ·rw [if_pos c5] at H
  have c5b0 : (t141 == 0) = true := beq_iff_eq.mpr c5
  have c5b1 : (t141 != 0) = false := bne_eq_false_iff_eq.mpr c5
  clear c5
  simp only [Option.some.injEq, Prod.mk.injEq] at H
  obtain ⟨rfl, rfl⟩ := H
  go_enter Try.func35, Try.ntmps35
  go_wp2_with (first | ((with_reducible refine gate_dst (N := 3) rfl ?_); (try (refine gate_guard (by rfl) ?_; dsimp only)); refine zX 3 #[.int .i64 a0_0, .slice A0_1 l0_1.length c0_1] 24 ?_; intro gb134 hg w6 hbox hb; have BK134 := Aside0.mk (hbox); have GW134 := zG HB hg; have GE134 := zG HB hg; replace HB := zS HB hb; clear hb hbox hg; obtain ⟨hcz7_0, hcz7_1, hfz7_0, hfz7_1⟩ := zD2 BK134) | ((with_reducible refine gate_callee (f := 63) rfl ?_); refine zL (some 15) Try.func63 #[.agg #[.int .i64 a0_0, .slice A0_1 l0_1.length c0_1], .int .i64 a1, .slice A2 l2.length c2] ?_; (with_reducible refine (burning_Burn.calls k a0_0 _ _ l0_1 a1 _ _ l2 t135 t138 t141 _ ?side1 ?side2 ?side3 ?side4 A4.out).mono ?_); (case side1 => exact Kd.C_below HR0_1.out zB); (case side2 => exact HC0_1.out); (case side3 => exact Kd.C_below HR2.out zB); (case side4 => exact HC2.out); rintro e w8 ⟨v136, v139, rfl, ho0, ho1, hb⟩; refine ⟨_, rfl, ?_⟩; have HO137 := Aside0.mk (Kd.R_lower ho0 (below_size zB)); have HO140 := Aside0.mk (Kd.R_lower ho1 (below_size zB)); replace BK134 := zb BK134 hb; replace HB := zS HB hb; (try clear hb); (try clear ho0); (try clear ho1); obtain ⟨Ao9, co9, eo9⟩ := Kd.R_slice HO140.out; subst eo9))
  go_ret2
  exact ⟨zE, zB⟩
 ·rw [if_neg c5] at H
  have c5b0 : (t141 == 0) = false := beq_eq_false_iff_ne.mpr c5
  have c5b1 : (t141 != 0) = true := bne_iff_ne.mpr c5
  simp only [Option.some.injEq, Prod.mk.injEq] at H
  obtain ⟨rfl, rfl⟩ := H
  go_enter Try.func35, Try.ntmps35
  go_wp2_with (first | ((with_reducible refine gate_dst (N := 3) rfl ?_); (try (refine gate_guard (by rfl) ?_; dsimp only)); refine zX 3 #[.int .i64 a0_0, .slice A0_1 l0_1.length c0_1] 24 ?_; intro gb134 hg w10 hbox hb; have BK134 := Aside0.mk (hbox); have GW134 := zG HB hg; have GE134 := zG HB hg; replace HB := zS HB hb; clear hb hbox hg; obtain ⟨hcz11_0, hcz11_1, hfz11_0, hfz11_1⟩ := zD2 BK134) | ((with_reducible refine gate_callee (f := 63) rfl ?_); refine zL (some 15) Try.func63 #[.agg #[.int .i64 a0_0, .slice A0_1 l0_1.length c0_1], .int .i64 a1, .slice A2 l2.length c2] ?_; (with_reducible refine (burning_Burn.calls k a0_0 _ _ l0_1 a1 _ _ l2 t135 t138 t141 _ ?side1 ?side2 ?side3 ?side4 A4.out).mono ?_); (case side1 => exact Kd.C_below HR0_1.out zB); (case side2 => exact HC0_1.out); (case side3 => exact Kd.C_below HR2.out zB); (case side4 => exact HC2.out); rintro e w12 ⟨v136, v139, rfl, ho0, ho1, hb⟩; refine ⟨_, rfl, ?_⟩; have HO137 := Aside0.mk (Kd.R_lower ho0 (below_size zB)); have HO140 := Aside0.mk (Kd.R_lower ho1 (below_size zB)); replace BK134 := zb BK134 hb; replace HB := zS HB hb; (try clear hb); (try clear ho0); (try clear ho1)))
  go_ret2
  exact ⟨zE, zB⟩
def superstable_calm.f (k : Nat) (a0_0 : Int) (l0_1 : List (S66)) (a1 : Int) (l2 : List Int) : Option (Bool) := (burning_Superstable.f k a0_0 l0_1 a1 l2).bind fun bt143 => (if bt143.1 = true then (some (bt143.2 == 0)) else (some false))
theorem superstable_calm.calls (k : Nat) (a0_0 : Int) (A0_1 : Option Addr) (c0_1 : Nat) (l0_1 : List (S66)) (a1 : Int) (A2 : Option Addr) (c2 : Nat) (l2 : List Int) (r : Bool) (w : World) (hr0_1 : Kd.C k66 w A0_1 l0_1.length l0_1) (hc0_1 : l0_1.length ≤ c0_1) (hr2 : Kd.C (Kd.int .i64) w A2 l2.length l2) (hc2 : l2.length ≤ c2) (h : superstable_calm.f k a0_0 l0_1 a1 l2 = some r) :
  Calls Try.prog 72 #[.agg #[.int .i64 a0_0, .slice A0_1 l0_1.length c0_1], .int .i64 a1, .slice A2 l2.length c2] w fun e w' => e = .returned (.bool r) ∧ Below w.heap.size w w' := by
 have hu24 := Try.underlying24
 have HR0_1 := Aside0.mk hr0_1
 have HC0_1 := Aside0.mk hc0_1
 clear hr0_1 hc0_1
 have HR2 := Aside0.mk hr2
 have HC2 := Aside0.mk hc2
 clear hr2 hc2
 have HB := Aside0.mk (Below.refl w.heap.size w)
 have H : ((burning_Superstable.f k a0_0 l0_1 a1 l2).bind fun bt143 => (if bt143.1 = true then (some (bt143.2 == 0)) else (some false))) = some r := h
 clear h
 replace H := Option.bind_eq_some_iff.mp H
 obtain ⟨⟨t143, t144⟩, A40, H⟩ := H
 replace H : (if t143 = true then (some (t144 == 0)) else (some false)) = some r := H
 have A4 := Aside0.mk A40
 clear A40
 by_cases c5 : t143 = true
 ·subst c5
  have H1 : (some (t144 == 0)) = some r := by rw [if_pos rfl] at H; exact H
  clear H
  have H := H1
  clear H1
  obtain rfl := Option.some.inj H
  go_enter Try.func72, Try.ntmps72
  go_wp2_with (first | ((with_reducible refine gate_dst (N := 3) rfl ?_); refine zX 3 #[.int .i64 a0_0, .slice A0_1 l0_1.length c0_1] 24 ?_; intro gb142 hg w6 hbox hb; have BK142 := Aside0.mk (hbox); have GW142 := zG HB hg; have GE142 := zG HB hg; replace HB := zS HB hb; clear hb hbox hg; obtain ⟨hcz7_0, hcz7_1, hfz7_0, hfz7_1⟩ := zD2 BK142) | ((with_reducible refine gate_callee (f := 35) rfl ?_); refine zL (some 13) Try.func35 #[.agg #[.int .i64 a0_0, .slice A0_1 l0_1.length c0_1], .int .i64 a1, .slice A2 l2.length c2] ?_; (with_reducible refine (burning_Superstable.calls k a0_0 _ _ l0_1 a1 _ _ l2 true t144 _ ?side1 ?side2 ?side3 ?side4 A4.out).mono ?_); (case side1 => exact Kd.C_below HR0_1.out zB); (case side2 => exact HC0_1.out); (case side3 => exact Kd.C_below HR2.out zB); (case side4 => exact HC2.out); rintro e w8 ⟨rfl, hb⟩; refine ⟨_, rfl, ?_⟩; replace BK142 := zb BK142 hb; replace HB := zS HB hb; (try clear hb)))
  go_ret
  exact ⟨zE, zB⟩
 ·replace c5 := Bool.eq_false_iff.mpr c5
  subst c5
  have H1 : (some false) = some r := by rw [if_neg (show ¬ (false = true) by decide)] at H; exact H
  clear H
  have H := H1
  clear H1
  obtain rfl := Option.some.inj H
  go_enter Try.func72, Try.ntmps72
  go_wp2_with (first | ((with_reducible refine gate_dst (N := 3) rfl ?_); refine zX 3 #[.int .i64 a0_0, .slice A0_1 l0_1.length c0_1] 24 ?_; intro gb142 hg w9 hbox hb; have BK142 := Aside0.mk (hbox); have GW142 := zG HB hg; have GE142 := zG HB hg; replace HB := zS HB hb; clear hb hbox hg; obtain ⟨hcz10_0, hcz10_1, hfz10_0, hfz10_1⟩ := zD2 BK142) | ((with_reducible refine gate_callee (f := 35) rfl ?_); refine zL (some 13) Try.func35 #[.agg #[.int .i64 a0_0, .slice A0_1 l0_1.length c0_1], .int .i64 a1, .slice A2 l2.length c2] ?_; (with_reducible refine (burning_Superstable.calls k a0_0 _ _ l0_1 a1 _ _ l2 false t144 _ ?side1 ?side2 ?side3 ?side4 A4.out).mono ?_); (case side1 => exact Kd.C_below HR0_1.out zB); (case side2 => exact HC0_1.out); (case side3 => exact Kd.C_below HR2.out zB); (case side4 => exact HC2.out); rintro e w11 ⟨rfl, hb⟩; refine ⟨_, rfl, ?_⟩; replace BK142 := zb BK142 hb; replace HB := zS HB hb; (try clear hb)))
  go_ret
  exact ⟨zE, zB⟩
section
attribute [local go_sem] Oper.semAt_some
def rndB {α : Type} (P : Nat → Bool) (F : Nat → List α) : Nat → Nat → List α
 | 0, _ => []
 | f + 1, x => if P x then F x ++ rndB P F f (x + 1) else []
theorem rndB_eq {α : Type} (P : Nat → Bool) (F : Nat → List α) : ∀ f x, rndB P F f x = ((List.range' x f).takeWhile P).flatMap F
 | 0, x => by simp [rndB]
 | f + 1, x => by
  rw [rndB, List.range'_succ, List.takeWhile_cons]
  cases P x with
  | true => simp [rndB_eq P F f (x + 1)]
  | false => simp
theorem outB_succ (q B : Nat) (calm : List Int → Bool) (k : Nat) (p : List Int) (h : p.length ≠ q) : outB q B calm (k + 1) p = rndB (fun (x : Nat) => calm (p ++ (x : Int) :: List.replicate k 0)) (fun (x : Nat) => outB q B calm k (p ++ [(x : Int)])) B 0 := by
 rw [outB, if_neg h, rndB_eq, List.range_eq_range']
def OkC (n q : Nat) (c : List Int) : Prop := c.length = n ∧ (∀ i : Nat, 0 ≤ rd c i ∧ rd c i ≤ 1000) ∧ rd c q = 0
structure CS (w0 : World) (n : Nat) (A0 : Option Addr) (c0 : Nat) (E : List S66) (q gx qx s l : Nat) (W : World) (c : List Int) : Prop where
 g : W.heap[gx]? = some (.cells #[.int .i64 n, .slice A0 E.length c0] 24 (0, 0))
 q : W.heap[qx]? = some (.cells #[.int .i64 q] 3 (0, 0))
 y : W.heap[s]? = some (.cells #[.func (.yield l) #[] #[]] 54 (0, 0))
 c : (Kd.int .i64).R 3 W w0.heap.size (fun k => k = s + 1) (.slice (some ⟨s + 1, 0, none⟩) n n) c
 cb : W.heap[s + 2]? = some (.cells #[.slice (some ⟨s + 1, 0, none⟩) n n] 42 (0, 0))
 f : W.heap[s + 3]? = some (.cells #[.func (.func 71) #[] #[.pointer (some ⟨gx, 0, none⟩), .pointer (some ⟨s, 0, none⟩), .pointer (some ⟨s + 2, 0, none⟩), .pointer (some ⟨qx, 0, none⟩), .pointer (some ⟨s + 3, 0, none⟩)]] 86 (0, 0))
 below : Below w0.heap.size w0 W
namespace CS
variable {w0 : World} {n : Nat} {A0 : Option Addr} {c0 : Nat} {E : List S66} {q gx qx s l : Nat} {W W' : World} {c : List Int}
theorem keep (h : CS w0 n A0 c0 E q gx qx s l W c) (hk : ∀ k, (k = gx ∨ k = qx ∨ s ≤ k ∧ k < s + 4) → W'.heap[k]? = W.heap[k]?) (hb : Below w0.heap.size w0 W') : CS w0 n A0 c0 E q gx qx s l W' c :=
 ⟨(hk gx (.inl rfl)).trans h.g, (hk qx (.inr (.inl rfl))).trans h.q, (hk s (.inr (.inr ⟨by omega, by omega⟩))).trans h.y, Kd.R_move h.c (fun k e => hk k (.inr (.inr (by subst e; omega)))), (hk (s + 2) (.inr (.inr ⟨by omega, by omega⟩))).trans h.cb, (hk (s + 3) (.inr (.inr ⟨by omega, by omega⟩))).trans h.f, hb⟩
theorem lt (h : CS w0 n A0 c0 E q gx qx s l W c) : s + 3 < W.heap.size ∧ gx < W.heap.size ∧ qx < W.heap.size := ⟨blk_lt h.f, blk_lt h.g, blk_lt h.q⟩
theorem stay (h : CS w0 n A0 c0 E q gx qx s l W c) (hb : Below W.heap.size W W') : CS w0 n A0 c0 E q gx qx s l W' c :=
 h.keep (fun k hk => hb.block k (by have := h.lt; rcases hk with rfl | rfl | hk <;> omega)) (h.below.trans (hb.mono h.below.size))
theorem size (h : CS w0 n A0 c0 E q gx qx s l W c) : w0.heap.size ≤ W.heap.size := h.below.size
end CS
def ArC (s : Nat) (x : List Int × Value) (A B : World) : Prop := A.grownBy B (some (s + 1)) ∧ (Kd.int .i64).R 3 B A.heap.size (fun _ => True) x.2 x.1 ∧ s + 4 ≤ A.heap.size
def KeepC (w0 : World) (gx qx s : Nat) (X Y : World) : Prop := (w0.heap.size ≤ X.heap.size → Below w0.heap.size X Y) ∧ ∀ k, (k = gx ∨ k = qx ∨ s ≤ k ∧ k < s + 4) → k < X.heap.size → Y.heap[k]? = X.heap[k]?
def endC (w0 : World) (B n : Nat) (A0 : Option Addr) (c0 : Nat) (E : List S66) (q gx qx s l : Nat) (calm : List Int → Bool) (J Jx : List (List Int × Value) → World → Prop) (kk : Nat) (p : List Int) (pre : List (List Int × Value)) (e : Ending) (W' : World) : Prop :=
 (∃ vs, e = .returned (.bool true) ∧ J (pre ++ vs) W' ∧ vs.map Prod.fst = outB q B calm kk p ∧ CS w0 n A0 c0 E q gx qx s l W' (p ++ List.replicate kk 0)) ∨ (e = .returned (.bool false) ∧ ∃ pre', Jx pre' W')
theorem endC_bool {e : Ending} {A B : Prop} (h : (e = .returned (.bool true) ∧ A) ∨ (e = .returned (.bool false) ∧ B)) : ∃ b : Bool, e = .returned (.bool b) ∧ Aside0 ((b = true ∧ A) ∨ (b = false ∧ B)) := by
 rcases h with ⟨h, ha⟩ | ⟨h, hb⟩
 ·exact ⟨true, h, ⟨.inl ⟨rfl, ha⟩⟩⟩
 ·exact ⟨false, h, ⟨.inr ⟨rfl, hb⟩⟩⟩
theorem endC_bool' {w0 : World} {B n : Nat} {A0 : Option Addr} {c0 : Nat} {E : List S66} {q gx qx s l : Nat} {calm : List Int → Bool} {J Jx : List (List Int × Value) → World → Prop} {kk : Nat} {p : List Int} {pre : List (List Int × Value)} {e : Ending} {W' : World} (h : endC w0 B n A0 c0 E q gx qx s l calm J Jx kk p pre e W') :
  ∃ b : Bool, e = .returned (.bool b) ∧ Aside0 ((b = true ∧ ∃ vs, J (pre ++ vs) W' ∧ vs.map Prod.fst = outB q B calm kk p ∧ CS w0 n A0 c0 E q gx qx s l W' (p ++ List.replicate kk 0)) ∨ (b = false ∧ ∃ pre', Jx pre' W')) := by
 rcases h with ⟨vs, h, ha⟩ | ⟨h, hb⟩
 ·exact ⟨true, h, ⟨.inl ⟨rfl, vs, ha⟩⟩⟩
 ·exact ⟨false, h, ⟨.inr ⟨rfl, hb⟩⟩⟩
theorem conf11_last {w0 : World} {B n : Nat} {A0 : Option Addr} {c0 : Nat} {E : List S66} {q gx qx s l : Nat} {calm : List Int → Bool} {J Jx : List (List Int × Value) → World → Prop} (hn : n ≤ 12)
  (hY : ∀ pre x A C, J pre A → ArC s x A C → pre.length < 16384 → YieldAt Fence.wide 8 Try.prog l #[x.2] C fun e W' => (e = .returned (.bool true) ∧ J (pre ++ [x]) W' ∧ KeepC w0 gx qx s C W') ∨ (e = .returned (.bool false) ∧ Jx (pre ++ [x]) W'))
  (p : List Int) (pre : List (List Int × Value)) (W : World) (hp : p.length = n) (hC : CS w0 n A0 c0 E q gx qx s l W p) (hJ : J pre W) (hlen : pre.length < 16384) :
  CallsIn Fence.wide 9 Try.prog 71 #[.int .i64 n, .pointer (some ⟨gx, 0, none⟩), .pointer (some ⟨s, 0, none⟩), .pointer (some ⟨s + 2, 0, none⟩), .pointer (some ⟨qx, 0, none⟩), .pointer (some ⟨s + 3, 0, none⟩)] W (endC w0 B n A0 c0 E q gx qx s l calm J Jx 0 p pre) := by
 have HY := Aside0.mk hY
 have HJ := Aside0.mk hJ
 have HC := Aside0.mk hC
 have hg0 : W.cell? ⟨gx, 0, none⟩ = some (.int .i64 n) := (blk_cell hC.g 0).trans rfl
 have hy0 : W.cell? ⟨s, 0, none⟩ = some (.func (.yield l) #[] #[]) := (blk_cell hC.y 0).trans rfl
 have hcb : W.cell? ⟨s + 2, 0, none⟩ = some (.slice (some ⟨s + 1, 0, none⟩) n n) := (blk_cell hC.cb 0).trans rfl
 have HP := Aside0.mk hp
 obtain ⟨-, -, hr⟩ := Kd.R_reads' hC.c
 have hw0 := hC.below.size
 have HCL := Aside0.mk (show CallsIn Fence.wide 8 Try.prog 36 #[.slice (some ⟨s + 1, 0, none⟩) n n] W.drew (fun e w' => ∃ v0_ : Value, e = .returned (v0_) ∧ Kd.R (Kd.int .i64) 3 w' W.heap.size (fun _ => True) v0_ p ∧ Below W.heap.size W w' ∧ Below W.heap.size W.drew w') from callsIn_wide.2 (by
  subst hp
  refine (api_Divisor_int_36.calls (some ⟨s + 1, 0, none⟩) p.length p p W.drew (Kd.C_drew hr) (Nat.le_refl _) (by unfold api_Divisor_int_36.f clone.f; rw [if_pos (by omega)])).mono ?_
  rintro e w' ⟨v, rfl, h1, h2⟩
  exact ⟨v, rfl, h1, (below_drew (Below.refl _ _)).trans h2, h2⟩))
 clear hY hJ hC hr hp
 refine callsIn_of_wp Try.func71 rfl trivial ?_ rfl
 simp only [Try.ntmps71, List.size_toArray, List.length_cons, List.length_nil, Nat.reduceAdd, Nat.reduceSub, Array.replicate_succ, Array.replicate_zero, List.push_toArray, List.append_toArray, List.nil_append, List.cons_append]
 gi_wp2
 gi_region_with (first | (refine ⟨trivial, ?_⟩; gi_at_call 36; refine HCL.out.mono ?_; rintro e w1 ⟨v, rfl, hr1, hb1, hb2⟩; have hy1 : w1.cell? ⟨s, 0, none⟩ = some (.func (.yield l) #[] #[]) := (blk_cell (blk_below HC.out.y hb1) 0).trans rfl; have HC1 := Aside0.mk (HC.out.stay hb1); obtain ⟨fn, tmps, asg, bdy, hy, hRo⟩ := HY.out pre (p, v) W w1 HJ.out ⟨grown_of_below hb1 _, hr1, HC.out.lt.1⟩ hlen; have HRo := Aside0.mk hRo; clear hRo hr1 hb1 hb2) | (refine HRo.out.mono ?_; rintro e w3 h3; obtain ⟨b, rfl, H3⟩ := endC_bool h3; clear h3))
 all_goals gi_wp2
 all_goals go_ret
 all_goals
  rcases H3.out with ⟨rfl, h3, h4⟩ | ⟨rfl, h3⟩
  ·exact .inl ⟨[(p, v)], rfl, h3, rfl, by simpa using HC1.out.keep (fun k hk => h4.2 k hk (by have := HC1.out.lt; rcases hk with rfl | rfl | hk <;> omega)) (HC1.out.below.trans (h4.1 HC1.out.size))⟩
  ·exact .inr ⟨rfl, _, h3⟩
theorem okC_put {n q kk : Nat} {p : List Int} {x : Nat} (h : OkC n q (p ++ List.replicate (kk + 1) 0)) (hq : p.length ≠ q) (hx : x ≤ 1000) : OkC n q (p ++ (x : Int) :: List.replicate kk 0) := by
 have e : p ++ (x : Int) :: List.replicate kk 0 = (p ++ List.replicate (kk + 1) 0).set p.length x := by
  rw [List.replicate_succ, List.set_append_right _ _ (Nat.le_refl _), Nat.sub_self]; rfl
 rw [e]
 refine ⟨by rw [List.length_set]; exact h.1, fun i => ?_, ?_⟩
 ·have hi := h.2.1 i
  simp only [rd, Int.toNat_natCast, List.getD_eq_getElem?_getD, List.getElem?_set] at hi ⊢
  split
  ·split <;> simp <;> omega
  ·exact hi
 ·have hi := h.2.2
  simp only [rd, Int.toNat_natCast, List.getD_eq_getElem?_getD, List.getElem?_set] at hi ⊢
  rw [if_neg hq]; exact hi
theorem CS.set {w0 : World} {n : Nat} {A0 : Option Addr} {c0 : Nat} {E : List S66} {q gx qx s l : Nat} {W : World} {p : List Int} {kk : Nat} {x : Int} (h : CS w0 n A0 c0 E q gx qx s l W (p ++ x :: List.replicate kk 0)) (hgs : gx < s) (hqs : qx < s) (hs : w0.heap.size ≤ s) (y : Int) :
  CS w0 n A0 c0 E q gx qx s l (W.setCell ⟨s + 1, p.length, none⟩ (.int .i64 y)) (p ++ y :: List.replicate kk 0) ∧ W.grownBy (W.setCell ⟨s + 1, p.length, none⟩ (.int .i64 y)) (some (s + 1)) := by
 have hp := Kd.R_putg h.c (p.length : Int) y
 rw [Int.toNat_natCast] at hp
 have far : ∀ k, k ≠ s + 1 → (W.setCell ⟨s + 1, p.length, none⟩ (.int .i64 y)).heap[k]? = W.heap[k]? := fun k hk => Below.heap_setCell _ _ _ _ (by simpa using hk)
 refine ⟨⟨(far gx (by omega)).trans h.g, (far qx (by omega)).trans h.q, (far s (by omega)).trans h.y, ?_, (far (s + 2) (by omega)).trans h.cb, (far (s + 3) (by omega)).trans h.f, h.below.setCell (by show w0.heap.size ≤ s + 1; omega) _⟩, hp.2⟩
 have e : (p ++ x :: List.replicate kk 0).set p.length y = p ++ y :: List.replicate kk 0 := by
  rw [List.set_append_right _ _ (Nat.le_refl _), Nat.sub_self]; rfl
 rw [← e]
 exact hp.1
theorem CS.cell {w0 : World} {n : Nat} {A0 : Option Addr} {c0 : Nat} {E : List S66} {q gx qx s l : Nat} {W : World} {p : List Int} {kk : Nat} {x : Int} (h : CS w0 n A0 c0 E q gx qx s l W (p ++ x :: List.replicate kk 0)) (hn : p.length < n) :
  W.cell? ⟨s + 1, p.length, none⟩ = some (.int .i64 x) ∧ W.frozen? ⟨s + 1, p.length, none⟩ = false := by
 obtain ⟨h1, h2⟩ := Kd.R_celln (0 : Int) h.c (p.length : Int) (by omega) (by omega)
 rw [Int.toNat_natCast] at h1 h2
 refine ⟨?_, h2⟩
 rw [h1]
 simp [rdOf, List.getD_eq_getElem?_getD]
theorem calm_calls' (k m : Nat) (a0_0 : Int) (A0_1 : Option Addr) (c0_1 : Nat) (l0_1 : List (S66)) (a1 : Int) (A2 : Option Addr) (c2 : Nat) (l2 : List Int) (r : Bool) (w : World) (hr0_1 : Kd.C k66 w A0_1 l0_1.length l0_1) (hc0_1 : l0_1.length ≤ c0_1) (hl : l2.length = m) (hr2 : Kd.C (Kd.int .i64) w A2 m l2) (hc2 : m ≤ c2) (h : superstable_calm.f k a0_0 l0_1 a1 l2 = some r) :
  Calls Try.prog 72 #[.agg #[.int .i64 a0_0, .slice A0_1 l0_1.length c0_1], .int .i64 a1, .slice A2 m c2] w fun e w' => e = .returned (.bool r) ∧ Below w.heap.size w w' := by
 subst hl
 exact superstable_calm.calls k a0_0 A0_1 c0_1 l0_1 a1 A2 c2 l2 r w hr0_1 hc0_1 hr2 hc2 h
theorem conf11_calls {w0 : World} {B K n : Nat} {A0 : Option Addr} {c0 : Nat} {E : List S66} {q gx qx s l : Nat} {calm : List Int → Bool} {J Jx : List (List Int × Value) → World → Prop} (hn : n ≤ 12) (hr0 : Kd.C k66 w0 A0 E.length E) (hc0 : E.length ≤ c0) (hgs : gx < s) (hqs : qx < s) (hs : w0.heap.size ≤ s)
  (hcalm : ∀ c, OkC n q c → superstable_calm.f K n E q c = some (calm c)) (hsmall : ∀ (p : List Int) (x kk : Nat), calm (p ++ (x : Int) :: List.replicate kk 0) = true → p.length + 1 + kk = n → p.length ≠ q → x + 1 < B) (hB : B ≤ 1000) (hB0 : 0 < B)
  (hJs : ∀ pre A C, J pre A → A.grownBy C (some (s + 1)) → J pre C)
  (hY : ∀ pre x A C, J pre A → ArC s x A C → pre.length < 16384 → YieldAt Fence.wide 8 Try.prog l #[x.2] C fun e W' => (e = .returned (.bool true) ∧ J (pre ++ [x]) W' ∧ KeepC w0 gx qx s C W') ∨ (e = .returned (.bool false) ∧ Jx (pre ++ [x]) W')) :
  ∀ (kk v : Nat) (p : List Int) (pre : List (List Int × Value)) (W : World), p.length = v → v + kk = n → CS w0 n A0 c0 E q gx qx s l W (p ++ List.replicate kk 0) → OkC n q (p ++ List.replicate kk 0) → J pre W → pre.length + (outB q B calm kk p).length ≤ 16384 →
  CallsIn Fence.wide 9 Try.prog 71 #[.int .i64 v, .pointer (some ⟨gx, 0, none⟩), .pointer (some ⟨s, 0, none⟩), .pointer (some ⟨s + 2, 0, none⟩), .pointer (some ⟨qx, 0, none⟩), .pointer (some ⟨s + 3, 0, none⟩)] W (endC w0 B n A0 c0 E q gx qx s l calm J Jx kk p pre) := by
 intro kk
 induction kk with
 | zero =>
  intro v p pre W hp hv hC hO hJ hlen
  obtain rfl : v = n := by omega
  exact conf11_last hn hY p pre W hp (by simpa using hC) hJ (by simp [outB] at hlen; omega)
 | succ kk ih =>
  intro v p pre W hp hv hC hO hJ hlen
  have hg0 : W.cell? ⟨gx, 0, none⟩ = some (.int .i64 n) := (blk_cell hC.g 0).trans rfl
  have hq0 : W.cell? ⟨qx, 0, none⟩ = some (.int .i64 q) := (blk_cell hC.q 0).trans rfl
  have hf0 : W.cell? ⟨s + 3, 0, none⟩ = some (.func (.func 71) #[] #[.pointer (some ⟨gx, 0, none⟩), .pointer (some ⟨s, 0, none⟩), .pointer (some ⟨s + 2, 0, none⟩), .pointer (some ⟨qx, 0, none⟩), .pointer (some ⟨s + 3, 0, none⟩)]) := (blk_cell hC.f 0).trans rfl
  have hvn : ((v : Int) == (n : Int)) = false := by simp; omega
  have hu := Try.underlying24
  have HIH := Aside0.mk ih
  have HC := Aside0.mk hC
  have HO := Aside0.mk hO
  have HJ := Aside0.mk hJ
  have HL := Aside0.mk hlen
  have HP := Aside0.mk hp
  have HJS := Aside0.mk hJs
  have HCA := Aside0.mk hcalm
  have HSM := Aside0.mk hsmall
  have hv12 : v < 12 := by omega
  clear ih hC hO hJ hlen hY hJs hcalm hsmall hp
  refine callsIn_of_wp Try.func71 rfl trivial ?_ rfl
  simp only [Try.ntmps71, List.size_toArray, List.length_cons, List.length_nil, Nat.reduceAdd, Nat.reduceSub, Array.replicate_succ, Array.replicate_zero, List.push_toArray, List.append_toArray, List.nil_append, List.cons_append]
  by_cases hq : v = q
  ·have hIH := HIH.out (v + 1) (p ++ [0]) pre W (by simp [HP.out]) (by omega) (by rw [List.append_assoc]; exact HC.out) (by rw [List.append_assoc]; exact HO.out) HJ.out (by have h := HL.out; rw [outB, if_pos (by rw [HP.out]; exact hq)] at h; exact h)
   rw [Int.natCast_add, Int.natCast_one] at hIH
   have HI := Aside0.mk ((callsIn_wide (n := 8)).2 (callsIn_wide.1 hIH))
   clear hIH
   have HQ := Aside0.mk hq
   clear hq
   have hqb : ((v : Int) == (q : Int)) = true := by simp [HQ.out]
   gi_wp2_with (refine ⟨trivial, ?_⟩; gi_at_call 71; refine HI.out.mono ?_; rintro e w3 h3; obtain ⟨b, rfl, H3⟩ := endC_bool' h3; clear h3)
   go_ret
   rcases H3.out with ⟨rfl, vs, h3, h4, h5⟩ | ⟨rfl, h3⟩
   ·exact .inl ⟨vs, rfl, h3, by rw [outB, if_pos (by rw [HP.out]; exact HQ.out)]; exact h4, by rw [List.append_assoc] at h5; exact h5⟩
   ·exact .inr ⟨rfl, h3⟩
  ·have hvq : ((v : Int) == (q : Int)) = false := by simp; omega
   have HQ := Aside0.mk (show p.length ≠ q by rw [HP.out]; exact hq)
   have HOB := Aside0.mk (outB_succ q B calm kk p HQ.out)
   clear hq
   gi_wp2
   clear hg0 hq0 hf0 hvn hvq
   gi_loopg [] (B) (fun kq wr => ∃ (x : Nat) (vs : List (List Int × Value)), x < B ∧ Aside0 (J (pre ++ vs) wr) ∧ Aside0 (CS w0 n A0 c0 E q gx qx s l wr (p ++ (x : Int) :: List.replicate kk 0)) ∧ Aside0 (outB q B calm (kk + 1) p = vs.map Prod.fst ++ rndB (fun (x : Nat) => calm (p ++ (x : Int) :: List.replicate kk 0)) (fun (x : Nat) => outB q B calm kk (p ++ [(x : Int)])) (B - x) x) ∧ Aside0 (kq = B - x))
   case atStart => exact ⟨0, [], hB0, ⟨by simpa using HJ.out⟩, HC, ⟨by rw [HOB.out]; rfl⟩, ⟨rfl⟩⟩
   case round =>
    clear HJ HC
    obtain ⟨x, vs, hx, HJ, HC, HT, HK⟩ := hrel
    have HOK := Aside0.mk (okC_put (x := x) HO.out HQ.out (by omega))
    obtain ⟨-, -, hr⟩ := Kd.R_reads' HC.out.c
    rw [HOK.out.1] at hr
    have HCM := Aside0.mk ((callsIn_wide (n := 8)).2 (calm_calls' K n n A0 c0 E q (some ⟨s + 1, 0, none⟩) n _ _ wr (Kd.C_below hr0 HC.out.below) hc0 HOK.out.1 hr (Nat.le_refl _) (HCA.out _ HOK.out)))
    have HTs := Aside0.mk (show rndB (fun (x : Nat) => calm (p ++ (x : Int) :: List.replicate kk 0)) (fun (x : Nat) => outB q B calm kk (p ++ [(x : Int)])) (B - x) x = if calm (p ++ (x : Int) :: List.replicate kk 0) = true then outB q B calm kk (p ++ [(x : Int)]) ++ rndB (fun (x : Nat) => calm (p ++ (x : Int) :: List.replicate kk 0)) (fun (x : Nat) => outB q B calm kk (p ++ [(x : Int)])) (B - (x + 1)) (x + 1) else [] from by rw [show B - x = (B - (x + 1)) + 1 by omega]; rfl)
    have hg0 : wr.cell? ⟨gx, 0, none⟩ = some (.int .i64 n) := (blk_cell HC.out.g 0).trans rfl
    have hg1 : wr.cell? ⟨gx, 1, none⟩ = some (.slice A0 E.length c0) := (blk_cell HC.out.g 1).trans rfl
    have hq0 : wr.cell? ⟨qx, 0, none⟩ = some (.int .i64 q) := (blk_cell HC.out.q 0).trans rfl
    have hcb : wr.cell? ⟨s + 2, 0, none⟩ = some (.slice (some ⟨s + 1, 0, none⟩) n n) := (blk_cell HC.out.cb 0).trans rfl
    have hv0 : (0 : Int) ≤ (v : Int) := by omega
    have hv1 : (v : Int) < (n : Int) := by omega
    clear hr
    cases hb : calm (p ++ (x : Int) :: List.replicate kk 0) with
    | false =>
     rw [hb] at HCM
     have HT2 := Aside0.mk (show outB q B calm (kk + 1) p = vs.map Prod.fst from by rw [HT.out, HTs.out, if_neg (by rw [hb]; decide), List.append_nil])
     clear hb
     gi_wp2_with (refine ⟨trivial, ?_⟩; gi_at_call 72; refine HCM.out.mono ?_; rintro e w1 ⟨rfl, hb1⟩; have HC1 := Aside0.mk (HC.out.stay hb1); have q1 : w1.cell? ⟨s + 2, 0, none⟩ = some (.slice (some ⟨s + 1, 0, none⟩) n n) := (blk_cell HC1.out.cb 0).trans rfl; have hcl := HC1.out.cell (by rw [HP.out]; omega); rw [HP.out] at hcl; obtain ⟨q2, q3⟩ := hcl; have HB1 := Aside0.mk hb1; clear hb1)
     go_ret
     have hst := HC1.out.set hgs hqs hs 0
     rw [HP.out] at hst
     exact .inl ⟨vs, rfl, HJS.out _ _ _ HJ.out (World.grownBy.trans (grown_of_below HB1.out _) hst.2), HT2.out.symm, hst.1⟩
    | true =>
     rw [hb] at HCM
     have HX := Aside0.mk (HSM.out p x kk hb (by rw [HP.out]; omega) HQ.out)
     have HT2 := Aside0.mk (show outB q B calm (kk + 1) p = vs.map Prod.fst ++ (outB q B calm kk (p ++ [(x : Int)]) ++ rndB (fun (x : Nat) => calm (p ++ (x : Int) :: List.replicate kk 0)) (fun (x : Nat) => outB q B calm kk (p ++ [(x : Int)])) (B - (x + 1)) (x + 1)) from by rw [HT.out, HTs.out, if_pos hb])
     have HLE := Aside0.mk (show (pre ++ vs).length + (outB q B calm kk (p ++ [(x : Int)])).length ≤ 16384 from by have h1 := HL.out; rw [HT2.out] at h1; simp only [List.length_append, List.length_map] at h1 ⊢; omega)
     clear hb
     gi_wp2_with (refine ⟨trivial, ?_⟩; gi_at_call 72; refine HCM.out.mono ?_; rintro e w1 ⟨rfl, hb1⟩; have HC1 := Aside0.mk (HC.out.stay hb1); have q1 : w1.cell? ⟨s + 3, 0, none⟩ = some (.func (.func 71) #[] #[.pointer (some ⟨gx, 0, none⟩), .pointer (some ⟨s, 0, none⟩), .pointer (some ⟨s + 2, 0, none⟩), .pointer (some ⟨qx, 0, none⟩), .pointer (some ⟨s + 3, 0, none⟩)]) := (blk_cell HC1.out.f 0).trans rfl; have hIH := HIH.out (v + 1) (p ++ [(x : Int)]) (pre ++ vs) w1 (by simp [HP.out]) (by omega) (by rw [List.append_assoc]; exact HC1.out) (by rw [List.append_assoc]; exact HOK.out) (HJS.out _ _ _ HJ.out (grown_of_below hb1 _)) HLE.out; rw [Int.natCast_add, Int.natCast_one] at hIH; have HI := Aside0.mk ((callsIn_wide (n := 8)).2 (callsIn_wide.1 hIH)); clear hb1 hIH)
     refine ⟨trivial, ?_⟩
     refine HI.out.mono ?_
     rintro e w3 (⟨vs', rfl, h3, h4, h5⟩ | ⟨rfl, pre', h3⟩)
     ·rw [List.append_assoc] at h5
      have HC3 := Aside0.mk (show CS w0 n A0 c0 E q gx qx s l w3 (p ++ (x : Int) :: List.replicate kk 0) from h5)
      have HJ3 := Aside0.mk h3
      have H4 := Aside0.mk h4
      clear h3 h4 h5 q1 hg0 hg1 hq0 hcb
      have q1 : w3.cell? ⟨s + 2, 0, none⟩ = some (.slice (some ⟨s + 1, 0, none⟩) n n) := (blk_cell HC3.out.cb 0).trans rfl
      have hcl := HC3.out.cell (by rw [HP.out]; omega)
      have hst := HC3.out.set hgs hqs hs ((x : Int) + 1)
      rw [HP.out] at hcl hst
      obtain ⟨q2, q3⟩ := hcl
      have HC4 := Aside0.mk hst.1
      have HJ4 := Aside0.mk (HJS.out _ _ _ HJ3.out hst.2)
      clear hst
      have hx1000 : (x : Int) ≤ 1000 := by omega
      gi_wp2
      gi_roundg (B - (x + 1))
      case measure => rw [HK.out]; omega
      case rel => exact ⟨x + 1, vs ++ vs', HX.out, ⟨by rw [← List.append_assoc]; exact HJ4.out⟩, HC4, ⟨by rw [HT2.out, List.map_append, H4.out, List.append_assoc]⟩, ⟨rfl⟩⟩
     ·have H3 := Aside0.mk h3
      clear h3 q1 hg0 hg1 hq0 hcb
      gi_wp2
      go_ret
      exact .inr ⟨rfl, pre', H3.out⟩
end
section
attribute [local go_sem] Oper.semAt_some
theorem conf1_seq {w0 : World} {B K n : Nat} {A0 : Option Addr} {c0 : Nat} {E : List S66} {q gx qx : Nat} {calm : List Int → Bool} (W : World) (S0 : Nat) (hS : W.heap.size = S0) (hn : n ≤ 12) (hr0 : Kd.C k66 w0 A0 E.length E) (hc0 : E.length ≤ c0)
  (hcalm : ∀ c, OkC n q c → superstable_calm.f K n E q c = some (calm c)) (hsmall : ∀ (p : List Int) (x kk : Nat), calm (p ++ (x : Int) :: List.replicate kk 0) = true → p.length + 1 + kk = n → p.length ≠ q → x + 1 < B) (hB : B ≤ 1000) (hB0 : 0 < B)
  (htot : (outB q B calm n []).length ≤ 16384)
  (hg : W.heap[gx]? = some (.cells #[.int .i64 n, .slice A0 E.length c0] 24 (0, 0))) (hq : W.heap[qx]? = some (.cells #[.int .i64 q] 3 (0, 0))) (hw : Below w0.heap.size w0 W) :
  SeqSt (σ := Unit) Fence.wide 9 Try.prog 70 #[.pointer (some ⟨gx, 0, none⟩), .pointer (some ⟨qx, 0, none⟩)] (fun x : List Int × Value => #[x.2]) (fun _ W W1 => W1 = W) (fun _ A C => A.grownBy C (some (S0 + 1))) (fun _ x A C => ArC S0 x A C)
   (fun _ X Y => KeepC w0 gx qx S0 X Y) (fun _ xs W' => xs.map Prod.fst = outB q B calm n []) (fun _ _ _ => True) (fun pre => pre.length < 16384) W := by
 intro lp J Jx hJs0 hJxs0 hJ00 hY0
 subst hS
 have hJ0 := hJ00 () W rfl
 have HREC := Aside0.mk (fun W' h1 h2 h3 => conf11_calls (w0 := w0) (B := B) (K := K) (s := W.heap.size) (l := lp) (J := J ()) (Jx := Jx ()) hn hr0 hc0 (blk_lt hg) (blk_lt hq) hw.size hcalm hsmall hB hB0 (fun pre A C h hA => hJs0 _ _ _ _ h hA) (fun pre x A C h1 h2 h3 => hY0 _ _ _ _ _ h1 h2 h3) n 0 [] [] W' rfl (by omega) h1 h2 h3 (by simpa using htot))
 have HJS := Aside0.mk hJs0
 have HJ0 := Aside0.mk hJ0
 obtain ⟨zs, hmk, hzr⟩ := made_ints 42 Try.underlying42 n (by omega)
 have HZ := Aside0.mk hzr
 have HG := Aside0.mk hg
 have HQ := Aside0.mk hq
 have HW := Aside0.mk hw
 have hg1 : (W.alloc (.cells #[.func (.yield lp) #[] #[]] 54)).cell? ⟨gx, 0, none⟩ = some (.int .i64 n) := (blk_cell (blk_alloc hg _) 0).trans rfl
 have HOK := Aside0.mk (show OkC n q (List.replicate n 0) from ⟨by simp, fun i => by simp [rd, List.getD_eq_getElem?_getD, List.getElem?_replicate]; split <;> simp, by simp [rd, List.getD_eq_getElem?_getD, List.getElem?_replicate]; split <;> simp⟩)
 have hgw := blk_lt HG.out
 have hqw := blk_lt HQ.out
 have hws := HW.out.size
 obtain ⟨oy, hoy⟩ : ∃ o : Obj, o = .cells #[.func (.yield lp) #[] #[]] 54 := ⟨_, rfl⟩
 obtain ⟨oz, hoz⟩ : ∃ o : Obj, o = .cells zs 3 := ⟨_, rfl⟩
 obtain ⟨oc, hoc⟩ : ∃ o : Obj, o = .cells #[.slice (some ⟨W.heap.size + 1, 0, none⟩) n n] 42 := ⟨_, rfl⟩
 obtain ⟨fo, hfo⟩ : ∃ o : Obj, o = .cells #[.func (.func 71) #[] #[.pointer (some ⟨gx, 0, none⟩), .pointer (some ⟨W.heap.size, 0, none⟩), .pointer (some ⟨W.heap.size + 1 + 1, 0, none⟩), .pointer (some ⟨qx, 0, none⟩), .pointer (some ⟨W.heap.size + 1 + 1 + 1, 0, none⟩)]] 86 := ⟨_, rfl⟩
 have HB4 := Aside0.mk (below_alloc (below_alloc (below_alloc (below_alloc (Below.refl W.heap.size W) oy) oz) oc) fo)
 have E0 := Aside0.mk (show ((((W.alloc oy).alloc oz).alloc oc).alloc fo).heap[W.heap.size]? = some oy from by rw [Below.heap_alloc _ _ _ (by simp; omega), Below.heap_alloc _ _ _ (by simp; omega), Below.heap_alloc _ _ _ (by simp)]; exact heap_alloc_new W oy)
 have hz1 := HZ.out (W.alloc oy) (fun k => k = W.heap.size + 1) (by simp)
 rw [World.size_alloc, ← hoz] at hz1
 have E1 := Aside0.mk (Kd.R_alloc (Kd.R_alloc (Kd.R_lower hz1 (show w0.heap.size ≤ W.heap.size + 1 by omega)) oc) fo)
 have E2 := Aside0.mk (show ((((W.alloc oy).alloc oz).alloc oc).alloc fo).heap[W.heap.size + 2]? = some oc from by rw [Below.heap_alloc _ _ _ (by simp)]; have h := heap_alloc_new ((W.alloc oy).alloc oz) oc; simpa using h)
 have E3 := Aside0.mk (show ((((W.alloc oy).alloc oz).alloc oc).alloc fo).heap[W.heap.size + 3]? = some fo from by have h := heap_alloc_new (((W.alloc oy).alloc oz).alloc oc) fo; simpa using h)
 have HCS : Aside0 (CS w0 n A0 c0 E q gx qx W.heap.size lp ((((W.alloc oy).alloc oz).alloc oc).alloc fo) (List.replicate n 0)) :=
  ⟨⟨(HB4.out.block gx hgw).trans HG.out, (HB4.out.block qx hqw).trans HQ.out, E0.out.trans (by rw [hoy]), E1.out, E2.out.trans (by rw [hoc]), E3.out.trans (by rw [hfo]), HW.out.trans (HB4.out.mono hws)⟩⟩
 have HJ4 : Aside0 (J () [] ((((W.alloc oy).alloc oz).alloc oc).alloc fo)) := ⟨HJS.out _ _ _ _ HJ0.out (grown_of_below HB4.out _)⟩
 have HCALL := Aside0.mk ((callsIn_wide (n := 8)).2 (callsIn_wide.1 (HREC.out _ (by simpa using HCS.out) (by simpa using HOK.out) HJ4.out)))
 subst hoy hoz hoc hfo
 clear hJs0 hJxs0 hJ00 hY0 hJ0 hcalm hsmall htot hzr hg hq hw hz1
 refine callsIn_of_wp Try.func70 rfl trivial ?_ rfl
 simp only [Try.ntmps70, List.size_toArray, List.length_cons, List.length_nil, Nat.reduceAdd, Nat.reduceSub, Array.replicate_succ, Array.replicate_zero, List.push_toArray, List.append_toArray, List.nil_append, List.cons_append]
 gi_wp2
 refine ⟨trivial, ?_⟩
 refine HCALL.out.mono ?_
 rintro e w3 (⟨vs, rfl, h3, h4, h5⟩ | ⟨rfl, pre', h3⟩)
 ·have H3 := Aside0.mk h3
  have H4 := Aside0.mk h4
  clear h3 h4 h5 hmk
  gi_wp2
  go_end0
  exact ⟨⟨_, rfl⟩, .inl ⟨_, vs, H4.out, H3.out⟩⟩
 ·have H3 := Aside0.mk h3
  clear h3 hmk
  gi_wp2
  go_end0
  exact ⟨⟨_, rfl⟩, .inr ⟨_, pre', trivial, H3.out⟩⟩
end
theorem leO_add {α : Type} {f : Nat → Option α} (h : ∀ k, LeO (f k) (f (k + 1))) {k : Nat} {r : α} (hk : f k = some r) : ∀ m, f (k + m) = some r
 | 0 => hk
 | m + 1 => h _ _ (leO_add h hk m)
theorem wrap_nat {i : Nat} (h : i ≤ 1000) : wrap64 ((i : Int) + 1) = ((i + 1 : Nat) : Int) := by
 rw [show wrap64 ((i : Int) + 1) = (i : Int) + 1 from by unfold wrap64; omega]
 omega
theorem within_ok {x : Int} (h : -1048576 ≤ x ∧ x ≤ 1048576) : chips_within.f x = some true := by
 unfold chips_within.f
 rw [if_pos (show x ≥ -1048576 from h.1)]
 simp [h.2]
theorem chips_l0 (c : List Int) (hc : c.length ≤ 12) (h : ∀ i : Nat, -1048576 ≤ rd c i ∧ rd c i ≤ 1048576) : ∀ (m K i : Nat), i + m = c.length → m < K → chips_Check.l0 K c c.length i = some 0
 | 0, 0, i, _, hK => by omega
 | 0, K + 1, i, hi, _ => by
  rw [chips_Check.l0, if_neg (by omega)]
 | m + 1, 0, i, _, hK => by omega
 | m + 1, K + 1, i, hi, hK => by
  rw [chips_Check.l0, if_pos (by omega), if_pos (by omega), if_pos (by omega), within_ok (h i), Option.bind_some, if_pos rfl, wrap_nat (by omega)]
  exact chips_l0 c hc h m K (i + 1) (by omega) (by omega)
theorem st_l0 (q : Int) (c : List Int) (hc : c.length ≤ 12) (h : ∀ i : Nat, 0 ≤ rd c i) : ∀ (m K i : Nat), i + m = c.length → m < K → stabilize_Check.l0 K q c c.length i = some 0
 | 0, 0, i, _, hK => by omega
 | 0, K + 1, i, hi, _ => by
  rw [stabilize_Check.l0, if_neg (by omega)]
 | m + 1, 0, i, _, hK => by omega
 | m + 1, K + 1, i, hi, hK => by
  have hi0 := h i
  rw [stabilize_Check.l0, if_pos (by omega), if_pos (by omega), if_pos (by omega), if_neg (show ¬ rd c i < 0 by omega), wrap_nat (by omega), st_l0 q c hc h m K (i + 1) (by omega) (by omega)]
  split <;> rfl
theorem burnt_all (b : Nat → Bool) : ∀ n, (unbTo b n).length = 0 ↔ (List.range n).all b = true
 | 0 => by simp [unbTo]
 | n + 1 => by
  have ih := burnt_all b n
  rw [List.range_succ, List.all_append]
  simp only [unbTo]
  cases hb : b n with
  | true => simp [hb] at ih ⊢; exact ih
  | false => simp [hb]
theorem check_ok {k n : Nat} {E : List S66} {q : Nat} {c : List Int} (hr : stabilize_rooted.f k n E q = some 0) (hc : OkC n q c) : stabilize_Check.f (k + 20) n E q c = some 0 := by
 obtain ⟨_, ⟨_, hn⟩, _, hq0, hqn⟩ := rooted_zero hr
 have hl := hc.1
 have h1 := leO_add (fun k => stabilize_rooted.mono n E q k) hr 20
 have h2 : chips_Check.f (k + 20) c n = some 0 := by
  unfold chips_Check.f chips_vertices.f
  rw [if_neg (by omega), if_neg (by omega), Option.bind_some, if_pos rfl, if_pos (by omega)]
  exact chips_l0 c (by omega) (fun i => by have := hc.2.1 i; omega) c.length (k + 20) 0 (by omega) (by omega)
 unfold stabilize_Check.f
 rw [h1, Option.bind_some, if_pos rfl, h2, Option.bind_some, if_pos rfl]
 exact st_l0 q c (by omega) (fun i => (hc.2.1 i).1) c.length (k + 20) 0 (by omega) (by omega)
theorem bcheck_ok {k n : Nat} {E : List S66} {q : Nat} {c : List Int} (hr : stabilize_rooted.f k n E q = some 0) (hc : OkC n q c) : burning_check.f (k + 20) n E q c = some 0 := by
 obtain ⟨_, ⟨_, hn⟩, _, hq0, hqn⟩ := rooted_zero hr
 have hl := hc.1
 unfold burning_check.f
 rw [check_ok hr hc, Option.bind_some, if_pos rfl, if_pos hq0, if_pos (by omega), if_pos hc.2.2]
theorem superstable_ok {k n : Nat} {E : List S66} {q : Nat} {c : List Int} (hr : stabilize_rooted.f k n E q = some 0) (hE : edgesInB n E = true) (hc : OkC n q c) : burning_Superstable.f (k + 20) n E q c = some (superB n (timesOf E) q c, 0) := by
 obtain ⟨_, ⟨_, hn⟩, _, hq0, hqn⟩ := rooted_zero hr
 have hl := hc.1
 unfold burning_Superstable.f burning_Burn.f
 rw [bcheck_ok hr hc, Option.bind_some, if_pos rfl, if_pos (by simp only [rightConf, Bool.and_eq_true, decide_eq_true_eq]; exact ⟨by omega, hE⟩), Option.bind_some, if_pos rfl]
 congr 2
 rw [Int.toNat_natCast, Int.toNat_natCast]
 have h := burnt_all (burnAll (sinkOnly q) (fireOf n E q c)) n
 rw [Bool.eq_iff_iff]
 unfold superB
 rw [show fireList n (catchB n (timesOf E) c) (sinkOnly q) = fireOf n E q c from rfl, ← h]
 simp
theorem calm_ok {k n : Nat} {E : List S66} {q : Nat} {c : List Int} (hr : stabilize_rooted.f k n E q = some 0) (hE : edgesInB n E = true) (hc : OkC n q c) : superstable_calm.f (k + 20) n E q c = some (superB n (timesOf E) q c) := by
 unfold superstable_calm.f
 rw [superstable_ok hr hE hc, Option.bind_some]
 cases superB n (timesOf E) q c <;> simp
theorem flamesTo_le {t : Nat → Nat → Int} (ht : ∀ i j, 0 ≤ t i j ∧ t i j ≤ 50) (b : Nat → Bool) (v : Nat) (n : Nat) (hn : n ≤ 12) : flamesTo t b v n ≤ 600 := by
 have := (flamesTo_bound (burnt := b) ht v n).2
 omega
theorem superB_small {n : Nat} {E : List S66} {q : Nat} (hE : edgesInB n E = true) (hn : n ≤ 12) {l : List Int} {v : Nat} (hv : v < n) (hq : v ≠ q) (h : superB n (timesOf E) q l = true) : rd l v < valOf n (timesOf E) v ∧ valOf n (timesOf E) v ≤ 600 := by
 have ht := (edgesIn_of hE).times
 exact ⟨((superB_iff (fun i j => (ht i j).1) q l).1 h).lt hv hq, flamesTo_le ht _ v n hn⟩
end Go.Proofs.Ytffdiakgjakngaa.P
