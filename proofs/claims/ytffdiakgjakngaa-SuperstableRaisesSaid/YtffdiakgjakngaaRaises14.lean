/- A part of the proof that SuperstableRaises answers true (text 14 of 15): own walks and plain laws; no conditions. -/
import Derived.Test.YtffdiakgjakngaaRaises13
namespace Go.Proofs.Ytffdiakgjakngaa.P
open Go.RowKit Go.Proofs.YtffdiakgjakngaaW.PrintWords Go.Proofs.YtffdiakgjakngaaW.PrintLast Go.Proofs.YtffdiakgjakngaaW.PrintMore
set_option linter.unusedVariables false
set_option linter.unusedSimpArgs false
set_option maxHeartbeats 8000000
set_option maxRecDepth 100000
section
set_option maxRecDepth 100000
theorem awake28_true : awake28.f 60 = some true := by kernel_rfl
def sandpilelaw28_awake.f : Option (Bool) := some true
theorem sandpilelaw28_awake.calls (r : Bool) (w : World) (h : sandpilelaw28_awake.f = some r) :
  Calls Try.prog 11 #[] w fun e w' => e = .returned (.bool r) ∧ Below w.heap.size w w' := by
 obtain rfl := Option.some.inj h
 exact awake28.calls 60 true rfl w awake28_true
end
def sandpilelaw28_SuperstableRaises.j0 : Nat → Int → List Int → Bool → Int → List (S66) → Option (Bool)
 | 0, _, _, _, _, _ => none
 | k + 1, x1, x2, x22, x520000, x520001 => if x22 = true then ((sandpilelaw28_awake.f).bind fun t521 => (some t521)) else ((superstable_Raise.f k x520000 x520001 x1 x2).bind fun bt522 => ((sandpileref28_Raise.f k x520000 x520001 x1 x2).bind fun bt526 => ((superstable_Dual.f k x520000 x520001 x1 x2).bind fun bt530 => ((sandpileref28_Dual.f k x520000 x520001 x1 x2).bind fun bt534 => ((sandpilelaw28_awake.f).bind fun t538 => (if t538 = true then ((sandpileref17_Same.f k bt522.1 bt526.1).bind fun t539 => (if t539 = true then (if bt522.2 = bt526.2 then ((sandpileref17_Same.f k bt530.1 bt534.1).bind fun t540 => (if t540 = true then (some (bt530.2 == bt534.2)) else (some false))) else (some false)) else (some false))) else (some false)))))))
def sandpilelaw28_SuperstableRaises.f (k : Nat) (a0_0 : Int) (l0_1 : List (S66)) (a1 : Int) (l2 : List Int) : Option (Bool) := (sandpileref08_FewTrees.f k a0_0 l0_1).bind fun t520 => (if t520 = true then (sandpilelaw28_SuperstableRaises.j0 k a1 l2 (decide ((l2.length : Int) > 40)) a0_0 l0_1) else (sandpilelaw28_SuperstableRaises.j0 k a1 l2 true a0_0 l0_1))
theorem sandpilelaw28_SuperstableRaises.calls (k : Nat) (a0_0 : Int) (A0_1 : Option Addr) (c0_1 : Nat) (l0_1 : List (S66)) (a1 : Int) (A2 : Option Addr) (c2 : Nat) (l2 : List Int) (r : Bool) (w : World) (hr0_1 : Kd.C k66 w A0_1 l0_1.length l0_1) (hc0_1 : l0_1.length ≤ c0_1) (hr2 : Kd.C (Kd.int .i64) w A2 l2.length l2) (hc2 : l2.length ≤ c2) (h : sandpilelaw28_SuperstableRaises.f k a0_0 l0_1 a1 l2 = some r) :
  Calls Try.prog 5 #[.agg #[.int .i64 a0_0, .slice A0_1 l0_1.length c0_1], .int .i64 a1, .slice A2 l2.length c2] w fun e w' => e = .returned (.bool r) ∧ Below w.heap.size w w' := by
 have hu24 := Try.underlying24
 have HR0_1 := Aside0.mk hr0_1
 have HC0_1 := Aside0.mk hc0_1
 clear hr0_1 hc0_1
 have HR2 := Aside0.mk hr2
 have HC2 := Aside0.mk hc2
 clear hr2 hc2
 have HB := Aside0.mk (Below.refl w.heap.size w)
 have H : ((sandpileref08_FewTrees.f k a0_0 l0_1).bind fun t520 => (if t520 = true then (sandpilelaw28_SuperstableRaises.j0 k a1 l2 (decide ((l2.length : Int) > 40)) a0_0 l0_1) else (sandpilelaw28_SuperstableRaises.j0 k a1 l2 true a0_0 l0_1))) = some r := h
 clear h
 have HC4 := Aside0.mk H
 clear H
 go_enter Try.func5, Try.ntmps5
 go_upto_region 1 with (first | ((with_reducible refine gate_dst (N := 3) rfl ?_); (try (refine gate_guard (by rfl) ?_; dsimp only)); refine zX 3 #[.int .i64 a0_0, .slice A0_1 l0_1.length c0_1] 24 ?_; intro gb519 hg w5 hbox hb; have BK519 := Aside0.mk (hbox); have GW519 := zG HB hg; have GE519 := zG HB hg; replace HB := zS HB hb; clear hb hbox hg))
 (try simp only [Act.put, List.setIfInBounds_toArray, List.set_cons_zero, List.set_cons_succ])
 go_cut [22] (fun v22 wc => ∃ (kq : Nat) (x22_3 : Bool), v22 = .bool x22_3 ∧ Aside0 (sandpilelaw28_SuperstableRaises.j0 kq a1 l2 x22_3 a0_0 l0_1 = some r) ∧ Aside0 (kq ≤ k) ∧ Aside0 (wc.heap[gb519]? = some (.cells #[.int .i64 a0_0, (.slice A0_1 l0_1.length c0_1)] 24 (0, 0))) ∧ Aside0 (Below w.heap.size w wc))
 case first =>
  have H := HC4.out
  clear HC4
  replace H := Option.bind_eq_some_iff.mp H
  obtain ⟨t520, A60, H⟩ := H
  replace H : (if t520 = true then (sandpilelaw28_SuperstableRaises.j0 k a1 l2 (decide ((l2.length : Int) > 40)) a0_0 l0_1) else (sandpilelaw28_SuperstableRaises.j0 k a1 l2 true a0_0 l0_1)) = some r := H
  have A6 := Aside0.mk A60
  clear A60
  by_cases c7 : t520 = true
  ·subst c7
   have H1 : (sandpilelaw28_SuperstableRaises.j0 k a1 l2 (decide ((l2.length : Int) > 40)) a0_0 l0_1) = some r := by rw [if_pos rfl] at H; exact H
   clear H
   have H := H1
   clear H1
   have H' := Aside0.mk H
   clear H
   obtain ⟨hcz8_0, hcz8_1, hfz8_0, hfz8_1⟩ := zD2 BK519
   go_wp2_with (first | ((with_reducible refine gate_callee (f := 10) rfl ?_); refine zL (some 16) Try.func10 #[.agg #[.int .i64 a0_0, .slice A0_1 l0_1.length c0_1]] ?_; (with_reducible refine (sandpileref08_FewTrees.calls k a0_0 _ _ l0_1 true _ ?side1 ?side2 A6.out).mono ?_); (case side1 => exact Kd.C_below HR0_1.out zB); (case side2 => exact HC0_1.out); rintro e w9 ⟨rfl, hb⟩; refine ⟨_, rfl, ?_⟩; replace BK519 := zb BK519 hb; replace HB := zS HB hb; (try clear hb)))
   go_meet
   case rel => exact ⟨_, (decide ((l2.length : Int) > 40)), zT, H', ⟨by first | omega | exact Nat.le_refl _⟩, ⟨zK BK519⟩, ⟨zB⟩⟩
  ·replace c7 := Bool.eq_false_iff.mpr c7
   subst c7
   have H1 : (sandpilelaw28_SuperstableRaises.j0 k a1 l2 true a0_0 l0_1) = some r := by rw [if_neg (show ¬ (false = true) by decide)] at H; exact H
   clear H
   have H := H1
   clear H1
   have H' := Aside0.mk H
   clear H
   obtain ⟨hcz10_0, hcz10_1, hfz10_0, hfz10_1⟩ := zD2 BK519
   go_wp2_with (first | ((with_reducible refine gate_callee (f := 10) rfl ?_); refine zL (some 16) Try.func10 #[.agg #[.int .i64 a0_0, .slice A0_1 l0_1.length c0_1]] ?_; (with_reducible refine (sandpileref08_FewTrees.calls k a0_0 _ _ l0_1 false _ ?side1 ?side2 A6.out).mono ?_); (case side1 => exact Kd.C_below HR0_1.out zB); (case side2 => exact HC0_1.out); rintro e w11 ⟨rfl, hb⟩; refine ⟨_, rfl, ?_⟩; replace BK519 := zb BK519 hb; replace HB := zS HB hb; (try clear hb)))
   go_meet
   case rel => exact ⟨_, (true), zT, H', ⟨by first | omega | exact Nat.le_refl _⟩, ⟨zK BK519⟩, ⟨zB⟩⟩
 case rest =>
  clear HC4
  try clear c1
  try clear c2
  try clear p2
  try clear c5
  try clear c7
  try clear c10
  try clear hcz10_0
  try clear hcz10_1
  try clear hcz8_0
  try clear hcz8_1
  try clear hfz10_0
  try clear hfz10_1
  try clear hfz8_0
  try clear hfz8_1
  obtain ⟨kq, x22_3, rfl, HA, HJ3, BK519, HB⟩ := hcut
  cases kq with
  | zero => exact absurd HA.out (by simp [sandpilelaw28_SuperstableRaises.j0])
  | succ kj3 =>
   have H := HA.out
   clear HA
   simp only [sandpilelaw28_SuperstableRaises.j0] at H
   by_cases c12 : x22_3 = true
   ·subst c12
    have H1 : ((sandpilelaw28_awake.f).bind fun t521 => (some t521)) = some r := by rw [if_pos rfl] at H; exact H
    clear H
    have H := H1
    clear H1
    replace H := Option.bind_eq_some_iff.mp H
    obtain ⟨t521, A130, H⟩ := H
    replace H : (some t521) = some r := H
    have A13 := Aside0.mk A130
    clear A130
    obtain rfl := Option.some.inj H
    go_wp2_with (first | ((with_reducible refine gate_callee (f := 11) rfl ?_); refine zL (some 23) Try.func11 #[] ?_; (with_reducible refine (sandpilelaw28_awake.calls  t521 _ A13.out).mono ?_); rintro e w14 ⟨rfl, hb⟩; refine ⟨_, rfl, ?_⟩; replace BK519 := zb BK519 hb; replace HB := zS HB hb; (try clear hb)))
    go_ret
    exact ⟨zE, zB⟩
   ·replace c12 := Bool.eq_false_iff.mpr c12
    subst c12
    have H1 : ((superstable_Raise.f kj3 a0_0 l0_1 a1 l2).bind fun bt522 => ((sandpileref28_Raise.f kj3 a0_0 l0_1 a1 l2).bind fun bt526 => ((superstable_Dual.f kj3 a0_0 l0_1 a1 l2).bind fun bt530 => ((sandpileref28_Dual.f kj3 a0_0 l0_1 a1 l2).bind fun bt534 => ((sandpilelaw28_awake.f).bind fun t538 => (if t538 = true then ((sandpileref17_Same.f kj3 bt522.1 bt526.1).bind fun t539 => (if t539 = true then (if bt522.2 = bt526.2 then ((sandpileref17_Same.f kj3 bt530.1 bt534.1).bind fun t540 => (if t540 = true then (some (bt530.2 == bt534.2)) else (some false))) else (some false)) else (some false))) else (some false))))))) = some r := by rw [if_neg (show ¬ (false = true) by decide)] at H; exact H
    clear H
    have H := H1
    clear H1
    replace H := Option.bind_eq_some_iff.mp H
    obtain ⟨⟨t522, t525⟩, A150, H⟩ := H
    replace H : ((sandpileref28_Raise.f kj3 a0_0 l0_1 a1 l2).bind fun bt526 => ((superstable_Dual.f kj3 a0_0 l0_1 a1 l2).bind fun bt530 => ((sandpileref28_Dual.f kj3 a0_0 l0_1 a1 l2).bind fun bt534 => ((sandpilelaw28_awake.f).bind fun t538 => (if t538 = true then ((sandpileref17_Same.f kj3 t522 bt526.1).bind fun t539 => (if t539 = true then (if t525 = bt526.2 then ((sandpileref17_Same.f kj3 bt530.1 bt534.1).bind fun t540 => (if t540 = true then (some (bt530.2 == bt534.2)) else (some false))) else (some false)) else (some false))) else (some false)))))) = some r := H
    have A15 := Aside0.mk A150
    clear A150
    replace H := Option.bind_eq_some_iff.mp H
    obtain ⟨⟨t526, t529⟩, A160, H⟩ := H
    replace H : ((superstable_Dual.f kj3 a0_0 l0_1 a1 l2).bind fun bt530 => ((sandpileref28_Dual.f kj3 a0_0 l0_1 a1 l2).bind fun bt534 => ((sandpilelaw28_awake.f).bind fun t538 => (if t538 = true then ((sandpileref17_Same.f kj3 t522 t526).bind fun t539 => (if t539 = true then (if t525 = t529 then ((sandpileref17_Same.f kj3 bt530.1 bt534.1).bind fun t540 => (if t540 = true then (some (bt530.2 == bt534.2)) else (some false))) else (some false)) else (some false))) else (some false))))) = some r := H
    have A16 := Aside0.mk A160
    clear A160
    replace H := Option.bind_eq_some_iff.mp H
    obtain ⟨⟨t530, t533⟩, A170, H⟩ := H
    replace H : ((sandpileref28_Dual.f kj3 a0_0 l0_1 a1 l2).bind fun bt534 => ((sandpilelaw28_awake.f).bind fun t538 => (if t538 = true then ((sandpileref17_Same.f kj3 t522 t526).bind fun t539 => (if t539 = true then (if t525 = t529 then ((sandpileref17_Same.f kj3 t530 bt534.1).bind fun t540 => (if t540 = true then (some (t533 == bt534.2)) else (some false))) else (some false)) else (some false))) else (some false)))) = some r := H
    have A17 := Aside0.mk A170
    clear A170
    replace H := Option.bind_eq_some_iff.mp H
    obtain ⟨⟨t534, t537⟩, A180, H⟩ := H
    replace H : ((sandpilelaw28_awake.f).bind fun t538 => (if t538 = true then ((sandpileref17_Same.f kj3 t522 t526).bind fun t539 => (if t539 = true then (if t525 = t529 then ((sandpileref17_Same.f kj3 t530 t534).bind fun t540 => (if t540 = true then (some (t533 == t537)) else (some false))) else (some false)) else (some false))) else (some false))) = some r := H
    have A18 := Aside0.mk A180
    clear A180
    replace H := Option.bind_eq_some_iff.mp H
    obtain ⟨t538, A190, H⟩ := H
    replace H : (if t538 = true then ((sandpileref17_Same.f kj3 t522 t526).bind fun t539 => (if t539 = true then (if t525 = t529 then ((sandpileref17_Same.f kj3 t530 t534).bind fun t540 => (if t540 = true then (some (t533 == t537)) else (some false))) else (some false)) else (some false))) else (some false)) = some r := H
    have A19 := Aside0.mk A190
    clear A190
    by_cases c20 : t538 = true
    ·subst c20
     have H1 : ((sandpileref17_Same.f kj3 t522 t526).bind fun t539 => (if t539 = true then (if t525 = t529 then ((sandpileref17_Same.f kj3 t530 t534).bind fun t540 => (if t540 = true then (some (t533 == t537)) else (some false))) else (some false)) else (some false))) = some r := by rw [if_pos rfl] at H; exact H
     clear H
     have H := H1
     clear H1
     replace H := Option.bind_eq_some_iff.mp H
     obtain ⟨t539, A210, H⟩ := H
     replace H : (if t539 = true then (if t525 = t529 then ((sandpileref17_Same.f kj3 t530 t534).bind fun t540 => (if t540 = true then (some (t533 == t537)) else (some false))) else (some false)) else (some false)) = some r := H
     have A21 := Aside0.mk A210
     clear A210
     by_cases c22 : t539 = true
     ·subst c22
      have H1 : (if t525 = t529 then ((sandpileref17_Same.f kj3 t530 t534).bind fun t540 => (if t540 = true then (some (t533 == t537)) else (some false))) else (some false)) = some r := by rw [if_pos rfl] at H; exact H
      clear H
      have H := H1
      clear H1
      by_cases c23 : t525 = t529
      ·rw [if_pos c23] at H
       have c23b0 : (t525 == t529) = true := beq_iff_eq.mpr c23
       have c23b1 : (t525 != t529) = false := bne_eq_false_iff_eq.mpr c23
       clear c23
       replace H := Option.bind_eq_some_iff.mp H
       obtain ⟨t540, A240, H⟩ := H
       replace H : (if t540 = true then (some (t533 == t537)) else (some false)) = some r := H
       have A24 := Aside0.mk A240
       clear A240
       by_cases c25 : t540 = true
       ·subst c25
        have H1 : (some (t533 == t537)) = some r := by rw [if_pos rfl] at H; exact H
        clear H
        have H := H1
        clear H1
        obtain rfl := Option.some.inj H
        obtain ⟨hcz26_0, hcz26_1, hfz26_0, hfz26_1⟩ := zD2 BK519
        go_wp2_with (first | ((with_reducible refine gate_callee (f := 22) rfl ?_); refine zL (some 28) Try.func22 #[.agg #[.int .i64 a0_0, .slice A0_1 l0_1.length c0_1], .int .i64 a1, .slice A2 l2.length c2] ?_; (with_reducible refine (superstable_Raise.calls kj3 a0_0 _ _ l0_1 a1 _ _ l2 t522 t525 _ ?side1 ?side2 ?side3 ?side4 A15.out).mono ?_); (case side1 => exact Kd.C_below HR0_1.out zB); (case side2 => exact HC0_1.out); (case side3 => exact Kd.C_below HR2.out zB); (case side4 => exact HC2.out); rintro e w27 ⟨v523, rfl, ho0, hb⟩; refine ⟨_, rfl, ?_⟩; have HO524 := Aside0.mk (Kd.R_lower ho0 (below_size zB)); replace BK519 := zb BK519 hb; replace HB := zS HB hb; (try clear hb); (try clear ho0); obtain ⟨hcz28_0, hcz28_1, hfz28_0, hfz28_1⟩ := zD2 BK519) | ((with_reducible refine gate_callee (f := 23) rfl ?_); refine zL (some 35) Try.func23 #[.agg #[.int .i64 a0_0, .slice A0_1 l0_1.length c0_1], .int .i64 a1, .slice A2 l2.length c2] ?_; (with_reducible refine (sandpileref28_Raise.calls kj3 a0_0 _ _ l0_1 a1 _ _ l2 t526 t529 _ ?side1 ?side2 ?side3 ?side4 A16.out).mono ?_); (case side1 => exact Kd.C_below HR0_1.out zB); (case side2 => exact HC0_1.out); (case side3 => exact Kd.C_below HR2.out zB); (case side4 => exact HC2.out); rintro e w29 ⟨v527, rfl, ho0, hb⟩; refine ⟨_, rfl, ?_⟩; have HO528 := Aside0.mk (Kd.R_lower (Kd.R_new' ho0 (Kd.R_lt (zR HO524))) (below_size zB)); replace HO524 := zeRR HO524 ho0 hb; replace BK519 := zb BK519 hb; replace HB := zS HB hb; (try clear hb); (try clear ho0); obtain ⟨hcz30_0, hcz30_1, hfz30_0, hfz30_1⟩ := zD2 BK519) | ((with_reducible refine gate_callee (f := 24) rfl ?_); refine zL (some 42) Try.func24 #[.agg #[.int .i64 a0_0, .slice A0_1 l0_1.length c0_1], .int .i64 a1, .slice A2 l2.length c2] ?_; (with_reducible refine (superstable_Dual.calls kj3 a0_0 _ _ l0_1 a1 _ _ l2 t530 t533 _ ?side1 ?side2 ?side3 ?side4 A17.out).mono ?_); (case side1 => exact Kd.C_below HR0_1.out zB); (case side2 => exact HC0_1.out); (case side3 => exact Kd.C_below HR2.out zB); (case side4 => exact HC2.out); rintro e w31 ⟨v531, rfl, ho0, hb⟩; refine ⟨_, rfl, ?_⟩; have HO532 := Aside0.mk (Kd.R_lower (Kd.R_new' (Kd.R_new' ho0 (Kd.R_lt (zR HO524))) (Kd.R_lt (zR HO528))) (below_size zB)); replace HO524 := zeRR HO524 ho0 hb; replace HO528 := zeRR HO528 ho0 hb; replace BK519 := zb BK519 hb; replace HB := zS HB hb; (try clear hb); (try clear ho0); obtain ⟨hcz32_0, hcz32_1, hfz32_0, hfz32_1⟩ := zD2 BK519) | ((with_reducible refine gate_callee (f := 25) rfl ?_); refine zL (some 49) Try.func25 #[.agg #[.int .i64 a0_0, .slice A0_1 l0_1.length c0_1], .int .i64 a1, .slice A2 l2.length c2] ?_; (with_reducible refine (sandpileref28_Dual.calls kj3 a0_0 _ _ l0_1 a1 _ _ l2 t534 t537 _ ?side1 ?side2 ?side3 ?side4 A18.out).mono ?_); (case side1 => exact Kd.C_below HR0_1.out zB); (case side2 => exact HC0_1.out); (case side3 => exact Kd.C_below HR2.out zB); (case side4 => exact HC2.out); rintro e w33 ⟨v535, rfl, ho0, hb⟩; refine ⟨_, rfl, ?_⟩; have HO536 := Aside0.mk (Kd.R_lower (Kd.R_new' (Kd.R_new' (Kd.R_new' ho0 (Kd.R_lt (zR HO524))) (Kd.R_lt (zR HO528))) (Kd.R_lt (zR HO532))) (below_size zB)); replace HO524 := zeRR HO524 ho0 hb; replace HO528 := zeRR HO528 ho0 hb; replace HO532 := zeRR HO532 ho0 hb; replace BK519 := zb BK519 hb; replace HB := zS HB hb; (try clear hb); (try clear ho0)) | ((with_reducible refine gate_callee (f := 11) rfl ?_); refine zL (some 52) Try.func11 #[] ?_; (with_reducible refine (sandpilelaw28_awake.calls  true _ A19.out).mono ?_); rintro e w34 ⟨rfl, hb⟩; refine ⟨_, rfl, ?_⟩; replace HO524 := zbR HO524 hb; replace HO528 := zbR HO528 hb; replace HO532 := zbR HO532 hb; replace HO536 := zbR HO536 hb; replace BK519 := zb BK519 hb; replace HB := zS HB hb; (try clear hb); obtain ⟨Ao35, co35, eo35⟩ := Kd.R_slice HO524.out; subst eo35; obtain ⟨Ao36, co36, eo36⟩ := Kd.R_slice HO528.out; subst eo36) | (go_at_call 26; (with_reducible refine (sandpileref17_Same.calls kj3 _ _ t522 _ _ t526 true _ ?side1 ?side2 ?side3 ?side4 A21.out).mono ?_); (case side1 => exact zC (Kd.R_reads' HO524.out).2.2); (case side2 => exact (Kd.R_reads' HO524.out).2.1); (case side3 => exact zC (Kd.R_reads' HO528.out).2.2); (case side4 => exact (Kd.R_reads' HO528.out).2.1); rintro e w' ⟨rfl, ⟨nd, rfl⟩⟩; obtain ⟨Ao37, co37, eo37⟩ := Kd.R_slice HO532.out; subst eo37; obtain ⟨Ao38, co38, eo38⟩ := Kd.R_slice HO536.out; subst eo38) | (go_at_call 26; (with_reducible refine (sandpileref17_Same.calls kj3 _ _ t530 _ _ t534 true _ ?side1 ?side2 ?side3 ?side4 A24.out).mono ?_); (case side1 => exact zC (Kd.R_reads' HO532.out).2.2); (case side2 => exact (Kd.R_reads' HO532.out).2.1); (case side3 => exact zC (Kd.R_reads' HO536.out).2.2); (case side4 => exact (Kd.R_reads' HO536.out).2.1); rintro e w' ⟨rfl, ⟨nd, rfl⟩⟩))
        go_ret
        exact ⟨zE, zB⟩
       ·replace c25 := Bool.eq_false_iff.mpr c25
        subst c25
        have H1 : (some false) = some r := by rw [if_neg (show ¬ (false = true) by decide)] at H; exact H
        clear H
        have H := H1
        clear H1
        obtain rfl := Option.some.inj H
        obtain ⟨hcz39_0, hcz39_1, hfz39_0, hfz39_1⟩ := zD2 BK519
        go_wp2_with (first | ((with_reducible refine gate_callee (f := 22) rfl ?_); refine zL (some 28) Try.func22 #[.agg #[.int .i64 a0_0, .slice A0_1 l0_1.length c0_1], .int .i64 a1, .slice A2 l2.length c2] ?_; (with_reducible refine (superstable_Raise.calls kj3 a0_0 _ _ l0_1 a1 _ _ l2 t522 t525 _ ?side1 ?side2 ?side3 ?side4 A15.out).mono ?_); (case side1 => exact Kd.C_below HR0_1.out zB); (case side2 => exact HC0_1.out); (case side3 => exact Kd.C_below HR2.out zB); (case side4 => exact HC2.out); rintro e w40 ⟨v523, rfl, ho0, hb⟩; refine ⟨_, rfl, ?_⟩; have HO524 := Aside0.mk (Kd.R_lower ho0 (below_size zB)); replace BK519 := zb BK519 hb; replace HB := zS HB hb; (try clear hb); (try clear ho0); obtain ⟨hcz41_0, hcz41_1, hfz41_0, hfz41_1⟩ := zD2 BK519) | ((with_reducible refine gate_callee (f := 23) rfl ?_); refine zL (some 35) Try.func23 #[.agg #[.int .i64 a0_0, .slice A0_1 l0_1.length c0_1], .int .i64 a1, .slice A2 l2.length c2] ?_; (with_reducible refine (sandpileref28_Raise.calls kj3 a0_0 _ _ l0_1 a1 _ _ l2 t526 t529 _ ?side1 ?side2 ?side3 ?side4 A16.out).mono ?_); (case side1 => exact Kd.C_below HR0_1.out zB); (case side2 => exact HC0_1.out); (case side3 => exact Kd.C_below HR2.out zB); (case side4 => exact HC2.out); rintro e w42 ⟨v527, rfl, ho0, hb⟩; refine ⟨_, rfl, ?_⟩; have HO528 := Aside0.mk (Kd.R_lower (Kd.R_new' ho0 (Kd.R_lt (zR HO524))) (below_size zB)); replace HO524 := zeRR HO524 ho0 hb; replace BK519 := zb BK519 hb; replace HB := zS HB hb; (try clear hb); (try clear ho0); obtain ⟨hcz43_0, hcz43_1, hfz43_0, hfz43_1⟩ := zD2 BK519) | ((with_reducible refine gate_callee (f := 24) rfl ?_); refine zL (some 42) Try.func24 #[.agg #[.int .i64 a0_0, .slice A0_1 l0_1.length c0_1], .int .i64 a1, .slice A2 l2.length c2] ?_; (with_reducible refine (superstable_Dual.calls kj3 a0_0 _ _ l0_1 a1 _ _ l2 t530 t533 _ ?side1 ?side2 ?side3 ?side4 A17.out).mono ?_); (case side1 => exact Kd.C_below HR0_1.out zB); (case side2 => exact HC0_1.out); (case side3 => exact Kd.C_below HR2.out zB); (case side4 => exact HC2.out); rintro e w44 ⟨v531, rfl, ho0, hb⟩; refine ⟨_, rfl, ?_⟩; have HO532 := Aside0.mk (Kd.R_lower (Kd.R_new' (Kd.R_new' ho0 (Kd.R_lt (zR HO524))) (Kd.R_lt (zR HO528))) (below_size zB)); replace HO524 := zeRR HO524 ho0 hb; replace HO528 := zeRR HO528 ho0 hb; replace BK519 := zb BK519 hb; replace HB := zS HB hb; (try clear hb); (try clear ho0); obtain ⟨hcz45_0, hcz45_1, hfz45_0, hfz45_1⟩ := zD2 BK519) | ((with_reducible refine gate_callee (f := 25) rfl ?_); refine zL (some 49) Try.func25 #[.agg #[.int .i64 a0_0, .slice A0_1 l0_1.length c0_1], .int .i64 a1, .slice A2 l2.length c2] ?_; (with_reducible refine (sandpileref28_Dual.calls kj3 a0_0 _ _ l0_1 a1 _ _ l2 t534 t537 _ ?side1 ?side2 ?side3 ?side4 A18.out).mono ?_); (case side1 => exact Kd.C_below HR0_1.out zB); (case side2 => exact HC0_1.out); (case side3 => exact Kd.C_below HR2.out zB); (case side4 => exact HC2.out); rintro e w46 ⟨v535, rfl, ho0, hb⟩; refine ⟨_, rfl, ?_⟩; have HO536 := Aside0.mk (Kd.R_lower (Kd.R_new' (Kd.R_new' (Kd.R_new' ho0 (Kd.R_lt (zR HO524))) (Kd.R_lt (zR HO528))) (Kd.R_lt (zR HO532))) (below_size zB)); replace HO524 := zeRR HO524 ho0 hb; replace HO528 := zeRR HO528 ho0 hb; replace HO532 := zeRR HO532 ho0 hb; replace BK519 := zb BK519 hb; replace HB := zS HB hb; (try clear hb); (try clear ho0)) | ((with_reducible refine gate_callee (f := 11) rfl ?_); refine zL (some 52) Try.func11 #[] ?_; (with_reducible refine (sandpilelaw28_awake.calls  true _ A19.out).mono ?_); rintro e w47 ⟨rfl, hb⟩; refine ⟨_, rfl, ?_⟩; replace HO524 := zbR HO524 hb; replace HO528 := zbR HO528 hb; replace HO532 := zbR HO532 hb; replace HO536 := zbR HO536 hb; replace BK519 := zb BK519 hb; replace HB := zS HB hb; (try clear hb); obtain ⟨Ao48, co48, eo48⟩ := Kd.R_slice HO524.out; subst eo48; obtain ⟨Ao49, co49, eo49⟩ := Kd.R_slice HO528.out; subst eo49) | (go_at_call 26; (with_reducible refine (sandpileref17_Same.calls kj3 _ _ t522 _ _ t526 true _ ?side1 ?side2 ?side3 ?side4 A21.out).mono ?_); (case side1 => exact zC (Kd.R_reads' HO524.out).2.2); (case side2 => exact (Kd.R_reads' HO524.out).2.1); (case side3 => exact zC (Kd.R_reads' HO528.out).2.2); (case side4 => exact (Kd.R_reads' HO528.out).2.1); rintro e w' ⟨rfl, ⟨nd, rfl⟩⟩; obtain ⟨Ao50, co50, eo50⟩ := Kd.R_slice HO532.out; subst eo50; obtain ⟨Ao51, co51, eo51⟩ := Kd.R_slice HO536.out; subst eo51) | (go_at_call 26; (with_reducible refine (sandpileref17_Same.calls kj3 _ _ t530 _ _ t534 false _ ?side1 ?side2 ?side3 ?side4 A24.out).mono ?_); (case side1 => exact zC (Kd.R_reads' HO532.out).2.2); (case side2 => exact (Kd.R_reads' HO532.out).2.1); (case side3 => exact zC (Kd.R_reads' HO536.out).2.2); (case side4 => exact (Kd.R_reads' HO536.out).2.1); rintro e w' ⟨rfl, ⟨nd, rfl⟩⟩))
        go_ret
        exact ⟨zE, zB⟩
      ·rw [if_neg c23] at H
       have c23b0 : (t525 == t529) = false := beq_eq_false_iff_ne.mpr c23
       have c23b1 : (t525 != t529) = true := bne_iff_ne.mpr c23
       obtain rfl := Option.some.inj H
       obtain ⟨hcz52_0, hcz52_1, hfz52_0, hfz52_1⟩ := zD2 BK519
       go_wp2_with (first | ((with_reducible refine gate_callee (f := 22) rfl ?_); refine zL (some 28) Try.func22 #[.agg #[.int .i64 a0_0, .slice A0_1 l0_1.length c0_1], .int .i64 a1, .slice A2 l2.length c2] ?_; (with_reducible refine (superstable_Raise.calls kj3 a0_0 _ _ l0_1 a1 _ _ l2 t522 t525 _ ?side1 ?side2 ?side3 ?side4 A15.out).mono ?_); (case side1 => exact Kd.C_below HR0_1.out zB); (case side2 => exact HC0_1.out); (case side3 => exact Kd.C_below HR2.out zB); (case side4 => exact HC2.out); rintro e w53 ⟨v523, rfl, ho0, hb⟩; refine ⟨_, rfl, ?_⟩; have HO524 := Aside0.mk (Kd.R_lower ho0 (below_size zB)); replace BK519 := zb BK519 hb; replace HB := zS HB hb; (try clear hb); (try clear ho0); obtain ⟨hcz54_0, hcz54_1, hfz54_0, hfz54_1⟩ := zD2 BK519) | ((with_reducible refine gate_callee (f := 23) rfl ?_); refine zL (some 35) Try.func23 #[.agg #[.int .i64 a0_0, .slice A0_1 l0_1.length c0_1], .int .i64 a1, .slice A2 l2.length c2] ?_; (with_reducible refine (sandpileref28_Raise.calls kj3 a0_0 _ _ l0_1 a1 _ _ l2 t526 t529 _ ?side1 ?side2 ?side3 ?side4 A16.out).mono ?_); (case side1 => exact Kd.C_below HR0_1.out zB); (case side2 => exact HC0_1.out); (case side3 => exact Kd.C_below HR2.out zB); (case side4 => exact HC2.out); rintro e w55 ⟨v527, rfl, ho0, hb⟩; refine ⟨_, rfl, ?_⟩; have HO528 := Aside0.mk (Kd.R_lower (Kd.R_new' ho0 (Kd.R_lt (zR HO524))) (below_size zB)); replace HO524 := zeRR HO524 ho0 hb; replace BK519 := zb BK519 hb; replace HB := zS HB hb; (try clear hb); (try clear ho0); obtain ⟨hcz56_0, hcz56_1, hfz56_0, hfz56_1⟩ := zD2 BK519) | ((with_reducible refine gate_callee (f := 24) rfl ?_); refine zL (some 42) Try.func24 #[.agg #[.int .i64 a0_0, .slice A0_1 l0_1.length c0_1], .int .i64 a1, .slice A2 l2.length c2] ?_; (with_reducible refine (superstable_Dual.calls kj3 a0_0 _ _ l0_1 a1 _ _ l2 t530 t533 _ ?side1 ?side2 ?side3 ?side4 A17.out).mono ?_); (case side1 => exact Kd.C_below HR0_1.out zB); (case side2 => exact HC0_1.out); (case side3 => exact Kd.C_below HR2.out zB); (case side4 => exact HC2.out); rintro e w57 ⟨v531, rfl, ho0, hb⟩; refine ⟨_, rfl, ?_⟩; have HO532 := Aside0.mk (Kd.R_lower (Kd.R_new' (Kd.R_new' ho0 (Kd.R_lt (zR HO524))) (Kd.R_lt (zR HO528))) (below_size zB)); replace HO524 := zeRR HO524 ho0 hb; replace HO528 := zeRR HO528 ho0 hb; replace BK519 := zb BK519 hb; replace HB := zS HB hb; (try clear hb); (try clear ho0); obtain ⟨hcz58_0, hcz58_1, hfz58_0, hfz58_1⟩ := zD2 BK519) | ((with_reducible refine gate_callee (f := 25) rfl ?_); refine zL (some 49) Try.func25 #[.agg #[.int .i64 a0_0, .slice A0_1 l0_1.length c0_1], .int .i64 a1, .slice A2 l2.length c2] ?_; (with_reducible refine (sandpileref28_Dual.calls kj3 a0_0 _ _ l0_1 a1 _ _ l2 t534 t537 _ ?side1 ?side2 ?side3 ?side4 A18.out).mono ?_); (case side1 => exact Kd.C_below HR0_1.out zB); (case side2 => exact HC0_1.out); (case side3 => exact Kd.C_below HR2.out zB); (case side4 => exact HC2.out); rintro e w59 ⟨v535, rfl, ho0, hb⟩; refine ⟨_, rfl, ?_⟩; have HO536 := Aside0.mk (Kd.R_lower (Kd.R_new' (Kd.R_new' (Kd.R_new' ho0 (Kd.R_lt (zR HO524))) (Kd.R_lt (zR HO528))) (Kd.R_lt (zR HO532))) (below_size zB)); replace HO524 := zeRR HO524 ho0 hb; replace HO528 := zeRR HO528 ho0 hb; replace HO532 := zeRR HO532 ho0 hb; replace BK519 := zb BK519 hb; replace HB := zS HB hb; (try clear hb); (try clear ho0)) | ((with_reducible refine gate_callee (f := 11) rfl ?_); refine zL (some 52) Try.func11 #[] ?_; (with_reducible refine (sandpilelaw28_awake.calls  true _ A19.out).mono ?_); rintro e w60 ⟨rfl, hb⟩; refine ⟨_, rfl, ?_⟩; replace HO524 := zbR HO524 hb; replace HO528 := zbR HO528 hb; replace HO532 := zbR HO532 hb; replace HO536 := zbR HO536 hb; replace BK519 := zb BK519 hb; replace HB := zS HB hb; (try clear hb); obtain ⟨Ao61, co61, eo61⟩ := Kd.R_slice HO524.out; subst eo61; obtain ⟨Ao62, co62, eo62⟩ := Kd.R_slice HO528.out; subst eo62) | (go_at_call 26; (with_reducible refine (sandpileref17_Same.calls kj3 _ _ t522 _ _ t526 true _ ?side1 ?side2 ?side3 ?side4 A21.out).mono ?_); (case side1 => exact zC (Kd.R_reads' HO524.out).2.2); (case side2 => exact (Kd.R_reads' HO524.out).2.1); (case side3 => exact zC (Kd.R_reads' HO528.out).2.2); (case side4 => exact (Kd.R_reads' HO528.out).2.1); rintro e w' ⟨rfl, ⟨nd, rfl⟩⟩))
       go_ret
       exact ⟨zE, zB⟩
     ·replace c22 := Bool.eq_false_iff.mpr c22
      subst c22
      have H1 : (some false) = some r := by rw [if_neg (show ¬ (false = true) by decide)] at H; exact H
      clear H
      have H := H1
      clear H1
      obtain rfl := Option.some.inj H
      obtain ⟨hcz63_0, hcz63_1, hfz63_0, hfz63_1⟩ := zD2 BK519
      go_wp2_with (first | ((with_reducible refine gate_callee (f := 22) rfl ?_); refine zL (some 28) Try.func22 #[.agg #[.int .i64 a0_0, .slice A0_1 l0_1.length c0_1], .int .i64 a1, .slice A2 l2.length c2] ?_; (with_reducible refine (superstable_Raise.calls kj3 a0_0 _ _ l0_1 a1 _ _ l2 t522 t525 _ ?side1 ?side2 ?side3 ?side4 A15.out).mono ?_); (case side1 => exact Kd.C_below HR0_1.out zB); (case side2 => exact HC0_1.out); (case side3 => exact Kd.C_below HR2.out zB); (case side4 => exact HC2.out); rintro e w64 ⟨v523, rfl, ho0, hb⟩; refine ⟨_, rfl, ?_⟩; have HO524 := Aside0.mk (Kd.R_lower ho0 (below_size zB)); replace BK519 := zb BK519 hb; replace HB := zS HB hb; (try clear hb); (try clear ho0); obtain ⟨hcz65_0, hcz65_1, hfz65_0, hfz65_1⟩ := zD2 BK519) | ((with_reducible refine gate_callee (f := 23) rfl ?_); refine zL (some 35) Try.func23 #[.agg #[.int .i64 a0_0, .slice A0_1 l0_1.length c0_1], .int .i64 a1, .slice A2 l2.length c2] ?_; (with_reducible refine (sandpileref28_Raise.calls kj3 a0_0 _ _ l0_1 a1 _ _ l2 t526 t529 _ ?side1 ?side2 ?side3 ?side4 A16.out).mono ?_); (case side1 => exact Kd.C_below HR0_1.out zB); (case side2 => exact HC0_1.out); (case side3 => exact Kd.C_below HR2.out zB); (case side4 => exact HC2.out); rintro e w66 ⟨v527, rfl, ho0, hb⟩; refine ⟨_, rfl, ?_⟩; have HO528 := Aside0.mk (Kd.R_lower (Kd.R_new' ho0 (Kd.R_lt (zR HO524))) (below_size zB)); replace HO524 := zeRR HO524 ho0 hb; replace BK519 := zb BK519 hb; replace HB := zS HB hb; (try clear hb); (try clear ho0); obtain ⟨hcz67_0, hcz67_1, hfz67_0, hfz67_1⟩ := zD2 BK519) | ((with_reducible refine gate_callee (f := 24) rfl ?_); refine zL (some 42) Try.func24 #[.agg #[.int .i64 a0_0, .slice A0_1 l0_1.length c0_1], .int .i64 a1, .slice A2 l2.length c2] ?_; (with_reducible refine (superstable_Dual.calls kj3 a0_0 _ _ l0_1 a1 _ _ l2 t530 t533 _ ?side1 ?side2 ?side3 ?side4 A17.out).mono ?_); (case side1 => exact Kd.C_below HR0_1.out zB); (case side2 => exact HC0_1.out); (case side3 => exact Kd.C_below HR2.out zB); (case side4 => exact HC2.out); rintro e w68 ⟨v531, rfl, ho0, hb⟩; refine ⟨_, rfl, ?_⟩; have HO532 := Aside0.mk (Kd.R_lower (Kd.R_new' (Kd.R_new' ho0 (Kd.R_lt (zR HO524))) (Kd.R_lt (zR HO528))) (below_size zB)); replace HO524 := zeRR HO524 ho0 hb; replace HO528 := zeRR HO528 ho0 hb; replace BK519 := zb BK519 hb; replace HB := zS HB hb; (try clear hb); (try clear ho0); obtain ⟨hcz69_0, hcz69_1, hfz69_0, hfz69_1⟩ := zD2 BK519) | ((with_reducible refine gate_callee (f := 25) rfl ?_); refine zL (some 49) Try.func25 #[.agg #[.int .i64 a0_0, .slice A0_1 l0_1.length c0_1], .int .i64 a1, .slice A2 l2.length c2] ?_; (with_reducible refine (sandpileref28_Dual.calls kj3 a0_0 _ _ l0_1 a1 _ _ l2 t534 t537 _ ?side1 ?side2 ?side3 ?side4 A18.out).mono ?_); (case side1 => exact Kd.C_below HR0_1.out zB); (case side2 => exact HC0_1.out); (case side3 => exact Kd.C_below HR2.out zB); (case side4 => exact HC2.out); rintro e w70 ⟨v535, rfl, ho0, hb⟩; refine ⟨_, rfl, ?_⟩; have HO536 := Aside0.mk (Kd.R_lower (Kd.R_new' (Kd.R_new' (Kd.R_new' ho0 (Kd.R_lt (zR HO524))) (Kd.R_lt (zR HO528))) (Kd.R_lt (zR HO532))) (below_size zB)); replace HO524 := zeRR HO524 ho0 hb; replace HO528 := zeRR HO528 ho0 hb; replace HO532 := zeRR HO532 ho0 hb; replace BK519 := zb BK519 hb; replace HB := zS HB hb; (try clear hb); (try clear ho0)) | ((with_reducible refine gate_callee (f := 11) rfl ?_); refine zL (some 52) Try.func11 #[] ?_; (with_reducible refine (sandpilelaw28_awake.calls  true _ A19.out).mono ?_); rintro e w71 ⟨rfl, hb⟩; refine ⟨_, rfl, ?_⟩; replace HO524 := zbR HO524 hb; replace HO528 := zbR HO528 hb; replace HO532 := zbR HO532 hb; replace HO536 := zbR HO536 hb; replace BK519 := zb BK519 hb; replace HB := zS HB hb; (try clear hb); obtain ⟨Ao72, co72, eo72⟩ := Kd.R_slice HO524.out; subst eo72; obtain ⟨Ao73, co73, eo73⟩ := Kd.R_slice HO528.out; subst eo73) | (go_at_call 26; (with_reducible refine (sandpileref17_Same.calls kj3 _ _ t522 _ _ t526 false _ ?side1 ?side2 ?side3 ?side4 A21.out).mono ?_); (case side1 => exact zC (Kd.R_reads' HO524.out).2.2); (case side2 => exact (Kd.R_reads' HO524.out).2.1); (case side3 => exact zC (Kd.R_reads' HO528.out).2.2); (case side4 => exact (Kd.R_reads' HO528.out).2.1); rintro e w' ⟨rfl, ⟨nd, rfl⟩⟩))
      go_ret
      exact ⟨zE, zB⟩
    ·replace c20 := Bool.eq_false_iff.mpr c20
     subst c20
     have H1 : (some false) = some r := by rw [if_neg (show ¬ (false = true) by decide)] at H; exact H
     clear H
     have H := H1
     clear H1
     obtain rfl := Option.some.inj H
     obtain ⟨hcz74_0, hcz74_1, hfz74_0, hfz74_1⟩ := zD2 BK519
     go_wp2_with (first | ((with_reducible refine gate_callee (f := 22) rfl ?_); refine zL (some 28) Try.func22 #[.agg #[.int .i64 a0_0, .slice A0_1 l0_1.length c0_1], .int .i64 a1, .slice A2 l2.length c2] ?_; (with_reducible refine (superstable_Raise.calls kj3 a0_0 _ _ l0_1 a1 _ _ l2 t522 t525 _ ?side1 ?side2 ?side3 ?side4 A15.out).mono ?_); (case side1 => exact Kd.C_below HR0_1.out zB); (case side2 => exact HC0_1.out); (case side3 => exact Kd.C_below HR2.out zB); (case side4 => exact HC2.out); rintro e w75 ⟨v523, rfl, ho0, hb⟩; refine ⟨_, rfl, ?_⟩; have HO524 := Aside0.mk (Kd.R_lower ho0 (below_size zB)); replace BK519 := zb BK519 hb; replace HB := zS HB hb; (try clear hb); (try clear ho0); obtain ⟨hcz76_0, hcz76_1, hfz76_0, hfz76_1⟩ := zD2 BK519) | ((with_reducible refine gate_callee (f := 23) rfl ?_); refine zL (some 35) Try.func23 #[.agg #[.int .i64 a0_0, .slice A0_1 l0_1.length c0_1], .int .i64 a1, .slice A2 l2.length c2] ?_; (with_reducible refine (sandpileref28_Raise.calls kj3 a0_0 _ _ l0_1 a1 _ _ l2 t526 t529 _ ?side1 ?side2 ?side3 ?side4 A16.out).mono ?_); (case side1 => exact Kd.C_below HR0_1.out zB); (case side2 => exact HC0_1.out); (case side3 => exact Kd.C_below HR2.out zB); (case side4 => exact HC2.out); rintro e w77 ⟨v527, rfl, ho0, hb⟩; refine ⟨_, rfl, ?_⟩; have HO528 := Aside0.mk (Kd.R_lower (Kd.R_new' ho0 (Kd.R_lt (zR HO524))) (below_size zB)); replace HO524 := zeRR HO524 ho0 hb; replace BK519 := zb BK519 hb; replace HB := zS HB hb; (try clear hb); (try clear ho0); obtain ⟨hcz78_0, hcz78_1, hfz78_0, hfz78_1⟩ := zD2 BK519) | ((with_reducible refine gate_callee (f := 24) rfl ?_); refine zL (some 42) Try.func24 #[.agg #[.int .i64 a0_0, .slice A0_1 l0_1.length c0_1], .int .i64 a1, .slice A2 l2.length c2] ?_; (with_reducible refine (superstable_Dual.calls kj3 a0_0 _ _ l0_1 a1 _ _ l2 t530 t533 _ ?side1 ?side2 ?side3 ?side4 A17.out).mono ?_); (case side1 => exact Kd.C_below HR0_1.out zB); (case side2 => exact HC0_1.out); (case side3 => exact Kd.C_below HR2.out zB); (case side4 => exact HC2.out); rintro e w79 ⟨v531, rfl, ho0, hb⟩; refine ⟨_, rfl, ?_⟩; have HO532 := Aside0.mk (Kd.R_lower (Kd.R_new' (Kd.R_new' ho0 (Kd.R_lt (zR HO524))) (Kd.R_lt (zR HO528))) (below_size zB)); replace HO524 := zeRR HO524 ho0 hb; replace HO528 := zeRR HO528 ho0 hb; replace BK519 := zb BK519 hb; replace HB := zS HB hb; (try clear hb); (try clear ho0); obtain ⟨hcz80_0, hcz80_1, hfz80_0, hfz80_1⟩ := zD2 BK519) | ((with_reducible refine gate_callee (f := 25) rfl ?_); refine zL (some 49) Try.func25 #[.agg #[.int .i64 a0_0, .slice A0_1 l0_1.length c0_1], .int .i64 a1, .slice A2 l2.length c2] ?_; (with_reducible refine (sandpileref28_Dual.calls kj3 a0_0 _ _ l0_1 a1 _ _ l2 t534 t537 _ ?side1 ?side2 ?side3 ?side4 A18.out).mono ?_); (case side1 => exact Kd.C_below HR0_1.out zB); (case side2 => exact HC0_1.out); (case side3 => exact Kd.C_below HR2.out zB); (case side4 => exact HC2.out); rintro e w81 ⟨v535, rfl, ho0, hb⟩; refine ⟨_, rfl, ?_⟩; have HO536 := Aside0.mk (Kd.R_lower (Kd.R_new' (Kd.R_new' (Kd.R_new' ho0 (Kd.R_lt (zR HO524))) (Kd.R_lt (zR HO528))) (Kd.R_lt (zR HO532))) (below_size zB)); replace HO524 := zeRR HO524 ho0 hb; replace HO528 := zeRR HO528 ho0 hb; replace HO532 := zeRR HO532 ho0 hb; replace BK519 := zb BK519 hb; replace HB := zS HB hb; (try clear hb); (try clear ho0)) | ((with_reducible refine gate_callee (f := 11) rfl ?_); refine zL (some 52) Try.func11 #[] ?_; (with_reducible refine (sandpilelaw28_awake.calls  false _ A19.out).mono ?_); rintro e w82 ⟨rfl, hb⟩; refine ⟨_, rfl, ?_⟩; replace HO524 := zbR HO524 hb; replace HO528 := zbR HO528 hb; replace HO532 := zbR HO532 hb; replace HO536 := zbR HO536 hb; replace BK519 := zb BK519 hb; replace HB := zS HB hb; (try clear hb)))
     go_ret
     exact ⟨zE, zB⟩
theorem raises_ev (N : Int) (E : List S66) (q : Int) (c : List Int) : Ev (fun k => sandpilelaw28_SuperstableRaises.f k N E q c) true := by
 unfold sandpilelaw28_SuperstableRaises.f
 refine Ev.bind (few_ev N E) ?_
 have haw : ∀ b : Bool, b = true → Ev (fun k => sandpilelaw28_SuperstableRaises.j0 k q c b N E) true := fun b hb => by
  subst hb
  refine Ev.of_succ ?_
  simp only [sandpilelaw28_SuperstableRaises.j0, if_true, sandpilelaw28_awake.f, Option.bind_some]
  exact Ev.const _
 by_cases hf : fewB N E = true
 ·have hE := few_len hf
  simp only [if_pos hf]
  by_cases hl : (c.length : Int) > 40
  ·exact haw _ (decide_eq_true hl)
  ·rw [decide_eq_false hl]
   refine Ev.of_succ ?_
   simp only [sandpilelaw28_SuperstableRaises.j0, Bool.false_eq_true, if_false]
   by_cases he : err23 N E q c = 0
   ·have hr0 : rootG N E q = 0 := by
     unfold err23 at he
     by_cases e : errC N E q c = 0
     ·exact (errC_zero e).1
     ·rw [if_neg e] at he; exact absurd he e
    obtain ⟨n, q', rfl, rfl, h⟩ := root_small hf hr0
    obtain ⟨r, r1, r2, r3⟩ := h.raise_both he
    have hn := h.n5
    have hd : ((if calmB E n q' c = true then (Small.dualOf E n q' c, (0 : Int)) else (([] : List Int), (15 : Int))).1).length ≤ 1000 := by
     split
     ·simp [Small.dualOf]; omega
     ·simp
    refine Ev.bind r2 (Ev.bind r3 (Ev.bind (h.dual_ev he) (Ev.bind (h.refDual_ev he) ?_)))
    simp only [sandpilelaw28_awake.f, Option.bind_some, if_true]
    refine Ev.bind (same_ev _ (by omega)) ?_
    simp only [if_true]
    refine Ev.bind (same_ev _ hd) ?_
    simp only [if_true, beq_self_eq_true]
    exact Ev.const _
   ·have hb := burn_bad (N := N) (E := E) (q := q) (c := c) (by omega) he
    have hc := check23_ev N E q c (by omega)
    refine Ev.bind (a := (([] : List Int), err23 N E q c)) ?_ (Ev.bind (a := (([] : List Int), err23 N E q c)) ?_ (Ev.bind (a := (([] : List Int), err23 N E q c)) ?_ (Ev.bind (a := (([] : List Int), err23 N E q c)) ?_ ?_)))
    ·unfold superstable_Raise.f
     refine Ev.bind hb ?_
     simp only [if_neg he]; exact Ev.const _
    ·unfold sandpileref28_Raise.f
     refine Ev.bind hc ?_
     simp only [if_neg he]; exact Ev.const _
    ·unfold superstable_Dual.f
     refine Ev.bind hb ?_
     simp only [if_neg he]; exact Ev.const _
    ·unfold sandpileref28_Dual.f
     refine Ev.bind hc ?_
     simp only [if_neg he]; exact Ev.const _
    simp only [sandpilelaw28_awake.f, Option.bind_some, if_true]
    refine Ev.bind (same_ev _ (by simp)) ?_
    simp only [if_true]
    refine Ev.bind (same_ev _ (by simp)) ?_
    simp only [if_true, beq_self_eq_true]
    exact Ev.const _
 ·simp only [if_neg hf]
  exact haw _ rfl
theorem raises_pure (N : Int) (E : List S66) (q : Int) (c : List Int) : ∃ k, sandpilelaw28_SuperstableRaises.f k N E q c = some true := (raises_ev N E q c).get
end Go.Proofs.Ytffdiakgjakngaa.P
