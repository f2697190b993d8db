/- A part of the proof that SuperstableGenus answers true (text 12 of 13): own walks and plain laws; no conditions. -/
import Derived.Test.YtffdiakgjakngaaGenus11
namespace Go.Proofs.Ytffdiakgjakngaa.P
open Go.RowKit Go.Proofs.YtffdiakgjakngaaW.PrintWords Go.Proofs.YtffdiakgjakngaaW.PrintLast Go.Proofs.YtffdiakgjakngaaW.PrintMore
set_option linter.unusedVariables false
set_option linter.unusedSimpArgs false
set_option maxHeartbeats 8000000
set_option maxRecDepth 100000
section
set_option maxRecDepth 100000
theorem awake28_true : awake28.f 60 = some true := by kernel_rfl
def sandpilelaw28_awake.f : Option (Bool) := some true
theorem sandpilelaw28_awake.calls (r : Bool) (w : World) (h : sandpilelaw28_awake.f = some r) :
  Calls Try.prog 11 #[] w fun e w' => e = .returned (.bool r) ∧ Below w.heap.size w w' := by
 obtain rfl := Option.some.inj h
 exact awake28.calls 60 true rfl w awake28_true
end
mutual
def sandpilelaw28_SuperstableGenus.l0 : Nat → List Int → Int → List (List Int) → Int → Int → List Int → Int → Int → Option (Bool)
 | 0, _, _, _, _, _, _, _, _ => none
 | k + 1, x5, x7, x9, x11, x12, x49, x50, x51 => if x51 < x50 then (if 0 ≤ x51 then (if x51 < (x49.length : Int) then (sandpilelaw28_SuperstableGenus.l0 k x5 x7 x9 x11 (wrap64 (x12 + (rd x49 x51))) x49 x50 (wrap64 (x51 + 1))) else (none)) else (none)) else (sandpilelaw28_SuperstableGenus.l1 k x5 x7 x9 x11 x12 x9 (x9.length : Int) 0)
def sandpilelaw28_SuperstableGenus.l1 : Nat → List Int → Int → List (List Int) → Int → Int → List (List Int) → Int → Int → Option (Bool)
 | 0, _, _, _, _, _, _, _, _ => none
 | k + 1, x5, x7, x9, x11, x12, x59, x60, x61 => if x61 < x60 then (if 0 ≤ x61 then (if x61 < (x59.length : Int) then ((sandpileref17_Total.f k (rd_L2 x59 x61)).bind fun t561 => (if t561 = x11 then (sandpilelaw28_SuperstableGenus.l1 k x5 x7 x9 x11 x12 x59 x60 (wrap64 (x61 + 1))) else (some false))) else (none)) else (none)) else (if x12 = x7 then (if (x5.length : Int) = (wrap64 (x11 + 1)) then (if 0 < (x5.length : Int) then (if (rd x5 0) = 1 then (if 0 ≤ x11 then (if x11 < (x5.length : Int) then (if (rd x5 x11) = (x9.length : Int) then ((sandpilelaw28_awake.f).bind fun t564 => (some t564)) else (some false)) else (none)) else (none)) else (some false)) else (none)) else (some false)) else (some false))
end
def sandpilelaw28_SuperstableGenus.f (k : Nat) (a0_0 : Int) (l0_1 : List (S66)) (a1 : Int) : Option (Bool) := (sandpilelaw28_right.f k a0_0 l0_1 a1).bind fun t542 => (if t542 = true then ((superstable_Levels.f k a0_0 l0_1 a1).bind fun bt544 => ((superstable_Count.f k a0_0 l0_1 a1).bind fun bt548 => ((superstable_Maximal.f k a0_0 l0_1 a1).bind fun bt550 => (if (wrap64 ((wrap64 (bt544.2 + bt548.2)) + bt550.2)) = 0 then ((sandpileref08_Limited.f k a0_0 l0_1 50).bind fun bt554 => ((sandpileref08_Genus.f k bt554.1 bt554.2).bind fun t558 => (sandpilelaw28_SuperstableGenus.l0 k bt544.1 bt548.1 bt550.1 t558 0 bt544.1 (bt544.1.length : Int) 0))) else (some false))))) else ((sandpilelaw28_awake.f).bind fun t543 => (some t543)))
theorem sandpilelaw28_SuperstableGenus.calls (k : Nat) (a0_0 : Int) (A0_1 : Option Addr) (c0_1 : Nat) (l0_1 : List (S66)) (a1 : Int) (r : Bool) (w : World) (hr0_1 : Kd.C k66 w A0_1 l0_1.length l0_1) (hc0_1 : l0_1.length ≤ c0_1) (h : sandpilelaw28_SuperstableGenus.f k a0_0 l0_1 a1 = some r) :
  Calls Try.prog 6 #[.agg #[.int .i64 a0_0, .slice A0_1 l0_1.length c0_1], .int .i64 a1] w fun e w' => e = .returned (.bool r) ∧ Below w.heap.size w w' := by
 have hu24 := Try.underlying24
 have HR0_1 := Aside0.mk hr0_1
 have HC0_1 := Aside0.mk hc0_1
 clear hr0_1 hc0_1
 have HB := Aside0.mk (Below.refl w.heap.size w)
 have H : ((sandpilelaw28_right.f k a0_0 l0_1 a1).bind fun t542 => (if t542 = true then ((superstable_Levels.f k a0_0 l0_1 a1).bind fun bt544 => ((superstable_Count.f k a0_0 l0_1 a1).bind fun bt548 => ((superstable_Maximal.f k a0_0 l0_1 a1).bind fun bt550 => (if (wrap64 ((wrap64 (bt544.2 + bt548.2)) + bt550.2)) = 0 then ((sandpileref08_Limited.f k a0_0 l0_1 50).bind fun bt554 => ((sandpileref08_Genus.f k bt554.1 bt554.2).bind fun t558 => (sandpilelaw28_SuperstableGenus.l0 k bt544.1 bt548.1 bt550.1 t558 0 bt544.1 (bt544.1.length : Int) 0))) else (some false))))) else ((sandpilelaw28_awake.f).bind fun t543 => (some t543)))) = some r := h
 clear h
 replace H := Option.bind_eq_some_iff.mp H
 obtain ⟨t542, A30, H⟩ := H
 replace H : (if t542 = true then ((superstable_Levels.f k a0_0 l0_1 a1).bind fun bt544 => ((superstable_Count.f k a0_0 l0_1 a1).bind fun bt548 => ((superstable_Maximal.f k a0_0 l0_1 a1).bind fun bt550 => (if (wrap64 ((wrap64 (bt544.2 + bt548.2)) + bt550.2)) = 0 then ((sandpileref08_Limited.f k a0_0 l0_1 50).bind fun bt554 => ((sandpileref08_Genus.f k bt554.1 bt554.2).bind fun t558 => (sandpilelaw28_SuperstableGenus.l0 k bt544.1 bt548.1 bt550.1 t558 0 bt544.1 (bt544.1.length : Int) 0))) else (some false))))) else ((sandpilelaw28_awake.f).bind fun t543 => (some t543))) = some r := H
 have A3 := Aside0.mk A30
 clear A30
 by_cases c4 : t542 = true
 ·subst c4
  have H1 : ((superstable_Levels.f k a0_0 l0_1 a1).bind fun bt544 => ((superstable_Count.f k a0_0 l0_1 a1).bind fun bt548 => ((superstable_Maximal.f k a0_0 l0_1 a1).bind fun bt550 => (if (wrap64 ((wrap64 (bt544.2 + bt548.2)) + bt550.2)) = 0 then ((sandpileref08_Limited.f k a0_0 l0_1 50).bind fun bt554 => ((sandpileref08_Genus.f k bt554.1 bt554.2).bind fun t558 => (sandpilelaw28_SuperstableGenus.l0 k bt544.1 bt548.1 bt550.1 t558 0 bt544.1 (bt544.1.length : Int) 0))) else (some false))))) = some r := by rw [if_pos rfl] at H; exact H
  clear H
  have H := H1
  clear H1
  replace H := Option.bind_eq_some_iff.mp H
  obtain ⟨⟨t544, t547⟩, A50, H⟩ := H
  replace H : ((superstable_Count.f k a0_0 l0_1 a1).bind fun bt548 => ((superstable_Maximal.f k a0_0 l0_1 a1).bind fun bt550 => (if (wrap64 ((wrap64 (t547 + bt548.2)) + bt550.2)) = 0 then ((sandpileref08_Limited.f k a0_0 l0_1 50).bind fun bt554 => ((sandpileref08_Genus.f k bt554.1 bt554.2).bind fun t558 => (sandpilelaw28_SuperstableGenus.l0 k t544 bt548.1 bt550.1 t558 0 t544 (t544.length : Int) 0))) else (some false)))) = some r := H
  have A5 := Aside0.mk A50
  clear A50
  replace H := Option.bind_eq_some_iff.mp H
  obtain ⟨⟨t548, t549⟩, A60, H⟩ := H
  replace H : ((superstable_Maximal.f k a0_0 l0_1 a1).bind fun bt550 => (if (wrap64 ((wrap64 (t547 + t549)) + bt550.2)) = 0 then ((sandpileref08_Limited.f k a0_0 l0_1 50).bind fun bt554 => ((sandpileref08_Genus.f k bt554.1 bt554.2).bind fun t558 => (sandpilelaw28_SuperstableGenus.l0 k t544 t548 bt550.1 t558 0 t544 (t544.length : Int) 0))) else (some false))) = some r := H
  have A6 := Aside0.mk A60
  clear A60
  replace H := Option.bind_eq_some_iff.mp H
  obtain ⟨⟨t550, t553⟩, A70, H⟩ := H
  replace H : (if (wrap64 ((wrap64 (t547 + t549)) + t553)) = 0 then ((sandpileref08_Limited.f k a0_0 l0_1 50).bind fun bt554 => ((sandpileref08_Genus.f k bt554.1 bt554.2).bind fun t558 => (sandpilelaw28_SuperstableGenus.l0 k t544 t548 t550 t558 0 t544 (t544.length : Int) 0))) else (some false)) = some r := H
  have A7 := Aside0.mk A70
  clear A70
  by_cases c8 : (wrap64 ((wrap64 (t547 + t549)) + t553)) = 0
  ·rw [if_pos c8] at H
   have c8b0 : ((wrap64 ((wrap64 (t547 + t549)) + t553)) == 0) = true := beq_iff_eq.mpr c8
   have c8b1 : ((wrap64 ((wrap64 (t547 + t549)) + t553)) != 0) = false := bne_eq_false_iff_eq.mpr c8
   clear c8
   replace H := Option.bind_eq_some_iff.mp H
   obtain ⟨⟨t554, t555⟩, A90, H⟩ := H
   replace H : ((sandpileref08_Genus.f k t554 t555).bind fun t558 => (sandpilelaw28_SuperstableGenus.l0 k t544 t548 t550 t558 0 t544 (t544.length : Int) 0)) = some r := H
   have A9 := Aside0.mk A90
   clear A90
   replace H := Option.bind_eq_some_iff.mp H
   obtain ⟨t558, A100, H⟩ := H
   replace H : (sandpilelaw28_SuperstableGenus.l0 k t544 t548 t550 t558 0 t544 (t544.length : Int) 0) = some r := H
   have A10 := Aside0.mk A100
   clear A100
   have H' := Aside0.mk H
   clear H
   go_enter Try.func6, Try.ntmps6
   go_wp2_with (first | ((with_reducible refine gate_dst (N := 2) rfl ?_); (try (refine gate_guard (by rfl) ?_; dsimp only)); refine zX 2 #[.int .i64 a0_0, .slice A0_1 l0_1.length c0_1] 24 ?_; intro gb541 hg w11 hbox hb; have BK541 := Aside0.mk (hbox); have GW541 := zG HB hg; have GE541 := zG HB hg; replace HB := zS HB hb; clear hb hbox hg; obtain ⟨hcz12_0, hcz12_1, hfz12_0, hfz12_1⟩ := zD2 BK541) | ((with_reducible refine gate_callee (f := 27) rfl ?_); refine zL (some 19) Try.func27 #[.agg #[.int .i64 a0_0, .slice A0_1 l0_1.length c0_1], .int .i64 a1] ?_; (with_reducible refine (sandpilelaw28_right.calls k a0_0 _ _ l0_1 a1 true _ ?side1 ?side2 A3.out).mono ?_); (case side1 => exact Kd.C_below HR0_1.out zB); (case side2 => exact HC0_1.out); rintro e w13 ⟨rfl, hb⟩; refine ⟨_, rfl, ?_⟩; replace BK541 := zb BK541 hb; replace HB := zS HB hb; (try clear hb); obtain ⟨hcz14_0, hcz14_1, hfz14_0, hfz14_1⟩ := zD2 BK541) | ((with_reducible refine gate_callee (f := 14) rfl ?_); refine zL (some 25) Try.func14 #[.agg #[.int .i64 a0_0, .slice A0_1 l0_1.length c0_1], .int .i64 a1] ?_; (with_reducible refine (superstable_Levels.calls k a0_0 _ _ l0_1 a1 t544 t547 _ ?side1 ?side2 A5.out).mono ?_); (case side1 => exact Kd.C_below HR0_1.out zB); (case side2 => exact HC0_1.out); rintro e w15 ⟨v545, rfl, ho0, hb⟩; refine ⟨_, rfl, ?_⟩; have HO546 := Aside0.mk (Kd.R_lower ho0 (below_size zB)); replace BK541 := zb BK541 hb; replace HB := zS HB hb; (try clear hb); (try clear ho0); obtain ⟨hcz16_0, hcz16_1, hfz16_0, hfz16_1⟩ := zD2 BK541) | ((with_reducible refine gate_callee (f := 13) rfl ?_); refine zL (some 31) Try.func13 #[.agg #[.int .i64 a0_0, .slice A0_1 l0_1.length c0_1], .int .i64 a1] ?_; (with_reducible refine (superstable_Count.calls k a0_0 _ _ l0_1 a1 t548 t549 _ ?side1 ?side2 A6.out).mono ?_); (case side1 => exact Kd.C_below HR0_1.out zB); (case side2 => exact HC0_1.out); rintro e w17 ⟨rfl, hb⟩; refine ⟨_, rfl, ?_⟩; replace HO546 := zbR HO546 hb; replace BK541 := zb BK541 hb; replace HB := zS HB hb; (try clear hb); obtain ⟨hcz18_0, hcz18_1, hfz18_0, hfz18_1⟩ := zD2 BK541) | ((with_reducible refine gate_callee (f := 20) rfl ?_); refine zL (some 37) Try.func20 #[.agg #[.int .i64 a0_0, .slice A0_1 l0_1.length c0_1], .int .i64 a1] ?_; (with_reducible refine (superstable_Maximal.calls k a0_0 _ _ l0_1 a1 t550 t553 _ ?side1 ?side2 A7.out).mono ?_); (case side1 => exact Kd.C_below HR0_1.out zB); (case side2 => exact HC0_1.out); rintro e w19 ⟨v551, rfl, ho0, hb⟩; refine ⟨_, rfl, ?_⟩; have HO552 := Aside0.mk (Kd.N_lower (Kd.N_mono (ok' := fun k_ => some k_ ≠ (v545 : Value).ownBlock ∧ k_ ≠ gb541) ho0 (fun k_ hk_ => ⟨(Kd.fresh' (Kd.R_lt (zR HO546)) k_ hk_), (Kd.freshB (zK BK541) k_ hk_)⟩)) (below_size zB)); replace HO546 := zbR HO546 hb; replace BK541 := zb BK541 hb; replace HB := zS HB hb; (try clear hb); (try clear ho0); obtain ⟨hcz20_0, hcz20_1, hfz20_0, hfz20_1⟩ := zD2 BK541) | ((with_reducible refine gate_callee (f := 29) rfl ?_); refine zL (some 47) Try.func29 #[.agg #[.int .i64 a0_0, .slice A0_1 l0_1.length c0_1], .int .i64 50] ?_; (with_reducible refine (sandpileref08_Limited.calls k a0_0 _ _ l0_1 50 t554 t555 _ ?side1 ?side2 A9.out).mono ?_); (case side1 => exact Kd.C_below HR0_1.out zB); (case side2 => exact HC0_1.out); rintro e w21 ⟨v556, rfl, ho0, hb⟩; refine ⟨_, rfl, ?_⟩; replace HO546 := zbR HO546 hb; replace HO552 := zeNR HO552 ho0 hb; have HO557 := Aside0.mk (Kd.R_lower ho0 (below_size zB)); replace BK541 := zb BK541 hb; replace HB := zS HB hb; (try clear hb); (try clear ho0); obtain ⟨Ao22, co22, eo22⟩ := Kd.R_slice HO557.out; subst eo22) | ((with_reducible refine gate_callee (f := 28) rfl ?_); refine zL (some 48) Try.func28 #[.agg #[.int .i64 t554, .slice Ao22 t555.length co22]] ?_; (with_reducible refine (sandpileref08_Genus.calls k t554 _ _ t555 t558 _ ?side1 ?side2 A10.out).mono ?_); (case side1 => exact zC (Kd.R_reads' HO557.out).2.2); (case side2 => exact (Kd.R_reads' HO557.out).2.1); rintro e w23 ⟨rfl, hb⟩; refine ⟨_, rfl, ?_⟩; replace HO546 := zbR HO546 hb; replace HO552 := zbN HO552 hb; replace HO557 := zbR HO557 hb; replace BK541 := zb BK541 hb; replace HB := zS HB hb; (try clear hb); obtain ⟨Ao24, co24, eo24⟩ := Kd.R_slice HO546.out; subst eo24))
   go_loopg [12, 51] k (fun kq v12 v51 w' => ∃ (x12_1 : Int) (x51_1 : Int), v12 = .int .i64 x12_1 ∧ v51 = .int .i64 x51_1 ∧ Aside0 (sandpilelaw28_SuperstableGenus.l0 kq t544 t548 t550 t558 x12_1 t544 (t544.length : Int) x51_1 = some r) ∧ Aside0 (kq ≤ k) ∧ Aside0 (Kd.R (Kd.int .i64) 3 w' w.heap.size (fun _ => True) (.slice Ao24 t544.length co24) t544) ∧ Aside0 (Kd.N (Kd.slice 3 (Kd.int .i64)) 42 w' w.heap.size (fun k_ => some k_ ≠ ((.slice Ao24 t544.length co24) : Value).ownBlock ∧ some k_ ≠ ((.slice Ao24 t544.length co24) : Value).ownBlock ∧ k_ ≠ gb541) v551 t550) ∧ Aside0 (Kd.R (Kd.int .i64) 3 w' w.heap.size (fun _ => True) (.slice Ao24 t544.length co24) t544) ∧ Aside0 (w'.heap[gb541]? = some (.cells #[.int .i64 a0_0, (.slice A0_1 l0_1.length c0_1)] 24 (0, 0))) ∧ Aside0 (Below w.heap.size w w'))
   case atStart => exact ⟨(0), (0), zT, zT, H', ⟨Nat.le_refl _⟩, ⟨zR HO546⟩, ⟨by (with_reducible repeat (first | apply Kd.N_alloc | apply Kd.N_drewN | apply Kd.N_drew)); exact Kd.N_mono HO552.out (fun _ hk => ⟨hk.1.1, ⟨hk.1.1, hk.1.2⟩⟩)⟩, ⟨zR HO546⟩, ⟨zK BK541⟩, ⟨zB⟩⟩
   case round =>
    clear H'
    try clear c1
    try clear c2
    try clear p2
    try clear c4
    try clear c6
    try clear p6
    try clear c8
    try clear c8b0
    try clear c8b1
    try clear c13
    try clear c14
    try clear c20
    try clear hcz12_0
    try clear hcz12_1
    try clear hcz14_0
    try clear hcz14_1
    try clear hcz16_0
    try clear hcz16_1
    try clear hcz18_0
    try clear hcz18_1
    try clear hcz20_0
    try clear hcz20_1
    try clear hfz12_0
    try clear hfz12_1
    try clear hfz14_0
    try clear hfz14_1
    try clear hfz16_0
    try clear hfz16_1
    try clear hfz18_0
    try clear hfz18_1
    try clear hfz20_0
    try clear hfz20_1
    obtain ⟨x12_1, x51_1, rfl, rfl, HA, HK1, HO_5, HO_9, HO_49, BK541, HB⟩ := hrel
    cases gk with
    | zero => exact absurd HA.out (by simp [sandpilelaw28_SuperstableGenus.l0])
    | succ k1 =>
     have H := HA.out
     clear HA
     simp only [sandpilelaw28_SuperstableGenus.l0] at H
     by_cases c25 : x51_1 < (t544.length : Int)
     ·rw [if_pos c25] at H
      have c25b0 : decide (x51_1 < (t544.length : Int)) = true := decide_eq_true c25
      clear c25
      by_cases c26 : 0 ≤ x51_1
      ·rw [if_pos c26] at H
       have c26b0 : decide (0 ≤ x51_1) = true := decide_eq_true c26
       clear c26
       by_cases c27 : x51_1 < (t544.length : Int)
       ·rw [if_pos c27] at H
        have c27b0 : decide (x51_1 < (t544.length : Int)) = true := decide_eq_true c27
        clear c27
        have H' := Aside0.mk H
        clear H
        have p559 : 0 ≤ (x51_1 : Int) := of_decide_eq_true ‹_›
        have q559 : x51_1 < (t544.length : Int) := of_decide_eq_true ‹_›
        obtain ⟨ad559, e559, hx559_0⟩ := Kd.at_int (Kd.R_reads' HO_49.out).2.2 x51_1 p559 q559
        cases e559
        replace p559 := eq_true p559
        replace q559 := eq_true q559
        go_wp2
        go_roundg k1
        case measure => have := HK1.out; omega
        case rel => exact ⟨(wrap64 (x12_1 + (rd t544 x51_1))), (wrap64 (x51_1 + 1)), zT, zT, H', ⟨by have := HK1.out; omega⟩, ⟨zR HO_5⟩, ⟨zN HO_9⟩, ⟨zR HO_49⟩, ⟨zK BK541⟩, ⟨zB⟩⟩
       ·rw [if_neg c27] at H
        exact absurd H (by simp)
      ·rw [if_neg c26] at H
       exact absurd H (by simp)
     ·rw [if_neg c25] at H
      have c25b0 : decide (x51_1 < (t544.length : Int)) = false := decide_eq_false c25
      clear c25
      have H' := Aside0.mk H
      clear H
      obtain ⟨Ao28, co28, eo28⟩ := Kd.N_slice HO_9.out
      subst eo28
      go_wp2
      go_loopg [61] k1 (fun kq v61 w' => ∃ (x61_2 : Int), v61 = .int .i64 x61_2 ∧ Aside0 (sandpilelaw28_SuperstableGenus.l1 kq t544 t548 t550 t558 x12_1 t550 (t550.length : Int) x61_2 = some r) ∧ Aside0 (kq ≤ k1) ∧ Aside0 (Kd.R (Kd.int .i64) 3 w' w.heap.size (fun _ => True) (.slice Ao24 t544.length co24) t544) ∧ Aside0 (Kd.N (Kd.slice 3 (Kd.int .i64)) 42 w' w.heap.size (fun k_ => some k_ ≠ ((.slice Ao24 t544.length co24) : Value).ownBlock ∧ k_ ≠ gb541) (.slice Ao28 t550.length co28) t550) ∧ Aside0 (Kd.N (Kd.slice 3 (Kd.int .i64)) 42 w' w.heap.size (fun k_ => some k_ ≠ ((.slice Ao24 t544.length co24) : Value).ownBlock ∧ k_ ≠ gb541) (.slice Ao28 t550.length co28) t550) ∧ Aside0 (w'.heap[gb541]? = some (.cells #[.int .i64 a0_0, (.slice A0_1 l0_1.length c0_1)] 24 (0, 0))) ∧ Aside0 (Below w.heap.size w w'))
      case atStart => exact ⟨(0), zT, H', ⟨Nat.le_refl _⟩, ⟨zR HO_5⟩, ⟨by (with_reducible repeat (first | apply Kd.N_alloc | apply Kd.N_drewN | apply Kd.N_drew)); exact Kd.N_mono HO_9.out (fun _ hk => ⟨hk.1, hk.2.2⟩)⟩, ⟨by (with_reducible repeat (first | apply Kd.N_alloc | apply Kd.N_drewN | apply Kd.N_drew)); exact Kd.N_mono HO_9.out (fun _ hk => ⟨hk.1, hk.2.2⟩)⟩, ⟨zK BK541⟩, ⟨zB⟩⟩
      case round =>
       clear H'
       try clear c1
       try clear c2
       try clear p2
       try clear c4
       try clear p5
       try clear q5
       try clear hx5
       try clear c6
       try clear p6
       try clear c8
       try clear c8b0
       try clear c8b1
       try clear c13
       try clear c14
       try clear c20
       try clear c25
       try clear c25b0
       try clear c26
       try clear c26b0
       try clear c27
       try clear c27b0
       try clear c28
       try clear hcz12_0
       try clear hcz12_1
       try clear hcz14_0
       try clear hcz14_1
       try clear hcz16_0
       try clear hcz16_1
       try clear hcz18_0
       try clear hcz18_1
       try clear hcz20_0
       try clear hcz20_1
       try clear hfz12_0
       try clear hfz12_1
       try clear hfz14_0
       try clear hfz14_1
       try clear hfz16_0
       try clear hfz16_1
       try clear hfz18_0
       try clear hfz18_1
       try clear hfz20_0
       try clear hfz20_1
       try clear hx559_0
       try clear p2
       try clear p559
       try clear p6
       try clear q559
       obtain ⟨x61_2, rfl, HA, HK2, HO_5, HO_9, HO_59, BK541, HB⟩ := hrel
       cases gk with
       | zero => exact absurd HA.out (by simp [sandpilelaw28_SuperstableGenus.l1])
       | succ k2 =>
        have H := HA.out
        clear HA
        simp only [sandpilelaw28_SuperstableGenus.l1] at H
        by_cases c29 : x61_2 < (t550.length : Int)
        ·rw [if_pos c29] at H
         have c29b0 : decide (x61_2 < (t550.length : Int)) = true := decide_eq_true c29
         clear c29
         by_cases c30 : 0 ≤ x61_2
         ·rw [if_pos c30] at H
          have c30b0 : decide (0 ≤ x61_2) = true := decide_eq_true c30
          clear c30
          by_cases c31 : x61_2 < (t550.length : Int)
          ·rw [if_pos c31] at H
           have c31b0 : decide (x61_2 < (t550.length : Int)) = true := decide_eq_true c31
           clear c31
           replace H := Option.bind_eq_some_iff.mp H
           obtain ⟨t561, A320, H⟩ := H
           replace H : (if t561 = t558 then (sandpilelaw28_SuperstableGenus.l1 k2 t544 t548 t550 t558 x12_1 t550 (t550.length : Int) (wrap64 (x61_2 + 1))) else (some false)) = some r := H
           have A32 := Aside0.mk A320
           clear A320
           by_cases c33 : t561 = t558
           ·rw [if_pos c33] at H
            have c33b0 : (t561 == t558) = true := beq_iff_eq.mpr c33
            have c33b1 : (t561 != t558) = false := bne_eq_false_iff_eq.mpr c33
            clear c33
            have H' := Aside0.mk H
            clear H
            have p560 : 0 ≤ (x61_2 : Int) := of_decide_eq_true ‹_›
            have q560 : x61_2 < (t550.length : Int) := of_decide_eq_true ‹_›
            obtain ⟨ad560, A560_0, c560_0, e560, hx560_0, hl560_0, hi560_0⟩ := at_L2 (Kd.N_reads' HO_59.out).2.2 x61_2 p560 q560
            cases e560
            obtain ⟨ce560, hce560, hMe560, hcc560⟩ := Kd.N_get HO_59.out [] x61_2 p560 (by first | exact q560 | exact of_decide_eq_true ‹_› | (have e_ := (Kd.N_reads' HO_59.out).1; omega))
            obtain ⟨ua560_0, uc560_0, rfl, ul560_0, ge560_0⟩ := Kd.FK_slice_open hMe560
            have hv560_0 := hcc560 0 _ rfl
            rw [Nat.add_zero, show ((Kd.slice 3 (Kd.int .i64))).sz = 1 from rfl, Nat.mul_one] at hv560_0
            replace hv560_0 := Option.some.inj (hv560_0.symm.trans hx560_0)
            injection hv560_0 with hva_ hvn_ hvc_
            rw [hva_] at ge560_0
            rw [hvc_] at ul560_0
            have HL560_0 := Aside0.mk (show Kd.V (Kd.int .i64) 3 _ w.heap.size _ _ (rd_L2 t550 x61_2) from Kd.V_mk ul560_0 ge560_0)
            clear hva_ hvn_ hvc_ ge560_0 ul560_0
            clear hcc560 hce560
            have HR560_0 := Aside0.mk hi560_0
            have HC560_0 := Aside0.mk hl560_0
            clear hi560_0 hl560_0
            replace p560 := eq_true p560
            replace q560 := eq_true q560
            go_wp2_with (first | ((with_reducible refine gate_callee (f := 30) rfl ?_); refine zL (some 66) Try.func30 #[.slice A560_0 (rd_L2 t550 x61_2).length c560_0] ?_; (with_reducible refine (sandpileref17_Total.calls k2 _ _ (rd_L2 t550 x61_2) t561 _ ?side1 ?side2 A32.out).mono ?_); (case side1 => repeat (first | exact (by repeat (first | (with_reducible exact HR560_0.out) | (with_reducible refine Kd.C_alloc ?_ _) | (with_reducible refine Kd.C_drewN ?_ _) | (with_reducible refine Kd.C_drew ?_) | exact HR560_0.out)) | (with_reducible refine Kd.C_alloc ?_ _) | (with_reducible refine Kd.C_drewN ?_ _) | (with_reducible refine Kd.C_drew ?_))); (case side2 => exact HC560_0.out); rintro e w' ⟨rfl, ⟨nd, rfl⟩⟩; refine ⟨_, rfl, ?_⟩))
            go_roundg k2
            case measure => have := HK1.out; have := HK2.out; omega
            case rel => exact ⟨(wrap64 (x61_2 + 1)), zT, H', ⟨by have := HK1.out; have := HK2.out; omega⟩, ⟨zR HO_5⟩, ⟨zN HO_9⟩, ⟨zN HO_59⟩, ⟨zK BK541⟩, ⟨zB⟩⟩
           ·rw [if_neg c33] at H
            have c33b0 : (t561 == t558) = false := beq_eq_false_iff_ne.mpr c33
            have c33b1 : (t561 != t558) = true := bne_iff_ne.mpr c33
            obtain rfl := Option.some.inj H
            have p560 : 0 ≤ (x61_2 : Int) := of_decide_eq_true ‹_›
            have q560 : x61_2 < (t550.length : Int) := of_decide_eq_true ‹_›
            obtain ⟨ad560, A560_0, c560_0, e560, hx560_0, hl560_0, hi560_0⟩ := at_L2 (Kd.N_reads' HO_59.out).2.2 x61_2 p560 q560
            cases e560
            obtain ⟨ce560, hce560, hMe560, hcc560⟩ := Kd.N_get HO_59.out [] x61_2 p560 (by first | exact q560 | exact of_decide_eq_true ‹_› | (have e_ := (Kd.N_reads' HO_59.out).1; omega))
            obtain ⟨ua560_0, uc560_0, rfl, ul560_0, ge560_0⟩ := Kd.FK_slice_open hMe560
            have hv560_0 := hcc560 0 _ rfl
            rw [Nat.add_zero, show ((Kd.slice 3 (Kd.int .i64))).sz = 1 from rfl, Nat.mul_one] at hv560_0
            replace hv560_0 := Option.some.inj (hv560_0.symm.trans hx560_0)
            injection hv560_0 with hva_ hvn_ hvc_
            rw [hva_] at ge560_0
            rw [hvc_] at ul560_0
            have HL560_0 := Aside0.mk (show Kd.V (Kd.int .i64) 3 _ w.heap.size _ _ (rd_L2 t550 x61_2) from Kd.V_mk ul560_0 ge560_0)
            clear hva_ hvn_ hvc_ ge560_0 ul560_0
            clear hcc560 hce560
            have HR560_0 := Aside0.mk hi560_0
            have HC560_0 := Aside0.mk hl560_0
            clear hi560_0 hl560_0
            replace p560 := eq_true p560
            replace q560 := eq_true q560
            go_wp2_with (first | ((with_reducible refine gate_callee (f := 30) rfl ?_); refine zL (some 66) Try.func30 #[.slice A560_0 (rd_L2 t550 x61_2).length c560_0] ?_; (with_reducible refine (sandpileref17_Total.calls k2 _ _ (rd_L2 t550 x61_2) t561 _ ?side1 ?side2 A32.out).mono ?_); (case side1 => repeat (first | exact (by repeat (first | (with_reducible exact HR560_0.out) | (with_reducible refine Kd.C_alloc ?_ _) | (with_reducible refine Kd.C_drewN ?_ _) | (with_reducible refine Kd.C_drew ?_) | exact HR560_0.out)) | (with_reducible refine Kd.C_alloc ?_ _) | (with_reducible refine Kd.C_drewN ?_ _) | (with_reducible refine Kd.C_drew ?_))); (case side2 => exact HC560_0.out); rintro e w' ⟨rfl, ⟨nd, rfl⟩⟩; refine ⟨_, rfl, ?_⟩))
            go_ret
            exact ⟨zE, zB⟩
          ·rw [if_neg c31] at H
           exact absurd H (by simp)
         ·rw [if_neg c30] at H
          exact absurd H (by simp)
        ·rw [if_neg c29] at H
         have c29b0 : decide (x61_2 < (t550.length : Int)) = false := decide_eq_false c29
         clear c29
         by_cases c34 : x12_1 = t548
         ·rw [if_pos c34] at H
          have c34b0 : (x12_1 == t548) = true := beq_iff_eq.mpr c34
          have c34b1 : (x12_1 != t548) = false := bne_eq_false_iff_eq.mpr c34
          clear c34
          by_cases c35 : (t544.length : Int) = (wrap64 (t558 + 1))
          ·rw [if_pos c35] at H
           have c35b0 : ((t544.length : Int) == (wrap64 (t558 + 1))) = true := beq_iff_eq.mpr c35
           have c35b1 : ((t544.length : Int) != (wrap64 (t558 + 1))) = false := bne_eq_false_iff_eq.mpr c35
           clear c35
           by_cases c36 : 0 < (t544.length : Int)
           ·rw [if_pos c36] at H
            have c36b0 : decide (0 < (t544.length : Int)) = true := decide_eq_true c36
            have c36b1 : decide (0 < t544.length) = true := decide_eq_true (by omega)
            clear c36
            by_cases c37 : (rd t544 0) = 1
            ·rw [if_pos c37] at H
             have c37b0 : ((rd t544 0) == 1) = true := beq_iff_eq.mpr c37
             have c37b1 : ((rd t544 0) != 1) = false := bne_eq_false_iff_eq.mpr c37
             clear c37
             by_cases c38 : 0 ≤ t558
             ·rw [if_pos c38] at H
              have c38b0 : decide (0 ≤ t558) = true := decide_eq_true c38
              clear c38
              by_cases c39 : t558 < (t544.length : Int)
              ·rw [if_pos c39] at H
               have c39b0 : decide (t558 < (t544.length : Int)) = true := decide_eq_true c39
               clear c39
               by_cases c40 : (rd t544 t558) = (t550.length : Int)
               ·rw [if_pos c40] at H
                have c40b0 : ((rd t544 t558) == (t550.length : Int)) = true := beq_iff_eq.mpr c40
                have c40b1 : ((rd t544 t558) != (t550.length : Int)) = false := bne_eq_false_iff_eq.mpr c40
                clear c40
                replace H := Option.bind_eq_some_iff.mp H
                obtain ⟨t564, A410, H⟩ := H
                replace H : (some t564) = some r := H
                have A41 := Aside0.mk A410
                clear A410
                obtain rfl := Option.some.inj H
                have p562 : 0 ≤ (0 : Int) := (by omega)
                have q562 : 0 < (t544.length : Int) := of_decide_eq_true ‹_›
                obtain ⟨ad562, e562, hx562_0⟩ := Kd.at_int (Kd.R_reads' HO_5.out).2.2 0 p562 q562
                cases e562
                have qi562 : (0 < t544.length) = True := eq_true (by omega)
                (try rw [show ((0 : Int)).toNat = 0 from rfl] at hx562_0)
                (try rw [Addr.add_zero'] at hx562_0)
                replace p562 := eq_true p562
                replace q562 := eq_true q562
                have p563 : 0 ≤ (t558 : Int) := of_decide_eq_true ‹_›
                have q563 : t558 < (t544.length : Int) := of_decide_eq_true ‹_›
                obtain ⟨ad563, e563, hx563_0⟩ := Kd.at_int (Kd.R_reads' HO_5.out).2.2 t558 p563 q563
                obtain rfl : ad562 = ad563 := (by injection e563)
                replace p563 := eq_true p563
                replace q563 := eq_true q563
                go_wp2_with (first | (go_at_call 11; (with_reducible refine (sandpilelaw28_awake.calls  t564 _ A41.out).mono ?_); rintro e w42 ⟨rfl, hb⟩; replace HO_5 := zbR HO_5 hb; replace HO_9 := zbN HO_9 hb; replace HO_59 := zbN HO_59 hb; replace BK541 := zb BK541 hb; replace HB := zS HB hb; (try clear hb)))
                go_ret
                exact ⟨zE, zB⟩
               ·rw [if_neg c40] at H
                have c40b0 : ((rd t544 t558) == (t550.length : Int)) = false := beq_eq_false_iff_ne.mpr c40
                have c40b1 : ((rd t544 t558) != (t550.length : Int)) = true := bne_iff_ne.mpr c40
                obtain rfl := Option.some.inj H
                have p562 : 0 ≤ (0 : Int) := (by omega)
                have q562 : 0 < (t544.length : Int) := of_decide_eq_true ‹_›
                obtain ⟨ad562, e562, hx562_0⟩ := Kd.at_int (Kd.R_reads' HO_5.out).2.2 0 p562 q562
                cases e562
                have qi562 : (0 < t544.length) = True := eq_true (by omega)
                (try rw [show ((0 : Int)).toNat = 0 from rfl] at hx562_0)
                (try rw [Addr.add_zero'] at hx562_0)
                replace p562 := eq_true p562
                replace q562 := eq_true q562
                have p563 : 0 ≤ (t558 : Int) := of_decide_eq_true ‹_›
                have q563 : t558 < (t544.length : Int) := of_decide_eq_true ‹_›
                obtain ⟨ad563, e563, hx563_0⟩ := Kd.at_int (Kd.R_reads' HO_5.out).2.2 t558 p563 q563
                obtain rfl : ad562 = ad563 := (by injection e563)
                replace p563 := eq_true p563
                replace q563 := eq_true q563
                go_wp2
                go_ret
                exact ⟨zE, zB⟩
              ·rw [if_neg c39] at H
               exact absurd H (by simp)
             ·rw [if_neg c38] at H
              exact absurd H (by simp)
            ·rw [if_neg c37] at H
             have c37b0 : ((rd t544 0) == 1) = false := beq_eq_false_iff_ne.mpr c37
             have c37b1 : ((rd t544 0) != 1) = true := bne_iff_ne.mpr c37
             obtain rfl := Option.some.inj H
             have p562 : 0 ≤ (0 : Int) := (by omega)
             have q562 : 0 < (t544.length : Int) := of_decide_eq_true ‹_›
             obtain ⟨ad562, e562, hx562_0⟩ := Kd.at_int (Kd.R_reads' HO_5.out).2.2 0 p562 q562
             cases e562
             have qi562 : (0 < t544.length) = True := eq_true (by omega)
             (try rw [show ((0 : Int)).toNat = 0 from rfl] at hx562_0)
             (try rw [Addr.add_zero'] at hx562_0)
             replace p562 := eq_true p562
             replace q562 := eq_true q562
             go_wp2
             go_ret
             exact ⟨zE, zB⟩
           ·rw [if_neg c36] at H
            exact absurd H (by simp)
          ·rw [if_neg c35] at H
           have c35b0 : ((t544.length : Int) == (wrap64 (t558 + 1))) = false := beq_eq_false_iff_ne.mpr c35
           have c35b1 : ((t544.length : Int) != (wrap64 (t558 + 1))) = true := bne_iff_ne.mpr c35
           obtain rfl := Option.some.inj H
           go_wp2
           go_ret
           exact ⟨zE, zB⟩
         ·rw [if_neg c34] at H
          have c34b0 : (x12_1 == t548) = false := beq_eq_false_iff_ne.mpr c34
          have c34b1 : (x12_1 != t548) = true := bne_iff_ne.mpr c34
          obtain rfl := Option.some.inj H
          go_wp2
          go_ret
          exact ⟨zE, zB⟩
  ·rw [if_neg c8] at H
   have c8b0 : ((wrap64 ((wrap64 (t547 + t549)) + t553)) == 0) = false := beq_eq_false_iff_ne.mpr c8
   have c8b1 : ((wrap64 ((wrap64 (t547 + t549)) + t553)) != 0) = true := bne_iff_ne.mpr c8
   obtain rfl := Option.some.inj H
   go_enter Try.func6, Try.ntmps6
   go_wp2_with (first | ((with_reducible refine gate_dst (N := 2) rfl ?_); (try (refine gate_guard (by rfl) ?_; dsimp only)); refine zX 2 #[.int .i64 a0_0, .slice A0_1 l0_1.length c0_1] 24 ?_; intro gb541 hg w43 hbox hb; have BK541 := Aside0.mk (hbox); have GW541 := zG HB hg; have GE541 := zG HB hg; replace HB := zS HB hb; clear hb hbox hg; obtain ⟨hcz44_0, hcz44_1, hfz44_0, hfz44_1⟩ := zD2 BK541) | ((with_reducible refine gate_callee (f := 27) rfl ?_); refine zL (some 19) Try.func27 #[.agg #[.int .i64 a0_0, .slice A0_1 l0_1.length c0_1], .int .i64 a1] ?_; (with_reducible refine (sandpilelaw28_right.calls k a0_0 _ _ l0_1 a1 true _ ?side1 ?side2 A3.out).mono ?_); (case side1 => exact Kd.C_below HR0_1.out zB); (case side2 => exact HC0_1.out); rintro e w45 ⟨rfl, hb⟩; refine ⟨_, rfl, ?_⟩; replace BK541 := zb BK541 hb; replace HB := zS HB hb; (try clear hb); obtain ⟨hcz46_0, hcz46_1, hfz46_0, hfz46_1⟩ := zD2 BK541) | ((with_reducible refine gate_callee (f := 14) rfl ?_); refine zL (some 25) Try.func14 #[.agg #[.int .i64 a0_0, .slice A0_1 l0_1.length c0_1], .int .i64 a1] ?_; (with_reducible refine (superstable_Levels.calls k a0_0 _ _ l0_1 a1 t544 t547 _ ?side1 ?side2 A5.out).mono ?_); (case side1 => exact Kd.C_below HR0_1.out zB); (case side2 => exact HC0_1.out); rintro e w47 ⟨v545, rfl, ho0, hb⟩; refine ⟨_, rfl, ?_⟩; have HO546 := Aside0.mk (Kd.R_lower ho0 (below_size zB)); replace BK541 := zb BK541 hb; replace HB := zS HB hb; (try clear hb); (try clear ho0); obtain ⟨hcz48_0, hcz48_1, hfz48_0, hfz48_1⟩ := zD2 BK541) | ((with_reducible refine gate_callee (f := 13) rfl ?_); refine zL (some 31) Try.func13 #[.agg #[.int .i64 a0_0, .slice A0_1 l0_1.length c0_1], .int .i64 a1] ?_; (with_reducible refine (superstable_Count.calls k a0_0 _ _ l0_1 a1 t548 t549 _ ?side1 ?side2 A6.out).mono ?_); (case side1 => exact Kd.C_below HR0_1.out zB); (case side2 => exact HC0_1.out); rintro e w49 ⟨rfl, hb⟩; refine ⟨_, rfl, ?_⟩; replace HO546 := zbR HO546 hb; replace BK541 := zb BK541 hb; replace HB := zS HB hb; (try clear hb); obtain ⟨hcz50_0, hcz50_1, hfz50_0, hfz50_1⟩ := zD2 BK541) | ((with_reducible refine gate_callee (f := 20) rfl ?_); refine zL (some 37) Try.func20 #[.agg #[.int .i64 a0_0, .slice A0_1 l0_1.length c0_1], .int .i64 a1] ?_; (with_reducible refine (superstable_Maximal.calls k a0_0 _ _ l0_1 a1 t550 t553 _ ?side1 ?side2 A7.out).mono ?_); (case side1 => exact Kd.C_below HR0_1.out zB); (case side2 => exact HC0_1.out); rintro e w51 ⟨v551, rfl, ho0, hb⟩; refine ⟨_, rfl, ?_⟩; have HO552 := Aside0.mk (Kd.N_lower (Kd.N_mono (ok' := fun k_ => some k_ ≠ (v545 : Value).ownBlock ∧ k_ ≠ gb541) ho0 (fun k_ hk_ => ⟨(Kd.fresh' (Kd.R_lt (zR HO546)) k_ hk_), (Kd.freshB (zK BK541) k_ hk_)⟩)) (below_size zB)); replace HO546 := zbR HO546 hb; replace BK541 := zb BK541 hb; replace HB := zS HB hb; (try clear hb); (try clear ho0)))
   go_ret
   exact ⟨zE, zB⟩
 ·replace c4 := Bool.eq_false_iff.mpr c4
  subst c4
  have H1 : ((sandpilelaw28_awake.f).bind fun t543 => (some t543)) = some r := by rw [if_neg (show ¬ (false = true) by decide)] at H; exact H
  clear H
  have H := H1
  clear H1
  replace H := Option.bind_eq_some_iff.mp H
  obtain ⟨t543, A520, H⟩ := H
  replace H : (some t543) = some r := H
  have A52 := Aside0.mk A520
  clear A520
  obtain rfl := Option.some.inj H
  go_enter Try.func6, Try.ntmps6
  go_wp2_with (first | ((with_reducible refine gate_dst (N := 2) rfl ?_); (try (refine gate_guard (by rfl) ?_; dsimp only)); refine zX 2 #[.int .i64 a0_0, .slice A0_1 l0_1.length c0_1] 24 ?_; intro gb541 hg w53 hbox hb; have BK541 := Aside0.mk (hbox); have GW541 := zG HB hg; have GE541 := zG HB hg; replace HB := zS HB hb; clear hb hbox hg; obtain ⟨hcz54_0, hcz54_1, hfz54_0, hfz54_1⟩ := zD2 BK541) | ((with_reducible refine gate_callee (f := 27) rfl ?_); refine zL (some 19) Try.func27 #[.agg #[.int .i64 a0_0, .slice A0_1 l0_1.length c0_1], .int .i64 a1] ?_; (with_reducible refine (sandpilelaw28_right.calls k a0_0 _ _ l0_1 a1 false _ ?side1 ?side2 A3.out).mono ?_); (case side1 => exact Kd.C_below HR0_1.out zB); (case side2 => exact HC0_1.out); rintro e w55 ⟨rfl, hb⟩; refine ⟨_, rfl, ?_⟩; replace BK541 := zb BK541 hb; replace HB := zS HB hb; (try clear hb)) | ((with_reducible refine gate_callee (f := 11) rfl ?_); refine zL (some 21) Try.func11 #[] ?_; (with_reducible refine (sandpilelaw28_awake.calls  t543 _ A52.out).mono ?_); rintro e w56 ⟨rfl, hb⟩; refine ⟨_, rfl, ?_⟩; replace BK541 := zb BK541 hb; replace HB := zS HB hb; (try clear hb)))
  go_ret
  exact ⟨zE, zB⟩
section
theorem ev_all {ι : Type} {P : ι → Nat → Prop} : ∀ (l : List ι), (∀ x ∈ l, ∃ B, ∀ K, B ≤ K → P x K) → ∃ B, ∀ K, B ≤ K → ∀ x ∈ l, P x K
 | [], _ => ⟨0, fun _ _ x hx => absurd hx (by simp)⟩
 | y :: l, h => by
  obtain ⟨B, hB⟩ := ev_all l fun x hx => h x (List.mem_cons_of_mem _ hx)
  obtain ⟨C, hC⟩ := h y (List.mem_cons_self ..)
  refine ⟨max B C, fun K hK x hx => ?_⟩
  rcases List.mem_cons.1 hx with rfl | hx
  ·exact hC K (by omega)
  ·exact hB K (by omega) x hx
namespace Small
variable {n q : Nat} {E : List S66}
theorem raised_all (h : Small n q E) (hr : rootG n E q = 0) : ∃ B, ∀ K, B ≤ K → ∀ c ∈ confs n E q, ∀ v ∈ List.range n, v ≠ q → ∃ r, superstable_raised.f K n E q c v = some r ∧ v < r.length ∧ (rd c v < rd r v ↔ superB n (timesOf E) q (c.set v (rd c v + 1)) = true) := by
 refine ev_all _ fun c hc => ev_all _ fun v hv => ?_
 have hvn := List.mem_range.1 hv
 by_cases hq : v = q
 ·exact ⟨0, fun _ _ e => absurd hq e⟩
 ·have hg := h.good_conf hc
  obtain ⟨M, m1, m2, m3⟩ := h.rise hg.len hvn hq ((h.mem_confs c).1 hc).2.2.2 (hg.pos v)
  obtain ⟨B, hB⟩ := h.raised_ev hr hg hvn hq m1 m2 m3
  refine ⟨B, fun K hK _ => ⟨_, hB K hK, by rw [List.length_set, hg.len]; exact hvn, ?_⟩⟩
  rw [rd_set_self (by rw [hg.len]; exact hvn), m3]
  omega
def topsOf (n q : Nat) (E : List S66) : List (List Int) := (confs n E q).filter fun c => decide (sumOf c = genE n E)
theorem maximal_ev (h : Small n q E) (hr : rootG n E q = 0) : Ev (fun k => superstable_Maximal.f k n E q) (topsOf n q E, (0 : Int)) := by
 unfold superstable_Maximal.f
 refine Ev.bind (h.superAll_ev hr) ?_
 simp only [if_true]
 obtain ⟨B, hB⟩ := h.raised_all hr
 refine ⟨B, fun K hK => ?_⟩
 have hK := hB K hK
 have h1 : okRaised K n E q (confs n E q) = true := by
  unfold okRaised
  refine List.all_eq_true.2 fun c hc => List.all_eq_true.2 fun v hv => ?_
  have hl := (h.conf_mem hc).1
  by_cases hq : v = q
  ·simp [hq]
  ·obtain ⟨r, r1, r2, _⟩ := hK c hc v (List.mem_range.2 (by have := List.mem_range.1 hv; omega)) hq
   rw [r1]
   simp [r2]
 show (if okRaised K n E q (confs n E q) = true then some (List.filter (fun x => !risesTo x q (raisedAt K n E q x) x.length) (confs n E q), (0 : Int)) else none) = _
 rw [if_pos h1]
 congr 2
 refine List.filter_congr fun c hc => ?_
 have hl := (h.conf_mem hc).1
 rw [Bool.eq_iff_iff, decide_eq_true_iff, h.top_iff hc]
 unfold risesTo
 rw [Bool.not_eq_true', List.any_eq_false]
 constructor
 ·intro h2 v hv hq
  obtain ⟨r, r1, r2, r3⟩ := hK c hc v (List.mem_range.2 hv) hq
  have h3 := h2 v (List.mem_range.2 (by omega))
  rw [show raisedAt K n E q c v = r by unfold raisedAt; rw [r1]; rfl] at h3
  cases e : superB n (timesOf E) q (c.set v (rd c v + 1)) with
  | false => rfl
  | true =>
   have := r3.2 e
   rw [decide_eq_true (show (v : Int) ≠ q by omega), decide_eq_true this] at h3
   exact absurd rfl h3
 ·intro h2 v hv hx
  have hvn : v < n := by have := List.mem_range.1 hv; omega
  rw [Bool.and_eq_true, decide_eq_true_iff, decide_eq_true_iff] at hx
  have hq : v ≠ q := fun e => hx.1 (by omega)
  obtain ⟨r, r1, r2, r3⟩ := hK c hc v (List.mem_range.2 hvn) hq
  rw [show raisedAt K n E q c v = r by unfold raisedAt; rw [r1]; rfl] at hx
  have := r3.1 hx.2
  rw [h2 v hvn hq] at this; cases this
end Small
theorem countTo_countP (l : List (List Int)) : ∀ k, k ≤ l.length → ∀ j : Nat, countTo l k j = ((l.take k).countP fun c => decide ((sumOf c).toNat = j) : Nat)
 | 0, _, j => by simp [countTo]
 | k + 1, hk, j => by
  have e : rd_L2 l k = l[k] := by simp [rd_L2, List.getD_eq_getElem?_getD, List.getElem?_eq_getElem (show k < l.length by omega)]
  rw [List.take_succ_eq_append_getElem (by omega), List.countP_append]
  simp only [countTo, e, countTo_countP l k (by omega) j]
  by_cases h : j = (sumOf l[k]).toNat
  ·rw [if_pos h]; simp [h]
  ·rw [if_neg h]; simp [show ¬ (sumOf l[k]).toNat = j from fun e => h e.symm]
theorem countP_lt (l : List (List Int)) (T : Nat) : l.countP (fun c => decide ((sumOf c).toNat < T + 1)) = l.countP (fun c => decide ((sumOf c).toNat < T)) + l.countP (fun c => decide ((sumOf c).toNat = T)) := by
 induction l with
 | nil => rfl
 | cons c l ih =>
  rw [List.countP_cons, List.countP_cons, List.countP_cons, ih]
  rcases Nat.lt_trichotomy (sumOf c).toNat T with h | h | h
  ·simp [h, show (sumOf c).toNat < T + 1 by omega, show ¬ (sumOf c).toNat = T by omega]; omega
  ·simp [h]; omega
  ·simp [show ¬ (sumOf c).toNat < T by omega, show ¬ (sumOf c).toNat < T + 1 by omega, show ¬ (sumOf c).toNat = T by omega]
theorem counts_sum (l : List (List Int)) : ∀ T : Nat, sumN (fun j => countTo l l.length j) T = (l.countP (fun c => decide ((sumOf c).toNat < T)) : Nat)
 | 0 => by simp [sumN]
 | T + 1 => by
  rw [sumN, counts_sum l T, countP_lt, countTo_countP l _ (Nat.le_refl _), List.take_length]; omega
theorem topOfTo_ge (l : List (List Int)) : ∀ k, k ≤ l.length → ∀ i, i < k → sumOf (rd_L2 l i) ≤ topOfTo l k
 | 0, _, i, hi => by omega
 | k + 1, hk, i, hi => by
  simp only [topOfTo]
  by_cases e : i = k
  ·subst e; omega
  ·have := topOfTo_ge l k (by omega) i (by omega); omega
theorem topOfTo_le (l : List (List Int)) {G : Int} (h0 : 0 ≤ G) : ∀ k, k ≤ l.length → (∀ i : Nat, i < k → sumOf (rd_L2 l i) ≤ G) → topOfTo l k ≤ G
 | 0, _, _ => h0
 | k + 1, hk, h => by
  have h1 := topOfTo_le l h0 k (by omega) fun i hi => h i (by omega)
  have h2 := h k (by omega)
  simp only [topOfTo]; omega
def noLoops (E : List S66) : List S66 := E.filter fun x => decide (x.f0 ≠ x.f1)
theorem limited_l0 {N : Int} {E : List S66} (hR : RightE N E) (hE : E.length ≤ 1000) : ∀ (m i : Nat) (o : List S66), i + m = E.length → o.length ≤ i → Ev (fun k => sandpileref08_Limited.l0 k 50 i N E N o) (N, o ++ noLoops (E.drop i))
 | 0, i, o, hi, ho => by
  refine Ev.of_succ ?_
  simp only [sandpileref08_Limited.l0, if_neg (show ¬ (i : Int) < E.length by omega), List.drop_eq_nil_of_le (show E.length ≤ i by omega)]
  simp only [noLoops, List.filter_nil, List.append_nil]
  exact Ev.const _
 | m + 1, i, o, hi, ho => by
  refine Ev.of_succ ?_
  have hx : rd_T66 E i ∈ E := by
   have e : rd_T66 E i = E[i] := by simp [rd_T66, List.getD_eq_getElem?_getD, List.getElem?_eq_getElem (by omega : i < E.length)]
   rw [e]; exact List.getElem_mem _
  have hok := hR.ok _ hx
  simp [edgeOk] at hok
  simp only [sandpileref08_Limited.l0, if_pos (show (i : Int) < E.length by omega), if_pos (show (0 : Int) ≤ i by omega), wrap_succ (show i ≤ 1000000 by omega)]
  rw [rd_T_drop (show i < E.length by omega)]
  by_cases h : (rd_T66 E i).f0 = (rd_T66 E i).f1
  ·simp only [if_pos h]
   rw [show noLoops (rd_T66 E i :: E.drop (i + 1)) = noLoops (E.drop (i + 1)) by simp [noLoops, h]]
   exact limited_l0 hR hE m (i + 1) o (by omega) (by omega)
  ·simp only [if_neg h, if_pos (show o.length < 5864062014805 by omega), show mn (rd_T66 E i).f2 50 = (rd_T66 E i).f2 from if_neg (by omega)]
   rw [show o ++ noLoops (rd_T66 E i :: E.drop (i + 1)) = (o ++ [rd_T66 E i]) ++ noLoops (E.drop (i + 1)) by simp [noLoops, h]]
   exact limited_l0 hR hE m (i + 1) (o ++ [rd_T66 E i]) (by omega) (by simp; omega)
theorem noLoops_right {N : Int} {E : List S66} (hR : RightE N E) : RightE N (noLoops E) :=
 ⟨fun x hx => hR.ok x (List.mem_filter.1 hx).1, fun x hx => hR.le x (List.mem_filter.1 hx).1, hR.order.filter _⟩
theorem noLoops_conn {n : Nat} {E : List S66} (h : EConn n E) : EConn n (noLoops E) := by
 intro S h1 h2
 obtain ⟨x, hx, hne⟩ := h S h1 h2
 refine ⟨x, List.mem_filter.2 ⟨hx, decide_eq_true fun e => hne (by rw [e])⟩, hne⟩
theorem noLoops_sum : ∀ E : List S66, sumM (noLoops E) = sumE (inE fun _ => true) E
 | [] => rfl
 | x :: E => by
  have ih := noLoops_sum E
  rw [sumE, ← ih]
  by_cases h : x.f0 = x.f1
  ·rw [show noLoops (x :: E) = noLoops E by simp [noLoops, h], show inE (fun _ => true) x = 0 from if_neg fun e => e.1 h]; omega
  ·rw [show noLoops (x :: E) = x :: noLoops E by simp [noLoops, h], show inE (fun _ => true) x = x.f2 from if_pos ⟨h, rfl, rfl⟩, sumM]
theorem noLoops_len (E : List S66) : (noLoops E).length ≤ E.length := List.length_filter_le _ _
namespace Small
variable {n q : Nat} {E : List S66}
theorem gen_range (h : Small n q E) : 0 ≤ genE n E ∧ genE n E ≤ 5000 ∧ ∃ c, c ∈ confs n E q ∧ sumOf c = genE n E := by
 obtain ⟨c, hc⟩ := List.exists_mem_of_ne_nil _ h.nonempty
 obtain ⟨d, hd, _, hs⟩ := h.full hc
 have h1 := (h.sum_le hd).1
 obtain ⟨h2, h3⟩ := h.conf_mem hd
 have h4 := (sumTo_bound (l := d) (fun j => by have := h3 j; omega) d.length).2
 have h5 := h.n5
 have h6 : sumOf d = sumTo d d.length := rfl
 exact ⟨by omega, by omega, d, hd, hs⟩
theorem genus_ev (h : Small n q E) : Ev (fun k => sandpileref08_Genus.f k n (noLoops E)) (genE n E) := by
 have hR := noLoops_right h.right
 have hl := noLoops_len E
 have hlen := h.len
 have hn := h.n5
 have hg := h.gen_range
 unfold sandpileref08_Genus.f sandpileref08_Size.f
 simp only [hR.mults (by omega), if_true, Option.bind_some]
 have hp : partsOf (noLoops E) n = 1 := (parts_conn h.n1 hR).2 (noLoops_conn h.conn)
 have hs := sizeTo_sum hR (noLoops E).length (Nat.le_refl _)
 rw [List.take_length, noLoops_sum] at hs
 refine Ev.bind (parts_ev (noLoops E) (by omega) n (by omega)) ?_
 simp only [hp, hs]
 have hgd : genE n E = sumE (inE fun _ => true) E - n + 1 := rfl
 rw [wrap_id (show -1000000000 ≤ sumE (inE fun _ => true) E - n ∧ sumE (inE fun _ => true) E - n ≤ 1000000000 by omega), wrap_id (show -1000000000 ≤ sumE (inE fun _ => true) E - n + ((1 : Nat) : Int) ∧ sumE (inE fun _ => true) E - n + ((1 : Nat) : Int) ≤ 1000000000 by omega)]
 exact Ev.const _
theorem top_gen (h : Small n q E) : topOfTo (confs n E q) (confs n E q).length = genE n E := by
 obtain ⟨h0, _, c, hc, hs⟩ := h.gen_range
 have h1 := topOfTo_le (confs n E q) h0 _ (Nat.le_refl _) fun i hi => (h.sum_le (rd_L2_mem hi)).2
 obtain ⟨i, hi, rfl⟩ := List.getElem_of_mem hc
 have h2 := topOfTo_ge (confs n E q) _ (Nat.le_refl _) i hi
 rw [show rd_L2 (confs n E q) i = (confs n E q)[i] by simp [rd_L2, List.getD_eq_getElem?_getD, List.getElem?_eq_getElem hi], hs] at h2
 omega
theorem zero_one (h : Small n q E) : (confs n E q).countP (fun c => decide ((sumOf c).toNat = 0)) = 1 := by
 have hz : List.replicate n (0 : Int) ∈ confs n E q := by
  obtain ⟨c, hc⟩ := List.exists_mem_of_ne_nil _ h.nonempty
  obtain ⟨h1, h2, h3, h4⟩ := (h.mem_confs c).1 hc
  have e : ∀ v : Nat, rd (List.replicate n (0 : Int)) v = 0 := fun v => by simp [rd, List.getD_eq_getElem?_getD, List.getElem?_replicate]; split <;> rfl
  exact (h.mem_confs _).2 ⟨by simp, fun v => by rw [e]; exact Int.le_refl _, e q, h.sup_down (fun v _ => by rw [e]; exact h2 v) h4⟩
 have hiff : ∀ c ∈ confs n E q, decide ((sumOf c).toNat = 0) = (c == List.replicate n (0 : Int)) := fun c hc => by
  obtain ⟨h1, h2, h3, h4⟩ := (h.mem_confs c).1 hc
  have hs := (h.sum_le hc).1
  rw [Bool.eq_iff_iff, decide_eq_true_iff, beq_iff_eq]
  constructor
  ·intro h0
   refine rd_ext (by simp [h1]) fun v hv => ?_
   have hsum : sumN (fun _ => (0 : Int)) n = sumN (fun (v : Nat) => rd c v) n := by
    rw [sumN_zero fun _ _ => rfl, ← sumTo_sumN, ← h1]
    have : sumOf c = sumTo c c.length := rfl
    omega
   have := sumN_eq (fun u _ => h2 u) hsum v (by omega)
   rw [← this]
   simp [rd, List.getD_eq_getElem?_getD, List.getElem?_replicate]; split <;> rfl
  ·rintro rfl
   have : ∀ m : Nat, sumTo (List.replicate n (0 : Int)) m = 0 := fun m => by
    rw [sumTo_sumN]
    exact sumN_zero fun u _ => by simp [rd, List.getD_eq_getElem?_getD, List.getElem?_replicate]; split <;> rfl
   unfold sumOf
   rw [this]; rfl
 rw [List.countP_congr (q := fun c => c == List.replicate n (0 : Int)) fun c hc => by rw [hiff c hc]]
 have := h.confs_nodup.count (a := List.replicate n (0 : Int))
 rw [if_pos hz] at this
 exact this
theorem genus_l1 (h : Small n q E) (L : List Int) (C s : Int) (T : List (List Int)) (hT : ∀ c ∈ T, c ∈ confs n E q ∧ sumOf c = genE n E) (hTl : T.length ≤ 100000) (hs : s = C) (hL : (L.length : Int) = genE n E + 1) (h0 : rd L 0 = 1) (hg : rd L (genE n E) = T.length) :
  ∀ (m i : Nat), i + m = T.length → Ev (fun k => sandpilelaw28_SuperstableGenus.l1 k L C T (genE n E) s T T.length i) true
 | 0, i, hi => by
  have hr := h.gen_range
  refine Ev.of_succ ?_
  simp only [sandpilelaw28_SuperstableGenus.l1, if_neg (show ¬ (i : Int) < T.length by omega), if_pos hs, wrap_id (show -1000000000 ≤ genE n E + 1 ∧ genE n E + 1 ≤ 1000000000 by omega), if_pos hL, if_pos (show (0 : Int) < L.length by omega), if_pos h0, if_pos hr.1, if_pos (show genE n E < L.length by omega), if_pos hg, sandpilelaw28_awake.f, Option.bind_some]
  exact Ev.const _
 | m + 1, i, hi => by
  have hmem := hT _ (rd_L2_mem (show i < T.length by omega))
  have hcm := h.conf_mem hmem.1
  have hn := h.n5
  refine Ev.of_succ ?_
  simp only [sandpilelaw28_SuperstableGenus.l1, if_pos (show (i : Int) < T.length by omega), if_pos (show (0 : Int) ≤ i by omega), wrap_succ (show i ≤ 1000000 by omega)]
  refine Ev.bind (total_ev (rd_L2 T i) (by omega) (fun v => by have := hcm.2 v; omega)) ?_
  simp only [if_pos hmem.2]
  exact genus_l1 h L C s T hT hTl hs hL h0 hg m (i + 1) (by omega)
theorem genus_l0 (L : List Int) (C G : Int) (T : List (List Int)) (hLl : L.length ≤ 100000) (hb : ∀ j : Nat, -1000000000 ≤ sumTo L j ∧ sumTo L j ≤ 1000000000) (hf : Ev (fun k => sandpilelaw28_SuperstableGenus.l1 k L C T G (sumTo L L.length) T T.length 0) true) :
  ∀ (m i : Nat), i + m = L.length → Ev (fun k => sandpilelaw28_SuperstableGenus.l0 k L C T G (sumTo L i) L L.length i) true
 | 0, i, hi => by
  obtain rfl : i = L.length := by omega
  refine Ev.of_succ ?_
  simp only [sandpilelaw28_SuperstableGenus.l0, if_neg (show ¬ (L.length : Int) < L.length by omega)]
  exact hf
 | m + 1, i, hi => by
  have h1 := hb (i + 1)
  rw [sumTo] at h1
  refine Ev.of_succ ?_
  simp only [sandpilelaw28_SuperstableGenus.l0, if_pos (show (i : Int) < L.length by omega), if_pos (show (0 : Int) ≤ i by omega), wrap_succ (show i ≤ 1000000 by omega), wrap_id h1]
  exact genus_l0 L C G T hLl hb hf m (i + 1) (by omega)
end Small
theorem genus_law (N : Int) (E : List S66) (q : Int) : Ev (fun k => sandpilelaw28_SuperstableGenus.f k N E q) true := by
 unfold sandpilelaw28_SuperstableGenus.f
 have haw : Ev (fun _ : Nat => sandpilelaw28_awake.f.bind fun t => some t) true := by
  simp only [sandpilelaw28_awake.f, Option.bind_some]; exact Ev.const _
 have hright : Ev (fun k => sandpilelaw28_right.f k N E q) (fewB N E && (rootG N E q == 0)) := by
  unfold sandpilelaw28_right.f
  refine Ev.bind (few_ev N E) ?_
  cases hf : fewB N E with
  | true =>
   simp only [if_true, Bool.true_and]
   exact Ev.bind (rooted19_ev N E q (by have := few_len hf; omega)) (Ev.const _)
  | false => simp only [Bool.false_eq_true, if_false, Bool.false_and]; exact Ev.const _
 refine Ev.bind hright ?_
 by_cases hf : fewB N E = true
 ·by_cases hr : rootG N E q = 0
  ·obtain ⟨n, q', rfl, rfl, h⟩ := root_small hf hr
   simp only [hf, hr, beq_self_eq_true, Bool.and_self, if_true]
   have hcl := h.confs_le
   have hlen := h.len
   have hn5 := h.n5
   obtain ⟨g0, g1, c0, hc0, hs0⟩ := h.gen_range
   refine Ev.bind (h.superLevels_ev hr) ?_
   refine Ev.bind (a := (((confs n E q').length : Int), (0 : Int))) ?_ ?_
   ·unfold superstable_Count.f
    exact Ev.bind (h.superAll_ev hr) (Ev.const _)
   refine Ev.bind (h.maximal_ev hr) ?_
   simp only [Int.add_zero, show wrap64 0 = 0 from wrap_id (by decide), if_true]
   refine Ev.bind (a := ((n : Int), noLoops E)) ?_ ?_
   ·unfold sandpileref08_Limited.f
    have := limited_l0 h.right (by omega) E.length 0 [] (by omega) (by simp)
    simpa using this
   refine Ev.bind h.genus_ev ?_
   have hlv : levelsOf (confs n E q') = (List.range ((genE n E).toNat + 1)).map (countTo (confs n E q') (confs n E q').length) := by unfold levelsOf; rw [h.top_gen]
   have hlen' : (levelsOf (confs n E q')).length = (genE n E).toNat + 1 := by rw [hlv]; simp
   have hrd : ∀ j : Nat, j < (genE n E).toNat + 1 → rd (levelsOf (confs n E q')) j = countTo (confs n E q') (confs n E q').length j := fun j hj => by rw [hlv, rd_map _ hj]
   have hsum : ∀ m : Nat, m ≤ (genE n E).toNat + 1 → sumTo (levelsOf (confs n E q')) m = ((confs n E q').countP (fun c => decide ((sumOf c).toNat < m)) : Nat) := fun m hm => by
    rw [sumTo_sumN, sumN_congr (g := fun j => countTo (confs n E q') (confs n E q').length j) fun u hu => hrd u (by omega), counts_sum]
   have hall : sumTo (levelsOf (confs n E q')) (levelsOf (confs n E q')).length = (confs n E q').length := by
    rw [hlen', hsum _ (Nat.le_refl _), List.countP_eq_length.2]
    intro c hc
    have := (h.sum_le hc)
    simp; omega
   have hge : ∀ m : Nat, (genE n E).toNat + 1 ≤ m → sumTo (levelsOf (confs n E q')) m = (confs n E q').length := fun m => by
    induction m with
    | zero => intro hm; omega
    | succ m ih =>
     intro hm
     by_cases e : m + 1 = (genE n E).toNat + 1
     ·rw [e, ← hlen', hall]
     ·rw [sumTo, ih (by omega), rd_out (by omega)]; omega
   have hb : ∀ j : Nat, -1000000000 ≤ sumTo (levelsOf (confs n E q')) j ∧ sumTo (levelsOf (confs n E q')) j ≤ 1000000000 := fun j => by
    by_cases hj : j ≤ (genE n E).toNat + 1
    ·rw [hsum j hj]
     have := List.countP_le_length (p := fun c => decide ((sumOf c).toNat < j)) (l := confs n E q')
     omega
    ·rw [hge j (by omega)]; omega
   have htl : (Small.topsOf n q' E).length ≤ (confs n E q').length := List.length_filter_le _ _
   refine Small.genus_l0 (levelsOf (confs n E q')) _ (genE n E) (Small.topsOf n q' E) (by omega) hb ?_ _ 0 (Nat.zero_add _)
   refine h.genus_l1 (levelsOf (confs n E q')) _ _ (Small.topsOf n q' E) (fun c hc => ?_) (by omega) hall (by omega) ?_ ?_ _ 0 (Nat.zero_add _)
   ·obtain ⟨h1, h2⟩ := List.mem_filter.1 hc
    exact ⟨h1, of_decide_eq_true h2⟩
   ·have := hrd 0 (by omega)
    rw [countTo_countP _ _ (Nat.le_refl _), List.take_length, h.zero_one] at this
    exact this
   ·have := hrd (genE n E).toNat (by omega)
    rw [countTo_countP _ _ (Nat.le_refl _), List.take_length, show (((genE n E).toNat : Nat) : Int) = genE n E by omega] at this
    rw [this]
    unfold Small.topsOf
    rw [← List.countP_eq_length_filter]
    congr 1
    refine List.countP_congr fun c hc => ?_
    have := (h.sum_le hc).1
    simp; omega
  ·have e : (fewB N E && (rootG N E q == 0)) = false := by simp [hr]
   rw [e]
   simp only [Bool.false_eq_true, if_false]
   exact haw
 ·have e : (fewB N E && (rootG N E q == 0)) = false := by simp [hf]
  rw [e]
  simp only [Bool.false_eq_true, if_false]
  exact haw
theorem genus_pure (N : Int) (E : List S66) (q : Int) : ∃ k, sandpilelaw28_SuperstableGenus.f k N E q = some true := (genus_law N E q).get
end
end Go.Proofs.Ytffdiakgjakngaa.P
