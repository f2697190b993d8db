/- A part of the proof that SuperstableDuals answers true (text 12 of 15): own walks and plain laws; no conditions. -/
import Derived.Lib.SliceRun
import Derived.Test.YtffdiakgjakngaaDuals11
namespace Go.Proofs.Ytffdiakgjakngaa.P
open Go.RowKit Go.Proofs.YtffdiakgjakngaaW.PrintWords Go.Proofs.YtffdiakgjakngaaW.PrintLast Go.Proofs.YtffdiakgjakngaaW.PrintMore
set_option linter.unusedVariables false
set_option linter.unusedSimpArgs false
set_option maxHeartbeats 8000000
set_option maxRecDepth 100000
def recurrent_pile_stable.l0 : Nat → List Int → Int → Int → Int → List (S66) → Int → List Int → Option (Bool)
 | 0, _, _, _, _, _, _, _ => none
 | k + 1, x6, x7, x8, x463000, x463001, x463002, x463003 => if x8 < x7 then (if 0 ≤ x8 then (if x8 < (x6.length : Int) then (if x8 = x463002 then (recurrent_pile_stable.l0 k x6 x7 (wrap64 (x8 + 1)) x463000 x463001 x463002 x463003) else ((recurrent_pile_valence.f k x463000 x463001 x463002 x463003 x8).bind fun t464 => (if (rd x6 x8) ≥ t464 then (some false) else (recurrent_pile_stable.l0 k x6 x7 (wrap64 (x8 + 1)) x463000 x463001 x463002 x463003)))) else (none)) else (none)) else (some true)
def recurrent_pile_stable.f (k : Nat) (a0_0 : Int) (l0_1 : List (S66)) (a0_2 : Int) (l0_3 : List Int) : Option (Bool) := recurrent_pile_stable.l0 k l0_3 (l0_3.length : Int) 0 a0_0 l0_1 a0_2 l0_3
theorem recurrent_pile_stable.calls (k : Nat) (a0_0 : Int) (A0_1 : Option Addr) (c0_1 : Nat) (l0_1 : List (S66)) (a0_2 : Int) (A0_3 : Option Addr) (c0_3 : Nat) (l0_3 : List Int) (r : Bool) (w : World) (hr0_1 : Kd.C k66 w A0_1 l0_1.length l0_1) (hc0_1 : l0_1.length ≤ c0_1) (hr0_3 : Kd.C (Kd.int .i64) w A0_3 l0_3.length l0_3) (hc0_3 : l0_3.length ≤ c0_3) (h : recurrent_pile_stable.f k a0_0 l0_1 a0_2 l0_3 = some r) :
  Calls Try.prog 89 #[.agg #[.int .i64 a0_0, .slice A0_1 l0_1.length c0_1, .int .i64 a0_2, .slice A0_3 l0_3.length c0_3]] w fun e w' => e = .returned (.bool r) ∧ Below w.heap.size w w' := by
 have hu84 := Try.underlying84
 have HR0_1 := Aside0.mk hr0_1
 have HC0_1 := Aside0.mk hc0_1
 clear hr0_1 hc0_1
 have HR0_3 := Aside0.mk hr0_3
 have HC0_3 := Aside0.mk hc0_3
 clear hr0_3 hc0_3
 have HB := Aside0.mk (Below.refl w.heap.size w)
 have H : (recurrent_pile_stable.l0 k l0_3 (l0_3.length : Int) 0 a0_0 l0_1 a0_2 l0_3) = some r := h
 clear h
 have H' := Aside0.mk H
 clear H
 go_enter Try.func89, Try.ntmps89
 go_wp2_with (first | ((with_reducible refine gate_dst (N := 1) rfl ?_); refine zX 1 #[.int .i64 a0_0, .slice A0_1 l0_1.length c0_1, .int .i64 a0_2, .slice A0_3 l0_3.length c0_3] 84 ?_; intro gb462 hg w2 hbox hb; have BK462 := Aside0.mk (hbox); have GW462 := zG HB hg; have GE462 := zG HB hg; replace HB := zS HB hb; clear hb hbox hg; have hcz3_0 := z0 BK462; have hcz3_1 := z1 BK462; have hcz3_2 := z2 BK462; have hcz3_3 : w2.cell? ⟨gb462, 3, none⟩ = some (.slice A0_3 l0_3.length c0_3) := (blk_cell BK462.out 3).trans rfl; have hfz3_0 := blk_frozen BK462.out 0; have hfz3_1 := blk_frozen BK462.out 1; have hfz3_2 := blk_frozen BK462.out 2; have hfz3_3 := blk_frozen BK462.out 3))
 go_loopg [8] k (fun kq v8 w' => ∃ (x8_1 : Int), v8 = .int .i64 x8_1 ∧ Aside0 (recurrent_pile_stable.l0 kq l0_3 (l0_3.length : Int) x8_1 a0_0 l0_1 a0_2 l0_3 = some r) ∧ Aside0 (kq ≤ k) ∧ Aside0 (w'.heap[gb462]? = some (.cells #[.int .i64 a0_0, (.slice A0_1 l0_1.length c0_1), .int .i64 a0_2, (.slice A0_3 l0_3.length c0_3)] 84 (0, 0))) ∧ Aside0 (Below w.heap.size w w'))
 case atStart => exact ⟨(0), zT, H', ⟨Nat.le_refl _⟩, ⟨zK BK462⟩, ⟨zB⟩⟩
 case round =>
  clear H'
  try clear p2
  try clear hcz3_0
  try clear hcz3_1
  try clear hcz3_2
  try clear hcz3_3
  try clear hfz3_0
  try clear hfz3_1
  try clear hfz3_2
  try clear hfz3_3
  obtain ⟨x8_1, rfl, HA, HK1, BK462, HB⟩ := hrel
  cases gk with
  | zero => exact absurd HA.out (by simp [recurrent_pile_stable.l0])
  | succ k1 =>
   have H := HA.out
   clear HA
   simp only [recurrent_pile_stable.l0] at H
   by_cases c4 : x8_1 < (l0_3.length : Int)
   ·rw [if_pos c4] at H
    have c4b0 : decide (x8_1 < (l0_3.length : Int)) = true := decide_eq_true c4
    clear c4
    by_cases c5 : 0 ≤ x8_1
    ·rw [if_pos c5] at H
     have c5b0 : decide (0 ≤ x8_1) = true := decide_eq_true c5
     clear c5
     by_cases c6 : x8_1 < (l0_3.length : Int)
     ·rw [if_pos c6] at H
      have c6b0 : decide (x8_1 < (l0_3.length : Int)) = true := decide_eq_true c6
      clear c6
      by_cases c7 : x8_1 = a0_2
      ·rw [if_pos c7] at H
       have c7b0 : (x8_1 == a0_2) = true := beq_iff_eq.mpr c7
       have c7b1 : (x8_1 != a0_2) = false := bne_eq_false_iff_eq.mpr c7
       clear c7
       have H' := Aside0.mk H
       clear H
       have p463 : 0 ≤ (x8_1 : Int) := of_decide_eq_true ‹_›
       have q463 : x8_1 < (l0_3.length : Int) := of_decide_eq_true ‹_›
       obtain ⟨ad463, e463, hx463_0⟩ := Kd.at_int HR0_3.out x8_1 p463 q463
       cases e463
       replace hx463_0 := (HB.out.cell (World.block_lt_of_cell? w _ hx463_0)).trans hx463_0
       replace p463 := eq_true p463
       replace q463 := eq_true q463
       have hcz8_0 := z0 BK462
       have hcz8_1 := z1 BK462
       have hcz8_2 := z2 BK462
       have hcz8_3 : wr.cell? ⟨gb462, 3, none⟩ = some (.slice (some ad463) l0_3.length c0_3) := (blk_cell BK462.out 3).trans rfl
       have hfz8_0 := blk_frozen BK462.out 0
       have hfz8_1 := blk_frozen BK462.out 1
       have hfz8_2 := blk_frozen BK462.out 2
       have hfz8_3 := blk_frozen BK462.out 3
       go_wp2
       go_roundg k1
       case measure => have := HK1.out; omega
       case rel => exact ⟨(wrap64 (x8_1 + 1)), zT, H', ⟨by have := HK1.out; omega⟩, ⟨zK BK462⟩, ⟨zB⟩⟩
      ·rw [if_neg c7] at H
       have c7b0 : (x8_1 == a0_2) = false := beq_eq_false_iff_ne.mpr c7
       have c7b1 : (x8_1 != a0_2) = true := bne_iff_ne.mpr c7
       replace H := Option.bind_eq_some_iff.mp H
       obtain ⟨t464, A90, H⟩ := H
       replace H : (if (rd l0_3 x8_1) ≥ t464 then (some false) else (recurrent_pile_stable.l0 k1 l0_3 (l0_3.length : Int) (wrap64 (x8_1 + 1)) a0_0 l0_1 a0_2 l0_3)) = some r := H
       have A9 := Aside0.mk A90
       clear A90
       by_cases c10 : (rd l0_3 x8_1) ≥ t464
       ·rw [if_pos c10] at H
        have c10b0 : decide (t464 ≤ (rd l0_3 x8_1)) = true := decide_eq_true c10
        clear c10
        obtain rfl := Option.some.inj H
        have p463 : 0 ≤ (x8_1 : Int) := of_decide_eq_true ‹_›
        have q463 : x8_1 < (l0_3.length : Int) := of_decide_eq_true ‹_›
        obtain ⟨ad463, e463, hx463_0⟩ := Kd.at_int HR0_3.out x8_1 p463 q463
        cases e463
        replace hx463_0 := (HB.out.cell (World.block_lt_of_cell? w _ hx463_0)).trans hx463_0
        replace p463 := eq_true p463
        replace q463 := eq_true q463
        have hcz11_0 := z0 BK462
        have hcz11_1 := z1 BK462
        have hcz11_2 := z2 BK462
        have hcz11_3 : wr.cell? ⟨gb462, 3, none⟩ = some (.slice (some ad463) l0_3.length c0_3) := (blk_cell BK462.out 3).trans rfl
        have hfz11_0 := blk_frozen BK462.out 0
        have hfz11_1 := blk_frozen BK462.out 1
        have hfz11_2 := blk_frozen BK462.out 2
        have hfz11_3 := blk_frozen BK462.out 3
        go_wp2_with (first | (go_at_call 102; (with_reducible refine (recurrent_pile_valence.calls k1 a0_0 _ _ l0_1 a0_2 _ _ l0_3 x8_1 t464 _ ?side1 ?side2 ?side3 ?side4 A9.out).mono ?_); (case side1 => exact Kd.C_below HR0_1.out zB); (case side2 => exact HC0_1.out); (case side3 => exact Kd.C_below HR0_3.out zB); (case side4 => exact HC0_3.out); rintro e w12 ⟨rfl, hb⟩; replace BK462 := zb BK462 hb; replace HB := zS HB hb; (try clear hb)))
        go_ret
        exact ⟨zE, zB⟩
       ·rw [if_neg c10] at H
        have c10b0 : decide (t464 ≤ (rd l0_3 x8_1)) = false := decide_eq_false c10
        clear c10
        have H' := Aside0.mk H
        clear H
        have p463 : 0 ≤ (x8_1 : Int) := of_decide_eq_true ‹_›
        have q463 : x8_1 < (l0_3.length : Int) := of_decide_eq_true ‹_›
        obtain ⟨ad463, e463, hx463_0⟩ := Kd.at_int HR0_3.out x8_1 p463 q463
        cases e463
        replace hx463_0 := (HB.out.cell (World.block_lt_of_cell? w _ hx463_0)).trans hx463_0
        replace p463 := eq_true p463
        replace q463 := eq_true q463
        have hcz13_0 := z0 BK462
        have hcz13_1 := z1 BK462
        have hcz13_2 := z2 BK462
        have hcz13_3 : wr.cell? ⟨gb462, 3, none⟩ = some (.slice (some ad463) l0_3.length c0_3) := (blk_cell BK462.out 3).trans rfl
        have hfz13_0 := blk_frozen BK462.out 0
        have hfz13_1 := blk_frozen BK462.out 1
        have hfz13_2 := blk_frozen BK462.out 2
        have hfz13_3 := blk_frozen BK462.out 3
        go_wp2_with (first | (go_at_call 102; (with_reducible refine (recurrent_pile_valence.calls k1 a0_0 _ _ l0_1 a0_2 _ _ l0_3 x8_1 t464 _ ?side1 ?side2 ?side3 ?side4 A9.out).mono ?_); (case side1 => exact Kd.C_below HR0_1.out zB); (case side2 => exact HC0_1.out); (case side3 => exact Kd.C_below HR0_3.out zB); (case side4 => exact HC0_3.out); rintro e w14 ⟨rfl, hb⟩; replace BK462 := zb BK462 hb; replace HB := zS HB hb; (try clear hb)))
        go_roundg k1
        case measure => have := HK1.out; omega
        case rel => exact ⟨(wrap64 (x8_1 + 1)), zT, H', ⟨by have := HK1.out; omega⟩, ⟨zK BK462⟩, ⟨zB⟩⟩
     ·rw [if_neg c6] at H
      exact absurd H (by simp)
    ·rw [if_neg c5] at H
     exact absurd H (by simp)
   ·rw [if_neg c4] at H
    have c4b0 : decide (x8_1 < (l0_3.length : Int)) = false := decide_eq_false c4
    clear c4
    obtain rfl := Option.some.inj H
    go_wp2
    go_ret
    exact ⟨zE, zB⟩
def recurrent_pile_recurs.f (k : Nat) (a0_0 : Int) (l0_1 : List (S66)) (a0_2 : Int) (l0_3 : List Int) : Option (Bool) := (recurrent_pile_stable.f k a0_0 l0_1 a0_2 l0_3).bind fun t466 => (if t466 = true then ((recurrent_pile_fire.f k a0_0 l0_1 a0_2 l0_3).bind fun t467 => (some ((t467.length : Int) == a0_0))) else (some false))
def recurrent_pile_recurs.T1 : Bool × List (List Nat × List Nat) := (true, [([], []), ([0], [0]), ([1, 1], [1]), ([2], [2]), ([3, 2, 2], [2, 3]), ([4, 2], [2, 4]), ([2], [2]), ([6, 2], [2, 6]), ([7, 2], [2, 7]), ([5, 8, 2], [2, 5, 8]), ([2, 9], [2, 9]), ([10, 4, 0, 1, 2, 3, 4, 5, 6, 7, 8, 9, 10], [10])])
def recurrent_pile_recurs.B1 : List Nat := [0, 1, 3, 7, 15, 31, 7, 71, 199, 511, 1023, 2047]
theorem recurrent_pile_recurs.tab1 : rtab .any (opsOf Try.f67 1) = recurrent_pile_recurs.T1 := by kernel_rfl
theorem recurrent_pile_recurs.bits1 : waitsOk recurrent_pile_recurs.T1.2 recurrent_pile_recurs.B1 = true := by kernel_rfl
theorem recurrent_pile_recurs.calls (k : Nat) (a0_0 : Int) (A0_1 : Option Addr) (c0_1 : Nat) (l0_1 : List (S66)) (a0_2 : Int) (A0_3 : Option Addr) (c0_3 : Nat) (l0_3 : List Int) (r : Bool) (w : World) (hr0_1 : Kd.C k66 w A0_1 l0_1.length l0_1) (hc0_1 : l0_1.length ≤ c0_1) (hr0_3 : Kd.C (Kd.int .i64) w A0_3 l0_3.length l0_3) (hc0_3 : l0_3.length ≤ c0_3) (h : recurrent_pile_recurs.f k a0_0 l0_1 a0_2 l0_3 = some r) :
  Calls Try.prog 67 #[.agg #[.int .i64 a0_0, .slice A0_1 l0_1.length c0_1, .int .i64 a0_2, .slice A0_3 l0_3.length c0_3]] w fun e w' => e = .returned (.bool r) ∧ Below w.heap.size w w' := by
 have hu84 := Try.underlying84
 have HR0_1 := Aside0.mk hr0_1
 have HC0_1 := Aside0.mk hc0_1
 clear hr0_1 hc0_1
 have HR0_3 := Aside0.mk hr0_3
 have HC0_3 := Aside0.mk hc0_3
 clear hr0_3 hc0_3
 have HB := Aside0.mk (Below.refl w.heap.size w)
 have H : ((recurrent_pile_stable.f k a0_0 l0_1 a0_2 l0_3).bind fun t466 => (if t466 = true then ((recurrent_pile_fire.f k a0_0 l0_1 a0_2 l0_3).bind fun t467 => (some ((t467.length : Int) == a0_0))) else (some false))) = some r := h
 clear h
 replace H := Option.bind_eq_some_iff.mp H
 obtain ⟨t466, A20, H⟩ := H
 replace H : (if t466 = true then ((recurrent_pile_fire.f k a0_0 l0_1 a0_2 l0_3).bind fun t467 => (some ((t467.length : Int) == a0_0))) else (some false)) = some r := H
 have A2 := Aside0.mk A20
 clear A20
 by_cases c3 : t466 = true
 ·subst c3
  have H1 : ((recurrent_pile_fire.f k a0_0 l0_1 a0_2 l0_3).bind fun t467 => (some ((t467.length : Int) == a0_0))) = some r := by rw [if_pos rfl] at H; exact H
  clear H
  have H := H1
  clear H1
  replace H := Option.bind_eq_some_iff.mp H
  obtain ⟨t467, A40, H⟩ := H
  replace H : (some ((t467.length : Int) == a0_0)) = some r := H
  have A4 := Aside0.mk A40
  clear A40
  obtain rfl := Option.some.inj H
  go_enter Try.func67, Try.ntmps67
  try go_wp2_with (first | ((with_reducible refine gate_dst (N := 1) rfl ?_); (try (refine gate_guard (by rfl) ?_; dsimp only)); refine zX 1 #[.int .i64 a0_0, .slice A0_1 l0_1.length c0_1, .int .i64 a0_2, .slice A0_3 l0_3.length c0_3] 84 ?_; intro gb465 hg w5 hbox hb; have BK465 := Aside0.mk (hbox); have GW465 := zG HB hg; have GE465 := zG HB hg; replace HB := zS HB hb; clear hb hbox hg))
  have n0_ := Aside0.mk (blk_drew BK465.out)
  have n1_ := Aside0.mk (below_drew1 HB.out)
  clear BK465
  clear HB
  have BK465 := n0_
  have HB := n1_
  clear n0_ n1_
  refine start_ (n := 12) (S := fun w' => w'.cell? ⟨gb465, 0, none⟩ = some (.int .i64 a0_0) ∧ w'.cell? ⟨gb465, 1, none⟩ = some (.slice A0_1 l0_1.length c0_1) ∧ w'.cell? ⟨gb465, 2, none⟩ = some (.int .i64 a0_2) ∧ w'.cell? ⟨gb465, 3, none⟩ = some (.slice A0_3 l0_3.length c0_3)) (ds := []) #[false, false, false, false, false, false, false, false, false, false, false, false] (by kernel_rfl) rfl rfl ⟨(blk_cell BK465.out 0).trans rfl, (blk_cell BK465.out 1).trans rfl, (blk_cell BK465.out 2).trans rfl, (blk_cell BK465.out 3).trans rfl⟩ (fun hHeld => ?_); refine with_tabW recurrent_pile_recurs.tab1 recurrent_pile_recurs.bits1 (fun HT_ HW_ => ?_)
  generalize w5.drew = w6 at BK465 HB hHeld ⊢
  refine take_ (i := 0) (N := some 3) (v := ?_) (a' := ?_) #[true, false, false, false, false, false, false, false, false, false, false, false] rfl rfl (take_ofW HT_.out HW_.out (by kernel_rfl)) (fun _ _ _ h => h) (Or.inl ⟨by rfl, ?_⟩) hHeld ?_ ?_
  rotate_left
  ·rintro w' ⟨s0, s1, s2, s3⟩
   go_simp
   with_reducible rfl
  rotate_left
  ·simp only [Act.put, List.setIfInBounds_toArray, List.set_cons_zero, List.set_cons_succ, i64_w, i32_w]
   rfl
  refine one_ (i := 1) (N := some 4) #[true, true, false, false, false, false, false, false, false, false, false, false] rfl rfl (one_of HT_.out (by kernel_rfl)) (by decide) (fun K hK => ?_)
  refine goes_ Try.func89 (by kernel_rfl) rfl #[.agg #[.int .i64 a0_0, .slice A0_1 l0_1.length c0_1, .int .i64 a0_2, .slice A0_3 l0_3.length c0_3]] (by rfl) rfl rfl (by (try simp only [List.map_toArray, List.map_cons, List.map_nil]); first | done | rfl | (simp only [List.length_drop, List.length_take]; rfl)) ?_
  with_reducible refine (recurrent_pile_stable.calls k a0_0 _ _ l0_1 a0_2 _ _ l0_3 true _ ?side1 ?side2 ?side3 ?side4 A2.out).mono ?_
  (case side1 => exact Kd.C_below HR0_1.out zB)
  (case side2 => exact HC0_1.out)
  (case side3 => exact Kd.C_below HR0_3.out zB)
  (case side4 => exact HC0_3.out)
  rintro e w7 ⟨rfl, hb⟩
  refine ⟨_, rfl, ?_⟩
  have n0_ := zb BK465 hb
  have n1_ := zS HB hb
  clear BK465
  clear HB
  have BK465 := n0_
  have HB := n1_
  clear n0_ n1_
  (try clear hb)
  skip
  skip
  skip
  refine hK.out _ _ ⟨(blk_cell BK465.out 0).trans rfl, (blk_cell BK465.out 1).trans rfl, (blk_cell BK465.out 2).trans rfl, (blk_cell BK465.out 3).trans rfl⟩ (fun hHeld => ?_)
  clear hK K
  refine norm_ (a' := ?_) ?_ ?_
  rotate_left
  ·show Act.put _ (some 4) _ = _
   simp only [Act.put, List.setIfInBounds_toArray, List.set_cons_zero, List.set_cons_succ, i64_w, i32_w]
   rfl
  refine pure_ (i := 2) (N := some 5) (v := ?_) (a' := ?_) #[true, true, true, false, false, false, false, false, false, false, false, false] rfl rfl (any_of HT_.out (by kernel_rfl)) (fun _ _ _ h => h) (Or.inl ⟨by rfl, ?_⟩) ?_ ?_
  rotate_left
  ·intro w'
   go_simp
   with_reducible rfl
  rotate_left
  ·simp only [Act.put, List.setIfInBounds_toArray, List.set_cons_zero, List.set_cons_succ, i64_w, i32_w]
   rfl
  refine pure_ (i := 6) (N := some 9) (v := ?_) (a' := ?_) #[true, true, true, false, false, false, true, false, false, false, false, false] rfl rfl (any_of HT_.out (by kernel_rfl)) (fun _ _ _ h => h) (Or.inl ⟨by rfl, ?_⟩) ?_ ?_
  rotate_left
  ·intro w'
   go_simp
   with_reducible rfl
  rotate_left
  ·simp only [Act.put, List.setIfInBounds_toArray, List.set_cons_zero, List.set_cons_succ, i64_w, i32_w]
   rfl
  refine pure_ (i := 7) (N := some 10) (v := ?_) (a' := ?_) #[true, true, true, false, false, false, true, true, false, false, false, false] rfl rfl (any_of HT_.out (by kernel_rfl)) (fun _ _ _ h => h) (Or.inl ⟨by rfl, ?_⟩) ?_ ?_
  rotate_left
  ·intro w'
   go_simp
   with_reducible rfl
  rotate_left
  ·simp only [Act.put, List.setIfInBounds_toArray, List.set_cons_zero, List.set_cons_succ, i64_w, i32_w]
   rfl
  refine take_ (i := 3) (N := some 6) (v := ?_) (a' := ?_) #[true, true, true, true, false, false, true, true, false, false, false, false] rfl rfl (take_ofW HT_.out HW_.out (by kernel_rfl)) (fun _ _ _ h => h) (Or.inl ⟨by rfl, ?_⟩) hHeld ?_ ?_
  rotate_left
  ·rintro w' ⟨s0, s1, s2, s3⟩
   go_simp
   with_reducible rfl
  rotate_left
  ·simp only [Act.put, List.setIfInBounds_toArray, List.set_cons_zero, List.set_cons_succ, i64_w, i32_w]
   rfl
  refine take_ (i := 8) (N := some 11) (v := ?_) (a' := ?_) #[true, true, true, true, false, false, true, true, true, false, false, false] rfl rfl (take_ofW HT_.out HW_.out (by kernel_rfl)) (fun _ _ _ h => h) (Or.inl ⟨by rfl, ?_⟩) hHeld ?_ ?_
  rotate_left
  ·rintro w' ⟨s0, s1, s2, s3⟩
   go_simp
   with_reducible rfl
  rotate_left
  ·simp only [Act.put, List.setIfInBounds_toArray, List.set_cons_zero, List.set_cons_succ, i64_w, i32_w]
   rfl
  refine one_ (i := 4) (N := some 7) #[true, true, true, true, true, false, true, true, true, false, false, false] rfl rfl (one_of HT_.out (by kernel_rfl)) (by decide) (fun K hK => ?_)
  refine goes_ Try.func68 (by kernel_rfl) rfl #[.agg #[.int .i64 a0_0, .slice A0_1 l0_1.length c0_1, .int .i64 a0_2, .slice A0_3 l0_3.length c0_3]] (by rfl) rfl rfl (by (try simp only [List.map_toArray, List.map_cons, List.map_nil]); first | done | rfl | (simp only [List.length_drop, List.length_take]; rfl)) ?_
  with_reducible refine (recurrent_pile_fire.calls k a0_0 _ _ l0_1 a0_2 _ _ l0_3 t467 _ ?side1 ?side2 ?side3 ?side4 A4.out).mono ?_
  (case side1 => exact Kd.C_below HR0_1.out zB)
  (case side2 => exact HC0_1.out)
  (case side3 => exact Kd.C_below HR0_3.out zB)
  (case side4 => exact HC0_3.out)
  rintro e w8 ⟨v468, rfl, ho0, hb⟩
  refine ⟨_, rfl, ?_⟩
  have n0_ := Aside0.mk (Kd.R_lower ho0 (below_size zB))
  have n1_ := zb BK465 hb
  have n2_ := zS HB hb
  clear BK465
  clear HB
  have HO469 := n0_
  have BK465 := n1_
  have HB := n2_
  clear n0_ n1_ n2_
  (try clear hb)
  skip
  skip
  skip
  (try clear ho0)
  obtain ⟨Ao9, co9, eo9⟩ := Kd.R_slice HO469.out
  (first | subst eo9 | (injection eo9 with f1_ f2_ f3_; have f4_ := f1_.symm; have f5_ := f3_.symm; clear f1_ f2_ f3_; subst f4_; subst f5_))
  refine hK.out _ _ ⟨(blk_cell BK465.out 0).trans rfl, (blk_cell BK465.out 1).trans rfl, (blk_cell BK465.out 2).trans rfl, (blk_cell BK465.out 3).trans rfl⟩ (fun hHeld => ?_)
  clear hK K
  refine norm_ (a' := ?_) ?_ ?_
  rotate_left
  ·show Act.put _ (some 7) _ = _
   simp only [Act.put, List.setIfInBounds_toArray, List.set_cons_zero, List.set_cons_succ, i64_w, i32_w]
   rfl
  refine pure_ (i := 5) (N := some 8) (v := ?_) (a' := ?_) #[true, true, true, true, true, true, true, true, true, false, false, false] rfl rfl (any_of HT_.out (by kernel_rfl)) (fun _ _ _ h => h) (Or.inl ⟨by rfl, ?_⟩) ?_ ?_
  rotate_left
  ·intro w'
   go_simp
   with_reducible rfl
  rotate_left
  ·simp only [Act.put, List.setIfInBounds_toArray, List.set_cons_zero, List.set_cons_succ, i64_w, i32_w]
   rfl
  refine pure_ (i := 9) (N := some 12) (v := ?_) (a' := ?_) #[true, true, true, true, true, true, true, true, true, true, false, false] rfl rfl (any_of HT_.out (by kernel_rfl)) (fun _ _ _ h => h) (Or.inl ⟨by rfl, ?_⟩) ?_ ?_
  rotate_left
  ·intro w'
   go_simp
   with_reducible rfl
  rotate_left
  ·simp only [Act.put, List.setIfInBounds_toArray, List.set_cons_zero, List.set_cons_succ, i64_w, i32_w]
   rfl
  refine pure_ (i := 10) (N := some 13) (v := ?_) (a' := ?_) #[true, true, true, true, true, true, true, true, true, true, true, false] rfl rfl (any_of HT_.out (by kernel_rfl)) (fun _ _ _ h => h) (Or.inl ⟨by rfl, ?_⟩) ?_ ?_
  rotate_left
  ·intro w'
   go_simp
   with_reducible rfl
  rotate_left
  ·simp only [Act.put, List.setIfInBounds_toArray, List.set_cons_zero, List.set_cons_succ, i64_w, i32_w]
   rfl
  refine pure_ (i := 11) (N := some 2) (v := ?_) (a' := ?_) #[true, true, true, true, true, true, true, true, true, true, true, true] rfl rfl (any_of HT_.out (by kernel_rfl)) (fun _ _ _ h => h) (Or.inl ⟨by rfl, ?_⟩) ?_ ?_
  rotate_left
  ·intro w'
   go_simp
   with_reducible rfl
  rotate_left
  ·simp only [Act.put, List.setIfInBounds_toArray, List.set_cons_zero, List.set_cons_succ, i64_w, i32_w]
   rfl
  refine done_ (done_of HT_.out (by kernel_rfl)) ?_
  try go_wp2
  go_ret
  exact ⟨zE, zB⟩
 ·replace c3 := Bool.eq_false_iff.mpr c3
  subst c3
  have H1 : (some false) = some r := by rw [if_neg (show ¬ (false = true) by decide)] at H; exact H
  clear H
  have H := H1
  clear H1
  obtain rfl := Option.some.inj H
  go_enter Try.func67, Try.ntmps67
  try go_wp2_with (first | ((with_reducible refine gate_dst (N := 1) rfl ?_); (try (refine gate_guard (by rfl) ?_; dsimp only)); refine zX 1 #[.int .i64 a0_0, .slice A0_1 l0_1.length c0_1, .int .i64 a0_2, .slice A0_3 l0_3.length c0_3] 84 ?_; intro gb465 hg w10 hbox hb; have BK465 := Aside0.mk (hbox); have GW465 := zG HB hg; have GE465 := zG HB hg; replace HB := zS HB hb; clear hb hbox hg))
  have n0_ := Aside0.mk (blk_drew BK465.out)
  have n1_ := Aside0.mk (below_drew1 HB.out)
  clear BK465
  clear HB
  have BK465 := n0_
  have HB := n1_
  clear n0_ n1_
  refine start_ (n := 12) (S := fun w' => w'.cell? ⟨gb465, 0, none⟩ = some (.int .i64 a0_0) ∧ w'.cell? ⟨gb465, 1, none⟩ = some (.slice A0_1 l0_1.length c0_1) ∧ w'.cell? ⟨gb465, 2, none⟩ = some (.int .i64 a0_2) ∧ w'.cell? ⟨gb465, 3, none⟩ = some (.slice A0_3 l0_3.length c0_3)) (ds := []) #[false, false, false, false, false, false, false, false, false, false, false, false] (by kernel_rfl) rfl rfl ⟨(blk_cell BK465.out 0).trans rfl, (blk_cell BK465.out 1).trans rfl, (blk_cell BK465.out 2).trans rfl, (blk_cell BK465.out 3).trans rfl⟩ (fun hHeld => ?_); refine with_tabW recurrent_pile_recurs.tab1 recurrent_pile_recurs.bits1 (fun HT_ HW_ => ?_)
  generalize w10.drew = w11 at BK465 HB hHeld ⊢
  refine take_ (i := 0) (N := some 3) (v := ?_) (a' := ?_) #[true, false, false, false, false, false, false, false, false, false, false, false] rfl rfl (take_ofW HT_.out HW_.out (by kernel_rfl)) (fun _ _ _ h => h) (Or.inl ⟨by rfl, ?_⟩) hHeld ?_ ?_
  rotate_left
  ·rintro w' ⟨s0, s1, s2, s3⟩
   go_simp
   with_reducible rfl
  rotate_left
  ·simp only [Act.put, List.setIfInBounds_toArray, List.set_cons_zero, List.set_cons_succ, i64_w, i32_w]
   rfl
  refine one_ (i := 1) (N := some 4) #[true, true, false, false, false, false, false, false, false, false, false, false] rfl rfl (one_of HT_.out (by kernel_rfl)) (by decide) (fun K hK => ?_)
  refine goes_ Try.func89 (by kernel_rfl) rfl #[.agg #[.int .i64 a0_0, .slice A0_1 l0_1.length c0_1, .int .i64 a0_2, .slice A0_3 l0_3.length c0_3]] (by rfl) rfl rfl (by (try simp only [List.map_toArray, List.map_cons, List.map_nil]); first | done | rfl | (simp only [List.length_drop, List.length_take]; rfl)) ?_
  with_reducible refine (recurrent_pile_stable.calls k a0_0 _ _ l0_1 a0_2 _ _ l0_3 false _ ?side1 ?side2 ?side3 ?side4 A2.out).mono ?_
  (case side1 => exact Kd.C_below HR0_1.out zB)
  (case side2 => exact HC0_1.out)
  (case side3 => exact Kd.C_below HR0_3.out zB)
  (case side4 => exact HC0_3.out)
  rintro e w12 ⟨rfl, hb⟩
  refine ⟨_, rfl, ?_⟩
  have n0_ := zb BK465 hb
  have n1_ := zS HB hb
  clear BK465
  clear HB
  have BK465 := n0_
  have HB := n1_
  clear n0_ n1_
  (try clear hb)
  skip
  skip
  skip
  refine hK.out _ _ ⟨(blk_cell BK465.out 0).trans rfl, (blk_cell BK465.out 1).trans rfl, (blk_cell BK465.out 2).trans rfl, (blk_cell BK465.out 3).trans rfl⟩ (fun hHeld => ?_)
  clear hK K
  refine norm_ (a' := ?_) ?_ ?_
  rotate_left
  ·show Act.put _ (some 4) _ = _
   simp only [Act.put, List.setIfInBounds_toArray, List.set_cons_zero, List.set_cons_succ, i64_w, i32_w]
   rfl
  refine pure_ (i := 2) (N := some 5) (v := ?_) (a' := ?_) #[true, true, true, false, false, false, false, false, false, false, false, false] rfl rfl (any_of HT_.out (by kernel_rfl)) (fun _ _ _ h => h) (Or.inl ⟨by rfl, ?_⟩) ?_ ?_
  rotate_left
  ·intro w'
   go_simp
   with_reducible rfl
  rotate_left
  ·simp only [Act.put, List.setIfInBounds_toArray, List.set_cons_zero, List.set_cons_succ, i64_w, i32_w]
   rfl
  refine pure_ (i := 3) (N := some 6) (v := undef) (a' := ?_) #[true, true, true, true, false, false, false, false, false, false, false, false] rfl rfl (any_of HT_.out (by kernel_rfl)) (fun _ _ _ h => h) (Or.inr ⟨by rfl, rfl⟩) ?_ ?_
  rotate_left
  ·simp only [Act.put, List.setIfInBounds_toArray, List.set_cons_zero, List.set_cons_succ, i64_w, i32_w]
   rfl
  refine pure_ (i := 4) (N := some 7) (v := undef) (a' := ?_) #[true, true, true, true, true, false, false, false, false, false, false, false] rfl rfl (any_of HT_.out (by kernel_rfl)) (fun _ _ _ h => h) (Or.inr ⟨by rfl, rfl⟩) ?_ ?_
  rotate_left
  ·simp only [Act.put, List.setIfInBounds_toArray, List.set_cons_zero, List.set_cons_succ, i64_w, i32_w]
   rfl
  refine pure_ (i := 5) (N := some 8) (v := undef) (a' := ?_) #[true, true, true, true, true, true, false, false, false, false, false, false] rfl rfl (any_of HT_.out (by kernel_rfl)) (fun _ _ _ h => h) (Or.inr ⟨by rfl, rfl⟩) ?_ ?_
  rotate_left
  ·simp only [Act.put, List.setIfInBounds_toArray, List.set_cons_zero, List.set_cons_succ, i64_w, i32_w]
   rfl
  refine pure_ (i := 6) (N := some 9) (v := undef) (a' := ?_) #[true, true, true, true, true, true, true, false, false, false, false, false] rfl rfl (any_of HT_.out (by kernel_rfl)) (fun _ _ _ h => h) (Or.inr ⟨by rfl, rfl⟩) ?_ ?_
  rotate_left
  ·simp only [Act.put, List.setIfInBounds_toArray, List.set_cons_zero, List.set_cons_succ, i64_w, i32_w]
   rfl
  refine pure_ (i := 7) (N := some 10) (v := undef) (a' := ?_) #[true, true, true, true, true, true, true, true, false, false, false, false] rfl rfl (any_of HT_.out (by kernel_rfl)) (fun _ _ _ h => h) (Or.inr ⟨by rfl, rfl⟩) ?_ ?_
  rotate_left
  ·simp only [Act.put, List.setIfInBounds_toArray, List.set_cons_zero, List.set_cons_succ, i64_w, i32_w]
   rfl
  refine pure_ (i := 8) (N := some 11) (v := undef) (a' := ?_) #[true, true, true, true, true, true, true, true, true, false, false, false] rfl rfl (any_of HT_.out (by kernel_rfl)) (fun _ _ _ h => h) (Or.inr ⟨by rfl, rfl⟩) ?_ ?_
  rotate_left
  ·simp only [Act.put, List.setIfInBounds_toArray, List.set_cons_zero, List.set_cons_succ, i64_w, i32_w]
   rfl
  refine pure_ (i := 9) (N := some 12) (v := undef) (a' := ?_) #[true, true, true, true, true, true, true, true, true, true, false, false] rfl rfl (any_of HT_.out (by kernel_rfl)) (fun _ _ _ h => h) (Or.inr ⟨by rfl, rfl⟩) ?_ ?_
  rotate_left
  ·simp only [Act.put, List.setIfInBounds_toArray, List.set_cons_zero, List.set_cons_succ, i64_w, i32_w]
   rfl
  refine pure_ (i := 10) (N := some 13) (v := ?_) (a' := ?_) #[true, true, true, true, true, true, true, true, true, true, true, false] rfl rfl (any_of HT_.out (by kernel_rfl)) (fun _ _ _ h => h) (Or.inl ⟨by rfl, ?_⟩) ?_ ?_
  rotate_left
  ·intro w'
   go_simp
   with_reducible rfl
  rotate_left
  ·simp only [Act.put, List.setIfInBounds_toArray, List.set_cons_zero, List.set_cons_succ, i64_w, i32_w]
   rfl
  refine pure_ (i := 11) (N := some 2) (v := ?_) (a' := ?_) #[true, true, true, true, true, true, true, true, true, true, true, true] rfl rfl (any_of HT_.out (by kernel_rfl)) (fun _ _ _ h => h) (Or.inl ⟨by rfl, ?_⟩) ?_ ?_
  rotate_left
  ·intro w'
   go_simp
   with_reducible rfl
  rotate_left
  ·simp only [Act.put, List.setIfInBounds_toArray, List.set_cons_zero, List.set_cons_succ, i64_w, i32_w]
   rfl
  refine done_ (done_of HT_.out (by kernel_rfl)) ?_
  try go_wp2
  go_ret
  exact ⟨zE, zB⟩
def recurrent_Recurrent.f (k : Nat) (a0_0 : Int) (l0_1 : List (S66)) (a1 : Int) (l2 : List Int) : Option (Bool × List Int × Int) := (recurrent_check.f k a0_0 l0_1 a1 l2).bind fun t471 => (if t471 = 0 then ((recurrent_pile_recurs.f k a0_0 l0_1 a1 l2).bind fun t473 => (if t473 = true then ((recurrent_pile_fire.f k a0_0 l0_1 a1 l2).bind fun t474 => (some (true, t474, 0))) else (some (false, ([] : List Int), 0)))) else (some (false, ([] : List Int), t471)))
theorem recurrent_Recurrent.calls (k : Nat) (a0_0 : Int) (A0_1 : Option Addr) (c0_1 : Nat) (l0_1 : List (S66)) (a1 : Int) (A2 : Option Addr) (c2 : Nat) (l2 : List Int) (r1 : Bool) (r2 : List Int) (r3 : Int) (w : World) (hr0_1 : Kd.C k66 w A0_1 l0_1.length l0_1) (hc0_1 : l0_1.length ≤ c0_1) (hr2 : Kd.C (Kd.int .i64) w A2 l2.length l2) (hc2 : l2.length ≤ c2) (h : recurrent_Recurrent.f k a0_0 l0_1 a1 l2 = some (r1, r2, r3)) :
  Calls Try.prog 40 #[.agg #[.int .i64 a0_0, .slice A0_1 l0_1.length c0_1], .int .i64 a1, .slice A2 l2.length c2] w fun e w' => ∃ v1_ : Value, e = .returned (.tuple #[.bool r1, v1_, .int .i64 r3]) ∧ Kd.R (Kd.int .i64) 3 w' w.heap.size (fun _ => True) v1_ r2 ∧ Below w.heap.size w w' := by
 have hu24 := Try.underlying24
 have hu84 := Try.underlying84
 have HR0_1 := Aside0.mk hr0_1
 have HC0_1 := Aside0.mk hc0_1
 clear hr0_1 hc0_1
 have HR2 := Aside0.mk hr2
 have HC2 := Aside0.mk hc2
 clear hr2 hc2
 have HB := Aside0.mk (Below.refl w.heap.size w)
 have H : ((recurrent_check.f k a0_0 l0_1 a1 l2).bind fun t471 => (if t471 = 0 then ((recurrent_pile_recurs.f k a0_0 l0_1 a1 l2).bind fun t473 => (if t473 = true then ((recurrent_pile_fire.f k a0_0 l0_1 a1 l2).bind fun t474 => (some (true, t474, 0))) else (some (false, ([] : List Int), 0)))) else (some (false, ([] : List Int), t471)))) = some (r1, r2, r3) := h
 clear h
 replace H := Option.bind_eq_some_iff.mp H
 obtain ⟨t471, A40, H⟩ := H
 replace H : (if t471 = 0 then ((recurrent_pile_recurs.f k a0_0 l0_1 a1 l2).bind fun t473 => (if t473 = true then ((recurrent_pile_fire.f k a0_0 l0_1 a1 l2).bind fun t474 => (some (true, t474, 0))) else (some (false, ([] : List Int), 0)))) else (some (false, ([] : List Int), t471))) = some (r1, r2, r3) := H
 have A4 := Aside0.mk A40
 clear A40
 by_cases c5 : t471 = 0
 ·rw [if_pos c5] at H
  have c5b0 : (t471 == 0) = true := beq_iff_eq.mpr c5
  have c5b1 : (t471 != 0) = false := bne_eq_false_iff_eq.mpr c5
  clear c5
  replace H := Option.bind_eq_some_iff.mp H
  obtain ⟨t473, A60, H⟩ := H
  replace H : (if t473 = true then ((recurrent_pile_fire.f k a0_0 l0_1 a1 l2).bind fun t474 => (some (true, t474, 0))) else (some (false, ([] : List Int), 0))) = some (r1, r2, r3) := H
  have A6 := Aside0.mk A60
  clear A60
  by_cases c7 : t473 = true
  ·subst c7
   have H1 : ((recurrent_pile_fire.f k a0_0 l0_1 a1 l2).bind fun t474 => (some (true, t474, 0))) = some (r1, r2, r3) := by rw [if_pos rfl] at H; exact H
   clear H
   have H := H1
   clear H1
   replace H := Option.bind_eq_some_iff.mp H
   obtain ⟨t474, A80, H⟩ := H
   replace H : (some (true, t474, 0)) = some (r1, r2, r3) := H
   have A8 := Aside0.mk A80
   clear A80
   simp only [Option.some.injEq, Prod.mk.injEq] at H
   obtain ⟨rfl, rfl, rfl⟩ := H
   go_enter Try.func40, Try.ntmps40
   go_wp2_with (first | ((with_reducible refine gate_dst (N := 3) rfl ?_); refine zX 3 #[.int .i64 a0_0, .slice A0_1 l0_1.length c0_1] 24 ?_; intro gb470 hg w9 hbox hb; have BK470 := Aside0.mk (hbox); have GW470 := zG HB hg; have GE470 := zG HB hg; replace HB := zS HB hb; clear hb hbox hg; obtain ⟨hcz10_0, hcz10_1, hfz10_0, hfz10_1⟩ := zD2 BK470) | ((with_reducible refine gate_callee (f := 66) rfl ?_); refine zL (some 14) Try.func66 #[.agg #[.int .i64 a0_0, .slice A0_1 l0_1.length c0_1], .int .i64 a1, .slice A2 l2.length c2] ?_; (with_reducible refine (recurrent_check.calls k a0_0 _ _ l0_1 a1 _ _ l2 t471 _ ?side1 ?side2 ?side3 ?side4 A4.out).mono ?_); (case side1 => exact Kd.C_below HR0_1.out zB); (case side2 => exact HC0_1.out); (case side3 => exact Kd.C_below HR2.out zB); (case side4 => exact HC2.out); rintro e w11 ⟨rfl, hb⟩; refine ⟨_, rfl, ?_⟩; replace BK470 := zb BK470 hb; replace HB := zS HB hb; (try clear hb); obtain ⟨hcz12_0, hcz12_1, hfz12_0, hfz12_1⟩ := zD2 BK470) | ((with_reducible refine gate_dst (N := 10) rfl ?_); refine zX 10 #[.int .i64 0, .slice none 0 0, .int .i64 0, .slice none 0 0] 84 ?_; intro gb472 hg w13 hbox hb; have BK472 := Aside0.mk (hbox); have GW472 := zG HB hg; have GE472 := zG HB hg; replace HB := zS HB hb; have NB470_472 := Aside0.mk ((by rw [hg]; exact Nat.ne_of_lt (blk_lt (g := gb470) (o := .cells #[.int .i64 a0_0, .slice A0_1 l0_1.length c0_1] 24 (0, 0)) (zK BK470)) : gb470 ≠ gb472)); have NB472_470 := Aside0.mk ((by rw [hg]; exact Nat.ne_of_gt (blk_lt (g := gb470) (o := .cells #[.int .i64 a0_0, .slice A0_1 l0_1.length c0_1] 24 (0, 0)) (zK BK470)) : gb472 ≠ gb470)); replace BK470 := zb BK470 hb; clear hb hbox hg; have hnb14 := NB472_470.out; have hnc14 := NB470_472.out; have hcz15_0 := z0 BK472; have hcz15_1 := z1 BK472; have hcz15_2 := z2 BK472; have hcz15_3 : w13.cell? ⟨gb472, 3, none⟩ = some (.slice none 0 0) := (blk_cell BK472.out 3).trans rfl; have hfz15_0 := blk_frozen BK472.out 0; have hfz15_1 := blk_frozen BK472.out 1; have hfz15_2 := blk_frozen BK472.out 2; have hfz15_3 := blk_frozen BK472.out 3) | ((with_reducible refine gate_callee (f := 67) rfl ?_); refine zL (some 23) Try.func67 #[.agg #[.int .i64 a0_0, .slice A0_1 l0_1.length c0_1, .int .i64 a1, .slice A2 l2.length c2]] ?_; (with_reducible refine (recurrent_pile_recurs.calls k a0_0 _ _ l0_1 a1 _ _ l2 true _ ?side1 ?side2 ?side3 ?side4 A6.out).mono ?_); (case side1 => exact Kd.C_below HR0_1.out zB); (case side2 => exact HC0_1.out); (case side3 => exact Kd.C_below HR2.out zB); (case side4 => exact HC2.out); rintro e w16 ⟨rfl, hb⟩; refine ⟨_, rfl, ?_⟩; replace BK470 := Aside0.mk (blk_below (g := gb470) (o := .cells #[.int .i64 a0_0, .slice A0_1 l0_1.length c0_1] 24 (0, 0)) (by refine zk ?_; refine blk_far ?_ NB470_472.out _; refine zk ?_; refine blk_far ?_ NB470_472.out _; refine zk ?_; refine blk_far ?_ NB470_472.out _; refine zk ?_; refine blk_far ?_ NB470_472.out _; exact zK BK470) hb); replace BK472 := Aside0.mk (blk_below (g := gb472) (o := .cells #[.int .i64 a0_0, .slice A0_1 l0_1.length c0_1, .int .i64 a1, .slice A2 l2.length c2] 84 (0, 0)) (by refine zk ?_; refine blk_put (cs := #[.int .i64 a0_0, .slice A0_1 l0_1.length c0_1, .int .i64 a1, .slice none 0 0]) ?_ 3 _ rfl; refine zk ?_; refine blk_put (cs := #[.int .i64 a0_0, .slice A0_1 l0_1.length c0_1, .int .i64 0, .slice none 0 0]) ?_ 2 _ rfl; refine zk ?_; refine blk_put (cs := #[.int .i64 a0_0, .slice none 0 0, .int .i64 0, .slice none 0 0]) ?_ 1 _ rfl; refine zk ?_; refine blk_put (cs := #[.int .i64 0, .slice none 0 0, .int .i64 0, .slice none 0 0]) ?_ 0 _ rfl; exact zK BK472) hb); replace HB := zS HB hb; (try clear hb); have hcz17_0 := z0 BK472; have hcz17_1 := z1 BK472; have hcz17_2 := z2 BK472; have hcz17_3 : w16.cell? ⟨gb472, 3, none⟩ = some (.slice A2 l2.length c2) := (blk_cell BK472.out 3).trans rfl; have hfz17_0 := blk_frozen BK472.out 0; have hfz17_1 := blk_frozen BK472.out 1; have hfz17_2 := blk_frozen BK472.out 2; have hfz17_3 := blk_frozen BK472.out 3) | ((with_reducible refine gate_callee (f := 68) rfl ?_); refine zL (some 26) Try.func68 #[.agg #[.int .i64 a0_0, .slice A0_1 l0_1.length c0_1, .int .i64 a1, .slice A2 l2.length c2]] ?_; (with_reducible refine (recurrent_pile_fire.calls k a0_0 _ _ l0_1 a1 _ _ l2 t474 _ ?side1 ?side2 ?side3 ?side4 A8.out).mono ?_); (case side1 => exact Kd.C_below HR0_1.out zB); (case side2 => exact HC0_1.out); (case side3 => exact Kd.C_below HR2.out zB); (case side4 => exact HC2.out); rintro e w18 ⟨v475, rfl, ho0, hb⟩; refine ⟨_, rfl, ?_⟩; have HO476 := Aside0.mk (Kd.R_lower ho0 (below_size zB)); replace BK470 := zb BK470 hb; replace BK472 := zb BK472 hb; replace HB := zS HB hb; (try clear hb); (try clear ho0)))
   go_ret3
   exact ⟨_, zE, by (with_reducible repeat (first | apply Kd.R_alloc | apply Kd.R_drewN | apply Kd.R_drew)); exact HO476.out, zB⟩
  ·replace c7 := Bool.eq_false_iff.mpr c7
   subst c7
   have H1 : (some (false, ([] : List Int), 0)) = some (r1, r2, r3) := by rw [if_neg (show ¬ (false = true) by decide)] at H; exact H
   clear H
   have H := H1
   clear H1
   simp only [Option.some.injEq, Prod.mk.injEq] at H
   obtain ⟨rfl, rfl, rfl⟩ := H
   go_enter Try.func40, Try.ntmps40
   go_wp2_with (first | ((with_reducible refine gate_dst (N := 3) rfl ?_); refine zX 3 #[.int .i64 a0_0, .slice A0_1 l0_1.length c0_1] 24 ?_; intro gb470 hg w19 hbox hb; have BK470 := Aside0.mk (hbox); have GW470 := zG HB hg; have GE470 := zG HB hg; replace HB := zS HB hb; clear hb hbox hg; obtain ⟨hcz20_0, hcz20_1, hfz20_0, hfz20_1⟩ := zD2 BK470) | ((with_reducible refine gate_callee (f := 66) rfl ?_); refine zL (some 14) Try.func66 #[.agg #[.int .i64 a0_0, .slice A0_1 l0_1.length c0_1], .int .i64 a1, .slice A2 l2.length c2] ?_; (with_reducible refine (recurrent_check.calls k a0_0 _ _ l0_1 a1 _ _ l2 t471 _ ?side1 ?side2 ?side3 ?side4 A4.out).mono ?_); (case side1 => exact Kd.C_below HR0_1.out zB); (case side2 => exact HC0_1.out); (case side3 => exact Kd.C_below HR2.out zB); (case side4 => exact HC2.out); rintro e w21 ⟨rfl, hb⟩; refine ⟨_, rfl, ?_⟩; replace BK470 := zb BK470 hb; replace HB := zS HB hb; (try clear hb); obtain ⟨hcz22_0, hcz22_1, hfz22_0, hfz22_1⟩ := zD2 BK470) | ((with_reducible refine gate_dst (N := 10) rfl ?_); refine zX 10 #[.int .i64 0, .slice none 0 0, .int .i64 0, .slice none 0 0] 84 ?_; intro gb472 hg w23 hbox hb; have BK472 := Aside0.mk (hbox); have GW472 := zG HB hg; have GE472 := zG HB hg; replace HB := zS HB hb; have NB470_472 := Aside0.mk ((by rw [hg]; exact Nat.ne_of_lt (blk_lt (g := gb470) (o := .cells #[.int .i64 a0_0, .slice A0_1 l0_1.length c0_1] 24 (0, 0)) (zK BK470)) : gb470 ≠ gb472)); have NB472_470 := Aside0.mk ((by rw [hg]; exact Nat.ne_of_gt (blk_lt (g := gb470) (o := .cells #[.int .i64 a0_0, .slice A0_1 l0_1.length c0_1] 24 (0, 0)) (zK BK470)) : gb472 ≠ gb470)); replace BK470 := zb BK470 hb; clear hb hbox hg; have hnb24 := NB472_470.out; have hnc24 := NB470_472.out; have hcz25_0 := z0 BK472; have hcz25_1 := z1 BK472; have hcz25_2 := z2 BK472; have hcz25_3 : w23.cell? ⟨gb472, 3, none⟩ = some (.slice none 0 0) := (blk_cell BK472.out 3).trans rfl; have hfz25_0 := blk_frozen BK472.out 0; have hfz25_1 := blk_frozen BK472.out 1; have hfz25_2 := blk_frozen BK472.out 2; have hfz25_3 := blk_frozen BK472.out 3) | ((with_reducible refine gate_callee (f := 67) rfl ?_); refine zL (some 23) Try.func67 #[.agg #[.int .i64 a0_0, .slice A0_1 l0_1.length c0_1, .int .i64 a1, .slice A2 l2.length c2]] ?_; (with_reducible refine (recurrent_pile_recurs.calls k a0_0 _ _ l0_1 a1 _ _ l2 false _ ?side1 ?side2 ?side3 ?side4 A6.out).mono ?_); (case side1 => exact Kd.C_below HR0_1.out zB); (case side2 => exact HC0_1.out); (case side3 => exact Kd.C_below HR2.out zB); (case side4 => exact HC2.out); rintro e w26 ⟨rfl, hb⟩; refine ⟨_, rfl, ?_⟩; replace BK470 := Aside0.mk (blk_below (g := gb470) (o := .cells #[.int .i64 a0_0, .slice A0_1 l0_1.length c0_1] 24 (0, 0)) (by refine zk ?_; refine blk_far ?_ NB470_472.out _; refine zk ?_; refine blk_far ?_ NB470_472.out _; refine zk ?_; refine blk_far ?_ NB470_472.out _; refine zk ?_; refine blk_far ?_ NB470_472.out _; exact zK BK470) hb); replace BK472 := Aside0.mk (blk_below (g := gb472) (o := .cells #[.int .i64 a0_0, .slice A0_1 l0_1.length c0_1, .int .i64 a1, .slice A2 l2.length c2] 84 (0, 0)) (by refine zk ?_; refine blk_put (cs := #[.int .i64 a0_0, .slice A0_1 l0_1.length c0_1, .int .i64 a1, .slice none 0 0]) ?_ 3 _ rfl; refine zk ?_; refine blk_put (cs := #[.int .i64 a0_0, .slice A0_1 l0_1.length c0_1, .int .i64 0, .slice none 0 0]) ?_ 2 _ rfl; refine zk ?_; refine blk_put (cs := #[.int .i64 a0_0, .slice none 0 0, .int .i64 0, .slice none 0 0]) ?_ 1 _ rfl; refine zk ?_; refine blk_put (cs := #[.int .i64 0, .slice none 0 0, .int .i64 0, .slice none 0 0]) ?_ 0 _ rfl; exact zK BK472) hb); replace HB := zS HB hb; (try clear hb)))
   go_ret3
   exact ⟨_, zE, by first | exact Kd.R_nil _ _ _ _ _ | exact Kd.N_nil _ _ _ _ _ | exact Kd.V_nil _ _ _ _ _ | exact Kd.Q_nil _ _ _ _ _ | exact Kd.S_nil _ _ _ _ _, zB⟩
 ·rw [if_neg c5] at H
  have c5b0 : (t471 == 0) = false := beq_eq_false_iff_ne.mpr c5
  have c5b1 : (t471 != 0) = true := bne_iff_ne.mpr c5
  simp only [Option.some.injEq, Prod.mk.injEq] at H
  obtain ⟨rfl, rfl, rfl⟩ := H
  go_enter Try.func40, Try.ntmps40
  go_wp2_with (first | ((with_reducible refine gate_dst (N := 3) rfl ?_); refine zX 3 #[.int .i64 a0_0, .slice A0_1 l0_1.length c0_1] 24 ?_; intro gb470 hg w27 hbox hb; have BK470 := Aside0.mk (hbox); have GW470 := zG HB hg; have GE470 := zG HB hg; replace HB := zS HB hb; clear hb hbox hg; obtain ⟨hcz28_0, hcz28_1, hfz28_0, hfz28_1⟩ := zD2 BK470) | ((with_reducible refine gate_callee (f := 66) rfl ?_); refine zL (some 14) Try.func66 #[.agg #[.int .i64 a0_0, .slice A0_1 l0_1.length c0_1], .int .i64 a1, .slice A2 l2.length c2] ?_; (with_reducible refine (recurrent_check.calls k a0_0 _ _ l0_1 a1 _ _ l2 t471 _ ?side1 ?side2 ?side3 ?side4 A4.out).mono ?_); (case side1 => exact Kd.C_below HR0_1.out zB); (case side2 => exact HC0_1.out); (case side3 => exact Kd.C_below HR2.out zB); (case side4 => exact HC2.out); rintro e w29 ⟨rfl, hb⟩; refine ⟨_, rfl, ?_⟩; replace BK470 := zb BK470 hb; replace HB := zS HB hb; (try clear hb)))
  go_ret3
  exact ⟨_, zE, by first | exact Kd.R_nil _ _ _ _ _ | exact Kd.N_nil _ _ _ _ _ | exact Kd.V_nil _ _ _ _ _ | exact Kd.Q_nil _ _ _ _ _ | exact Kd.S_nil _ _ _ _ _, zB⟩
section
def conA (v : Int) (x : S66) : Int := if x.f0 ≠ x.f1 ∧ (x.f0 = v ∨ x.f1 = v) then x.f2 else 0
theorem conA_self {v : Int} {x : S66} (e : x.f0 = x.f1) : conA v x = 0 := if_neg (fun h => h.1 e)
theorem conA_pos {v : Int} {x : S66} (e : ¬ x.f0 = x.f1) (h : x.f0 = v ∨ x.f1 = v) : conA v x = x.f2 := if_pos ⟨e, h⟩
theorem conA_neg {v : Int} {x : S66} (h0 : ¬ x.f0 = v) (h1 : ¬ x.f1 = v) : conA v x = 0 := if_neg (fun h => h.2.elim h0 h1)
theorem valN_conA {n : Nat} {E : List S66} (hR : RightE n E) (v : Nat) : valN E v n = sumE (conA v) E := by
 rw [valN_sum hR v n]
 refine sumE_congr fun x hx => ?_
 have ho := hR.ok x hx
 simp only [edgeOk, decide_eq_true_eq] at ho
 unfold conU conA
 by_cases h : x.f0 ≠ x.f1 ∧ (x.f0 = (v : Int) ∨ x.f1 = (v : Int))
 ·rw [if_pos h, if_pos (by omega)]
 ·rw [if_neg h, if_neg (by omega)]
theorem rd_T_in {E : List S66} {i : Nat} (h : i < E.length) : rd_T66 E i ∈ E := by
 have e : rd_T66 E i = E[i] := by simp [rd_T66, List.getD_eq_getElem?_getD, List.getElem?_eq_getElem h]
 rw [e]; exact List.getElem_mem h
theorem gval_l0 {n : Nat} {E : List S66} (hR : RightE n E) (hE : E.length ≤ 1000) (v : Nat) : ∀ (m i : Nat) (s : Int), i + m = E.length → 0 ≤ s → s ≤ 50 * i → Ev (fun k => graph_Valence.l0 k v s E E.length i) (s + sumE (conA v) (E.drop i), (0 : Int))
 | 0, i, s, hi, h0, h1 => by
  refine Ev.of_succ ?_
  simp only [graph_Valence.l0, if_neg (show ¬ (i : Int) < E.length by omega), List.drop_of_length_le (show E.length ≤ i by omega), sumE, Int.add_zero]
  exact Ev.const _
 | m + 1, i, s, hi, h0, h1 => by
  have ih := fun s => gval_l0 hR hE v m (i + 1) s (by omega)
  have ho := hR.ok _ (rd_T_in (E := E) (i := i) (by omega))
  simp only [edgeOk, decide_eq_true_eq] at ho
  refine Ev.of_succ ?_
  simp only [graph_Valence.l0, if_pos (show (i : Int) < E.length by omega), if_pos (show (0 : Int) ≤ i by omega), wrap_succ (show i ≤ 1000000 by omega)]
  rw [rd_T_drop (show i < E.length by omega), sumE]
  generalize rd_T66 E i = x at ho ⊢
  have hw : wrap64 (s + x.f2) = s + x.f2 := wrap_id (by omega)
  by_cases e : x.f0 = x.f1
  ·have := ih s (by omega) (by omega)
   rw [conA_self e, Int.zero_add]
   simp only [if_pos e]
   exact this
  ·by_cases e0 : x.f0 = v
   ·have := ih (s + x.f2) (by omega) (by omega)
    rw [conA_pos e (.inl e0), ← Int.add_assoc]
    simp only [if_neg e, if_pos e0, hw]
    exact this
   ·by_cases e1 : x.f1 = v
    ·have := ih (s + x.f2) (by omega) (by omega)
     rw [conA_pos e (.inr e1), ← Int.add_assoc]
     simp only [if_neg e, if_neg e0, if_pos e1, hw]
     exact this
    ·have := ih s (by omega) (by omega)
     rw [conA_neg e0 e1, Int.zero_add]
     simp only [if_neg e, if_neg e0, if_neg e1]
     exact this
theorem gval_ev {n : Nat} {E : List S66} (hR : RightE n E) (hE : E.length ≤ 1000) (hc : checkG n E = 0) {v : Nat} (hv : v < n) : Ev (fun k => graph_Valence.f k n E v) (valN E v n, (0 : Int)) := by
 unfold graph_Valence.f
 refine Ev.bind (a := (0 : Int)) ?_ ?_
 ·unfold graph_at.f
  have h1 := graph_check_ev n E hE
  rw [hc] at h1
  refine Ev.bind h1 ?_
  simp only [if_true]
  refine Ev.of_succ ?_
  simp only [graph_at.l0, List.length_cons, List.length_nil, Nat.zero_add, Int.natCast_one, Int.ofNat_one, if_pos (show (0 : Int) < 1 by decide), if_pos (show (0 : Int) ≤ 0 by decide), show rd [(v : Int)] 0 = v from rfl, vertex_ok, Option.bind_some, decide_eq_true (show (0 : Int) ≤ v ∧ (v : Int) < n by omega), if_true]
  refine Ev.of_succ ?_
  rw [show wrap64 (0 + 1) = 1 from wrap_id (x := 1) (by decide)]
  simp only [graph_at.l0, if_neg (show ¬ (1 : Int) < 1 by decide)]
  exact Ev.const _
 ·simp only [if_true]
  have := gval_l0 hR hE v E.length 0 0 (by omega) (by omega) (by omega)
  rw [List.drop_zero, Int.zero_add, ← valN_conA hR v] at this
  exact this
def conM (B : Nat → Bool) (v : Int) (x : S66) : Int := if x.f0 ≠ x.f1 ∧ (x.f0 = v ∧ B x.f1.toNat = true ∨ x.f1 = v ∧ B x.f0.toNat = true) then x.f2 else 0
theorem conM_self {B : Nat → Bool} {v : Int} {x : S66} (e : x.f0 = x.f1) : conM B v x = 0 := if_neg (fun h => h.1 e)
theorem conM_0 {B : Nat → Bool} {v : Int} {x : S66} (e : ¬ x.f0 = x.f1) (h : x.f0 = v) : conM B v x = if B x.f1.toNat = true then x.f2 else 0 := by
 unfold conM
 by_cases hb : B x.f1.toNat = true
 ·rw [if_pos hb, if_pos ⟨e, .inl ⟨h, hb⟩⟩]
 ·rw [if_neg hb, if_neg (fun h2 => h2.2.elim (fun h3 => hb h3.2) (fun h3 => e (h.trans h3.1.symm)))]
theorem conM_1 {B : Nat → Bool} {v : Int} {x : S66} (e : ¬ x.f0 = x.f1) (h : x.f1 = v) : conM B v x = if B x.f0.toNat = true then x.f2 else 0 := by
 unfold conM
 by_cases hb : B x.f0.toNat = true
 ·rw [if_pos hb, if_pos ⟨e, .inr ⟨h, hb⟩⟩]
 ·rw [if_neg hb, if_neg (fun h2 => h2.2.elim (fun h3 => e (h3.1.trans h.symm)) (fun h3 => hb h3.2))]
theorem conM_neg {B : Nat → Bool} {v : Int} {x : S66} (h0 : ¬ x.f0 = v) (h1 : ¬ x.f1 = v) : conM B v x = 0 := if_neg (fun h => h.2.elim (fun h => h0 h.1) (fun h => h1 h.1))
theorem joins_l0 {n : Nat} {E : List S66} (hR : RightE n E) (hE : E.length ≤ 1000) (v : Nat) (o : List Bool) (ho : o.length = n) : ∀ (m i : Nat) (s : Int), i + m = E.length → 0 ≤ s → s ≤ 50 * i → Ev (fun k => recurrent_pile_joins.l0 k v o s E E.length i) (s + sumE (conM (at1 o) v) (E.drop i))
 | 0, i, s, hi, h0, h1 => by
  refine Ev.of_succ ?_
  simp only [recurrent_pile_joins.l0, if_neg (show ¬ (i : Int) < E.length by omega), List.drop_of_length_le (show E.length ≤ i by omega), sumE, Int.add_zero]
  exact Ev.const _
 | m + 1, i, s, hi, h0, h1 => by
  have ih := fun s => joins_l0 hR hE v o ho m (i + 1) s (by omega)
  have hok := hR.ok _ (rd_T_in (E := E) (i := i) (by omega))
  simp only [edgeOk, decide_eq_true_eq] at hok
  refine Ev.of_succ ?_
  simp only [recurrent_pile_joins.l0, if_pos (show (i : Int) < E.length by omega), if_pos (show (0 : Int) ≤ i by omega), wrap_succ (show i ≤ 1000000 by omega)]
  rw [rd_T_drop (show i < E.length by omega), sumE]
  generalize rd_T66 E i = x at hok ⊢
  have hw : wrap64 (s + x.f2) = s + x.f2 := wrap_id (by omega)
  have r0 : rdOf false o x.f0 = at1 o x.f0.toNat := by
   have := rdOf_at o x.f0.toNat
   rw [show ((x.f0.toNat : Nat) : Int) = x.f0 by omega] at this; exact this
  have r1 : rdOf false o x.f1 = at1 o x.f1.toNat := by
   have := rdOf_at o x.f1.toNat
   rw [show ((x.f1.toNat : Nat) : Int) = x.f1 by omega] at this; exact this
  have l0 : x.f0 < (o.length : Int) := by omega
  have l1 : x.f1 < (o.length : Int) := by omega
  have i0 := ih s (by omega) (by omega)
  have i1 := ih (s + x.f2) (by omega) (by omega)
  simp only [r0, r1, if_pos (show 0 ≤ x.f0 by omega), if_pos (show 0 ≤ x.f1 by omega), if_pos l0, if_pos l1, hw]
  by_cases e : x.f0 = x.f1
  ·rw [conM_self e, Int.zero_add]
   simp only [if_pos e]
   exact i0
  ·by_cases e0 : x.f0 = v
   ·have e1 : ¬ x.f1 = v := fun h => e (e0.trans h.symm)
    rw [conM_0 e e0]
    simp only [if_neg e, if_pos e0, if_neg e1]
    cases hb : at1 o x.f1.toNat with
    | true =>
     simp only [if_true]
     rw [← Int.add_assoc]
     exact i1
    | false =>
     simp only [Bool.false_eq_true, if_false, Int.zero_add]
     exact i0
   ·by_cases e1 : x.f1 = v
    ·rw [conM_1 e e1]
     simp only [if_neg e, if_neg e0, if_pos e1]
     cases hb : at1 o x.f0.toNat with
     | true =>
      simp only [if_true]
      rw [← Int.add_assoc]
      exact i1
     | false =>
      simp only [Bool.false_eq_true, if_false, Int.zero_add]
      exact i0
    ·rw [conM_neg e0 e1, Int.zero_add]
     simp only [if_neg e, if_neg e0, if_neg e1]
     exact i0
theorem flames_conM {n : Nat} {E : List S66} (hR : RightE n E) (B : Nat → Bool) (v : Nat) (hv : B v = false) : flamesTo (timesOf E) B v n = sumE (conM B v) E := by
 rw [flames_sum hR B v hv n]
 refine sumE_congr fun x hx => ?_
 have ho := hR.ok x hx
 simp only [edgeOk, decide_eq_true_eq] at ho
 unfold conB conM
 by_cases h : x.f0 ≠ x.f1 ∧ (x.f0 = (v : Int) ∧ B x.f1.toNat = true ∨ x.f1 = (v : Int) ∧ B x.f0.toNat = true)
 ·rw [if_pos h, if_pos]
  refine ⟨h.1, ?_⟩
  rcases h.2 with h2 | h2
  ·exact .inl ⟨h2.1, by omega, h2.2⟩
  ·exact .inr ⟨h2.1, by omega, h2.2⟩
 ·rw [if_neg h, if_neg]
  rintro ⟨h1, h2 | h2⟩
  ·exact h ⟨h1, .inl ⟨h2.1, h2.2.2⟩⟩
  ·exact h ⟨h1, .inr ⟨h2.1, h2.2.2⟩⟩
def markTo (o : List Bool) : Nat → Nat
 | 0 => 0
 | m + 1 => markTo o m + if at1 o m = true then 1 else 0
theorem markTo_le (o : List Bool) : ∀ m, markTo o m ≤ m
 | 0 => Nat.le_refl _
 | m + 1 => by have := markTo_le o m; unfold markTo; split <;> omega
theorem markTo_set {o : List Bool} {v : Nat} (hv : v < o.length) (hf : at1 o v = false) : ∀ m, markTo (o.set v true) m = markTo o m + if v < m then 1 else 0
 | 0 => by simp [markTo]
 | m + 1 => by
  have ih := markTo_set hv hf m
  unfold markTo
  rw [ih, at1_set]
  by_cases e : v = m
  ·subst e
   rw [hf]; simp [hv]
  ·rw [if_neg (show ¬ (v = m ∧ m < o.length) from fun h => e h.1)]
   by_cases h : v < m
   ·rw [if_pos h, if_pos (show v < m + 1 by omega)]; omega
   ·rw [if_neg h, if_neg (show ¬ v < m + 1 by omega)]; omega
theorem markTo_all {o : List Bool} : ∀ {m}, m ≤ markTo o m → ∀ v, v < m → at1 o v = true
 | 0, _, v, hv => by omega
 | m + 1, h, v, hv => by
  have h1 := markTo_le o m
  unfold markTo at h
  by_cases e : at1 o m = true
  ·rw [if_pos e] at h
   by_cases e2 : v = m
   ·subst e2; exact e
   ·exact markTo_all (m := m) (by omega) v (by omega)
  ·rw [if_neg e] at h; omega
theorem markTo_full {o : List Bool} : ∀ {m}, (∀ v, v < m → at1 o v = true) → markTo o m = m
 | 0, _ => rfl
 | m + 1, h => by unfold markTo; rw [markTo_full (m := m) (fun v hv => h v (by omega)), if_pos (h m (by omega))]
section
variable {n q : Nat} {E : List S66}
theorem Small.check0 (h : Small n q E) (hr : rootG n E q = 0) : checkG n E = 0 := by
 unfold rootG at hr
 by_cases h0 : checkG n E = 0
 ·exact h0
 ·rw [if_neg h0] at hr; exact absurd hr h0
theorem catches_ev (h : Small n q E) (hr : rootG n E q = 0) {d : List Int} (hd : d.length = n) (hb : ∀ v : Nat, 0 ≤ rd d v ∧ rd d v ≤ 1048576) {o : List Bool} (ho : o.length = n) {v : Nat} (hv : v < n) (hf : at1 o v = false) :
  Ev (fun k => recurrent_pile_catches.f k n E q d v o) (decide (valN E v n ≤ rd d v + flamesTo (timesOf E) (at1 o) v n)) := by
 have hE : E.length ≤ 1000 := by have := h.len; omega
 unfold recurrent_pile_catches.f
 simp only [if_pos (show (0 : Int) ≤ v by omega), if_pos (show (v : Int) < d.length by omega)]
 have hj := joins_l0 h.right hE v o ho E.length 0 0 (by omega) (by omega) (by omega)
 rw [List.drop_zero, Int.zero_add, ← flames_conM h.right _ v hf] at hj
 refine Ev.bind (a := flamesTo (timesOf E) (at1 o) v n) (by unfold recurrent_pile_joins.f; exact hj) ?_
 refine Ev.bind (a := valN E v n) ?_ ?_
 ·unfold recurrent_pile_valence.f
  exact Ev.bind (gval_ev h.right hE (h.check0 hr) hv) (Ev.const _)
 ·have ht := (edgesIn_of h.right.inB).times
  have h1 := flamesTo_bound (burnt := at1 o) ht v n
  have := hb v
  have := h.n5
  rw [wrap_id (by omega)]
  exact Ev.const _
theorem fireR (h : Small n q E) (hr : rootG n E q = 0) {c d : List Int} (hd : d.length = n) (hb : ∀ v : Nat, 0 ≤ rd d v ∧ rd d v ≤ 1048576) (hcd : ∀ v : Nat, v < n → v ≠ q → rd d v = valN E v n - 1 - rd c v) :
  ∀ (m : Nat) (o : List Bool) (x : List Int), o.length = n → at1 o q = true → x.length = markTo o n → n ≤ markTo o n + m → (∀ v, v < n → at1 o v = true → burnAll (sinkOnly q) (fireList n (catchB n (timesOf E) c) (sinkOnly q)) v = true) →
   ∃ L : List Int, Ev (fun k => recurrent_pile_fire.l0 k o x n E q d) L ∧ L.length ≤ n ∧ (L.length = n ↔ superB n (timesOf E) q c = true) := by
 have hn5 := h.n5
 have hfull : ∀ (o : List Bool) (x : List Int), x.length = markTo o n → n ≤ markTo o n → (∀ v, v < n → at1 o v = true → burnAll (sinkOnly q) (fireList n (catchB n (timesOf E) c) (sinkOnly q)) v = true) → ∃ L : List Int, Ev (fun k => recurrent_pile_fire.l0 k o x n E q d) L ∧ L.length ≤ n ∧ (L.length = n ↔ superB n (timesOf E) q c = true) := by
  intro o x hx hm hF
  have hle := markTo_le o n
  refine ⟨x, Ev.of_succ ?_, by omega, ⟨fun _ => ?_, fun _ => by omega⟩⟩
  ·simp only [recurrent_pile_fire.l0, if_neg (show ¬ (x.length : Int) < n by omega)]
   exact Ev.const _
  ·unfold superB
   exact List.all_eq_true.2 fun v hv => hF v (List.mem_range.1 hv) (markTo_all hm v (List.mem_range.1 hv))
 intro m
 induction m with
 | zero => intro o x ho hq hx hm hF; exact hfull o x hx (by omega) hF
 | succ m ih =>
  intro o x ho hq hx hm hF
  by_cases hall : n ≤ markTo o n
  ·exact hfull o x hx hall hF
  ·
   have loop : ∀ (j v : Nat), v + j = n → (∀ u, u < v → at1 o u = false → ¬ valN E u n ≤ rd d u + flamesTo (timesOf E) (at1 o) u n) →
     ∃ L : List Int, Ev (fun k => recurrent_pile_fire.l1 k o x (-1) n v n E q d) L ∧ L.length ≤ n ∧ (L.length = n ↔ superB n (timesOf E) q c = true) := by
    intro j
    induction j with
    | zero =>
     intro v hv hno
     refine ⟨x, Ev.of_succ ?_, by omega, ⟨fun hxl => by omega, fun hs => ?_⟩⟩
     ·simp only [recurrent_pile_fire.l1, if_neg (show ¬ (v : Int) < n by omega), if_pos (show (-1 : Int) < 0 by decide)]
      exact Ev.const _
     ·exfalso
      have hnb := (superB_iff (fun i j => ((edgesIn_of h.right.inB).times i j).1) q c).1 hs
      have hex : ∃ v, v < n ∧ at1 o v = false := by
       refine Classical.byContradiction fun hne => hall ?_
       rw [markTo_full fun v hv => by
        cases hb : at1 o v with
        | true => rfl
        | false => exact absurd ⟨v, hv, hb⟩ hne]
       exact Nat.le_refl _
      obtain ⟨w, hw, hwf⟩ := hex
      obtain ⟨u, hu, hSu, hcu⟩ := hnb (fun u => !at1 o u) ⟨w, hw, by simp [hwf]⟩ (by simp [hq])
      have hSu : at1 o u = false := by simpa using hSu
      have huq : u ≠ q := fun e => by subst e; rw [hq] at hSu; cases hSu
      have h1 := hno u (by omega) hSu
      have h2 := hcd u hu huq
      have hcu : rd c u < flamesTo (timesOf E) (at1 o) u n := by simpa using hcu
      omega
    | succ j ihj =>
     intro v hv hno
     have hstep : ∀ L : List Int, (if at1 o v = true then Ev (fun k => recurrent_pile_fire.l1 k o x (-1) n ((v + 1 : Nat) : Int) n E q d) L else if valN E v n ≤ rd d v + flamesTo (timesOf E) (at1 o) v n then Ev (fun k => recurrent_pile_fire.l0 k (o.set v true) (x ++ [(v : Int)]) n E q d) L else Ev (fun k => recurrent_pile_fire.l1 k o x (-1) n ((v + 1 : Nat) : Int) n E q d) L) → Ev (fun k => recurrent_pile_fire.l1 k o x (-1) n v n E q d) L := by
      intro L hL
      refine Ev.of_succ ?_
      have hro : rdOf false o v = at1 o v := rdOf_at o v
      simp only [recurrent_pile_fire.l1, if_pos (show (v : Int) < n by omega), if_pos (show (0 : Int) ≤ v by omega), if_pos (show (v : Int) < o.length by omega), wrap_succ (show v ≤ 1000000 by omega), if_neg (show ¬ (v : Int) < 0 by omega), if_pos (show x.length < 17592186044416 by have := markTo_le o n; omega), Int.toNat_natCast, hro]
      cases hov : at1 o v with
      | true => rw [hov] at hL; simpa using hL
      | false =>
       rw [hov] at hL
       simp only [Bool.false_eq_true, if_false] at hL ⊢
       refine Ev.bind (catches_ev h hr hd hb ho (show v < n by omega) hov) ?_
       by_cases hc : valN E v n ≤ rd d v + flamesTo (timesOf E) (at1 o) v n
       ·rw [if_pos hc] at hL; simp only [hc, decide_true, if_true]; exact hL
       ·rw [if_neg hc] at hL; simp only [hc, decide_false, Bool.false_eq_true, if_false]; exact hL
     cases hov : at1 o v with
     | true =>
      obtain ⟨L, h1, h2⟩ := ihj (v + 1) (by omega) (fun u hu hf => by
       by_cases e : u = v
       ·subst e; rw [hov] at hf; cases hf
       ·exact hno u (by omega) hf)
      exact ⟨L, hstep L (by rw [hov]; simpa using h1), h2⟩
     | false =>
      by_cases hc : valN E v n ≤ rd d v + flamesTo (timesOf E) (at1 o) v n
      ·have hms := markTo_set (o := o) (v := v) (by omega) hov n
       rw [if_pos (show v < n by omega)] at hms
       have hvq : v ≠ q := fun e => by subst e; rw [hq] at hov; cases hov
       obtain ⟨L, h1, h2⟩ := ih (o.set v true) (x ++ [(v : Int)]) (by simp [ho]) (by rw [at1_set, if_neg (fun e => hvq e.1)]; exact hq) (by simp [hx, hms]) (by omega) (fun u hu hm => by
        rw [at1_set] at hm
        by_cases e : v = u ∧ u < o.length
        ·obtain ⟨rfl, -⟩ := e
         cases hF2 : burnAll (sinkOnly q) (fireList n (catchB n (timesOf E) c) (sinkOnly q)) v with
         | true => rfl
         | false =>
          have h3 := fire_fix (n := n) (c := catchB n (timesOf E) c) (fun b v h => catchB_unb b v h) (unb n (sinkOnly q)) (sinkOnly q) (Nat.le_refl _) v hu
          rw [show fireRun n (catchB n (timesOf E) c) (unb n (sinkOnly q)) (sinkOnly q) = fireList n (catchB n (timesOf E) c) (sinkOnly q) from rfl] at h3
          have h4 : flamesTo (timesOf E) (at1 o) v n ≤ flamesTo (timesOf E) (burnAll (sinkOnly q) (fireList n (catchB n (timesOf E) c) (sinkOnly q))) v n := flamesTo_up (fun i j => ((edgesIn_of h.right.inB).times i j).1) n (fun u hu hbu => hF u hu hbu)
          have h5 := hcd v hu hvq
          have h6 : ¬ rd c v < flamesTo (timesOf E) (burnAll (sinkOnly q) (fireList n (catchB n (timesOf E) c) (sinkOnly q))) v n := fun hlt => by
           have h7 : catchB n (timesOf E) c (burnAll (sinkOnly q) (fireList n (catchB n (timesOf E) c) (sinkOnly q))) v = true := by
            show (!burnAll (sinkOnly q) (fireList n (catchB n (timesOf E) c) (sinkOnly q)) v && decide (rd c v < flamesTo (timesOf E) (burnAll (sinkOnly q) (fireList n (catchB n (timesOf E) c) (sinkOnly q))) v n)) = true
            rw [hF2, decide_eq_true hlt]; rfl
           rw [h3] at h7; cases h7
          omega
        ·rw [if_neg e] at hm; exact hF u hu hm)
       exact ⟨L, hstep L (by rw [hov, if_neg (by decide), if_pos hc]; exact h1), h2⟩
      ·obtain ⟨L, h1, h2⟩ := ihj (v + 1) (by omega) (fun u hu hf => by
        by_cases e : u = v
        ·subst e; exact hc
        ·exact hno u (by omega) hf)
       exact ⟨L, hstep L (by rw [hov, if_neg (by decide), if_neg hc]; exact h1), h2⟩
   obtain ⟨L, h1, h2⟩ := loop n 0 (by omega) (fun u hu => by omega)
   refine ⟨L, Ev.of_succ ?_, h2⟩
   simp only [recurrent_pile_fire.l0, if_pos (show (x.length : Int) < n by omega)]
   exact h1
end
end
def sandpilelaw28_right.f (k : Nat) (a0_0 : Int) (l0_1 : List (S66)) (a1 : Int) : Option (Bool) := (sandpileref08_FewTrees.f k a0_0 l0_1).bind fun t380 => (if t380 = true then ((sandpileref19_Rooted.f k a0_0 l0_1 a1).bind fun t381 => (some (t381 == 0))) else (some false))
theorem sandpilelaw28_right.calls (k : Nat) (a0_0 : Int) (A0_1 : Option Addr) (c0_1 : Nat) (l0_1 : List (S66)) (a1 : Int) (r : Bool) (w : World) (hr0_1 : Kd.C k66 w A0_1 l0_1.length l0_1) (hc0_1 : l0_1.length ≤ c0_1) (h : sandpilelaw28_right.f k a0_0 l0_1 a1 = some r) :
  Calls Try.prog 27 #[.agg #[.int .i64 a0_0, .slice A0_1 l0_1.length c0_1], .int .i64 a1] w fun e w' => e = .returned (.bool r) ∧ Below w.heap.size w w' := by
 have hu24 := Try.underlying24
 have HR0_1 := Aside0.mk hr0_1
 have HC0_1 := Aside0.mk hc0_1
 clear hr0_1 hc0_1
 have HB := Aside0.mk (Below.refl w.heap.size w)
 have H : ((sandpileref08_FewTrees.f k a0_0 l0_1).bind fun t380 => (if t380 = true then ((sandpileref19_Rooted.f k a0_0 l0_1 a1).bind fun t381 => (some (t381 == 0))) else (some false))) = some r := h
 clear h
 replace H := Option.bind_eq_some_iff.mp H
 obtain ⟨t380, A30, H⟩ := H
 replace H : (if t380 = true then ((sandpileref19_Rooted.f k a0_0 l0_1 a1).bind fun t381 => (some (t381 == 0))) else (some false)) = some r := H
 have A3 := Aside0.mk A30
 clear A30
 by_cases c4 : t380 = true
 ·subst c4
  have H1 : ((sandpileref19_Rooted.f k a0_0 l0_1 a1).bind fun t381 => (some (t381 == 0))) = some r := by rw [if_pos rfl] at H; exact H
  clear H
  have H := H1
  clear H1
  replace H := Option.bind_eq_some_iff.mp H
  obtain ⟨t381, A50, H⟩ := H
  replace H : (some (t381 == 0)) = some r := H
  have A5 := Aside0.mk A50
  clear A50
  obtain rfl := Option.some.inj H
  go_enter Try.func27, Try.ntmps27
  go_wp2_with (first | ((with_reducible refine gate_dst (N := 2) rfl ?_); refine zX 2 #[.int .i64 a0_0, .slice A0_1 l0_1.length c0_1] 24 ?_; intro gb379 hg w6 hbox hb; have BK379 := Aside0.mk (hbox); have GW379 := zG HB hg; have GE379 := zG HB hg; replace HB := zS HB hb; clear hb hbox hg; obtain ⟨hcz7_0, hcz7_1, hfz7_0, hfz7_1⟩ := zD2 BK379) | ((with_reducible refine gate_callee (f := 10) rfl ?_); refine zL (some 6) Try.func10 #[.agg #[.int .i64 a0_0, .slice A0_1 l0_1.length c0_1]] ?_; (with_reducible refine (sandpileref08_FewTrees.calls k a0_0 _ _ l0_1 true _ ?side1 ?side2 A3.out).mono ?_); (case side1 => exact Kd.C_below HR0_1.out zB); (case side2 => exact HC0_1.out); rintro e w8 ⟨rfl, hb⟩; refine ⟨_, rfl, ?_⟩; replace BK379 := zb BK379 hb; replace HB := zS HB hb; (try clear hb); obtain ⟨hcz9_0, hcz9_1, hfz9_0, hfz9_1⟩ := zD2 BK379) | (go_at_call 15; (with_reducible refine (sandpileref19_Rooted.calls k a0_0 _ _ l0_1 a1 t381 _ ?side1 ?side2 A5.out).mono ?_); (case side1 => exact Kd.C_below HR0_1.out zB); (case side2 => exact HC0_1.out); rintro e w10 ⟨rfl, hb⟩; replace BK379 := zb BK379 hb; replace HB := zS HB hb; (try clear hb)))
  go_ret
  exact ⟨zE, zB⟩
 ·replace c4 := Bool.eq_false_iff.mpr c4
  subst c4
  have H1 : (some false) = some r := by rw [if_neg (show ¬ (false = true) by decide)] at H; exact H
  clear H
  have H := H1
  clear H1
  obtain rfl := Option.some.inj H
  go_enter Try.func27, Try.ntmps27
  go_wp2_with (first | ((with_reducible refine gate_dst (N := 2) rfl ?_); refine zX 2 #[.int .i64 a0_0, .slice A0_1 l0_1.length c0_1] 24 ?_; intro gb379 hg w11 hbox hb; have BK379 := Aside0.mk (hbox); have GW379 := zG HB hg; have GE379 := zG HB hg; replace HB := zS HB hb; clear hb hbox hg; obtain ⟨hcz12_0, hcz12_1, hfz12_0, hfz12_1⟩ := zD2 BK379) | ((with_reducible refine gate_callee (f := 10) rfl ?_); refine zL (some 6) Try.func10 #[.agg #[.int .i64 a0_0, .slice A0_1 l0_1.length c0_1]] ?_; (with_reducible refine (sandpileref08_FewTrees.calls k a0_0 _ _ l0_1 false _ ?side1 ?side2 A3.out).mono ?_); (case side1 => exact Kd.C_below HR0_1.out zB); (case side2 => exact HC0_1.out); rintro e w13 ⟨rfl, hb⟩; refine ⟨_, rfl, ?_⟩; replace BK379 := zb BK379 hb; replace HB := zS HB hb; (try clear hb)))
  go_ret
  exact ⟨zE, zB⟩
def sandpilelaw28_Triangle.f  : Option (Int × (List (S66))) := some (3, (([(⟨0, 1, 1⟩ : S66), (⟨0, 2, 1⟩ : S66), (⟨1, 2, 1⟩ : S66)] : List (S66))))
theorem sandpilelaw28_Triangle.calls  (r1 : Int) (r2 : List (S66)) (w : World) (h : sandpilelaw28_Triangle.f  = some (r1, r2)) :
  Calls Try.prog 42 #[] w fun e w' => ∃ v1_ : Value, e = .returned (.agg #[.int .i64 r1, v1_]) ∧ Kd.R k66 66 w' w.heap.size (fun _ => True) v1_ r2 ∧ Below w.heap.size w w' := by
 have hu24 := Try.underlying24
 have hu66 := Try.underlying66
 have HB := Aside0.mk (Below.refl w.heap.size w)
 have H : (some (3, (([(⟨0, 1, 1⟩ : S66), (⟨0, 2, 1⟩ : S66), (⟨1, 2, 1⟩ : S66)] : List (S66))))) = some (r1, r2) := h
 clear h
 obtain ⟨y478, hy478⟩ : ∃ y_ : List (S66), y_ = (([(⟨0, 1, 1⟩ : S66), (⟨0, 2, 1⟩ : S66), (⟨1, 2, 1⟩ : S66)] : List (S66))) := ⟨_, rfl⟩
 replace H : (some (3, y478)) = some (r1, r2) := by first | (rw [hy478]; with_reducible exact H) | (have H2_ := (Option.bind_some _ _).symm.trans H; rw [hy478]; with_reducible exact H2_) | (have H2_ := (Option.bind_some _ _).symm.trans H; with_reducible exact H2_) | with_reducible exact H | (rw [hy478]; exact H) | exact H
 have Ny478 := Aside0.mk hy478
 clear hy478
 simp only [Option.some.injEq, Prod.mk.injEq] at H
 obtain ⟨rfl, rfl⟩ := H
 go_enter Try.func42, Try.ntmps42
 go_wp2_with (first | ((with_reducible refine gate_dst (N := 0) rfl ?_); refine zX 0 #[.int .i64 0, .slice none 0 0] 24 ?_; intro gb477 hg w1 hbox hb; have BK477 := Aside0.mk (hbox); have GW477 := zG HB hg; have GE477 := zG HB hg; replace HB := zS HB hb; clear hb hbox hg) | ((with_reducible refine gate_dst (N := 4) rfl ?_); refine Kd.R_lit k66 _ 66 ?hg (N := 4) ?hd (xs := ([(⟨0, 1, 1⟩ : S66), (⟨0, 2, 1⟩ : S66), (⟨1, 2, 1⟩ : S66)] : List (S66))) (inner := [.int .i64 0, .int .i64 1, .int .i64 1, .int .i64 0, .int .i64 2, .int .i64 1, .int .i64 1, .int .i64 2, .int .i64 1]) (ok := fun _ => True) (okp := fun _ => True) ?hr ?hp (fun _ hk => hk) trivial (Below.refl _ _) (Nat.le_refl _) (by simp) ?_; (case hd => rfl); (case hg => rfl); (case hr => first | (go_simp; done) | (go_simp; rfl)); (case hp => exact (Reps.c3 (show Kd.M k66 _ _ _ (⟨0, 1, 1⟩ : S66) [.int .i64 0, .int .i64 1, .int .i64 1] from (k66_mkM _ _ _ (⟨0, 1, 1⟩ : S66) )) (Reps.c3 (show Kd.M k66 _ _ _ (⟨0, 2, 1⟩ : S66) [.int .i64 0, .int .i64 2, .int .i64 1] from (k66_mkM _ _ _ (⟨0, 2, 1⟩ : S66) )) (Reps.c3 (show Kd.M k66 _ _ _ (⟨1, 2, 1⟩ : S66) [.int .i64 1, .int .i64 2, .int .i64 1] from (k66_mkM _ _ _ (⟨1, 2, 1⟩ : S66) )) (Reps.none _ _))))); intro v479 w2 ho3 hb hg_ hnew_; clear hg_ hnew_; (first | rw [← Ny478.out] at ho3 | (simp only [Int.reduceToNat] at ho3; rw [← Ny478.out] at ho3)); have HO480 := Aside0.mk (Kd.R_lower ho3 (below_size zB)); replace BK477 := zb BK477 hb; replace HB := zS HB hb; clear hb ho3; obtain ⟨Ao4, co4, eo4⟩ := Kd.R_slice HO480.out; subst eo4; obtain ⟨hcz5_0, hcz5_1, hfz5_0, hfz5_1⟩ := zD2 BK477))
 refine bodyPost_ret (results_cell_row rfl _ _ gb477 24 #[.int .i64 3, .slice Ao4 y478.length co4] (0, 0) _ rfl (by refine zk ?_; refine blk_put (cs := #[.int .i64 3, .slice none 0 0]) ?_ 1 _ rfl; refine zk ?_; refine blk_put (cs := #[.int .i64 0, .slice none 0 0]) ?_ 0 _ rfl; exact zK BK477) Try.underlying24 rfl (by kernel_rfl)) rfl ?_
 exact ⟨_, zE, by (with_reducible repeat (first | apply Kd.R_alloc | apply Kd.R_drewN | apply Kd.R_drew)); exact Kd.R_mono (Kd.R_far (p := ⟨gb477, 1, none⟩) (Kd.R_far (p := ⟨gb477, 0, none⟩) (Kd.R_types HO480.out BK477.out (by decide)) (fun _ hk => hk.2) (.int .i64 3)) (fun _ hk => hk.2) (.slice Ao4 y478.length co4)) (fun _ hk => trivial), zB⟩
def DelAt (qx gx : Nat) (row : Option Nat) (wb : World) (l : List (List Int)) (del : List Int → Bool) : Prop :=
 ∀ (W' : World) (A0 : Option Addr) (c0 : Nat) (x : List Int), wb.grownBy W' row → x ∈ l → x.length ≤ c0 → Kd.C (Kd.int .i64) W' A0 x.length x →
  Calls Try.prog 52 #[.slice A0 x.length c0, .pointer (some ⟨qx, 0, none⟩), .pointer (some ⟨gx, 0, none⟩)] W' fun e w' => e = .returned (.bool (del x)) ∧ Below W'.heap.size W' w'
theorem rd_L2_mem {l : List (List Int)} {i : Nat} (h : i < l.length) : rd_L2 l i ∈ l := by
 have e : rd_L2 l i = l[i] := by simp [rd_L2, List.getD_eq_getElem?_getD, List.getElem?_eq_getElem h]
 rw [e]; exact List.getElem_mem h
theorem indexFunc_calls (qx gx base : Nat) (row : Option Nat) (A : Option Addr) (cap : Nat) (ok : Nat → Prop) (l : List (List Int)) (del : List Int → Bool) (wb W : World) (hN : Kd.N (Kd.slice 3 (Kd.int .i64)) 42 W base ok (.slice A l.length cap) l) (hwb : wb.grownBy W row) (hD : DelAt qx gx row wb l del) :
  Calls Try.prog 61 #[.slice A l.length cap, .func (.func 52) #[] #[.pointer (some ⟨qx, 0, none⟩), .pointer (some ⟨gx, 0, none⟩)]] W fun e w' => ∃ r : Int, e = .returned (.int .i64 r) ∧ ((r = -1 ∧ ∀ j : Nat, j < l.length → del (rd_L2 l j) = false) ∨ ∃ i : Nat, r = i ∧ i < l.length ∧ del (rd_L2 l i) = true ∧ ∀ j : Nat, j < i → del (rd_L2 l j) = false) ∧ Below W.heap.size W w' := by
 have HN := Aside0.mk hN
 have HWB := Aside0.mk hwb
 have HD := Aside0.mk hD
 clear hN hwb hD
 go_enter Try.func61, Try.ntmps61
 go_wp2
 go_loopw [8] (fun i wr => ∃ k : Nat, k ≤ l.length ∧ i = .int .i64 k ∧ Aside0 (∀ j : Nat, j < k → del (rd_L2 l j) = false) ∧ Aside0 (Below W.heap.size W wr)) (fun i _ => l.length - (intOf i).toNat)
 case atStart => exact ⟨0, by omega, rfl, ⟨fun j hj => by omega⟩, ⟨Below.refl _ _⟩⟩
 case round =>
  obtain ⟨k, hk, rfl, HF, HB⟩ := hrel
  by_cases hkl : k < l.length
  ·obtain ⟨-, hcap, hC⟩ := Kd.N_reads' (Kd.N_below HN.out HB.out)
   obtain ⟨ad, Ac, cc, rfl, hx0, hcc, hcr⟩ := at_L2 hC k (by omega) (by omega)
   rw [Int.toNat_natCast] at hx0
   have HM := Aside0.mk (HD.out wr Ac cc (rd_L2 l k) (HWB.out.trans (grown_of_below HB.out _)) (rd_L2_mem hkl) hcc hcr)
   have HRK := Aside0.mk (rfl : rd_L2 l k = rd_L2 l k)
   have hk0 : (0 : Int) ≤ (k : Int) := by omega
   have hk1 : (k : Int) < (l.length : Int) := by omega
   have hlb : l.length ≤ 9223372036854775807 := Kd.C_max hC
   clear hC hcr hcc hcap
   cases hb : del (rd_L2 l k) with
   | true =>
    rw [hb] at HM
    have Hb := Aside0.mk hb
    clear hb
    go_wp2_with (go_at_call 52; refine HM.out.mono ?_; rintro e w1 ⟨rfl, hb1⟩; have HB1 := Aside0.mk hb1; clear hb1)
    go_ret
    exact ⟨k, rfl, .inr ⟨k, rfl, hkl, Hb.out, HF.out⟩, HB.out.trans (HB1.out.mono HB.out.size)⟩
   | false =>
    rw [hb] at HM
    have Hb := Aside0.mk hb
    clear hb
    go_wp2_with (go_at_call 52; refine HM.out.mono ?_; rintro e w1 ⟨rfl, hb1⟩; have HB1 := Aside0.mk hb1; clear hb1)
    go_roundw
    case rel => exact ⟨k + 1, by omega, by go_num, ⟨fun j hj => by
     by_cases e : j = k
     ·subst e; exact Hb.out
     ·exact HF.out j (by omega)⟩, ⟨HB.out.trans (HB1.out.mono HB.out.size)⟩⟩
    case measure => exact (show l.length - ((k : Int) + 1).toNat < l.length - ((k : Int)).toNat by omega)
  ·obtain rfl : k = l.length := by omega
   go_wp2
   go_ret
   exact ⟨-1, rfl, .inl ⟨rfl, HF.out⟩, HB.out⟩
theorem rd_L2_set {ys : List (List Int)} {i m : Nat} (h : i ≠ m) (x : List Int) : rd_L2 (ys.set i x) m = rd_L2 ys m := by
 simp [rd_L2, List.getD_eq_getElem?_getD, List.getElem?_set, h]
theorem ne_minus (i : Nat) : ((i : Int) == -1) = false := by
 rw [beq_eq_false_iff_ne]; omega
theorem take_next {l : List (List Int)} {j : Nat} (h : j < l.length) : l.take (j + 1) = l.take j ++ [rd_L2 l j] := by
 rw [List.take_succ_eq_append_getElem h]
 simp [rd_L2, List.getD_eq_getElem?_getD, List.getElem?_eq_getElem h]
theorem take_set_next {ys : List (List Int)} {i : Nat} (h : i < ys.length) (x : List Int) : (ys.set i x).take (i + 1) = ys.take i ++ [x] := by
 rw [List.take_succ_eq_append_getElem (by simpa using h)]
 simp [List.take_set_of_le]
theorem filter_next {l : List (List Int)} {del : List Int → Bool} {j : Nat} (h : j < l.length) : (l.take (j + 1)).filter (fun x => !del x) = (l.take j).filter (fun x => !del x) ++ (if del (rd_L2 l j) then [] else [rd_L2 l j]) := by
 rw [take_next h, List.filter_append]
 cases hd : del (rd_L2 l j) <;> simp [hd]
theorem zeroDiv (w : World) : (zeroValue 42).run Try.prog w = .ok (.slice none 0 0) w := by kernel_rfl
theorem filter_first {l : List (List Int)} {del : List Int → Bool} {i : Nat} (h1 : del (rd_L2 l i) = true) (h2 : ∀ j : Nat, j < i → del (rd_L2 l j) = false) (h : i < l.length) : l.take i = (l.take (i + 1)).filter fun x => !del x := by
 rw [take_next h, List.filter_append]
 rw [show [rd_L2 l i].filter (fun x => !del x) = [] by simp [h1], List.append_nil]
 symm
 rw [List.filter_eq_self]
 intro x hx
 obtain ⟨j, hj, rfl⟩ := List.mem_take_iff_getElem.1 hx
 have h3 := h2 j (by omega)
 have e : rd_L2 l j = l[j]'(by omega) := by simp [rd_L2, List.getD_eq_getElem?_getD, List.getElem?_eq_getElem (by omega : j < l.length)]
 rw [e] at h3
 simp [h3]
theorem n_put {W : World} {base g0 n cap : Nat} {ok : Nat → Prop} {ys : List (List Int)} {x : List Int} {v : Value} {i : Nat} (h : Kd.N (Kd.slice 3 (Kd.int .i64)) 42 W base ok (.slice (some ⟨g0, 0, none⟩) n cap) ys) (hM : Kd.FK (Kd.slice 3 (Kd.int .i64)) W (fun k => ok k ∧ k ≠ g0) x [v]) (hi : i < n) :
  (∃ u, W.cell? ⟨g0, i, none⟩ = some u) ∧ W.frozen? ⟨g0, i, none⟩ = false ∧ Kd.N (Kd.slice 3 (Kd.int .i64)) 42 (W.setCell ⟨g0, i, none⟩ v) base ok (.slice (some ⟨g0, 0, none⟩) n cap) (ys.set i x) ∧ W.grownBy (W.setCell ⟨g0, i, none⟩ v) (some g0) := by
 obtain ⟨c, hcl, -, hcc, hfr⟩ := Kd.N_elem h [] (i : Int) (by omega) (by omega)
 obtain ⟨u, rfl⟩ : ∃ u, c = [u] := List.length_eq_one_iff.1 hcl
 have hs := Kd.N_seg h (i : Int) (by omega) (by omega) (c := [u]) (seg := [v]) (j := 0) (x' := x) (okp := fun k => ok k ∧ k ≠ g0) hcl hcc (by simp [Kd.slice]) (by simpa using hM) (fun k hk => hk)
 rw [Int.toNat_natCast] at hcc hs
 have h0 := hcc 0 u rfl
 have hf0 := hfr 0
 rw [Int.toNat_natCast] at hf0
 refine ⟨⟨u, by simpa [Kd.slice] using h0⟩, by simpa [Kd.slice] using hf0, ?_⟩
 simpa [Kd.slice, World.setCells] using hs
theorem n_clear {base g0 n cap : Nat} {ok : Nat → Prop} : ∀ (m i : Nat) (W : World) (ys : List (List Int)), i + m = n → ys.length = n → Kd.N (Kd.slice 3 (Kd.int .i64)) 42 W base ok (.slice (some ⟨g0, 0, none⟩) n cap) ys →
  ∃ zs : List (List Int), zs.length = n ∧ zs.take i = ys.take i ∧ Kd.N (Kd.slice 3 (Kd.int .i64)) 42 (W.setCells g0 i (List.replicate m (.slice none 0 0))) base ok (.slice (some ⟨g0, 0, none⟩) n cap) zs ∧ W.grownBy (W.setCells g0 i (List.replicate m (.slice none 0 0))) (some g0) := by
 intro m
 induction m with
 | zero => intro i W ys _ hy h; exact ⟨ys, hy, rfl, h, ⟨rfl, rfl, rfl, Nat.le_refl _, fun _ _ _ => rfl⟩⟩
 | succ m ih =>
  intro i W ys hi hy h
  obtain ⟨-, -, h1, h2⟩ := n_put (x := []) (v := .slice none 0 0) (i := i) h (fun W' _ => ⟨none, 0, rfl, Nat.le_refl _, Kd.C_nil _ _⟩) (by omega)
  obtain ⟨zs, z1, z2, z3, z4⟩ := ih (i + 1) _ (ys.set i []) (by omega) (by rw [List.length_set]; exact hy) h1
  refine ⟨zs, z1, ?_, by rw [List.replicate_succ, World.setCells]; exact z3, by rw [List.replicate_succ, World.setCells]; exact h2.trans z4⟩
  have h5 := congrArg (List.take i) z2
  rw [List.take_take, List.take_take, show min i (i + 1) = i by omega] at h5
  rw [h5, List.take_set_of_le (Nat.le_refl i)]
theorem deleteFunc_some (qx gx base g0 cap : Nat) (ok : Nat → Prop) (l : List (List Int)) (del : List Int → Bool) (wb W : World) (hN : Kd.N (Kd.slice 3 (Kd.int .i64)) 42 W base ok (.slice (some ⟨g0, 0, none⟩) l.length cap) l) (hwb : wb.grownBy W (some g0)) (hD : DelAt qx gx (some g0) wb l del) (hex : ∃ j : Nat, j < l.length ∧ del (rd_L2 l j) = true) :
  Calls Try.prog 51 #[.slice (some ⟨g0, 0, none⟩) l.length cap, .func (.func 52) #[] #[.pointer (some ⟨qx, 0, none⟩), .pointer (some ⟨gx, 0, none⟩)]] W fun e w' => ∃ m : Nat, e = .returned (.slice (some ⟨g0, 0, none⟩) m cap) ∧ m = (l.filter fun x => !del x).length ∧ Kd.N (Kd.slice 3 (Kd.int .i64)) 42 w' base ok (.slice (some ⟨g0, 0, none⟩) m cap) (l.filter fun x => !del x) ∧ W.grownBy w' (some g0) := by
 have HN := Aside0.mk hN
 have HWB := Aside0.mk hwb
 have HD := Aside0.mk hD
 have HEX := Aside0.mk hex
 have HI : Aside0 (Calls Try.prog 61 #[.slice (some ⟨g0, 0, none⟩) l.length cap, .func (.func 52) #[] #[.pointer (some ⟨qx, 0, none⟩), .pointer (some ⟨gx, 0, none⟩)]] W fun e w' => ∃ i : Nat, e = .returned (.int .i64 i) ∧ i < l.length ∧ del (rd_L2 l i) = true ∧ (∀ j : Nat, j < i → del (rd_L2 l j) = false) ∧ Below W.heap.size W w') := ⟨(indexFunc_calls qx gx base (some g0) (some ⟨g0, 0, none⟩) cap ok l del wb W hN hwb hD).mono (by
  rintro e w' ⟨r, rfl, h | ⟨i, rfl, h1, h2, h3⟩, hb⟩
  ·obtain ⟨j, hj, hdj⟩ := hex
   rw [h.2 j hj] at hdj; cases hdj
  ·exact ⟨i, rfl, h1, h2, h3, hb⟩)⟩
 obtain ⟨-, hcap, hC0⟩ := Kd.N_reads' hN
 have hlb : l.length ≤ 9223372036854775807 := Kd.C_max hC0
 clear hN hwb hD hex hC0
 go_enter Try.func51, Try.ntmps51
 go_wp2_with (go_at_call 61; refine HI.out.mono ?_; rintro e w1 ⟨i0, rfl, hi0, hdi, hfi, hb⟩; have HDI := Aside0.mk hdi; have HFI := Aside0.mk hfi; have HB1 := Aside0.mk hb; have hne := ne_minus i0; clear hdi hfi hb)
 have HF0 := Aside0.mk (filter_first HDI.out HFI.out hi0)
 have HG0 := Aside0.mk (grown_of_below HB1.out (some g0))
 have HN1 := Aside0.mk (Kd.N_below HN.out HB1.out)
 clear HI HDI HFI HB1 HEX hne
 go_loopw [5, 6] (fun ii jj wr => ∃ (i j : Nat) (ys : List (List Int)), i < j ∧ j ≤ l.length ∧ ii = .int .i64 i ∧ jj = .int .i64 j ∧ Aside0 (ys.length = l.length) ∧ Aside0 (ys.take i = (l.take j).filter fun x => !del x) ∧ Aside0 (∀ m : Nat, j ≤ m → rd_L2 ys m = rd_L2 l m) ∧ Aside0 (Kd.N (Kd.slice 3 (Kd.int .i64)) 42 wr base ok (.slice (some ⟨g0, 0, none⟩) l.length cap) ys) ∧ Aside0 (W.grownBy wr (some g0))) (fun _ jj _ => l.length - (intOf jj).toNat)
 case atStart => exact ⟨i0, i0 + 1, l, by omega, by omega, rfl, by go_num, ⟨rfl⟩, HF0, ⟨fun _ _ => rfl⟩, HN1, HG0⟩
 case round =>
  clear HF0 HG0 HN1
  obtain ⟨i, j, ys, hij, hj, rfl, rfl, HYL, HT, HR, HN2, HG⟩ := hrel
  by_cases hjl : j < l.length
  ·obtain ⟨c, hcl, hFK, hcc, -⟩ := Kd.N_elem HN2.out [] (j : Int) (by omega) (by omega)
   rw [show ys.getD (j : Int).toNat [] = rd_L2 l j from HR.out j (Nat.le_refl _)] at hFK
   rw [Int.toNat_natCast] at hcc
   obtain ⟨Aj, cj, rfl, hle, hF⟩ := Kd.FK_slice_open hFK
   have hx0 : wr.cell? ⟨g0, j, none⟩ = some (.slice Aj (rd_L2 l j).length cj) := by have h := hcc 0 _ rfl; simpa [Kd.slice] using h
   have HM := Aside0.mk (HD.out wr Aj cj (rd_L2 l j) (HWB.out.trans HG.out) (rd_L2_mem hjl) hle (Kd.F_now hF))
   have HFK := Aside0.mk hFK
   have hj0 : (0 : Int) ≤ (j : Int) := by omega
   have hj1 : (j : Int) < (l.length : Int) := by omega
   have hi0' : (0 : Int) ≤ (i : Int) := by omega
   have hi1 : (i : Int) < (l.length : Int) := by omega
   have HTJ := Aside0.mk (show (l.take (j + 1)).filter (fun x => !del x) = (l.take j).filter (fun x => !del x) ++ (if del (rd_L2 l j) then [] else [rd_L2 l j]) from filter_next hjl)
   have HRX := Aside0.mk (show ∃ x, x = rd_L2 l j from ⟨_, rfl⟩)
   clear hcl hFK hcc hle hF
   cases hb : del (rd_L2 l j) with
   | true =>
    rw [hb] at HM HTJ
    clear hb
    go_wp2_with (go_at_call 52; refine HM.out.mono ?_; rintro e w2 ⟨rfl, hb1⟩; have HB2 := Aside0.mk hb1; clear hb1)
    go_roundw
    case rel => exact ⟨i, j + 1, ys, by omega, by omega, rfl, by go_num, HYL, ⟨by rw [HTJ.out, HT.out]; simp⟩, ⟨fun m hm => HR.out m (by omega)⟩, ⟨Kd.N_below HN2.out HB2.out⟩, ⟨HG.out.trans (grown_of_below HB2.out _)⟩⟩
    case measure => exact (show l.length - ((j : Int) + 1).toNat < l.length - ((j : Int)).toNat by omega)
   | false =>
    rw [hb] at HM HTJ
    clear hb
    go_wp2_with (go_at_call 52; refine HM.out.mono ?_; rintro e w2 ⟨rfl, hb1⟩; obtain ⟨q1, q2, q3⟩ := n_put (Kd.N_below HN2.out hb1) (Kd.FK_below HFK.out hb1) (show i < l.length by omega); have HB2 := Aside0.mk hb1; have HN3 := Aside0.mk q3.1; have HG3 := Aside0.mk q3.2; obtain ⟨q0, q1⟩ := q1; clear q3 hb1)
    go_roundw
    case rel => exact ⟨i + 1, j + 1, ys.set i (rd_L2 l j), by omega, by omega, by go_num, by go_num, ⟨by rw [List.length_set]; exact HYL.out⟩, ⟨by rw [take_set_next (by rw [HYL.out]; omega), HTJ.out, HT.out]; simp⟩, ⟨fun m hm => by rw [rd_L2_set (by omega)]; exact HR.out m (by omega)⟩, HN3, ⟨(HG.out.trans (grown_of_below HB2.out _)).trans HG3.out⟩⟩
    case measure => exact (show l.length - ((j : Int) + 1).toNat < l.length - ((j : Int)).toNat by omega)
  ·obtain rfl : j = l.length := by omega
   have hcl := Lib.run_clear_slice (P := Try.prog) wr 27 42 0 (.slice none 0 0) Try.underlying27 zeroDiv rfl rfl g0 i (l.length - i) (cap - i) (by omega) (fun j hj => by
    obtain ⟨⟨u, hu⟩, -⟩ := n_put (x := []) (v := .slice none 0 0) (i := i + j) HN2.out (fun W' _ => ⟨none, 0, rfl, Nat.le_refl _, Kd.C_nil _ _⟩) (by omega)
    rw [hu]; rfl) (fun j hj => (n_put (x := []) (v := .slice none 0 0) (i := i + j) HN2.out (fun W' _ => ⟨none, 0, rfl, Nat.le_refl _, Kd.C_nil _ _⟩) (by omega)).2.1)
   obtain ⟨zs, z1, z2, z3, z4⟩ := n_clear (l.length - i) i wr ys (by omega) HYL.out HN2.out
   have HZ1 := Aside0.mk z1
   have HZ2 := Aside0.mk z2
   have HZ3 := Aside0.mk z3
   have HZ4 := Aside0.mk z4
   have hi0 : (0 : Int) ≤ (i : Int) := by omega
   have hi1 : (i : Int) ≤ (l.length : Int) := by omega
   have hi2 : (i : Int) ≤ (cap : Int) := by omega
   have hci : ¬ cap = i := by omega
   clear z1 z2 z3 z4
   generalize wr.setCells g0 i (List.replicate (l.length - i) (.slice none 0 0)) = w9 at hcl HZ3 HZ4
   go_wp2
   go_ret
   have hft : (l.filter fun x => !del x) = zs.take i := by
    have h := HT.out
    rw [List.take_length] at h
    rw [← h, HZ2.out]
   have hml : i = (l.filter fun x => !del x).length := by rw [hft, List.length_take, HZ1.out]; omega
   refine ⟨i, rfl, hml, ?_, HG.out.trans HZ4.out⟩
   rw [hft]
   exact Kd.N_take HZ3.out (by rw [HZ1.out]; omega)
theorem filter_none {l : List (List Int)} {del : List Int → Bool} (h : ∀ j : Nat, j < l.length → del (rd_L2 l j) = false) : (l.filter fun x => !del x) = l := by
 rw [List.filter_eq_self]
 intro x hx
 obtain ⟨j, hj, rfl⟩ := List.mem_iff_getElem.1 hx
 have h3 := h j hj
 have e : rd_L2 l j = l[j] := by simp [rd_L2, List.getD_eq_getElem?_getD, List.getElem?_eq_getElem hj]
 rw [e] at h3
 simp [h3]
theorem deleteFunc_none (qx gx base : Nat) (row : Option Nat) (A : Option Addr) (cap : Nat) (ok : Nat → Prop) (l : List (List Int)) (del : List Int → Bool) (wb W : World) (hN : Kd.N (Kd.slice 3 (Kd.int .i64)) 42 W base ok (.slice A l.length cap) l) (hwb : wb.grownBy W row) (hD : DelAt qx gx row wb l del) (hex : ∀ j : Nat, j < l.length → del (rd_L2 l j) = false) :
  Calls Try.prog 51 #[.slice A l.length cap, .func (.func 52) #[] #[.pointer (some ⟨qx, 0, none⟩), .pointer (some ⟨gx, 0, none⟩)]] W fun e w' => e = .returned (.slice A l.length cap) ∧ Below W.heap.size W w' := by
 have HI : Aside0 (Calls Try.prog 61 #[.slice A l.length cap, .func (.func 52) #[] #[.pointer (some ⟨qx, 0, none⟩), .pointer (some ⟨gx, 0, none⟩)]] W fun e w' => e = .returned (.int .i64 (-1)) ∧ Below W.heap.size W w') := ⟨(indexFunc_calls qx gx base row A cap ok l del wb W hN hwb hD).mono (by
  rintro e w' ⟨r, rfl, ⟨rfl, h⟩ | ⟨i, rfl, h1, h2, h3⟩, hb⟩
  ·exact ⟨rfl, hb⟩
  ·rw [hex i h1] at h2; cases h2)⟩
 clear hN hwb hD hex
 go_enter Try.func51, Try.ntmps51
 go_wp2_with (go_at_call 61; refine HI.out.mono ?_; rintro e w1 ⟨rfl, hb⟩; have HB1 := Aside0.mk hb; clear hb)
 go_ret
 exact ⟨rfl, HB1.out⟩
def risesTo (x : List Int) (q : Int) (r : Nat → List Int) (k : Nat) : Bool := (List.range k).any fun v => decide ((v : Int) ≠ q) && decide (rd x v < rd (r v) v)
theorem risesTo_succ (x : List Int) (q : Int) (r : Nat → List Int) (k : Nat) : risesTo x q r (k + 1) = (risesTo x q r k || (decide ((k : Int) ≠ q) && decide (rd x k < rd (r k) k))) := by simp [risesTo, List.range_succ, List.any_append]
theorem risesTo_true {x : List Int} {q : Int} {r : Nat → List Int} {k n : Nat} (hk : k < n) (hq : (k : Int) ≠ q) (h : rd x k < rd (r k) k) : risesTo x q r n = true := by
 unfold risesTo
 rw [List.any_eq_true]
 exact ⟨k, List.mem_range.2 hk, by simp [hq, h]⟩
theorem maximal1_calls (K : Nat) (N : Int) (A0 : Option Addr) (c0 : Nat) (E : List S66) (q : Int) (qx gx : Nat) (A : Option Addr) (c : Nat) (x : List Int) (r : Nat → List Int) (W : World) (hr0 : Kd.C k66 W A0 E.length E) (hc0 : E.length ≤ c0) (hg : W.heap[gx]? = some (.cells #[.int .i64 N, .slice A0 E.length c0] 24 (0, 0))) (hq : W.heap[qx]? = some (.cells #[.int .i64 q] 3 (0, 0)))
  (hx : Kd.C (Kd.int .i64) W A x.length x) (hc : x.length ≤ c) (hr : ∀ v : Nat, v < x.length → (v : Int) ≠ q → superstable_raised.f K N E q x v = some (r v) ∧ v < (r v).length) :
  Calls Try.prog 52 #[.slice A x.length c, .pointer (some ⟨qx, 0, none⟩), .pointer (some ⟨gx, 0, none⟩)] W fun e w' => e = .returned (.bool (risesTo x q r x.length)) ∧ Below W.heap.size W w' := by
 have HR0 := Aside0.mk hr0
 have HG := Aside0.mk hg
 have HQ := Aside0.mk hq
 have HX := Aside0.mk hx
 have HR := Aside0.mk hr
 have hlb : x.length ≤ 9223372036854775807 := Kd.C_max hx
 clear hr0 hg hq hx hr
 go_enter Try.func52, Try.ntmps52
 go_wp2
 go_loopw [10] (fun i wr => ∃ k : Nat, k ≤ x.length ∧ i = .int .i64 k ∧ Aside0 (risesTo x q r k = false) ∧ Aside0 (Below W.heap.size W wr)) (fun i _ => x.length - (intOf i).toNat)
 case atStart => exact ⟨0, by omega, rfl, ⟨rfl⟩, ⟨Below.refl _ _⟩⟩
 case round =>
  obtain ⟨k, hk, rfl, HF, HB⟩ := hrel
  have hq0 : wr.cell? ⟨qx, 0, none⟩ = some (.int .i64 q) := (blk_cell (blk_below HQ.out HB.out) 0).trans rfl
  have hg0 : wr.cell? ⟨gx, 0, none⟩ = some (.int .i64 N) := (blk_cell (blk_below HG.out HB.out) 0).trans rfl
  have hg1 : wr.cell? ⟨gx, 1, none⟩ = some (.slice A0 E.length c0) := (blk_cell (blk_below HG.out HB.out) 1).trans rfl
  have hu := Try.underlying24
  by_cases hkl : k < x.length
  ·have hC := Kd.C_below HX.out HB.out
   have HC := Aside0.mk hC
   obtain ⟨ad, rfl, hx0⟩ := Kd.at_int hC k (by omega) (by omega)
   rw [Int.toNat_natCast] at hx0
   have hk0 : (0 : Int) ≤ (k : Int) := by omega
   have hk1 : (k : Int) < (x.length : Int) := by omega
   clear hC
   by_cases hkq : (k : Int) = q
   ·have HS := Aside0.mk (show risesTo x q r (k + 1) = false from by rw [risesTo_succ, HF.out]; simp [hkq])
    have hqb : ((k : Int) == q) = true := by simpa using hkq
    have HKQ := Aside0.mk hkq
    clear hkq
    go_wp2
    go_roundw
    case rel => exact ⟨k + 1, by omega, by go_num, HS, HB⟩
    case measure => exact (show x.length - ((k : Int) + 1).toNat < x.length - ((k : Int)).toNat by omega)
   ·have hqb : ((k : Int) == q) = false := by simpa using hkq
    obtain ⟨hrf, hrl⟩ := HR.out k hkl hkq
    have HRF := Aside0.mk (superstable_raised.calls K N A0 c0 E q (some ad) c x k (r k) wr (Kd.C_below HR0.out HB.out) hc0 HC.out hc hrf)
    have HKQ := Aside0.mk hkq
    clear hkq hrf
    by_cases hup : rd x k < rd (r k) k
    ·have HT := Aside0.mk (risesTo_true (n := x.length) hkl HKQ.out hup)
     have hk2 : (k : Int) < ((r k).length : Int) := by omega
     go_wp2_with (go_at_call 53; refine HRF.out.mono ?_; rintro e w1 ⟨v1, rfl, hr1, hb1⟩; obtain ⟨Ar, cr, rfl⟩ := Kd.R_slice hr1; obtain ⟨-, -, hC1⟩ := Kd.R_reads' hr1; obtain ⟨ad1, rfl, hy⟩ := Kd.at_int hC1 k (by omega) (by omega); rw [Int.toNat_natCast] at hy; have HB1 := Aside0.mk hb1; clear hr1 hb1 hC1)
     go_ret
     exact ⟨by rw [HT.out]; rfl, HB.out.trans (HB1.out.mono HB.out.size)⟩
    ·have HS := Aside0.mk (show risesTo x q r (k + 1) = false from by rw [risesTo_succ, HF.out]; simp [hup])
     have hup' : ¬ rd (r k) k > rd x k := hup
     have hk2 : (k : Int) < ((r k).length : Int) := by omega
     go_wp2_with (go_at_call 53; refine HRF.out.mono ?_; rintro e w1 ⟨v1, rfl, hr1, hb1⟩; obtain ⟨Ar, cr, rfl⟩ := Kd.R_slice hr1; obtain ⟨-, -, hC1⟩ := Kd.R_reads' hr1; obtain ⟨ad1, rfl, hy⟩ := Kd.at_int hC1 k (by omega) (by omega); rw [Int.toNat_natCast] at hy; have HB1 := Aside0.mk hb1; clear hr1 hb1 hC1)
     go_roundw
     case rel => exact ⟨k + 1, by omega, by go_num, HS, ⟨HB.out.trans (HB1.out.mono HB.out.size)⟩⟩
     case measure => exact (show x.length - ((k : Int) + 1).toNat < x.length - ((k : Int)).toNat by omega)
  ·obtain rfl : k = x.length := by omega
   go_wp2
   go_ret
   exact ⟨by rw [HF.out]; rfl, HB.out⟩
theorem top_bad (k : Nat) (N : Int) (A0 : Option Addr) (c0 : Nat) (E : List S66) (q : Int) (l : List (List Int)) (t : Int) (w : World) (hr0 : Kd.C k66 w A0 E.length E) (hc0 : E.length ≤ c0) (hf : superstable_All.f k N E q = some (l, t)) (ht : t ≠ 0) :
  Calls Try.prog 20 #[.agg #[.int .i64 N, .slice A0 E.length c0], .int .i64 q] w fun e w' => e = .returned (.tuple #[.slice none 0 0, .int .i64 t]) ∧ Below w.heap.size w w' := by
 have hu := Try.underlying24
 have Hf := Aside0.mk hf
 have hne : (t != 0) = true := by simpa using ht
 have HX := Aside0.mk (blk_alloc (heap_alloc_new w (.cells #[.int .i64 N, .slice A0 E.length c0] 24)) (.cells #[.int .i64 q] 3))
 have hg0 : ((w.alloc (.cells #[.int .i64 N, .slice A0 E.length c0] 24)).alloc (.cells #[.int .i64 q] 3)).cell? ⟨w.heap.size, 0, none⟩ = some (.int .i64 N) := (blk_cell HX.out 0).trans rfl
 have hg1 : ((w.alloc (.cells #[.int .i64 N, .slice A0 E.length c0] 24)).alloc (.cells #[.int .i64 q] 3)).cell? ⟨w.heap.size, 1, none⟩ = some (.slice A0 E.length c0) := (blk_cell HX.out 1).trans rfl
 clear hf ht
 go_enter Try.func20, Try.ntmps20
 go_wp2_with (go_at_call 12; refine (superstable_All.calls k N A0 c0 E q l t _ (Kd.C_alloc (Kd.C_alloc hr0 _) _) hc0 Hf.out).mono ?_; rintro e w1 ⟨v, rfl, hN, hb⟩; have HB := Aside0.mk (below_step (below_alloc (below_alloc (Below.refl w.heap.size w) _) _) hb); clear hN hb)
 go_ret2
 exact ⟨rfl, HB.out⟩
theorem top_good (k K : Nat) (N : Int) (A0 : Option Addr) (c0 : Nat) (E : List S66) (q : Int) (l : List (List Int)) (r : List Int → Nat → List Int) (w : World) (hr0 : Kd.C k66 w A0 E.length E) (hc0 : E.length ≤ c0) (hf : superstable_All.f k N E q = some (l, 0)) (hr : ∀ x ∈ l, ∀ v : Nat, v < x.length → (v : Int) ≠ q → superstable_raised.f K N E q x v = some (r x v) ∧ v < (r x v).length) :
  Calls Try.prog 20 #[.agg #[.int .i64 N, .slice A0 E.length c0], .int .i64 q] w fun e w' => ∃ v, e = .returned (.tuple #[v, .int .i64 0]) ∧ Kd.N (Kd.slice 3 (Kd.int .i64)) 42 w' w.heap.size (fun k_ => (w.heap.size ≤ k_)) v (l.filter fun x => !risesTo x q (r x) x.length) ∧ Below w.heap.size w w' := by
 have hu := Try.underlying24
 have Hf := Aside0.mk hf
 have HX := Aside0.mk (blk_alloc (heap_alloc_new w (.cells #[.int .i64 N, .slice A0 E.length c0] 24)) (.cells #[.int .i64 q] 3))
 have HQ := Aside0.mk (heap_alloc2_new w (.cells #[.int .i64 N, .slice A0 E.length c0] 24) (.cells #[.int .i64 q] 3))
 have hg0 : ((w.alloc (.cells #[.int .i64 N, .slice A0 E.length c0] 24)).alloc (.cells #[.int .i64 q] 3)).cell? ⟨w.heap.size, 0, none⟩ = some (.int .i64 N) := (blk_cell HX.out 0).trans rfl
 have hg1 : ((w.alloc (.cells #[.int .i64 N, .slice A0 E.length c0] 24)).alloc (.cells #[.int .i64 q] 3)).cell? ⟨w.heap.size, 1, none⟩ = some (.slice A0 E.length c0) := (blk_cell HX.out 1).trans rfl
 have HR := Aside0.mk hr
 clear hf hr
 go_enter Try.func20, Try.ntmps20
 go_wp2_with (go_at_call 12; refine (superstable_All.calls k N A0 c0 E q l 0 _ (Kd.C_alloc (Kd.C_alloc hr0 _) _) hc0 Hf.out).mono ?_; rintro e w1 ⟨v, rfl, hN, hb⟩; obtain ⟨Av, cv, rfl⟩ := Kd.N_slice hN; have HB := Aside0.mk (below_step (below_alloc (below_alloc (Below.refl w.heap.size w) _) _) hb); have HX1 := Aside0.mk (blk_below HX.out hb); have HQ1 := Aside0.mk (blk_below HQ.out hb); have HN := Aside0.mk hN; clear hN hb)
 have hW0 : w.heap.size + 2 = ((w.alloc (.cells #[.int .i64 N, .slice A0 E.length c0] 24)).alloc (.cells #[.int .i64 q] 3)).heap.size := by simp
 rw [← hW0] at HN
 have HDA : Aside0 (∀ row, (∀ g, row = some g → w.heap.size + 2 ≤ g) → DelAt (w.heap.size + 1) w.heap.size row w1 l (fun x => risesTo x q (r x) x.length)) := ⟨fun row hrow W' A c x hgr hxl hc hx => by
  have hB : Below w.heap.size w W' := pw_below_grown HB.out row HB.out.size hgr (fun g e => by have := hrow g e; omega)
  refine maximal1_calls K N A0 c0 E q (w.heap.size + 1) w.heap.size A c x (r x) W' (Kd.C_below hr0 hB) hc0 ((hgr.block _ (blk_lt HX1.out) (fun e => by have := hrow _ e.symm; omega)).trans HX1.out) ((hgr.block _ (blk_lt HQ1.out) (fun e => by have := hrow _ e.symm; omega)).trans HQ1.out) hx hc (HR.out x hxl)⟩
 have hsz := HB.out.size
 by_cases hex : ∃ j : Nat, j < l.length ∧ (fun x => risesTo x q (r x) x.length) (rd_L2 l j) = true
 ·obtain ⟨g0, cap, hv, hge, -, -⟩ := Kd.N_form HN.out (by obtain ⟨j, hj, _⟩ := hex; omega)
  injection hv with hv1 hv2 hv3
  subst hv1 hv3
  refine (deleteFunc_some (w.heap.size + 1) w.heap.size (w.heap.size + 2) g0 cv (fun k => w.heap.size + 2 ≤ k) l _ w1 w1 HN.out ⟨rfl, rfl, rfl, Nat.le_refl _, fun _ _ _ => rfl⟩ (HDA.out (some g0) (fun g e => by injection e with e; omega)) hex).mono ?_
  rintro e w2 ⟨m, rfl, hm, hN2, hg2⟩
  have HN2 := Aside0.mk (Kd.N_mono (Kd.N_lower (base' := w.heap.size) hN2 (by omega)) (ok' := fun k => w.heap.size ≤ k) (fun k hk => by omega))
  have HB2 := Aside0.mk (pw_below_grown HB.out (some g0) HB.out.size hg2 (fun k e => by injection e with e; omega))
  clear hm hN2 hg2 hex hW0
  go_wp2
  go_ret2
  exact ⟨_, rfl, HN2.out, HB2.out⟩
 ·have hno : ∀ j : Nat, j < l.length → (fun x => risesTo x q (r x) x.length) (rd_L2 l j) = false := fun j hj => by
   cases h : (fun x => risesTo x q (r x) x.length) (rd_L2 l j) with
   | false => rfl
   | true => exact absurd ⟨j, hj, h⟩ hex
  have HFN := Aside0.mk (filter_none (l := l) (del := fun x => risesTo x q (r x) x.length) hno)
  refine (deleteFunc_none (w.heap.size + 1) w.heap.size (w.heap.size + 2) none Av cv (fun k => w.heap.size + 2 ≤ k) l _ w1 w1 HN.out ⟨rfl, rfl, rfl, Nat.le_refl _, fun _ _ _ => rfl⟩ (HDA.out none (fun g e => by cases e)) hno).mono ?_
  rintro e w2 ⟨rfl, hb2⟩
  have HN2 := Aside0.mk (Kd.N_below (Kd.N_mono (Kd.N_lower (base' := w.heap.size) HN.out (by omega)) (ok' := fun k => w.heap.size ≤ k) (fun k hk => by omega)) hb2)
  have HB2 := Aside0.mk (HB.out.trans (hb2.mono HB.out.size))
  clear hb2 hex hno hW0
  go_wp2
  go_ret2
  exact ⟨.slice Av l.length cv, rfl, by rw [HFN.out]; exact HN2.out, HB2.out⟩
def okRaised (k : Nat) (N : Int) (E : List S66) (q : Int) (l : List (List Int)) : Bool := l.all fun c => (List.range c.length).all fun v => decide ((v : Int) = q) || match superstable_raised.f k N E q c v with | some r => decide (v < r.length) | none => false
def raisedAt (k : Nat) (N : Int) (E : List S66) (q : Int) (c : List Int) (v : Nat) : List Int := (superstable_raised.f k N E q c v).getD []
theorem okRaised_get {k : Nat} {N : Int} {E : List S66} {q : Int} {l : List (List Int)} (h : okRaised k N E q l = true) : ∀ x ∈ l, ∀ v : Nat, v < x.length → (v : Int) ≠ q → superstable_raised.f k N E q x v = some (raisedAt k N E q x v) ∧ v < (raisedAt k N E q x v).length := by
 intro x hx v hv hq
 have h1 := List.all_eq_true.1 (List.all_eq_true.1 h x hx) v (List.mem_range.2 hv)
 rw [decide_eq_false hq, Bool.false_or] at h1
 unfold raisedAt
 cases hr : superstable_raised.f k N E q x v with
 | none => rw [hr] at h1; cases h1
 | some r => rw [hr] at h1; exact ⟨rfl, by simpa using h1⟩
def superstable_Maximal.f (k : Nat) (N : Int) (E : List S66) (q : Int) : Option (List (List Int) × Int) :=
 (superstable_All.f k N E q).bind fun t => if t.2 = 0 then (if okRaised k N E q t.1 = true then some (t.1.filter fun x => !risesTo x q (raisedAt k N E q x) x.length, 0) else none) else some ([], t.2)
theorem superstable_Maximal.calls (k : Nat) (a0_0 : Int) (A0_1 : Option Addr) (c0_1 : Nat) (l0_1 : List (S66)) (a1 : Int) (r1 : List (List Int)) (r2 : Int) (w : World) (hr0_1 : Kd.C k66 w A0_1 l0_1.length l0_1) (hc0_1 : l0_1.length ≤ c0_1) (h : superstable_Maximal.f k a0_0 l0_1 a1 = some (r1, r2)) :
  Calls Try.prog 20 #[.agg #[.int .i64 a0_0, .slice A0_1 l0_1.length c0_1], .int .i64 a1] w fun e w' => ∃ v0_ : Value, e = .returned (.tuple #[v0_, .int .i64 r2]) ∧ Kd.N (Kd.slice 3 (Kd.int .i64)) 42 w' w.heap.size (fun k_ => (w.heap.size ≤ k_)) v0_ r1 ∧ Below w.heap.size w w' := by
 unfold superstable_Maximal.f at h
 obtain ⟨⟨l, t⟩, ht, H⟩ := Option.bind_eq_some_iff.mp h
 simp only at H
 by_cases h0 : t = 0
 ·subst h0
  rw [if_pos rfl] at H
  by_cases hv : okRaised k a0_0 l0_1 a1 l = true
  ·rw [if_pos hv] at H
   simp only [Option.some.injEq, Prod.mk.injEq] at H
   obtain ⟨rfl, rfl⟩ := H
   exact top_good k k a0_0 A0_1 c0_1 l0_1 a1 l _ w hr0_1 hc0_1 ht (okRaised_get hv)
  ·rw [if_neg hv] at H; cases H
 ·rw [if_neg h0] at H
  simp only [Option.some.injEq, Prod.mk.injEq] at H
  obtain ⟨rfl, rfl⟩ := H
  refine (top_bad k a0_0 A0_1 c0_1 l0_1 a1 l t w hr0_1 hc0_1 ht h0).mono ?_
  rintro e w' ⟨rfl, hb⟩
  exact ⟨_, rfl, Kd.N_nil _ _ _ _ _, hb⟩
end Go.Proofs.Ytffdiakgjakngaa.P
