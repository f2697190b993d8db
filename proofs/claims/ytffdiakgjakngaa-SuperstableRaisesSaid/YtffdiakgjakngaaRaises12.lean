/- A part of the proof that SuperstableRaises answers true (text 12 of 15): own walks and plain laws; no conditions. -/
import Derived.Lib.SliceRun
import Derived.Test.YtffdiakgjakngaaRaises11
namespace Go.Proofs.Ytffdiakgjakngaa.P
open Go.RowKit Go.Proofs.YtffdiakgjakngaaW.PrintWords Go.Proofs.YtffdiakgjakngaaW.PrintLast Go.Proofs.YtffdiakgjakngaaW.PrintMore
set_option linter.unusedVariables false
set_option linter.unusedSimpArgs false
set_option maxHeartbeats 8000000
set_option maxRecDepth 100000
def sandpileref28_Dual.f (k : Nat) (a0_0 : Int) (l0_1 : List (S66)) (a1 : Int) (l2 : List Int) : Option (List Int × Int) := (sandpileref23_Check.f k a0_0 l0_1 a1 l2).bind fun t374 => (if t374 = 0 then ((sandpileref19_Calm.f k a0_0 l0_1 a1 l2).bind fun t375 => (if t375 = true then ((sandpileref28_Turned.f k a0_0 l0_1 a1 l2).bind fun t376 => (some (t376, 0))) else (some (([] : List Int), 15)))) else (some (([] : List Int), t374)))
theorem sandpileref28_Dual.calls (k : Nat) (a0_0 : Int) (A0_1 : Option Addr) (c0_1 : Nat) (l0_1 : List (S66)) (a1 : Int) (A2 : Option Addr) (c2 : Nat) (l2 : List Int) (r1 : List Int) (r2 : Int) (w : World) (hr0_1 : Kd.C k66 w A0_1 l0_1.length l0_1) (hc0_1 : l0_1.length ≤ c0_1) (hr2 : Kd.C (Kd.int .i64) w A2 l2.length l2) (hc2 : l2.length ≤ c2) (h : sandpileref28_Dual.f k a0_0 l0_1 a1 l2 = some (r1, r2)) :
  Calls Try.prog 25 #[.agg #[.int .i64 a0_0, .slice A0_1 l0_1.length c0_1], .int .i64 a1, .slice A2 l2.length c2] w fun e w' => ∃ v0_ : Value, e = .returned (.tuple #[v0_, .int .i64 r2]) ∧ Kd.R (Kd.int .i64) 3 w' w.heap.size (fun _ => True) v0_ r1 ∧ Below w.heap.size w w' := by
 have hu24 := Try.underlying24
 have HR0_1 := Aside0.mk hr0_1
 have HC0_1 := Aside0.mk hc0_1
 clear hr0_1 hc0_1
 have HR2 := Aside0.mk hr2
 have HC2 := Aside0.mk hc2
 clear hr2 hc2
 have HB := Aside0.mk (Below.refl w.heap.size w)
 have H : ((sandpileref23_Check.f k a0_0 l0_1 a1 l2).bind fun t374 => (if t374 = 0 then ((sandpileref19_Calm.f k a0_0 l0_1 a1 l2).bind fun t375 => (if t375 = true then ((sandpileref28_Turned.f k a0_0 l0_1 a1 l2).bind fun t376 => (some (t376, 0))) else (some (([] : List Int), 15)))) else (some (([] : List Int), t374)))) = some (r1, r2) := h
 clear h
 replace H := Option.bind_eq_some_iff.mp H
 obtain ⟨t374, A40, H⟩ := H
 replace H : (if t374 = 0 then ((sandpileref19_Calm.f k a0_0 l0_1 a1 l2).bind fun t375 => (if t375 = true then ((sandpileref28_Turned.f k a0_0 l0_1 a1 l2).bind fun t376 => (some (t376, 0))) else (some (([] : List Int), 15)))) else (some (([] : List Int), t374))) = some (r1, r2) := H
 have A4 := Aside0.mk A40
 clear A40
 by_cases c5 : t374 = 0
 ·rw [if_pos c5] at H
  have c5b0 : (t374 == 0) = true := beq_iff_eq.mpr c5
  have c5b1 : (t374 != 0) = false := bne_eq_false_iff_eq.mpr c5
  clear c5
  replace H := Option.bind_eq_some_iff.mp H
  obtain ⟨t375, A60, H⟩ := H
  replace H : (if t375 = true then ((sandpileref28_Turned.f k a0_0 l0_1 a1 l2).bind fun t376 => (some (t376, 0))) else (some (([] : List Int), 15))) = some (r1, r2) := H
  have A6 := Aside0.mk A60
  clear A60
  by_cases c7 : t375 = true
  ·subst c7
   have H1 : ((sandpileref28_Turned.f k a0_0 l0_1 a1 l2).bind fun t376 => (some (t376, 0))) = some (r1, r2) := by rw [if_pos rfl] at H; exact H
   clear H
   have H := H1
   clear H1
   replace H := Option.bind_eq_some_iff.mp H
   obtain ⟨t376, A80, H⟩ := H
   replace H : (some (t376, 0)) = some (r1, r2) := H
   have A8 := Aside0.mk A80
   clear A80
   simp only [Option.some.injEq, Prod.mk.injEq] at H
   obtain ⟨rfl, rfl⟩ := H
   go_enter Try.func25, Try.ntmps25
   go_wp2_with (first | ((with_reducible refine gate_dst (N := 3) rfl ?_); refine zX 3 #[.int .i64 a0_0, .slice A0_1 l0_1.length c0_1] 24 ?_; intro gb373 hg w9 hbox hb; have BK373 := Aside0.mk (hbox); have GW373 := zG HB hg; have GE373 := zG HB hg; replace HB := zS HB hb; clear hb hbox hg; obtain ⟨hcz10_0, hcz10_1, hfz10_0, hfz10_1⟩ := zD2 BK373) | ((with_reducible refine gate_callee (f := 38) rfl ?_); refine zL (some 12) Try.func38 #[.agg #[.int .i64 a0_0, .slice A0_1 l0_1.length c0_1], .int .i64 a1, .slice A2 l2.length c2] ?_; (with_reducible refine (sandpileref23_Check.calls k a0_0 _ _ l0_1 a1 _ _ l2 t374 _ ?side1 ?side2 ?side3 ?side4 A4.out).mono ?_); (case side1 => exact Kd.C_below HR0_1.out zB); (case side2 => exact HC0_1.out); (case side3 => exact Kd.C_below HR2.out zB); (case side4 => exact HC2.out); rintro e w11 ⟨rfl, hb⟩; refine ⟨_, rfl, ?_⟩; replace BK373 := zb BK373 hb; replace HB := zS HB hb; (try clear hb); obtain ⟨hcz12_0, hcz12_1, hfz12_0, hfz12_1⟩ := zD2 BK373) | ((with_reducible refine gate_callee (f := 39) rfl ?_); refine zL (some 19) Try.func39 #[.agg #[.int .i64 a0_0, .slice A0_1 l0_1.length c0_1], .int .i64 a1, .slice A2 l2.length c2] ?_; (with_reducible refine (sandpileref19_Calm.calls k a0_0 _ _ l0_1 a1 _ _ l2 true _ ?side1 ?side2 ?side3 ?side4 A6.out).mono ?_); (case side1 => exact Kd.C_below HR0_1.out zB); (case side2 => exact HC0_1.out); (case side3 => exact Kd.C_below HR2.out zB); (case side4 => exact HC2.out); rintro e w13 ⟨rfl, hb⟩; refine ⟨_, rfl, ?_⟩; replace BK373 := zb BK373 hb; replace HB := zS HB hb; (try clear hb); obtain ⟨hcz14_0, hcz14_1, hfz14_0, hfz14_1⟩ := zD2 BK373) | ((with_reducible refine gate_callee (f := 57) rfl ?_); refine zL (some 24) Try.func57 #[.agg #[.int .i64 a0_0, .slice A0_1 l0_1.length c0_1], .int .i64 a1, .slice A2 l2.length c2] ?_; (with_reducible refine (sandpileref28_Turned.calls k a0_0 _ _ l0_1 a1 _ _ l2 t376 _ ?side1 ?side2 ?side3 ?side4 A8.out).mono ?_); (case side1 => exact Kd.C_below HR0_1.out zB); (case side2 => exact HC0_1.out); (case side3 => exact Kd.C_below HR2.out zB); (case side4 => exact HC2.out); rintro e w15 ⟨v377, rfl, ho0, hb⟩; refine ⟨_, rfl, ?_⟩; have HO378 := Aside0.mk (Kd.R_lower ho0 (below_size zB)); replace BK373 := zb BK373 hb; replace HB := zS HB hb; (try clear hb); (try clear ho0)))
   go_ret2
   exact ⟨_, zE, by (with_reducible repeat (first | apply Kd.R_alloc | apply Kd.R_drewN | apply Kd.R_drew)); exact HO378.out, zB⟩
  ·replace c7 := Bool.eq_false_iff.mpr c7
   subst c7
   have H1 : (some (([] : List Int), 15)) = some (r1, r2) := by rw [if_neg (show ¬ (false = true) by decide)] at H; exact H
   clear H
   have H := H1
   clear H1
   simp only [Option.some.injEq, Prod.mk.injEq] at H
   obtain ⟨rfl, rfl⟩ := H
   go_enter Try.func25, Try.ntmps25
   go_wp2_with (first | ((with_reducible refine gate_dst (N := 3) rfl ?_); refine zX 3 #[.int .i64 a0_0, .slice A0_1 l0_1.length c0_1] 24 ?_; intro gb373 hg w16 hbox hb; have BK373 := Aside0.mk (hbox); have GW373 := zG HB hg; have GE373 := zG HB hg; replace HB := zS HB hb; clear hb hbox hg; obtain ⟨hcz17_0, hcz17_1, hfz17_0, hfz17_1⟩ := zD2 BK373) | ((with_reducible refine gate_callee (f := 38) rfl ?_); refine zL (some 12) Try.func38 #[.agg #[.int .i64 a0_0, .slice A0_1 l0_1.length c0_1], .int .i64 a1, .slice A2 l2.length c2] ?_; (with_reducible refine (sandpileref23_Check.calls k a0_0 _ _ l0_1 a1 _ _ l2 t374 _ ?side1 ?side2 ?side3 ?side4 A4.out).mono ?_); (case side1 => exact Kd.C_below HR0_1.out zB); (case side2 => exact HC0_1.out); (case side3 => exact Kd.C_below HR2.out zB); (case side4 => exact HC2.out); rintro e w18 ⟨rfl, hb⟩; refine ⟨_, rfl, ?_⟩; replace BK373 := zb BK373 hb; replace HB := zS HB hb; (try clear hb); obtain ⟨hcz19_0, hcz19_1, hfz19_0, hfz19_1⟩ := zD2 BK373) | ((with_reducible refine gate_callee (f := 39) rfl ?_); refine zL (some 19) Try.func39 #[.agg #[.int .i64 a0_0, .slice A0_1 l0_1.length c0_1], .int .i64 a1, .slice A2 l2.length c2] ?_; (with_reducible refine (sandpileref19_Calm.calls k a0_0 _ _ l0_1 a1 _ _ l2 false _ ?side1 ?side2 ?side3 ?side4 A6.out).mono ?_); (case side1 => exact Kd.C_below HR0_1.out zB); (case side2 => exact HC0_1.out); (case side3 => exact Kd.C_below HR2.out zB); (case side4 => exact HC2.out); rintro e w20 ⟨rfl, hb⟩; refine ⟨_, rfl, ?_⟩; replace BK373 := zb BK373 hb; replace HB := zS HB hb; (try clear hb)))
   go_ret2
   exact ⟨_, zE, by first | exact Kd.R_nil _ _ _ _ _ | exact Kd.N_nil _ _ _ _ _ | exact Kd.V_nil _ _ _ _ _ | exact Kd.Q_nil _ _ _ _ _ | exact Kd.S_nil _ _ _ _ _, zB⟩
 ·rw [if_neg c5] at H
  have c5b0 : (t374 == 0) = false := beq_eq_false_iff_ne.mpr c5
  have c5b1 : (t374 != 0) = true := bne_iff_ne.mpr c5
  simp only [Option.some.injEq, Prod.mk.injEq] at H
  obtain ⟨rfl, rfl⟩ := H
  go_enter Try.func25, Try.ntmps25
  go_wp2_with (first | ((with_reducible refine gate_dst (N := 3) rfl ?_); refine zX 3 #[.int .i64 a0_0, .slice A0_1 l0_1.length c0_1] 24 ?_; intro gb373 hg w21 hbox hb; have BK373 := Aside0.mk (hbox); have GW373 := zG HB hg; have GE373 := zG HB hg; replace HB := zS HB hb; clear hb hbox hg; obtain ⟨hcz22_0, hcz22_1, hfz22_0, hfz22_1⟩ := zD2 BK373) | ((with_reducible refine gate_callee (f := 38) rfl ?_); refine zL (some 12) Try.func38 #[.agg #[.int .i64 a0_0, .slice A0_1 l0_1.length c0_1], .int .i64 a1, .slice A2 l2.length c2] ?_; (with_reducible refine (sandpileref23_Check.calls k a0_0 _ _ l0_1 a1 _ _ l2 t374 _ ?side1 ?side2 ?side3 ?side4 A4.out).mono ?_); (case side1 => exact Kd.C_below HR0_1.out zB); (case side2 => exact HC0_1.out); (case side3 => exact Kd.C_below HR2.out zB); (case side4 => exact HC2.out); rintro e w23 ⟨rfl, hb⟩; refine ⟨_, rfl, ?_⟩; replace BK373 := zb BK373 hb; replace HB := zS HB hb; (try clear hb)))
  go_ret2
  exact ⟨_, zE, by first | exact Kd.R_nil _ _ _ _ _ | exact Kd.N_nil _ _ _ _ _ | exact Kd.V_nil _ _ _ _ _ | exact Kd.Q_nil _ _ _ _ _ | exact Kd.S_nil _ _ _ _ _, zB⟩
section
theorem clone_ev {l : List Int} (h : l.length ≤ 1000) : api_Divisor_int_36.f l = some l := if_pos (by omega)
theorem rd_set_self {l : List Int} {v : Nat} (h : v < l.length) (x : Int) : rd (l.set v x) v = x := by simp [rd, List.getD_eq_getElem?_getD, List.getElem?_set, h]
theorem rd_set_ne {l : List Int} {v u : Nat} (h : v ≠ u) (x : Int) : rd (l.set v x) u = rd l u := by simp [rd, List.getD_eq_getElem?_getD, List.getElem?_set, h]
theorem map_set {n : Nat} {f g : Nat → Int} {v : Nat} {x : Int} (h : ∀ u, u < n → u ≠ v → f u = g u) (hx : x = g v) : ((List.range n).map f).set v x = (List.range n).map g := by
 apply List.ext_getElem
 ·simp
 ·intro i h1 h2
  rw [List.getElem_set]
  have hi : i < n := by simpa using h2
  split
  ·rename_i e; subst e; simp [hx]
  ·rename_i e; simp only [List.getElem_map, List.getElem_range]; exact h i hi (fun e' => e e'.symm)
theorem rd_map {n : Nat} (f : Nat → Int) {v : Nat} (h : v < n) : rd ((List.range n).map f) v = f v := by simp [rd, List.getD_eq_getElem?_getD, List.getElem?_map, List.getElem?_range h]
theorem set_set_same (l : List Int) (v : Nat) (x y : Int) : (l.set v x).set v y = l.set v y := by simp
theorem set_rd {l : List Int} {v : Nat} (h : v < l.length) : l.set v (rd l v) = l := by
 apply List.ext_getElem
 ·simp
 ·intro i h1 h2
  rw [List.getElem_set]
  split
  ·rename_i e; subst e; simp [rd, List.getD_eq_getElem?_getD, List.getElem?_eq_getElem h]
  ·rfl
namespace Small
variable {n q : Nat} {E : List S66}
theorem sup_down (h : Small n q E) {a b : List Int} (hab : ∀ v : Nat, v < n → rd a v ≤ rd b v) (hb : superB n (timesOf E) q b = true) : superB n (timesOf E) q a = true := by
 have ht : ∀ i j, 0 ≤ timesOf E i j := fun i j => ((edgesIn_of h.right.inB).times i j).1
 exact (superB_iff ht q a).2 (((superB_iff ht q b).1 hb).down hab)
theorem sup_lt (h : Small n q E) {a : List Int} {v : Nat} (hv : v < n) (hq : v ≠ q) (ha : superB n (timesOf E) q a = true) : rd a v < valN E v n := by
 have := (superB_small h.right.inB (by have := h.n5; omega) hv hq ha).1
 unfold valOf at this
 rwa [valOf_valN h.right v n] at this
theorem rise (h : Small n q E) {c : List Int} (hc : c.length = n) {v : Nat} (hv : v < n) (hq : v ≠ q) (hs : superB n (timesOf E) q c = true) (h0 : 0 ≤ rd c v) :
  ∃ M : Nat, rd c v ≤ M ∧ (M : Int) < valN E v n ∧ ∀ x : Int, superB n (timesOf E) q (c.set v x) = true ↔ x ≤ M := by
 have hval := h.val_le v
 have hlt := h.sup_lt hv hq hs
 have down : ∀ x y : Int, x ≤ y → superB n (timesOf E) q (c.set v y) = true → superB n (timesOf E) q (c.set v x) = true := fun x y hxy hy => by
  refine h.sup_down (fun u hu => ?_) hy
  by_cases e : v = u
  ·subst e; rw [rd_set_self (by omega), rd_set_self (by omega)]; exact hxy
  ·rw [rd_set_ne e, rd_set_ne e]; exact Int.le_refl _
 have key : ∀ d : Nat, ∀ x : Nat, rd c v ≤ x → valN E v n ≤ x + d → superB n (timesOf E) q (c.set v x) = true → ∃ M : Nat, x ≤ M ∧ (M : Int) < valN E v n ∧ superB n (timesOf E) q (c.set v M) = true ∧ superB n (timesOf E) q (c.set v ((M : Int) + 1)) = false := by
  intro d
  induction d with
  | zero =>
   intro x _ h2 h3
   have := h.sup_lt hv hq h3
   rw [rd_set_self (by omega)] at this
   omega
  | succ d ih =>
   intro x h1 h2 h3
   have h4 := h.sup_lt hv hq h3
   rw [rd_set_self (by omega)] at h4
   cases h5 : superB n (timesOf E) q (c.set v ((x : Int) + 1)) with
   | false => exact ⟨x, Nat.le_refl _, h4, h3, h5⟩
   | true =>
    obtain ⟨M, m1, m2, m3, m4⟩ := ih (x + 1) (by omega) (by omega) (by rw [Int.natCast_add, Int.natCast_one]; exact h5)
    exact ⟨M, by omega, m2, m3, m4⟩
 obtain ⟨M, m1, m2, m3, m4⟩ := key 9 (rd c v).toNat (by omega) (by omega) (by rw [show ((rd c v).toNat : Int) = rd c v by omega, set_rd (by omega)]; exact hs)
 refine ⟨M, by omega, m2, fun x => ⟨fun hx => ?_, fun hx => down x M hx m3⟩⟩
 by_cases hle : x ≤ M
 ·exact hle
 ·have := down ((M : Int) + 1) x (by omega) hx
  rw [m4] at this; cases this
theorem calm_set (h : Small n q E) (hr : rootG n E q = 0) {c : List Int} (hg : GoodC n q c) {v : Nat} (hv : v < n) (hq : v ≠ q) {x : Int} (hx : 0 ≤ x ∧ x ≤ 1048576) : Ev (fun k => superstable_calm.f k n E q (c.set v x)) (superB n (timesOf E) q (c.set v x)) := by
 have hl := hg.len
 have hp : ∀ u : Nat, 0 ≤ rd (c.set v x) u ∧ rd (c.set v x) u ≤ 1048576 := fun u => by
  by_cases e : v = u
  ·subst e; rw [rd_set_self (by omega)]; exact hx
  ·rw [rd_set_ne e]; exact ⟨hg.pos u, hg.up u⟩
 have he : err23 n E q (c.set v x) = 0 := by
  have h1 : ∀ l : List Int, (∀ y ∈ l, 0 ≤ y ∧ y ≤ 1048576) → rngF l = 0 := fun l => by
   induction l with
   | nil => intro _; rfl
   | cons y l ih =>
    intro hl
    have := hl y (List.mem_cons_self ..)
    rw [rngF, if_pos (by simp [chipB]; omega)]
    exact ih fun z hz => hl z (List.mem_cons_of_mem _ hz)
  have h2 : ∀ (l : List Int) (i : Nat), (∀ y ∈ l, 0 ≤ y ∧ y ≤ 1048576) → negF q i l = 0 := fun l => by
   induction l with
   | nil => intro i _; rfl
   | cons y l ih =>
    intro i hl
    have := hl y (List.mem_cons_self ..)
    rw [negF, if_neg (show ¬ y < 0 by omega), ih (i + 1) fun z hz => hl z (List.mem_cons_of_mem _ hz)]
    split <;> rfl
  have hm : ∀ y ∈ c.set v x, 0 ≤ y ∧ y ≤ 1048576 := fun y hy => by
   obtain ⟨i, hi, rfl⟩ := List.getElem_of_mem hy
   have := hp i
   simp only [rd, Int.toNat_natCast, List.getD_eq_getElem?_getD, List.getElem?_eq_getElem hi, Option.getD_some] at this
   exact this
  have e0 : errC n E q (c.set v x) = 0 := by
   unfold errC
   rw [if_pos hr, if_pos (by simp [hl]), h1 _ hm, if_pos rfl, h2 _ 0 hm]
  unfold err23
  rw [if_pos e0, if_pos (by rw [rd_set_ne hq]; exact hg.sink)]
 unfold superstable_calm.f
 refine Ev.bind (burn_ev (by have := h.len; omega) (by have := h.n5; omega) h.right.inB he) ?_
 cases superB n (timesOf E) q (c.set v x) <;> exact Ev.const _
theorem raised_ev (h : Small n q E) (hr : rootG n E q = 0) {c : List Int} (hg : GoodC n q c) {v : Nat} (hv : v < n) (hq : v ≠ q) {M : Nat} (h1 : rd c v ≤ M) (h2 : (M : Int) < valN E v n) (hM : ∀ x : Int, superB n (timesOf E) q (c.set v x) = true ↔ x ≤ M) :
  Ev (fun k => superstable_raised.f k n E q c v) (c.set v M) := by
 have hl := hg.len
 have hval := h.val_le v
 have h0 := hg.pos v
 have loop : ∀ (m : Nat) (x : Int), rd c v + 1 ≤ x → x + m = M + 1 → Ev (fun k => superstable_raised.l0 k q (c.set v x) v n E) (c.set v M) := by
  intro m
  induction m with
  | zero =>
   intro x hx1 hx2
   refine Ev.of_succ ?_
   simp only [superstable_raised.l0]
   refine Ev.bind (h.calm_set hr hg hv hq (by omega)) ?_
   have : superB n (timesOf E) q (c.set v x) = false := by
    cases e : superB n (timesOf E) q (c.set v x) with
    | false => rfl
    | true => have := (hM x).1 e; omega
   simp only [this, Bool.false_eq_true, if_false, if_pos (show (0 : Int) ≤ v by omega), if_pos (show (v : Int) < (c.set v x).length by simp; omega), Int.toNat_natCast, set_set_same, rd_set_self (show v < c.length by omega), wrap_id (show -1000000000 ≤ x - 1 ∧ x - 1 ≤ 1000000000 by omega), show x - 1 = (M : Int) by omega, wrap_id (show -1000000000 ≤ (M : Int) ∧ (M : Int) ≤ 1000000000 by omega)]
   exact Ev.const _
  | succ m ih =>
   intro x hx1 hx2
   refine Ev.of_succ ?_
   simp only [superstable_raised.l0]
   refine Ev.bind (h.calm_set hr hg hv hq (by omega)) ?_
   simp only [(hM x).2 (by omega), if_true, if_pos (show (0 : Int) ≤ v by omega), if_pos (show (v : Int) < (c.set v x).length by simp; omega), Int.toNat_natCast, set_set_same, rd_set_self (show v < c.length by omega), wrap_id (show -1000000000 ≤ x + 1 ∧ x + 1 ≤ 1000000000 by omega)]
   exact ih (x + 1) (by omega) (by omega)
 unfold superstable_raised.f
 simp only [clone_ev (show c.length ≤ 1000 by have := h.n5; omega), Option.bind_some, if_pos (show (0 : Int) ≤ v by omega), if_pos (show (v : Int) < c.length by omega), Int.toNat_natCast, wrap_id (show -1000000000 ≤ rd c v + 1 ∧ rd c v + 1 ≤ 1000000000 by omega)]
 exact loop (M - (rd c v).toNat) (rd c v + 1) (by omega) (by omega)
theorem ref_l1 (h : Small n q E) {c out top : List Int} (hg : GoodC n q out) {v : Nat} (hv : v < n) (hq : v ≠ q) (hc : rd c v = rd out v) (ht : top.length = n) (htv : rd top v = valN E v n - 1) {M : Nat} (h1 : rd out v ≤ M) (h2 : (M : Int) < valN E v n) (hM : ∀ x : Int, superB n (timesOf E) q (out.set v x) = true ↔ x ≤ M) {r : List Int}
  (hr : Ev (fun k => sandpileref28_Raised.l0 k q c (out.set v M) top ((v + 1 : Nat) : Int) n E) r) :
  ∀ (m : Nat) (x : Int), rd out v + 1 ≤ x → x + m = valN E v n → Ev (fun k => sandpileref28_Raised.l1 k q c (out.set v (min (M : Int) (x - 1))) top v x n E) r := by
 have hl := hg.len
 have hval := h.val_le v
 have h5 := h.n5
 have h0 := hg.pos v
 intro m
 induction m with
 | zero =>
  intro x hx1 hx2
  refine Ev.of_succ ?_
  simp only [sandpileref28_Raised.l1, if_pos (show (0 : Int) ≤ v by omega), if_pos (show (v : Int) < top.length by omega), if_neg (show ¬ x ≤ rd top v by omega), wrap_succ (show v ≤ 1000000 by omega), show min (M : Int) (x - 1) = M by omega]
  exact hr
 | succ m ih =>
  intro x hx1 hx2
  refine Ev.of_succ ?_
  simp only [sandpileref28_Raised.l1, if_pos (show (0 : Int) ≤ v by omega), if_pos (show (v : Int) < top.length by omega), if_pos (show x ≤ rd top v by omega), Option.bind_some, List.nil_append, List.length_nil, if_pos (show 0 + (out.set v (min (M : Int) (x - 1))).length < 17592186044416 by simp; omega),
   if_pos (show (v : Int) < (out.set v (min (M : Int) (x - 1))).length by simp; omega), Int.toNat_natCast, set_set_same]
  refine Ev.bind (is_ev h.right (by have := h.len; omega) n (by omega) q (out.set v x) (by simp [hl])) ?_
  rw [← h.super_iff]
  have hw : wrap64 (x + 1) = x + 1 := wrap_id (by omega)
  have hi := ih (x + 1) (by omega) (by omega)
  by_cases hx : x ≤ M
  ·simp only [(hM x).2 hx, if_true, hw]
   rw [show min (M : Int) (x + 1 - 1) = x by omega] at hi
   exact hi
  ·have : superB n (timesOf E) q (out.set v x) = false := by
    cases e : superB n (timesOf E) q (out.set v x) with
    | false => rfl
    | true => exact absurd ((hM x).1 e) hx
   simp only [this, Bool.false_eq_true, if_false, hw]
   rw [show min (M : Int) (x + 1 - 1) = min (M : Int) (x - 1) by omega] at hi
   exact hi
theorem raise_loop (h : Small n q E) (hr : rootG n E q = 0) (c top : List Int) (hcl : c.length = n) (ht : top.length = n) (htv : ∀ v : Nat, v < n → v ≠ q → rd top v = valN E v n - 1) :
  ∀ (m v : Nat) (out : List Int), v + m = n → GoodC n q out → superB n (timesOf E) q out = true → (∀ u : Nat, v ≤ u → rd out u = rd c u) →
   ∃ r : List Int, r.length = n ∧ GoodC n q r ∧ superB n (timesOf E) q r = true ∧ (∀ u : Nat, rd out u ≤ rd r u) ∧ Ev (fun k => superstable_Raise.l0 k q out n v n E) (r, (0 : Int)) ∧ Ev (fun k => sandpileref28_Raised.l0 k q c out top v n E) r
 | 0, v, out, hv, hg, hs, hu => by
  refine ⟨out, hg.len, hg, hs, fun u => Int.le_refl _, ?_, ?_⟩
  ·refine Ev.of_succ ?_
   simp only [superstable_Raise.l0, if_neg (show ¬ (v : Int) < n by omega)]
   exact Ev.const _
  ·refine Ev.of_succ ?_
   simp only [sandpileref28_Raised.l0, if_neg (show ¬ (v : Int) < n by omega)]
   exact Ev.const _
 | m + 1, v, out, hv, hg, hs, hu => by
  have h5 := h.n5
  have hl := hg.len
  by_cases hq : v = q
  ·obtain ⟨r, h1, h2, h3, h4, h6, h7⟩ := raise_loop h hr c top hcl ht htv m (v + 1) out (by omega) hg hs (fun u hu' => hu u (by omega))
   refine ⟨r, h1, h2, h3, h4, ?_, ?_⟩
   ·refine Ev.of_succ ?_
    simp only [superstable_Raise.l0, if_pos (show (v : Int) < n by omega), if_pos (show (v : Int) = q by omega), wrap_succ (show v ≤ 1000000 by omega)]
    exact h6
   ·refine Ev.of_succ ?_
    simp only [sandpileref28_Raised.l0, if_pos (show (v : Int) < n by omega), if_pos (show (v : Int) = q by omega), wrap_succ (show v ≤ 1000000 by omega)]
    exact h7
  ·have hvn : v < n := by omega
   have hval := h.val_le v
   obtain ⟨M, m1, m2, m3⟩ := h.rise hg.len hvn hq hs (hg.pos v)
   have hg' : GoodC n q (out.set v M) := by
    refine ⟨by simp [hl], fun u => ?_, fun u => ?_, by rw [rd_set_ne hq]; exact hg.sink⟩
    ·by_cases e : v = u
     ·subst e; rw [rd_set_self (by omega)]; omega
     ·rw [rd_set_ne e]; exact hg.pos u
    ·by_cases e : v = u
     ·subst e; rw [rd_set_self (by omega)]; omega
     ·rw [rd_set_ne e]; exact hg.up u
   obtain ⟨r, h1, h2, h3, h4, h6, h7⟩ := raise_loop h hr c top hcl ht htv m (v + 1) (out.set v M) (by omega) hg' ((m3 M).2 (Int.le_refl _)) (fun u hu' => by rw [rd_set_ne (by omega)]; exact hu u (by omega))
   refine ⟨r, h1, h2, h3, fun u => ?_, ?_, ?_⟩
   ·refine Int.le_trans ?_ (h4 u)
    by_cases e : v = u
    ·subst e; rw [rd_set_self (by omega)]; exact m1
    ·rw [rd_set_ne e]; exact Int.le_refl _
   ·refine Ev.of_succ ?_
    simp only [superstable_Raise.l0, if_pos (show (v : Int) < n by omega), if_neg (show ¬ (v : Int) = q by omega), wrap_succ (show v ≤ 1000000 by omega)]
    exact Ev.bind (h.raised_ev hr hg hvn hq m1 m2 m3) h6
   ·refine Ev.of_succ ?_
    have hcv := hu v (Nat.le_refl _)
    have hp := hg.pos v
    simp only [sandpileref28_Raised.l0, if_pos (show (v : Int) < n by omega), if_neg (show ¬ (v : Int) = q by omega), if_pos (show (0 : Int) ≤ v by omega), if_pos (show (v : Int) < c.length by omega), ← hcv, wrap_id (show -1000000000 ≤ rd out v + 1 ∧ rd out v + 1 ≤ 1000000000 by omega)]
    have hb := h.sup_lt hvn hq hs
    have := h.ref_l1 hg hvn hq hcv.symm ht (htv v hvn hq) m1 m2 m3 h7 (valN E v n - 1 - rd out v).toNat (rd out v + 1) (Int.le_refl _) (by omega)
    rw [show min (M : Int) (rd out v + 1 - 1) = rd out v by omega, set_rd (by omega)] at this
    exact this
end Small
end
section
def wl (E : List S66) (n : Nat) (q : Int) (c : List Int) : Nat → Nat → List Int
 | 0, _ => []
 | m + 1, v => if (v : Int) = q then wl E n q c m (v + 1) else if rd c v ≥ valN E v n then (v : Int) :: wl E n q c m (v + 1) else wl E n q c m (v + 1)
theorem wait_l0 {N : Int} {E : List S66} (hR : RightE N E) (hE : E.length ≤ 1000) (n : Nat) (hn : n ≤ 1000) (q : Int) (c : List Int) (hc : c.length = n) : ∀ (m v : Nat) (o : List Int), v + m = n → o.length ≤ v → Ev (fun k => sandpileref19_Waiting.l0 k q c o v n E) (o ++ wl E n q c m v)
 | 0, v, o, hv, ho => by
  refine Ev.of_succ ?_
  simp only [sandpileref19_Waiting.l0, if_neg (show ¬ (v : Int) < n by omega), wl, List.append_nil]
  exact Ev.const _
 | m + 1, v, o, hv, ho => by
  refine Ev.of_succ ?_
  simp only [sandpileref19_Waiting.l0, if_pos (show (v : Int) < n by omega), wl, wrap_succ (show v ≤ 1000000 by omega)]
  by_cases hq : (v : Int) = q
  ·simp only [if_pos hq]
   exact wait_l0 hR hE n hn q c hc m (v + 1) o (by omega) (by omega)
  ·simp only [if_neg hq, if_pos (show (0 : Int) ≤ v by omega), if_pos (show (v : Int) < c.length by omega)]
   refine Ev.bind (valence_ev hR hE n hn v) ?_
   by_cases hw : rd c v ≥ valN E v n
   ·simp only [if_pos hw, if_pos (show o.length < 17592186044416 by omega)]
    have := wait_l0 hR hE n hn q c hc m (v + 1) (o ++ [(v : Int)]) (by omega) (by simp; omega)
    simpa [List.append_assoc] using this
   ·simp only [if_neg hw]
    exact wait_l0 hR hE n hn q c hc m (v + 1) o (by omega) (by omega)
theorem wl_nil (E : List S66) (n q : Nat) (c : List Int) : ∀ (m v : Nat), v + m ≤ n → (wl E n q c m v = [] ↔ ∀ i, v ≤ i → i < v + m → looseB q (valL E n) c i = false)
 | 0, v, _ => by simp [wl]; intro i h1 h2; omega
 | m + 1, v, hv => by
  have ih := wl_nil E n q c m (v + 1) (by omega)
  rw [wl]
  by_cases hq : (v : Int) = q
  ·rw [if_pos hq, ih]
   constructor
   ·intro h i h1 h2
    by_cases e : i = v
    ·subst e; simp [looseB, hq]
    ·exact h i (by omega) (by omega)
   ·exact fun h i h1 h2 => h i (by omega) (by omega)
  ·rw [if_neg hq]
   by_cases hw : rd c v ≥ valN E v n
   ·rw [if_pos hw]
    refine ⟨fun h => (by cases h), fun h => ?_⟩
    have := h v (Nat.le_refl _) (by omega)
    unfold looseB at this
    rw [rd_valL E n v (by omega), decide_eq_true hq, decide_eq_true (show valN E v n ≤ rd c v from hw)] at this
    cases this
   ·rw [if_neg hw, ih]
    constructor
    ·intro h i h1 h2
     by_cases e : i = v
     ·subst e
      unfold looseB
      rw [rd_valL E n i (by omega), decide_eq_false (show ¬ valN E i n ≤ rd c i from hw), Bool.and_false]
     ·exact h i (by omega) (by omega)
    ·exact fun h i h1 h2 => h i (by omega) (by omega)
def calmB (E : List S66) (n q : Nat) (c : List Int) : Bool := noneTo (looseB q (valL E n) c) n
theorem calm19_ev {n q : Nat} {E : List S66} (h : Small n q E) {c : List Int} (hc : c.length = n) : Ev (fun k => sandpileref19_Calm.f k n E q c) (calmB E n q c) := by
 unfold sandpileref19_Calm.f sandpileref19_Waiting.f
 refine Ev.bind (wait_l0 h.right (by have := h.len; omega) n (by have := h.n5; omega) q c hc n 0 [] (by omega) (by simp)) ?_
 have e : (((([] : List Int) ++ wl E n q c n 0).length : Int) == 0) = calmB E n q c := by
  rw [List.nil_append, Bool.eq_iff_iff]
  have h1 := wl_nil E n q c n 0 (by omega)
  unfold calmB noneTo
  rw [List.all_eq_true]
  constructor
  ·intro h2 i hi
   have h3 : wl E n q c n 0 = [] := by
    have := beq_iff_eq.1 h2
    exact List.length_eq_zero_iff.1 (by omega)
   simp [h1.1 h3 i (by omega) (by simpa using hi)]
  ·intro h2
   rw [h1.2 fun i _ hi => by have := h2 i (List.mem_range.2 (by omega)); simpa using this]
   rfl
 rw [e]
 exact Ev.const _
namespace Small
variable {n q : Nat} {E : List S66}
theorem stable_ev (h : Small n q E) {c : List Int} (he : err23 n E q c = 0) : Ev (fun k => stabilize_Stable.f k n E q c) (calmB E n q c, (0 : Int)) := by
 obtain ⟨hr, hg⟩ := err23_good he
 have h0 : errC n E q c = 0 := by
  unfold err23 at he
  by_cases e : errC n E q c = 0
  ·exact e
  ·rw [if_neg e] at he; exact absurd he e
 have hs := stCheck_ev n E q c (by have := h.len; omega)
 rw [h0] at hs
 unfold stabilize_Stable.f
 refine Ev.bind hs ?_
 simp only [if_true, Int.toNat_natCast, if_pos (show okList n E = true ∧ c.length = n from ⟨h.list_ok, hg.len⟩), pileVal_eq h.right]
 exact Ev.const _
def topE (E : List S66) (n q : Nat) : List Int := topTo (valL E n) q n n
theorem rd_topE (E : List S66) {n q v : Nat} (hv : v < n) : rd (topE E n q) v = if v = q then 0 else valN E v n - 1 := by
 unfold topE topTo
 rw [rd_map _ hv, rd_valL E n v hv]
 by_cases e : v = q
 ·rw [if_neg (by omega), if_pos e]
 ·rw [if_pos (by omega), if_neg e]
def dualOf (E : List S66) (n q : Nat) (c : List Int) : List Int := (List.range n).map fun (v : Nat) => rd (topE E n q) v - rd c v
theorem dual_l0 (h : Small n q E) {c : List Int} (hg : GoodC n q c) : ∀ (m v : Nat), v + m = n → Ev (fun k => superstable_Dual.l0 k ((List.range n).map fun (u : Nat) => if u < v then rd (topE E n q) u - rd c u else rd (topE E n q) u) c n v) (dualOf E n q c, (0 : Int))
 | 0, v, hv => by
  refine Ev.of_succ ?_
  simp only [superstable_Dual.l0, if_neg (show ¬ (v : Int) < n by omega)]
  have : (List.range n).map (fun (u : Nat) => if u < v then rd (topE E n q) u - rd c u else rd (topE E n q) u) = dualOf E n q c := List.map_congr_left fun u hu => by
   have := List.mem_range.1 hu
   rw [if_pos (by omega)]
  rw [this]
  exact Ev.const _
 | m + 1, v, hv => by
  have ih := dual_l0 h hg m (v + 1) (by omega)
  have hl := hg.len
  have hp := hg.pos v
  have hu := hg.up v
  have hval := h.val_le v
  have hb := (valN_bound h.right v n).1
  have hn5 := h.n5
  have ht : -1 ≤ rd (topE E n q) v ∧ rd (topE E n q) v ≤ 8 := by
   rw [rd_topE E (by omega)]; split <;> omega
  refine Ev.of_succ ?_
  simp only [superstable_Dual.l0, if_pos (show (v : Int) < n by omega), if_pos (show (0 : Int) ≤ v by omega), if_pos (show (v : Int) < c.length by omega), if_pos (show (v : Int) < ((List.range n).map fun (u : Nat) => if u < v then rd (topE E n q) u - rd c u else rd (topE E n q) u).length by simp; omega),
   rd_map (fun (u : Nat) => if u < v then rd (topE E n q) u - rd c u else rd (topE E n q) u) (show v < n by omega), if_neg (show ¬ v < v by omega), wrap_id (show -1000000000 ≤ rd (topE E n q) v - rd c v ∧ rd (topE E n q) v - rd c v ≤ 1000000000 by omega), wrap_succ (show v ≤ 1000000 by omega), Int.toNat_natCast]
  rw [map_set (g := fun (u : Nat) => if u < v + 1 then rd (topE E n q) u - rd c u else rd (topE E n q) u) (fun u _ hu => by
   by_cases e : u < v
   ·rw [if_pos e, if_pos (by omega)]
   ·rw [if_neg e, if_neg (by omega)]) (by rw [if_pos (by omega)])]
  exact ih
theorem turned_l0 (h : Small n q E) {c : List Int} (hg : GoodC n q c) : ∀ (m v : Nat), v + m = n → Ev (fun k => sandpileref28_Turned.l0 k q c (topE E n q) ((List.range n).map fun (u : Nat) => if u < v then rd (topE E n q) u - rd c u else 0) v n E) (dualOf E n q c)
 | 0, v, hv => by
  refine Ev.of_succ ?_
  simp only [sandpileref28_Turned.l0, if_neg (show ¬ (v : Int) < n by omega)]
  have : (List.range n).map (fun (u : Nat) => if u < v then rd (topE E n q) u - rd c u else 0) = dualOf E n q c := List.map_congr_left fun u hu => by
   have := List.mem_range.1 hu
   rw [if_pos (by omega)]
  rw [this]
  exact Ev.const _
 | m + 1, v, hv => by
  have ih := turned_l0 h hg m (v + 1) (by omega)
  have hl := hg.len
  have hp := hg.pos v
  have hu := hg.up v
  have hval := h.val_le v
  have hb := (valN_bound h.right v n).1
  have hn5 := h.n5
  have hn : v < n := by omega
  have htl : (topE E n q).length = n := topTo_length _ _ _ _
  have ht : -1 ≤ rd (topE E n q) v ∧ rd (topE E n q) v ≤ 8 := by
   rw [rd_topE E (by omega)]; split <;> omega
  refine Ev.of_succ ?_
  have hstep : ∀ x : Int, x = rd (topE E n q) v - rd c v → ((List.range n).map fun (u : Nat) => if u < v then rd (topE E n q) u - rd c u else 0).set v x = (List.range n).map fun (u : Nat) => if u < v + 1 then rd (topE E n q) u - rd c u else 0 := fun x hx => map_set (fun u _ hu => by
   by_cases e : u < v
   ·rw [if_pos e, if_pos (by omega)]
   ·rw [if_neg e, if_neg (by omega)]) (by rw [if_pos (by omega)]; exact hx)
  by_cases hq : v = q
  ·simp only [sandpileref28_Turned.l0, if_pos (show (v : Int) < n by omega), if_pos (show (v : Int) = q by omega), wrap_succ (show v ≤ 1000000 by omega)]
   have e := hstep 0 (by rw [rd_topE E hn, if_pos hq, hq, hg.sink]; rfl)
   have e2 : ((List.range n).map fun (u : Nat) => if u < v then rd (topE E n q) u - rd c u else 0).set v 0 = (List.range n).map fun (u : Nat) => if u < v then rd (topE E n q) u - rd c u else 0 := map_set (fun _ _ _ => rfl) (by rw [if_neg (by omega)])
   rw [← e2, e]
   exact ih
  ·simp only [sandpileref28_Turned.l0, if_pos (show (v : Int) < n by omega), if_neg (show ¬ (v : Int) = q by omega), wrap_succ (show v ≤ 1000000 by omega), if_pos (show (0 : Int) ≤ v by omega), if_pos (show (v : Int) < (topE E n q).length by omega), if_pos (show (v : Int) < c.length by omega),
    if_pos (show (v : Int) < ((List.range n).map fun (u : Nat) => if u < v then rd (topE E n q) u - rd c u else 0).length by simp; omega), wrap_id (show -1000000000 ≤ rd (topE E n q) v - rd c v ∧ rd (topE E n q) v - rd c v ≤ 1000000000 by omega), Int.toNat_natCast]
   rw [hstep _ rfl]
   exact ih
theorem turned_ev (h : Small n q E) {c : List Int} (hg : GoodC n q c) : Ev (fun k => sandpileref28_Turned.f k n E q c) (dualOf E n q c) := by
 unfold sandpileref28_Turned.f
 refine Ev.bind (top_ev h.right (by have := h.len; omega) n (by have := h.n5; omega) q) ?_
 have := turned_l0 h hg n 0 (by omega)
 simp only [if_pos (show (0 : Int) ≤ n by omega), Int.toNat_natCast, if_pos (show n ≤ 35184372088832 by have := h.n5; omega)]
 rw [show (List.range n).map (fun (u : Nat) => if u < 0 then rd (topE E n q) u - rd c u else 0) = List.replicate n 0 by
  apply List.ext_getElem
  ·simp
  ·intro i h1 h2; simp] at this
 exact this
theorem dual_ev (h : Small n q E) {c : List Int} (he : err23 n E q c = 0) : Ev (fun k => superstable_Dual.f k n E q c) (if calmB E n q c = true then (dualOf E n q c, (0 : Int)) else (([] : List Int), (15 : Int))) := by
 obtain ⟨hr, hg⟩ := err23_good he
 unfold superstable_Dual.f
 refine Ev.bind (burn_ev (by have := h.len; omega) (by have := h.n5; omega) h.right.inB he) ?_
 simp only [if_true]
 refine Ev.bind (h.stable_ev he) ?_
 simp only [if_true]
 by_cases hcalm : calmB E n q c = true
 ·simp only [if_pos hcalm]
  have hf := h.first_ev hr
  rw [pileVal_eq h.right] at hf
  refine Ev.bind hf ?_
  simp only [if_true, hg.len]
  have := dual_l0 h hg n 0 (by omega)
  rw [show (List.range n).map (fun (u : Nat) => if u < 0 then rd (topE E n q) u - rd c u else rd (topE E n q) u) = topE E n q by
   apply List.ext_getElem
   ·simp [topE, topTo_length]
   ·intro i h1 h2
    have hi : i < n := by simpa using h1
    simp [rd, List.getD_eq_getElem?_getD, List.getElem?_eq_getElem h2]] at this
  exact this
 ·simp only [if_neg hcalm]; exact Ev.const _
theorem refDual_ev (h : Small n q E) {c : List Int} (he : err23 n E q c = 0) : Ev (fun k => sandpileref28_Dual.f k n E q c) (if calmB E n q c = true then (dualOf E n q c, (0 : Int)) else (([] : List Int), (15 : Int))) := by
 obtain ⟨hr, hg⟩ := err23_good he
 unfold sandpileref28_Dual.f
 have hc := check23_ev n E q c (by have := h.len; omega)
 rw [he] at hc
 refine Ev.bind hc ?_
 simp only [if_true]
 refine Ev.bind (calm19_ev h hg.len) ?_
 by_cases hcalm : calmB E n q c = true
 ·simp only [if_pos hcalm]
  exact Ev.bind (h.turned_ev hg) (Ev.const _)
 ·simp only [if_neg hcalm]; exact Ev.const _
theorem raise_both (h : Small n q E) {c : List Int} (he : err23 n E q c = 0) : ∃ r : List Int × Int, r.1.length ≤ n ∧ Ev (fun k => superstable_Raise.f k n E q c) r ∧ Ev (fun k => sandpileref28_Raise.f k n E q c) r := by
 obtain ⟨hr, hg⟩ := err23_good he
 have hE : E.length ≤ 1000 := by have := h.len; omega
 have hb := burn_ev hE (by have := h.n5; omega) h.right.inB he
 have hc := check23_ev n E q c hE
 rw [he] at hc
 have hi := is_ev h.right hE n (by have := h.n5; omega) q c hg.len
 rw [← h.super_iff] at hi
 by_cases hs : superB n (timesOf E) q c = true
 ·obtain ⟨r, r1, r2, r3, r4, r5, r6⟩ := h.raise_loop hr c (topE E n q) hg.len (topTo_length _ _ _ _) (fun v hv hq => by rw [rd_topE E hv, if_neg hq]) n 0 c (by omega) hg hs (fun _ _ => rfl)
  refine ⟨(r, 0), Nat.le_of_eq r1, ?_, ?_⟩
  ·unfold superstable_Raise.f
   refine Ev.bind hb ?_
   simp only [if_true, hs, clone_ev (show c.length ≤ 1000 by have := hg.len; have := h.n5; omega), Option.bind_some, hg.len]
   exact r5
  ·unfold sandpileref28_Raise.f
   refine Ev.bind hc ?_
   simp only [if_true]
   refine Ev.bind hi ?_
   simp only [hs, if_true]
   refine Ev.bind ?_ (Ev.const _)
   unfold sandpileref28_Raised.f
   simp only [Option.bind_some, List.nil_append, List.length_nil, if_pos (show 0 + c.length < 17592186044416 by have := hg.len; have := h.n5; omega)]
   exact Ev.bind (top_ev h.right hE n (by have := h.n5; omega) q) r6
 ·have hs' : superB n (timesOf E) q c = false := by simpa using hs
  refine ⟨([], 15), by simp, ?_, ?_⟩
  ·unfold superstable_Raise.f
   refine Ev.bind hb ?_
   simp only [if_true, hs', Bool.false_eq_true, if_false]
   exact Ev.const _
  ·unfold sandpileref28_Raise.f
   refine Ev.bind hc ?_
   simp only [if_true]
   refine Ev.bind hi ?_
   simp only [hs', Bool.false_eq_true, if_false]
   exact Ev.const _
end Small
end
def sandpilelaw28_Triangle.f  : Option (Int × (List (S66))) := some (3, (([(⟨0, 1, 1⟩ : S66), (⟨0, 2, 1⟩ : S66), (⟨1, 2, 1⟩ : S66)] : List (S66))))
theorem sandpilelaw28_Triangle.calls  (r1 : Int) (r2 : List (S66)) (w : World) (h : sandpilelaw28_Triangle.f  = some (r1, r2)) :
  Calls Try.prog 42 #[] w fun e w' => ∃ v1_ : Value, e = .returned (.agg #[.int .i64 r1, v1_]) ∧ Kd.R k66 66 w' w.heap.size (fun _ => True) v1_ r2 ∧ Below w.heap.size w w' := by
 have hu24 := Try.underlying24
 have hu66 := Try.underlying66
 have HB := Aside0.mk (Below.refl w.heap.size w)
 have H : (some (3, (([(⟨0, 1, 1⟩ : S66), (⟨0, 2, 1⟩ : S66), (⟨1, 2, 1⟩ : S66)] : List (S66))))) = some (r1, r2) := h
 clear h
 obtain ⟨y478, hy478⟩ : ∃ y_ : List (S66), y_ = (([(⟨0, 1, 1⟩ : S66), (⟨0, 2, 1⟩ : S66), (⟨1, 2, 1⟩ : S66)] : List (S66))) := ⟨_, rfl⟩
 replace H : (some (3, y478)) = some (r1, r2) := by first | (rw [hy478]; with_reducible exact H) | (have H2_ := (Option.bind_some _ _).symm.trans H; rw [hy478]; with_reducible exact H2_) | (have H2_ := (Option.bind_some _ _).symm.trans H; with_reducible exact H2_) | with_reducible exact H | (rw [hy478]; exact H) | exact H
 have Ny478 := Aside0.mk hy478
 clear hy478
 simp only [Option.some.injEq, Prod.mk.injEq] at H
 obtain ⟨rfl, rfl⟩ := H
 go_enter Try.func42, Try.ntmps42
 go_wp2_with (first | ((with_reducible refine gate_dst (N := 0) rfl ?_); refine zX 0 #[.int .i64 0, .slice none 0 0] 24 ?_; intro gb477 hg w1 hbox hb; have BK477 := Aside0.mk (hbox); have GW477 := zG HB hg; have GE477 := zG HB hg; replace HB := zS HB hb; clear hb hbox hg) | ((with_reducible refine gate_dst (N := 4) rfl ?_); refine Kd.R_lit k66 _ 66 ?hg (N := 4) ?hd (xs := ([(⟨0, 1, 1⟩ : S66), (⟨0, 2, 1⟩ : S66), (⟨1, 2, 1⟩ : S66)] : List (S66))) (inner := [.int .i64 0, .int .i64 1, .int .i64 1, .int .i64 0, .int .i64 2, .int .i64 1, .int .i64 1, .int .i64 2, .int .i64 1]) (ok := fun _ => True) (okp := fun _ => True) ?hr ?hp (fun _ hk => hk) trivial (Below.refl _ _) (Nat.le_refl _) (by simp) ?_; (case hd => rfl); (case hg => rfl); (case hr => first | (go_simp; done) | (go_simp; rfl)); (case hp => exact (Reps.c3 (show Kd.M k66 _ _ _ (⟨0, 1, 1⟩ : S66) [.int .i64 0, .int .i64 1, .int .i64 1] from (k66_mkM _ _ _ (⟨0, 1, 1⟩ : S66) )) (Reps.c3 (show Kd.M k66 _ _ _ (⟨0, 2, 1⟩ : S66) [.int .i64 0, .int .i64 2, .int .i64 1] from (k66_mkM _ _ _ (⟨0, 2, 1⟩ : S66) )) (Reps.c3 (show Kd.M k66 _ _ _ (⟨1, 2, 1⟩ : S66) [.int .i64 1, .int .i64 2, .int .i64 1] from (k66_mkM _ _ _ (⟨1, 2, 1⟩ : S66) )) (Reps.none _ _))))); intro v479 w2 ho3 hb hg_ hnew_; clear hg_ hnew_; (first | rw [← Ny478.out] at ho3 | (simp only [Int.reduceToNat] at ho3; rw [← Ny478.out] at ho3)); have HO480 := Aside0.mk (Kd.R_lower ho3 (below_size zB)); replace BK477 := zb BK477 hb; replace HB := zS HB hb; clear hb ho3; obtain ⟨Ao4, co4, eo4⟩ := Kd.R_slice HO480.out; subst eo4; obtain ⟨hcz5_0, hcz5_1, hfz5_0, hfz5_1⟩ := zD2 BK477))
 refine bodyPost_ret (results_cell_row rfl _ _ gb477 24 #[.int .i64 3, .slice Ao4 y478.length co4] (0, 0) _ rfl (by refine zk ?_; refine blk_put (cs := #[.int .i64 3, .slice none 0 0]) ?_ 1 _ rfl; refine zk ?_; refine blk_put (cs := #[.int .i64 0, .slice none 0 0]) ?_ 0 _ rfl; exact zK BK477) Try.underlying24 rfl (by kernel_rfl)) rfl ?_
 exact ⟨_, zE, by (with_reducible repeat (first | apply Kd.R_alloc | apply Kd.R_drewN | apply Kd.R_drew)); exact Kd.R_mono (Kd.R_far (p := ⟨gb477, 1, none⟩) (Kd.R_far (p := ⟨gb477, 0, none⟩) (Kd.R_types HO480.out BK477.out (by decide)) (fun _ hk => hk.2) (.int .i64 3)) (fun _ hk => hk.2) (.slice Ao4 y478.length co4)) (fun _ hk => trivial), zB⟩
def DelAt (qx gx : Nat) (row : Option Nat) (wb : World) (l : List (List Int)) (del : List Int → Bool) : Prop :=
 ∀ (W' : World) (A0 : Option Addr) (c0 : Nat) (x : List Int), wb.grownBy W' row → x ∈ l → x.length ≤ c0 → Kd.C (Kd.int .i64) W' A0 x.length x →
  Calls Try.prog 52 #[.slice A0 x.length c0, .pointer (some ⟨qx, 0, none⟩), .pointer (some ⟨gx, 0, none⟩)] W' fun e w' => e = .returned (.bool (del x)) ∧ Below W'.heap.size W' w'
theorem rd_L2_mem {l : List (List Int)} {i : Nat} (h : i < l.length) : rd_L2 l i ∈ l := by
 have e : rd_L2 l i = l[i] := by simp [rd_L2, List.getD_eq_getElem?_getD, List.getElem?_eq_getElem h]
 rw [e]; exact List.getElem_mem h
theorem indexFunc_calls (qx gx base : Nat) (row : Option Nat) (A : Option Addr) (cap : Nat) (ok : Nat → Prop) (l : List (List Int)) (del : List Int → Bool) (wb W : World) (hN : Kd.N (Kd.slice 3 (Kd.int .i64)) 42 W base ok (.slice A l.length cap) l) (hwb : wb.grownBy W row) (hD : DelAt qx gx row wb l del) :
  Calls Try.prog 61 #[.slice A l.length cap, .func (.func 52) #[] #[.pointer (some ⟨qx, 0, none⟩), .pointer (some ⟨gx, 0, none⟩)]] W fun e w' => ∃ r : Int, e = .returned (.int .i64 r) ∧ ((r = -1 ∧ ∀ j : Nat, j < l.length → del (rd_L2 l j) = false) ∨ ∃ i : Nat, r = i ∧ i < l.length ∧ del (rd_L2 l i) = true ∧ ∀ j : Nat, j < i → del (rd_L2 l j) = false) ∧ Below W.heap.size W w' := by
 have HN := Aside0.mk hN
 have HWB := Aside0.mk hwb
 have HD := Aside0.mk hD
 clear hN hwb hD
 go_enter Try.func61, Try.ntmps61
 go_wp2
 go_loopw [8] (fun i wr => ∃ k : Nat, k ≤ l.length ∧ i = .int .i64 k ∧ Aside0 (∀ j : Nat, j < k → del (rd_L2 l j) = false) ∧ Aside0 (Below W.heap.size W wr)) (fun i _ => l.length - (intOf i).toNat)
 case atStart => exact ⟨0, by omega, rfl, ⟨fun j hj => by omega⟩, ⟨Below.refl _ _⟩⟩
 case round =>
  obtain ⟨k, hk, rfl, HF, HB⟩ := hrel
  by_cases hkl : k < l.length
  ·obtain ⟨-, hcap, hC⟩ := Kd.N_reads' (Kd.N_below HN.out HB.out)
   obtain ⟨ad, Ac, cc, rfl, hx0, hcc, hcr⟩ := at_L2 hC k (by omega) (by omega)
   rw [Int.toNat_natCast] at hx0
   have HM := Aside0.mk (HD.out wr Ac cc (rd_L2 l k) (HWB.out.trans (grown_of_below HB.out _)) (rd_L2_mem hkl) hcc hcr)
   have HRK := Aside0.mk (rfl : rd_L2 l k = rd_L2 l k)
   have hk0 : (0 : Int) ≤ (k : Int) := by omega
   have hk1 : (k : Int) < (l.length : Int) := by omega
   have hlb : l.length ≤ 9223372036854775807 := Kd.C_max hC
   clear hC hcr hcc hcap
   cases hb : del (rd_L2 l k) with
   | true =>
    rw [hb] at HM
    have Hb := Aside0.mk hb
    clear hb
    go_wp2_with (go_at_call 52; refine HM.out.mono ?_; rintro e w1 ⟨rfl, hb1⟩; have HB1 := Aside0.mk hb1; clear hb1)
    go_ret
    exact ⟨k, rfl, .inr ⟨k, rfl, hkl, Hb.out, HF.out⟩, HB.out.trans (HB1.out.mono HB.out.size)⟩
   | false =>
    rw [hb] at HM
    have Hb := Aside0.mk hb
    clear hb
    go_wp2_with (go_at_call 52; refine HM.out.mono ?_; rintro e w1 ⟨rfl, hb1⟩; have HB1 := Aside0.mk hb1; clear hb1)
    go_roundw
    case rel => exact ⟨k + 1, by omega, by go_num, ⟨fun j hj => by
     by_cases e : j = k
     ·subst e; exact Hb.out
     ·exact HF.out j (by omega)⟩, ⟨HB.out.trans (HB1.out.mono HB.out.size)⟩⟩
    case measure => exact (show l.length - ((k : Int) + 1).toNat < l.length - ((k : Int)).toNat by omega)
  ·obtain rfl : k = l.length := by omega
   go_wp2
   go_ret
   exact ⟨-1, rfl, .inl ⟨rfl, HF.out⟩, HB.out⟩
theorem rd_L2_set {ys : List (List Int)} {i m : Nat} (h : i ≠ m) (x : List Int) : rd_L2 (ys.set i x) m = rd_L2 ys m := by
 simp [rd_L2, List.getD_eq_getElem?_getD, List.getElem?_set, h]
theorem ne_minus (i : Nat) : ((i : Int) == -1) = false := by
 rw [beq_eq_false_iff_ne]; omega
theorem take_next {l : List (List Int)} {j : Nat} (h : j < l.length) : l.take (j + 1) = l.take j ++ [rd_L2 l j] := by
 rw [List.take_succ_eq_append_getElem h]
 simp [rd_L2, List.getD_eq_getElem?_getD, List.getElem?_eq_getElem h]
theorem take_set_next {ys : List (List Int)} {i : Nat} (h : i < ys.length) (x : List Int) : (ys.set i x).take (i + 1) = ys.take i ++ [x] := by
 rw [List.take_succ_eq_append_getElem (by simpa using h)]
 simp [List.take_set_of_le]
theorem filter_next {l : List (List Int)} {del : List Int → Bool} {j : Nat} (h : j < l.length) : (l.take (j + 1)).filter (fun x => !del x) = (l.take j).filter (fun x => !del x) ++ (if del (rd_L2 l j) then [] else [rd_L2 l j]) := by
 rw [take_next h, List.filter_append]
 cases hd : del (rd_L2 l j) <;> simp [hd]
theorem zeroDiv (w : World) : (zeroValue 42).run Try.prog w = .ok (.slice none 0 0) w := by kernel_rfl
theorem filter_first {l : List (List Int)} {del : List Int → Bool} {i : Nat} (h1 : del (rd_L2 l i) = true) (h2 : ∀ j : Nat, j < i → del (rd_L2 l j) = false) (h : i < l.length) : l.take i = (l.take (i + 1)).filter fun x => !del x := by
 rw [take_next h, List.filter_append]
 rw [show [rd_L2 l i].filter (fun x => !del x) = [] by simp [h1], List.append_nil]
 symm
 rw [List.filter_eq_self]
 intro x hx
 obtain ⟨j, hj, rfl⟩ := List.mem_take_iff_getElem.1 hx
 have h3 := h2 j (by omega)
 have e : rd_L2 l j = l[j]'(by omega) := by simp [rd_L2, List.getD_eq_getElem?_getD, List.getElem?_eq_getElem (by omega : j < l.length)]
 rw [e] at h3
 simp [h3]
theorem n_put {W : World} {base g0 n cap : Nat} {ok : Nat → Prop} {ys : List (List Int)} {x : List Int} {v : Value} {i : Nat} (h : Kd.N (Kd.slice 3 (Kd.int .i64)) 42 W base ok (.slice (some ⟨g0, 0, none⟩) n cap) ys) (hM : Kd.FK (Kd.slice 3 (Kd.int .i64)) W (fun k => ok k ∧ k ≠ g0) x [v]) (hi : i < n) :
  (∃ u, W.cell? ⟨g0, i, none⟩ = some u) ∧ W.frozen? ⟨g0, i, none⟩ = false ∧ Kd.N (Kd.slice 3 (Kd.int .i64)) 42 (W.setCell ⟨g0, i, none⟩ v) base ok (.slice (some ⟨g0, 0, none⟩) n cap) (ys.set i x) ∧ W.grownBy (W.setCell ⟨g0, i, none⟩ v) (some g0) := by
 obtain ⟨c, hcl, -, hcc, hfr⟩ := Kd.N_elem h [] (i : Int) (by omega) (by omega)
 obtain ⟨u, rfl⟩ : ∃ u, c = [u] := List.length_eq_one_iff.1 hcl
 have hs := Kd.N_seg h (i : Int) (by omega) (by omega) (c := [u]) (seg := [v]) (j := 0) (x' := x) (okp := fun k => ok k ∧ k ≠ g0) hcl hcc (by simp [Kd.slice]) (by simpa using hM) (fun k hk => hk)
 rw [Int.toNat_natCast] at hcc hs
 have h0 := hcc 0 u rfl
 have hf0 := hfr 0
 rw [Int.toNat_natCast] at hf0
 refine ⟨⟨u, by simpa [Kd.slice] using h0⟩, by simpa [Kd.slice] using hf0, ?_⟩
 simpa [Kd.slice, World.setCells] using hs
theorem n_clear {base g0 n cap : Nat} {ok : Nat → Prop} : ∀ (m i : Nat) (W : World) (ys : List (List Int)), i + m = n → ys.length = n → Kd.N (Kd.slice 3 (Kd.int .i64)) 42 W base ok (.slice (some ⟨g0, 0, none⟩) n cap) ys →
  ∃ zs : List (List Int), zs.length = n ∧ zs.take i = ys.take i ∧ Kd.N (Kd.slice 3 (Kd.int .i64)) 42 (W.setCells g0 i (List.replicate m (.slice none 0 0))) base ok (.slice (some ⟨g0, 0, none⟩) n cap) zs ∧ W.grownBy (W.setCells g0 i (List.replicate m (.slice none 0 0))) (some g0) := by
 intro m
 induction m with
 | zero => intro i W ys _ hy h; exact ⟨ys, hy, rfl, h, ⟨rfl, rfl, rfl, Nat.le_refl _, fun _ _ _ => rfl⟩⟩
 | succ m ih =>
  intro i W ys hi hy h
  obtain ⟨-, -, h1, h2⟩ := n_put (x := []) (v := .slice none 0 0) (i := i) h (fun W' _ => ⟨none, 0, rfl, Nat.le_refl _, Kd.C_nil _ _⟩) (by omega)
  obtain ⟨zs, z1, z2, z3, z4⟩ := ih (i + 1) _ (ys.set i []) (by omega) (by rw [List.length_set]; exact hy) h1
  refine ⟨zs, z1, ?_, by rw [List.replicate_succ, World.setCells]; exact z3, by rw [List.replicate_succ, World.setCells]; exact h2.trans z4⟩
  have h5 := congrArg (List.take i) z2
  rw [List.take_take, List.take_take, show min i (i + 1) = i by omega] at h5
  rw [h5, List.take_set_of_le (Nat.le_refl i)]
theorem deleteFunc_some (qx gx base g0 cap : Nat) (ok : Nat → Prop) (l : List (List Int)) (del : List Int → Bool) (wb W : World) (hN : Kd.N (Kd.slice 3 (Kd.int .i64)) 42 W base ok (.slice (some ⟨g0, 0, none⟩) l.length cap) l) (hwb : wb.grownBy W (some g0)) (hD : DelAt qx gx (some g0) wb l del) (hex : ∃ j : Nat, j < l.length ∧ del (rd_L2 l j) = true) :
  Calls Try.prog 51 #[.slice (some ⟨g0, 0, none⟩) l.length cap, .func (.func 52) #[] #[.pointer (some ⟨qx, 0, none⟩), .pointer (some ⟨gx, 0, none⟩)]] W fun e w' => ∃ m : Nat, e = .returned (.slice (some ⟨g0, 0, none⟩) m cap) ∧ m = (l.filter fun x => !del x).length ∧ Kd.N (Kd.slice 3 (Kd.int .i64)) 42 w' base ok (.slice (some ⟨g0, 0, none⟩) m cap) (l.filter fun x => !del x) ∧ W.grownBy w' (some g0) := by
 have HN := Aside0.mk hN
 have HWB := Aside0.mk hwb
 have HD := Aside0.mk hD
 have HEX := Aside0.mk hex
 have HI : Aside0 (Calls Try.prog 61 #[.slice (some ⟨g0, 0, none⟩) l.length cap, .func (.func 52) #[] #[.pointer (some ⟨qx, 0, none⟩), .pointer (some ⟨gx, 0, none⟩)]] W fun e w' => ∃ i : Nat, e = .returned (.int .i64 i) ∧ i < l.length ∧ del (rd_L2 l i) = true ∧ (∀ j : Nat, j < i → del (rd_L2 l j) = false) ∧ Below W.heap.size W w') := ⟨(indexFunc_calls qx gx base (some g0) (some ⟨g0, 0, none⟩) cap ok l del wb W hN hwb hD).mono (by
  rintro e w' ⟨r, rfl, h | ⟨i, rfl, h1, h2, h3⟩, hb⟩
  ·obtain ⟨j, hj, hdj⟩ := hex
   rw [h.2 j hj] at hdj; cases hdj
  ·exact ⟨i, rfl, h1, h2, h3, hb⟩)⟩
 obtain ⟨-, hcap, hC0⟩ := Kd.N_reads' hN
 have hlb : l.length ≤ 9223372036854775807 := Kd.C_max hC0
 clear hN hwb hD hex hC0
 go_enter Try.func51, Try.ntmps51
 go_wp2_with (go_at_call 61; refine HI.out.mono ?_; rintro e w1 ⟨i0, rfl, hi0, hdi, hfi, hb⟩; have HDI := Aside0.mk hdi; have HFI := Aside0.mk hfi; have HB1 := Aside0.mk hb; have hne := ne_minus i0; clear hdi hfi hb)
 have HF0 := Aside0.mk (filter_first HDI.out HFI.out hi0)
 have HG0 := Aside0.mk (grown_of_below HB1.out (some g0))
 have HN1 := Aside0.mk (Kd.N_below HN.out HB1.out)
 clear HI HDI HFI HB1 HEX hne
 go_loopw [5, 6] (fun ii jj wr => ∃ (i j : Nat) (ys : List (List Int)), i < j ∧ j ≤ l.length ∧ ii = .int .i64 i ∧ jj = .int .i64 j ∧ Aside0 (ys.length = l.length) ∧ Aside0 (ys.take i = (l.take j).filter fun x => !del x) ∧ Aside0 (∀ m : Nat, j ≤ m → rd_L2 ys m = rd_L2 l m) ∧ Aside0 (Kd.N (Kd.slice 3 (Kd.int .i64)) 42 wr base ok (.slice (some ⟨g0, 0, none⟩) l.length cap) ys) ∧ Aside0 (W.grownBy wr (some g0))) (fun _ jj _ => l.length - (intOf jj).toNat)
 case atStart => exact ⟨i0, i0 + 1, l, by omega, by omega, rfl, by go_num, ⟨rfl⟩, HF0, ⟨fun _ _ => rfl⟩, HN1, HG0⟩
 case round =>
  clear HF0 HG0 HN1
  obtain ⟨i, j, ys, hij, hj, rfl, rfl, HYL, HT, HR, HN2, HG⟩ := hrel
  by_cases hjl : j < l.length
  ·obtain ⟨c, hcl, hFK, hcc, -⟩ := Kd.N_elem HN2.out [] (j : Int) (by omega) (by omega)
   rw [show ys.getD (j : Int).toNat [] = rd_L2 l j from HR.out j (Nat.le_refl _)] at hFK
   rw [Int.toNat_natCast] at hcc
   obtain ⟨Aj, cj, rfl, hle, hF⟩ := Kd.FK_slice_open hFK
   have hx0 : wr.cell? ⟨g0, j, none⟩ = some (.slice Aj (rd_L2 l j).length cj) := by have h := hcc 0 _ rfl; simpa [Kd.slice] using h
   have HM := Aside0.mk (HD.out wr Aj cj (rd_L2 l j) (HWB.out.trans HG.out) (rd_L2_mem hjl) hle (Kd.F_now hF))
   have HFK := Aside0.mk hFK
   have hj0 : (0 : Int) ≤ (j : Int) := by omega
   have hj1 : (j : Int) < (l.length : Int) := by omega
   have hi0' : (0 : Int) ≤ (i : Int) := by omega
   have hi1 : (i : Int) < (l.length : Int) := by omega
   have HTJ := Aside0.mk (show (l.take (j + 1)).filter (fun x => !del x) = (l.take j).filter (fun x => !del x) ++ (if del (rd_L2 l j) then [] else [rd_L2 l j]) from filter_next hjl)
   have HRX := Aside0.mk (show ∃ x, x = rd_L2 l j from ⟨_, rfl⟩)
   clear hcl hFK hcc hle hF
   cases hb : del (rd_L2 l j) with
   | true =>
    rw [hb] at HM HTJ
    clear hb
    go_wp2_with (go_at_call 52; refine HM.out.mono ?_; rintro e w2 ⟨rfl, hb1⟩; have HB2 := Aside0.mk hb1; clear hb1)
    go_roundw
    case rel => exact ⟨i, j + 1, ys, by omega, by omega, rfl, by go_num, HYL, ⟨by rw [HTJ.out, HT.out]; simp⟩, ⟨fun m hm => HR.out m (by omega)⟩, ⟨Kd.N_below HN2.out HB2.out⟩, ⟨HG.out.trans (grown_of_below HB2.out _)⟩⟩
    case measure => exact (show l.length - ((j : Int) + 1).toNat < l.length - ((j : Int)).toNat by omega)
   | false =>
    rw [hb] at HM HTJ
    clear hb
    go_wp2_with (go_at_call 52; refine HM.out.mono ?_; rintro e w2 ⟨rfl, hb1⟩; obtain ⟨q1, q2, q3⟩ := n_put (Kd.N_below HN2.out hb1) (Kd.FK_below HFK.out hb1) (show i < l.length by omega); have HB2 := Aside0.mk hb1; have HN3 := Aside0.mk q3.1; have HG3 := Aside0.mk q3.2; obtain ⟨q0, q1⟩ := q1; clear q3 hb1)
    go_roundw
    case rel => exact ⟨i + 1, j + 1, ys.set i (rd_L2 l j), by omega, by omega, by go_num, by go_num, ⟨by rw [List.length_set]; exact HYL.out⟩, ⟨by rw [take_set_next (by rw [HYL.out]; omega), HTJ.out, HT.out]; simp⟩, ⟨fun m hm => by rw [rd_L2_set (by omega)]; exact HR.out m (by omega)⟩, HN3, ⟨(HG.out.trans (grown_of_below HB2.out _)).trans HG3.out⟩⟩
    case measure => exact (show l.length - ((j : Int) + 1).toNat < l.length - ((j : Int)).toNat by omega)
  ·obtain rfl : j = l.length := by omega
   have hcl := Lib.run_clear_slice (P := Try.prog) wr 27 42 0 (.slice none 0 0) Try.underlying27 zeroDiv rfl rfl g0 i (l.length - i) (cap - i) (by omega) (fun j hj => by
    obtain ⟨⟨u, hu⟩, -⟩ := n_put (x := []) (v := .slice none 0 0) (i := i + j) HN2.out (fun W' _ => ⟨none, 0, rfl, Nat.le_refl _, Kd.C_nil _ _⟩) (by omega)
    rw [hu]; rfl) (fun j hj => (n_put (x := []) (v := .slice none 0 0) (i := i + j) HN2.out (fun W' _ => ⟨none, 0, rfl, Nat.le_refl _, Kd.C_nil _ _⟩) (by omega)).2.1)
   obtain ⟨zs, z1, z2, z3, z4⟩ := n_clear (l.length - i) i wr ys (by omega) HYL.out HN2.out
   have HZ1 := Aside0.mk z1
   have HZ2 := Aside0.mk z2
   have HZ3 := Aside0.mk z3
   have HZ4 := Aside0.mk z4
   have hi0 : (0 : Int) ≤ (i : Int) := by omega
   have hi1 : (i : Int) ≤ (l.length : Int) := by omega
   have hi2 : (i : Int) ≤ (cap : Int) := by omega
   have hci : ¬ cap = i := by omega
   clear z1 z2 z3 z4
   generalize wr.setCells g0 i (List.replicate (l.length - i) (.slice none 0 0)) = w9 at hcl HZ3 HZ4
   go_wp2
   go_ret
   have hft : (l.filter fun x => !del x) = zs.take i := by
    have h := HT.out
    rw [List.take_length] at h
    rw [← h, HZ2.out]
   have hml : i = (l.filter fun x => !del x).length := by rw [hft, List.length_take, HZ1.out]; omega
   refine ⟨i, rfl, hml, ?_, HG.out.trans HZ4.out⟩
   rw [hft]
   exact Kd.N_take HZ3.out (by rw [HZ1.out]; omega)
theorem filter_none {l : List (List Int)} {del : List Int → Bool} (h : ∀ j : Nat, j < l.length → del (rd_L2 l j) = false) : (l.filter fun x => !del x) = l := by
 rw [List.filter_eq_self]
 intro x hx
 obtain ⟨j, hj, rfl⟩ := List.mem_iff_getElem.1 hx
 have h3 := h j hj
 have e : rd_L2 l j = l[j] := by simp [rd_L2, List.getD_eq_getElem?_getD, List.getElem?_eq_getElem hj]
 rw [e] at h3
 simp [h3]
theorem deleteFunc_none (qx gx base : Nat) (row : Option Nat) (A : Option Addr) (cap : Nat) (ok : Nat → Prop) (l : List (List Int)) (del : List Int → Bool) (wb W : World) (hN : Kd.N (Kd.slice 3 (Kd.int .i64)) 42 W base ok (.slice A l.length cap) l) (hwb : wb.grownBy W row) (hD : DelAt qx gx row wb l del) (hex : ∀ j : Nat, j < l.length → del (rd_L2 l j) = false) :
  Calls Try.prog 51 #[.slice A l.length cap, .func (.func 52) #[] #[.pointer (some ⟨qx, 0, none⟩), .pointer (some ⟨gx, 0, none⟩)]] W fun e w' => e = .returned (.slice A l.length cap) ∧ Below W.heap.size W w' := by
 have HI : Aside0 (Calls Try.prog 61 #[.slice A l.length cap, .func (.func 52) #[] #[.pointer (some ⟨qx, 0, none⟩), .pointer (some ⟨gx, 0, none⟩)]] W fun e w' => e = .returned (.int .i64 (-1)) ∧ Below W.heap.size W w') := ⟨(indexFunc_calls qx gx base row A cap ok l del wb W hN hwb hD).mono (by
  rintro e w' ⟨r, rfl, ⟨rfl, h⟩ | ⟨i, rfl, h1, h2, h3⟩, hb⟩
  ·exact ⟨rfl, hb⟩
  ·rw [hex i h1] at h2; cases h2)⟩
 clear hN hwb hD hex
 go_enter Try.func51, Try.ntmps51
 go_wp2_with (go_at_call 61; refine HI.out.mono ?_; rintro e w1 ⟨rfl, hb⟩; have HB1 := Aside0.mk hb; clear hb)
 go_ret
 exact ⟨rfl, HB1.out⟩
def risesTo (x : List Int) (q : Int) (r : Nat → List Int) (k : Nat) : Bool := (List.range k).any fun v => decide ((v : Int) ≠ q) && decide (rd x v < rd (r v) v)
theorem risesTo_succ (x : List Int) (q : Int) (r : Nat → List Int) (k : Nat) : risesTo x q r (k + 1) = (risesTo x q r k || (decide ((k : Int) ≠ q) && decide (rd x k < rd (r k) k))) := by simp [risesTo, List.range_succ, List.any_append]
theorem risesTo_true {x : List Int} {q : Int} {r : Nat → List Int} {k n : Nat} (hk : k < n) (hq : (k : Int) ≠ q) (h : rd x k < rd (r k) k) : risesTo x q r n = true := by
 unfold risesTo
 rw [List.any_eq_true]
 exact ⟨k, List.mem_range.2 hk, by simp [hq, h]⟩
theorem maximal1_calls (K : Nat) (N : Int) (A0 : Option Addr) (c0 : Nat) (E : List S66) (q : Int) (qx gx : Nat) (A : Option Addr) (c : Nat) (x : List Int) (r : Nat → List Int) (W : World) (hr0 : Kd.C k66 W A0 E.length E) (hc0 : E.length ≤ c0) (hg : W.heap[gx]? = some (.cells #[.int .i64 N, .slice A0 E.length c0] 24 (0, 0))) (hq : W.heap[qx]? = some (.cells #[.int .i64 q] 3 (0, 0)))
  (hx : Kd.C (Kd.int .i64) W A x.length x) (hc : x.length ≤ c) (hr : ∀ v : Nat, v < x.length → (v : Int) ≠ q → superstable_raised.f K N E q x v = some (r v) ∧ v < (r v).length) :
  Calls Try.prog 52 #[.slice A x.length c, .pointer (some ⟨qx, 0, none⟩), .pointer (some ⟨gx, 0, none⟩)] W fun e w' => e = .returned (.bool (risesTo x q r x.length)) ∧ Below W.heap.size W w' := by
 have HR0 := Aside0.mk hr0
 have HG := Aside0.mk hg
 have HQ := Aside0.mk hq
 have HX := Aside0.mk hx
 have HR := Aside0.mk hr
 have hlb : x.length ≤ 9223372036854775807 := Kd.C_max hx
 clear hr0 hg hq hx hr
 go_enter Try.func52, Try.ntmps52
 go_wp2
 go_loopw [10] (fun i wr => ∃ k : Nat, k ≤ x.length ∧ i = .int .i64 k ∧ Aside0 (risesTo x q r k = false) ∧ Aside0 (Below W.heap.size W wr)) (fun i _ => x.length - (intOf i).toNat)
 case atStart => exact ⟨0, by omega, rfl, ⟨rfl⟩, ⟨Below.refl _ _⟩⟩
 case round =>
  obtain ⟨k, hk, rfl, HF, HB⟩ := hrel
  have hq0 : wr.cell? ⟨qx, 0, none⟩ = some (.int .i64 q) := (blk_cell (blk_below HQ.out HB.out) 0).trans rfl
  have hg0 : wr.cell? ⟨gx, 0, none⟩ = some (.int .i64 N) := (blk_cell (blk_below HG.out HB.out) 0).trans rfl
  have hg1 : wr.cell? ⟨gx, 1, none⟩ = some (.slice A0 E.length c0) := (blk_cell (blk_below HG.out HB.out) 1).trans rfl
  have hu := Try.underlying24
  by_cases hkl : k < x.length
  ·have hC := Kd.C_below HX.out HB.out
   have HC := Aside0.mk hC
   obtain ⟨ad, rfl, hx0⟩ := Kd.at_int hC k (by omega) (by omega)
   rw [Int.toNat_natCast] at hx0
   have hk0 : (0 : Int) ≤ (k : Int) := by omega
   have hk1 : (k : Int) < (x.length : Int) := by omega
   clear hC
   by_cases hkq : (k : Int) = q
   ·have HS := Aside0.mk (show risesTo x q r (k + 1) = false from by rw [risesTo_succ, HF.out]; simp [hkq])
    have hqb : ((k : Int) == q) = true := by simpa using hkq
    have HKQ := Aside0.mk hkq
    clear hkq
    go_wp2
    go_roundw
    case rel => exact ⟨k + 1, by omega, by go_num, HS, HB⟩
    case measure => exact (show x.length - ((k : Int) + 1).toNat < x.length - ((k : Int)).toNat by omega)
   ·have hqb : ((k : Int) == q) = false := by simpa using hkq
    obtain ⟨hrf, hrl⟩ := HR.out k hkl hkq
    have HRF := Aside0.mk (superstable_raised.calls K N A0 c0 E q (some ad) c x k (r k) wr (Kd.C_below HR0.out HB.out) hc0 HC.out hc hrf)
    have HKQ := Aside0.mk hkq
    clear hkq hrf
    by_cases hup : rd x k < rd (r k) k
    ·have HT := Aside0.mk (risesTo_true (n := x.length) hkl HKQ.out hup)
     have hk2 : (k : Int) < ((r k).length : Int) := by omega
     go_wp2_with (go_at_call 53; refine HRF.out.mono ?_; rintro e w1 ⟨v1, rfl, hr1, hb1⟩; obtain ⟨Ar, cr, rfl⟩ := Kd.R_slice hr1; obtain ⟨-, -, hC1⟩ := Kd.R_reads' hr1; obtain ⟨ad1, rfl, hy⟩ := Kd.at_int hC1 k (by omega) (by omega); rw [Int.toNat_natCast] at hy; have HB1 := Aside0.mk hb1; clear hr1 hb1 hC1)
     go_ret
     exact ⟨by rw [HT.out]; rfl, HB.out.trans (HB1.out.mono HB.out.size)⟩
    ·have HS := Aside0.mk (show risesTo x q r (k + 1) = false from by rw [risesTo_succ, HF.out]; simp [hup])
     have hup' : ¬ rd (r k) k > rd x k := hup
     have hk2 : (k : Int) < ((r k).length : Int) := by omega
     go_wp2_with (go_at_call 53; refine HRF.out.mono ?_; rintro e w1 ⟨v1, rfl, hr1, hb1⟩; obtain ⟨Ar, cr, rfl⟩ := Kd.R_slice hr1; obtain ⟨-, -, hC1⟩ := Kd.R_reads' hr1; obtain ⟨ad1, rfl, hy⟩ := Kd.at_int hC1 k (by omega) (by omega); rw [Int.toNat_natCast] at hy; have HB1 := Aside0.mk hb1; clear hr1 hb1 hC1)
     go_roundw
     case rel => exact ⟨k + 1, by omega, by go_num, HS, ⟨HB.out.trans (HB1.out.mono HB.out.size)⟩⟩
     case measure => exact (show x.length - ((k : Int) + 1).toNat < x.length - ((k : Int)).toNat by omega)
  ·obtain rfl : k = x.length := by omega
   go_wp2
   go_ret
   exact ⟨by rw [HF.out]; rfl, HB.out⟩
theorem top_bad (k : Nat) (N : Int) (A0 : Option Addr) (c0 : Nat) (E : List S66) (q : Int) (l : List (List Int)) (t : Int) (w : World) (hr0 : Kd.C k66 w A0 E.length E) (hc0 : E.length ≤ c0) (hf : superstable_All.f k N E q = some (l, t)) (ht : t ≠ 0) :
  Calls Try.prog 20 #[.agg #[.int .i64 N, .slice A0 E.length c0], .int .i64 q] w fun e w' => e = .returned (.tuple #[.slice none 0 0, .int .i64 t]) ∧ Below w.heap.size w w' := by
 have hu := Try.underlying24
 have Hf := Aside0.mk hf
 have hne : (t != 0) = true := by simpa using ht
 have HX := Aside0.mk (blk_alloc (heap_alloc_new w (.cells #[.int .i64 N, .slice A0 E.length c0] 24)) (.cells #[.int .i64 q] 3))
 have hg0 : ((w.alloc (.cells #[.int .i64 N, .slice A0 E.length c0] 24)).alloc (.cells #[.int .i64 q] 3)).cell? ⟨w.heap.size, 0, none⟩ = some (.int .i64 N) := (blk_cell HX.out 0).trans rfl
 have hg1 : ((w.alloc (.cells #[.int .i64 N, .slice A0 E.length c0] 24)).alloc (.cells #[.int .i64 q] 3)).cell? ⟨w.heap.size, 1, none⟩ = some (.slice A0 E.length c0) := (blk_cell HX.out 1).trans rfl
 clear hf ht
 go_enter Try.func20, Try.ntmps20
 go_wp2_with (go_at_call 12; refine (superstable_All.calls k N A0 c0 E q l t _ (Kd.C_alloc (Kd.C_alloc hr0 _) _) hc0 Hf.out).mono ?_; rintro e w1 ⟨v, rfl, hN, hb⟩; have HB := Aside0.mk (below_step (below_alloc (below_alloc (Below.refl w.heap.size w) _) _) hb); clear hN hb)
 go_ret2
 exact ⟨rfl, HB.out⟩
theorem top_good (k K : Nat) (N : Int) (A0 : Option Addr) (c0 : Nat) (E : List S66) (q : Int) (l : List (List Int)) (r : List Int → Nat → List Int) (w : World) (hr0 : Kd.C k66 w A0 E.length E) (hc0 : E.length ≤ c0) (hf : superstable_All.f k N E q = some (l, 0)) (hr : ∀ x ∈ l, ∀ v : Nat, v < x.length → (v : Int) ≠ q → superstable_raised.f K N E q x v = some (r x v) ∧ v < (r x v).length) :
  Calls Try.prog 20 #[.agg #[.int .i64 N, .slice A0 E.length c0], .int .i64 q] w fun e w' => ∃ v, e = .returned (.tuple #[v, .int .i64 0]) ∧ Kd.N (Kd.slice 3 (Kd.int .i64)) 42 w' w.heap.size (fun k_ => (w.heap.size ≤ k_)) v (l.filter fun x => !risesTo x q (r x) x.length) ∧ Below w.heap.size w w' := by
 have hu := Try.underlying24
 have Hf := Aside0.mk hf
 have HX := Aside0.mk (blk_alloc (heap_alloc_new w (.cells #[.int .i64 N, .slice A0 E.length c0] 24)) (.cells #[.int .i64 q] 3))
 have HQ := Aside0.mk (heap_alloc2_new w (.cells #[.int .i64 N, .slice A0 E.length c0] 24) (.cells #[.int .i64 q] 3))
 have hg0 : ((w.alloc (.cells #[.int .i64 N, .slice A0 E.length c0] 24)).alloc (.cells #[.int .i64 q] 3)).cell? ⟨w.heap.size, 0, none⟩ = some (.int .i64 N) := (blk_cell HX.out 0).trans rfl
 have hg1 : ((w.alloc (.cells #[.int .i64 N, .slice A0 E.length c0] 24)).alloc (.cells #[.int .i64 q] 3)).cell? ⟨w.heap.size, 1, none⟩ = some (.slice A0 E.length c0) := (blk_cell HX.out 1).trans rfl
 have HR := Aside0.mk hr
 clear hf hr
 go_enter Try.func20, Try.ntmps20
 go_wp2_with (go_at_call 12; refine (superstable_All.calls k N A0 c0 E q l 0 _ (Kd.C_alloc (Kd.C_alloc hr0 _) _) hc0 Hf.out).mono ?_; rintro e w1 ⟨v, rfl, hN, hb⟩; obtain ⟨Av, cv, rfl⟩ := Kd.N_slice hN; have HB := Aside0.mk (below_step (below_alloc (below_alloc (Below.refl w.heap.size w) _) _) hb); have HX1 := Aside0.mk (blk_below HX.out hb); have HQ1 := Aside0.mk (blk_below HQ.out hb); have HN := Aside0.mk hN; clear hN hb)
 have hW0 : w.heap.size + 2 = ((w.alloc (.cells #[.int .i64 N, .slice A0 E.length c0] 24)).alloc (.cells #[.int .i64 q] 3)).heap.size := by simp
 rw [← hW0] at HN
 have HDA : Aside0 (∀ row, (∀ g, row = some g → w.heap.size + 2 ≤ g) → DelAt (w.heap.size + 1) w.heap.size row w1 l (fun x => risesTo x q (r x) x.length)) := ⟨fun row hrow W' A c x hgr hxl hc hx => by
  have hB : Below w.heap.size w W' := pw_below_grown HB.out row HB.out.size hgr (fun g e => by have := hrow g e; omega)
  refine maximal1_calls K N A0 c0 E q (w.heap.size + 1) w.heap.size A c x (r x) W' (Kd.C_below hr0 hB) hc0 ((hgr.block _ (blk_lt HX1.out) (fun e => by have := hrow _ e.symm; omega)).trans HX1.out) ((hgr.block _ (blk_lt HQ1.out) (fun e => by have := hrow _ e.symm; omega)).trans HQ1.out) hx hc (HR.out x hxl)⟩
 have hsz := HB.out.size
 by_cases hex : ∃ j : Nat, j < l.length ∧ (fun x => risesTo x q (r x) x.length) (rd_L2 l j) = true
 ·obtain ⟨g0, cap, hv, hge, -, -⟩ := Kd.N_form HN.out (by obtain ⟨j, hj, _⟩ := hex; omega)
  injection hv with hv1 hv2 hv3
  subst hv1 hv3
  refine (deleteFunc_some (w.heap.size + 1) w.heap.size (w.heap.size + 2) g0 cv (fun k => w.heap.size + 2 ≤ k) l _ w1 w1 HN.out ⟨rfl, rfl, rfl, Nat.le_refl _, fun _ _ _ => rfl⟩ (HDA.out (some g0) (fun g e => by injection e with e; omega)) hex).mono ?_
  rintro e w2 ⟨m, rfl, hm, hN2, hg2⟩
  have HN2 := Aside0.mk (Kd.N_mono (Kd.N_lower (base' := w.heap.size) hN2 (by omega)) (ok' := fun k => w.heap.size ≤ k) (fun k hk => by omega))
  have HB2 := Aside0.mk (pw_below_grown HB.out (some g0) HB.out.size hg2 (fun k e => by injection e with e; omega))
  clear hm hN2 hg2 hex hW0
  go_wp2
  go_ret2
  exact ⟨_, rfl, HN2.out, HB2.out⟩
 ·have hno : ∀ j : Nat, j < l.length → (fun x => risesTo x q (r x) x.length) (rd_L2 l j) = false := fun j hj => by
   cases h : (fun x => risesTo x q (r x) x.length) (rd_L2 l j) with
   | false => rfl
   | true => exact absurd ⟨j, hj, h⟩ hex
  have HFN := Aside0.mk (filter_none (l := l) (del := fun x => risesTo x q (r x) x.length) hno)
  refine (deleteFunc_none (w.heap.size + 1) w.heap.size (w.heap.size + 2) none Av cv (fun k => w.heap.size + 2 ≤ k) l _ w1 w1 HN.out ⟨rfl, rfl, rfl, Nat.le_refl _, fun _ _ _ => rfl⟩ (HDA.out none (fun g e => by cases e)) hno).mono ?_
  rintro e w2 ⟨rfl, hb2⟩
  have HN2 := Aside0.mk (Kd.N_below (Kd.N_mono (Kd.N_lower (base' := w.heap.size) HN.out (by omega)) (ok' := fun k => w.heap.size ≤ k) (fun k hk => by omega)) hb2)
  have HB2 := Aside0.mk (HB.out.trans (hb2.mono HB.out.size))
  clear hb2 hex hno hW0
  go_wp2
  go_ret2
  exact ⟨.slice Av l.length cv, rfl, by rw [HFN.out]; exact HN2.out, HB2.out⟩
def okRaised (k : Nat) (N : Int) (E : List S66) (q : Int) (l : List (List Int)) : Bool := l.all fun c => (List.range c.length).all fun v => decide ((v : Int) = q) || match superstable_raised.f k N E q c v with | some r => decide (v < r.length) | none => false
def raisedAt (k : Nat) (N : Int) (E : List S66) (q : Int) (c : List Int) (v : Nat) : List Int := (superstable_raised.f k N E q c v).getD []
theorem okRaised_get {k : Nat} {N : Int} {E : List S66} {q : Int} {l : List (List Int)} (h : okRaised k N E q l = true) : ∀ x ∈ l, ∀ v : Nat, v < x.length → (v : Int) ≠ q → superstable_raised.f k N E q x v = some (raisedAt k N E q x v) ∧ v < (raisedAt k N E q x v).length := by
 intro x hx v hv hq
 have h1 := List.all_eq_true.1 (List.all_eq_true.1 h x hx) v (List.mem_range.2 hv)
 rw [decide_eq_false hq, Bool.false_or] at h1
 unfold raisedAt
 cases hr : superstable_raised.f k N E q x v with
 | none => rw [hr] at h1; cases h1
 | some r => rw [hr] at h1; exact ⟨rfl, by simpa using h1⟩
def superstable_Maximal.f (k : Nat) (N : Int) (E : List S66) (q : Int) : Option (List (List Int) × Int) :=
 (superstable_All.f k N E q).bind fun t => if t.2 = 0 then (if okRaised k N E q t.1 = true then some (t.1.filter fun x => !risesTo x q (raisedAt k N E q x) x.length, 0) else none) else some ([], t.2)
theorem superstable_Maximal.calls (k : Nat) (a0_0 : Int) (A0_1 : Option Addr) (c0_1 : Nat) (l0_1 : List (S66)) (a1 : Int) (r1 : List (List Int)) (r2 : Int) (w : World) (hr0_1 : Kd.C k66 w A0_1 l0_1.length l0_1) (hc0_1 : l0_1.length ≤ c0_1) (h : superstable_Maximal.f k a0_0 l0_1 a1 = some (r1, r2)) :
  Calls Try.prog 20 #[.agg #[.int .i64 a0_0, .slice A0_1 l0_1.length c0_1], .int .i64 a1] w fun e w' => ∃ v0_ : Value, e = .returned (.tuple #[v0_, .int .i64 r2]) ∧ Kd.N (Kd.slice 3 (Kd.int .i64)) 42 w' w.heap.size (fun k_ => (w.heap.size ≤ k_)) v0_ r1 ∧ Below w.heap.size w w' := by
 unfold superstable_Maximal.f at h
 obtain ⟨⟨l, t⟩, ht, H⟩ := Option.bind_eq_some_iff.mp h
 simp only at H
 by_cases h0 : t = 0
 ·subst h0
  rw [if_pos rfl] at H
  by_cases hv : okRaised k a0_0 l0_1 a1 l = true
  ·rw [if_pos hv] at H
   simp only [Option.some.injEq, Prod.mk.injEq] at H
   obtain ⟨rfl, rfl⟩ := H
   exact top_good k k a0_0 A0_1 c0_1 l0_1 a1 l _ w hr0_1 hc0_1 ht (okRaised_get hv)
  ·rw [if_neg hv] at H; cases H
 ·rw [if_neg h0] at H
  simp only [Option.some.injEq, Prod.mk.injEq] at H
  obtain ⟨rfl, rfl⟩ := H
  refine (top_bad k a0_0 A0_1 c0_1 l0_1 a1 l t w hr0_1 hc0_1 ht h0).mono ?_
  rintro e w' ⟨rfl, hb⟩
  exact ⟨_, rfl, Kd.N_nil _ _ _ _ _, hb⟩
end Go.Proofs.Ytffdiakgjakngaa.P
