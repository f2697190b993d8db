/- A part of the proof that SuperstableDuals answers true (text 9 of 15): own walks and plain laws; no conditions. -/
import Derived.Test.YtffdiakgjakngaaDuals8
namespace Go.Proofs.Ytffdiakgjakngaa.P
open Go.RowKit Go.Proofs.YtffdiakgjakngaaW.PrintWords Go.Proofs.YtffdiakgjakngaaW.PrintLast Go.Proofs.YtffdiakgjakngaaW.PrintMore
set_option linter.unusedVariables false
set_option linter.unusedSimpArgs false
set_option maxHeartbeats 8000000
set_option maxRecDepth 100000
def sumE (f : S66 → Int) : List S66 → Int
 | [] => 0
 | x :: E => f x + sumE f E
theorem sumE_append (f : S66 → Int) : ∀ A B, sumE f (A ++ B) = sumE f A + sumE f B
 | [], B => by simp [sumE]
 | x :: A, B => by rw [List.cons_append, sumE, sumE, sumE_append f A B]; omega
theorem sumE_congr {f g : S66 → Int} : ∀ {E : List S66}, (∀ x ∈ E, f x = g x) → sumE f E = sumE g E
 | [], _ => rfl
 | x :: E, h => by rw [sumE, sumE, h x (List.mem_cons_self ..), sumE_congr fun y hy => h y (List.mem_cons_of_mem _ hy)]
theorem sumE_add (f g : S66 → Int) : ∀ E, sumE (fun x => f x + g x) E = sumE f E + sumE g E
 | [] => rfl
 | x :: E => by rw [sumE, sumE, sumE, sumE_add f g E]; omega
theorem sumE_zero {f : S66 → Int} : ∀ {E : List S66}, (∀ x ∈ E, f x = 0) → sumE f E = 0
 | [], _ => rfl
 | x :: E, h => by rw [sumE, h x (List.mem_cons_self ..), sumE_zero fun y hy => h y (List.mem_cons_of_mem _ hy)]; rfl
theorem btw_sum (a b : Int) : ∀ {E : List S66}, E.Pairwise Before → btw E a b = sumE (fun x => if x.f0 = min a b ∧ x.f1 = max a b then x.f2 else 0) E
 | [], _ => rfl
 | x :: E, h => by
  obtain ⟨h1, h2⟩ := List.pairwise_cons.1 h
  rw [btw_cons, sumE]
  by_cases hx : x.f0 = min a b ∧ x.f1 = max a b
  ·rw [if_pos hx, if_pos hx, sumE_zero]
   ·omega
   ·intro y hy
    rw [if_neg]
    have := h1 y hy
    unfold Before at this
    omega
  ·rw [if_neg hx, if_neg hx, btw_sum a b h2]; omega
def conU (v : Int) (u : Int) (x : S66) : Int := if x.f0 ≠ x.f1 ∧ (x.f0 = v ∧ x.f1 < u ∨ x.f1 = v ∧ x.f0 < u) then x.f2 else 0
theorem valN_sum {N : Int} {E : List S66} (hR : RightE N E) (v : Nat) : ∀ u : Nat, valN E v u = sumE (conU v u) E
 | 0 => by
  rw [sumE_zero]
  ·rfl
  ·intro x hx
   have := hR.ok x hx
   simp [edgeOk] at this
   rw [conU, if_neg (by omega)]
 | u + 1 => by
  rw [valN, valN_sum hR v u]
  by_cases huv : u = v
  ·rw [if_pos huv]
   rw [sumE_congr (f := conU v (u + 1 : Nat)) (g := conU v u)]
   ·omega
   ·intro x hx
    have hl := hR.le x hx
    unfold conU
    by_cases h : x.f0 ≠ x.f1 ∧ (x.f0 = (v : Int) ∧ x.f1 < (u : Int) ∨ x.f1 = (v : Int) ∧ x.f0 < (u : Int))
    ·rw [if_pos h, if_pos (by omega)]
    ·rw [if_neg h, if_neg (by omega)]
  ·rw [if_neg huv, btw_sum _ _ hR.order, ← sumE_add]
   refine (sumE_congr fun x hx => ?_).symm
   have hl := hR.le x hx
   show conU v (u + 1 : Nat) x = conU v u x + _
   unfold conU
   by_cases h : x.f0 ≠ x.f1 ∧ (x.f0 = (v : Int) ∧ x.f1 < (u : Int) ∨ x.f1 = (v : Int) ∧ x.f0 < (u : Int))
   ·rw [if_pos h, if_pos (by omega), if_neg (by omega)]; omega
   ·rw [if_neg h]
    by_cases h2 : x.f0 = min (u : Int) v ∧ x.f1 = max (u : Int) v
    ·rw [if_pos h2, if_pos (by omega)]; omega
    ·rw [if_neg h2, if_neg (by omega)]; rfl
def c1 (v : Nat) (x : Nat × Int × Int) : Int := if x.2.1 = x.2.2 then 0 else (if x.2.1.toNat = v then 1 else 0) + (if x.2.2.toNat = v then 1 else 0)
theorem rd_incr (l : List Int) (a v : Nat) (h : v < l.length) : rd (incr l a) v = rd l v + (if a = v then 1 else 0) := by
 simp only [incr, rd, Int.toNat_natCast, List.getD_eq_getElem?_getD, List.getElem?_set]
 by_cases e : a = v
 ·subst e; simp [h]
 ·simp [e]
theorem rd_valStep (l : List Int) (x : Nat × Int × Int) (v : Nat) (h : v < l.length) : rd (valStep l x) v = rd l v + c1 v x := by
 unfold valStep c1
 by_cases e : x.2.1 = x.2.2
 ·rw [if_pos e, if_pos e]; omega
 ·rw [if_neg e, if_neg e, rd_incr _ _ _ (by rw [incr_length]; exact h), rd_incr _ _ _ h]; omega
def sumS (v : Nat) : List (Nat × Int × Int) → Int
 | [] => 0
 | x :: L => c1 v x + sumS v L
theorem sumS_append (v : Nat) : ∀ A B, sumS v (A ++ B) = sumS v A + sumS v B
 | [], B => by simp [sumS]
 | x :: A, B => by rw [List.cons_append, sumS, sumS, sumS_append v A B]; omega
theorem rd_fold (v : Nat) : ∀ (L : List (Nat × Int × Int)) (l : List Int), v < l.length → rd (L.foldl valStep l) v = rd l v + sumS v L
 | [], l, _ => by simp [sumS]
 | x :: L, l, h => by
  rw [List.foldl_cons, rd_fold v L _ (by rw [valStep_length]; exact h), rd_valStep _ _ _ h, sumS]; omega
theorem sumS_some (v s : Nat) (a b : Int) : ∀ j : Nat, sumS v (someOf s a b j) = j * c1 v (0, a, b)
 | 0 => by simp [someOf, sumS]
 | j + 1 => by
  rw [someOf, sumS_append, sumS_some v s a b j, sumS, sumS, show c1 v (s + j, a, b) = c1 v (0, a, b) from rfl, Int.natCast_add, Int.add_mul, Int.natCast_one, Int.one_mul, Int.add_zero]
theorem sumS_singles {N : Int} {E : List S66} (hR : RightE N E) (v : Nat) (hv : (v : Int) < N) : ∀ k, k ≤ E.length → sumS v (singlesTo E k) = sumE (conU v N) (E.take k)
 | 0, _ => by simp [singlesTo, sumS, sumE]
 | k + 1, hk => by
  have e : rd_T66 E k = E[k] := by simp [rd_T66, List.getD_eq_getElem?_getD, List.getElem?_eq_getElem (by omega : k < E.length)]
  have ho := hR.ok E[k] (List.getElem_mem _)
  simp [edgeOk] at ho
  rw [singlesTo, sumS_append, sumS_singles hR v hv k (by omega), sumS_some, e, List.take_succ_eq_append_getElem (by omega), sumE_append]
  simp only [sumE, Int.add_zero]
  congr 1
  have h2 : ((E[k].f2.toNat : Nat) : Int) = E[k].f2 := by omega
  rw [h2]
  unfold c1 conU
  by_cases h : E[k].f0 = E[k].f1
  ·rw [if_pos h, if_neg (by omega), Int.mul_zero]
  ·rw [if_neg h]
   by_cases ha : E[k].f0 = v
   ·rw [if_pos (show E[k].f0.toNat = v by omega), if_neg (show ¬ E[k].f1.toNat = v by omega), if_pos (by omega)]; omega
   ·rw [if_neg (show ¬ E[k].f0.toNat = v by omega)]
    by_cases hb : E[k].f1 = v
    ·rw [if_pos (show E[k].f1.toNat = v by omega), if_pos (by omega)]; omega
    ·rw [if_neg (show ¬ E[k].f1.toNat = v by omega), if_neg (by omega)]; omega
theorem rd_pileVal {n : Nat} {E : List S66} (hR : RightE n E) (v : Nat) (hv : v < n) : rd (pileVal n E) v = valN E v n := by
 unfold pileVal valTo
 rw [List.take_length, rd_fold v _ _ (by simpa using hv), sumS_singles hR v (by omega) E.length (Nat.le_refl _), List.take_length, valN_sum hR v n]
 have : rd (List.replicate n (0 : Int)) v = 0 := by simp [rd, List.getD_eq_getElem?_getD, List.getElem?_replicate]; split <;> rfl
 omega
theorem pileVal_eq {n : Nat} {E : List S66} (hR : RightE n E) : pileVal n E = valL E n := by
 apply List.ext_getElem?
 intro i
 by_cases hi : i < n
 ·have h := rd_pileVal hR i hi
  rw [← rd_valL E n i hi] at h
  have h1 : i < (pileVal n E).length := by rw [pileVal_length]; exact hi
  have h2 : i < (valL E n).length := by simpa [valL] using hi
  simp only [rd, Int.toNat_natCast, List.getD_eq_getElem?_getD, List.getElem?_eq_getElem h1, List.getElem?_eq_getElem h2, Option.getD_some] at h
  rw [List.getElem?_eq_getElem h1, List.getElem?_eq_getElem h2, h]
 ·rw [List.getElem?_eq_none (by rw [pileVal_length]; omega), List.getElem?_eq_none (by simp [valL]; omega)]
def sandpileref17_In.f (a0 : Int) : Option (Bool) := if a0 ≥ (-1048576) then (some (decide (a0 ≤ 1048576))) else (some false)
theorem sandpileref17_In.calls (a0 : Int) (r : Bool) (w : World) (h : sandpileref17_In.f a0 = some r) :
  Calls Try.prog 100 #[.int .i64 a0] w fun e w' => e = .returned (.bool r) ∧ Drawn0 w w' := by
 have H : (if a0 ≥ (-1048576) then (some (decide (a0 ≤ 1048576))) else (some false)) = some r := h
 clear h
 by_cases c2 : a0 ≥ (-1048576)
 ·rw [if_pos c2] at H
  have c2b0 : decide ((-1048576) ≤ a0) = true := decide_eq_true c2
  clear c2
  obtain rfl := Option.some.inj H
  go_enter Try.func100, Try.ntmps100
  go_wp2
  go_ret
  exact ⟨zT, by repeat (first | exact Drawn0.refl _ | apply Drawn0.step)⟩
 ·rw [if_neg c2] at H
  have c2b0 : decide ((-1048576) ≤ a0) = false := decide_eq_false c2
  clear c2
  obtain rfl := Option.some.inj H
  go_enter Try.func100, Try.ntmps100
  go_wp2
  go_ret
  exact ⟨zT, by repeat (first | exact Drawn0.refl _ | apply Drawn0.step)⟩
mutual
def sandpileref17_Check.j0 : Nat → List Int → Int → Bool → Option (Int)
 | 0, _, _, _ => none
 | k + 1, x0, x1, x11 => if x11 = true then (some 2) else (if (x0.length : Int) = x1 then (sandpileref17_Check.l0 k x0 x1 0) else (some 8))
def sandpileref17_Check.l0 : Nat → List Int → Int → Int → Option (Int)
 | 0, _, _, _ => none
 | k + 1, x0, x1, x5 => if x5 < x1 then (if 0 ≤ x5 then (if x5 < (x0.length : Int) then ((sandpileref17_In.f (rd x0 x5)).bind fun t307 => (if t307 = true then (sandpileref17_Check.l0 k x0 x1 (wrap64 (x5 + 1))) else (some 2))) else (none)) else (none)) else (some 0)
end
def sandpileref17_Check.f (k : Nat) (l0 : List Int) (a1 : Int) : Option (Int) := if a1 < 1 then (sandpileref17_Check.j0 k l0 a1 true) else (sandpileref17_Check.j0 k l0 a1 (decide (a1 > 12)))
theorem sandpileref17_Check.calls (k : Nat) (A0 : Option Addr) (c0 : Nat) (l0 : List Int) (a1 : Int) (r : Int) (w : World) (hr0 : Kd.C (Kd.int .i64) w A0 l0.length l0) (hc0 : l0.length ≤ c0) (h : sandpileref17_Check.f k l0 a1 = some r) :
  Calls Try.prog 86 #[.slice A0 l0.length c0, .int .i64 a1] w fun e w' => e = .returned (.int .i64 r) ∧ Drawn0 w w' := by
 have HR0 := Aside0.mk hr0
 have HC0 := Aside0.mk hc0
 clear hr0 hc0
 have H : (if a1 < 1 then (sandpileref17_Check.j0 k l0 a1 true) else (sandpileref17_Check.j0 k l0 a1 (decide (a1 > 12)))) = some r := h
 clear h
 have HC3 := Aside0.mk H
 clear H
 go_enter Try.func86, Try.ntmps86
 go_upto_region 1 with (fail)
 go_cut [11] (fun v11 wc => ∃ (kq : Nat) (x11_2 : Bool), v11 = .bool x11_2 ∧ Aside0 (sandpileref17_Check.j0 kq l0 a1 x11_2 = some r) ∧ Aside0 (kq ≤ k) ∧ Drawn0 w wc)
 case first =>
  have H := HC3.out
  clear HC3
  by_cases c4 : a1 < 1
  ·rw [if_pos c4] at H
   have c4b0 : decide (a1 < 1) = true := decide_eq_true c4
   clear c4
   (first | rw [c4b0] | (simp only [i64_w, i32_w]; rw [c4b0]) | skip)
   have H' := Aside0.mk H
   clear H
   go_wp2
   go_meet
   case rel => exact ⟨_, (true), zT, H', ⟨by first | omega | exact Nat.le_refl _⟩, by repeat (first | exact Drawn0.refl _ | apply Drawn0.step)⟩
  ·rw [if_neg c4] at H
   have c4b0 : decide (a1 < 1) = false := decide_eq_false c4
   clear c4
   (first | rw [c4b0] | (simp only [i64_w, i32_w]; rw [c4b0]) | skip)
   have H' := Aside0.mk H
   clear H
   go_wp2
   go_meet
   case rel => exact ⟨_, (decide (a1 > 12)), zT, H', ⟨by first | omega | exact Nat.le_refl _⟩, by repeat (first | exact Drawn0.refl _ | apply Drawn0.step)⟩
 case rest =>
  clear HC3
  try clear p2
  try clear c4
  try clear c4b0
  obtain ⟨kq, x11_2, rfl, HA, HJ2, ⟨mc2, rfl⟩⟩ := hcut
  cases kq with
  | zero => exact absurd HA.out (by simp [sandpileref17_Check.j0])
  | succ kj2 =>
   have H := HA.out
   clear HA
   simp only [sandpileref17_Check.j0] at H
   by_cases c5 : x11_2 = true
   ·subst c5
    have H1 : (some 2) = some r := by rw [if_pos rfl] at H; exact H
    clear H
    have H := H1
    clear H1
    obtain rfl := Option.some.inj H
    go_wp2
    go_ret
    exact ⟨zT, by repeat (first | exact Drawn0.refl _ | apply Drawn0.step)⟩
   ·replace c5 := Bool.eq_false_iff.mpr c5
    subst c5
    have H1 : (if (l0.length : Int) = a1 then (sandpileref17_Check.l0 kj2 l0 a1 0) else (some 8)) = some r := by rw [if_neg (show ¬ (false = true) by decide)] at H; exact H
    clear H
    have H := H1
    clear H1
    by_cases c6 : (l0.length : Int) = a1
    ·rw [if_pos c6] at H
     have c6b0 : ((l0.length : Int) == a1) = true := beq_iff_eq.mpr c6
     have c6b1 : ((l0.length : Int) != a1) = false := bne_eq_false_iff_eq.mpr c6
     clear c6
     have H' := Aside0.mk H
     clear H
     go_wp2
     go_loopg [5] kj2 (fun kq v5 w' => ∃ (x5_2 : Int), v5 = .int .i64 x5_2 ∧ Aside0 (sandpileref17_Check.l0 kq l0 a1 x5_2 = some r) ∧ Aside0 (kq ≤ kj2) ∧ Drawn0 w w')
     case atStart => exact ⟨(0), zT, H', ⟨Nat.le_refl _⟩, by repeat (first | exact Drawn0.refl _ | apply Drawn0.step)⟩
     case round =>
      clear H'
      try clear c2
      try clear p2
      try clear c4
      try clear c4b0
      try clear c5
      try clear c6
      try clear c6b0
      try clear c6b1
      try clear p2
      obtain ⟨x5_2, rfl, HA, HK2, ⟨m2, rfl⟩⟩ := hrel
      cases gk with
      | zero => exact absurd HA.out (by simp [sandpileref17_Check.l0])
      | succ k2 =>
       have H := HA.out
       clear HA
       simp only [sandpileref17_Check.l0] at H
       by_cases c7 : x5_2 < a1
       ·rw [if_pos c7] at H
        have c7b0 : decide (x5_2 < a1) = true := decide_eq_true c7
        clear c7
        by_cases c8 : 0 ≤ x5_2
        ·rw [if_pos c8] at H
         have c8b0 : decide (0 ≤ x5_2) = true := decide_eq_true c8
         clear c8
         by_cases c9 : x5_2 < (l0.length : Int)
         ·rw [if_pos c9] at H
          have c9b0 : decide (x5_2 < (l0.length : Int)) = true := decide_eq_true c9
          clear c9
          replace H := Option.bind_eq_some_iff.mp H
          obtain ⟨t307, A100, H⟩ := H
          replace H : (if t307 = true then (sandpileref17_Check.l0 k2 l0 a1 (wrap64 (x5_2 + 1))) else (some 2)) = some r := H
          have A10 := Aside0.mk A100
          clear A100
          by_cases c11 : t307 = true
          ·subst c11
           have H1 : (sandpileref17_Check.l0 k2 l0 a1 (wrap64 (x5_2 + 1))) = some r := by rw [if_pos rfl] at H; exact H
           clear H
           have H := H1
           clear H1
           have H' := Aside0.mk H
           clear H
           have p306 : 0 ≤ (x5_2 : Int) := of_decide_eq_true ‹_›
           have q306 : x5_2 < (l0.length : Int) := of_decide_eq_true ‹_›
           obtain ⟨ad306, e306, hx306_0⟩ := Kd.at_int HR0.out x5_2 p306 q306
           cases e306
           replace p306 := eq_true p306
           replace q306 := eq_true q306
           go_wp2_with (first | ((with_reducible refine gate_callee (f := 100) rfl ?_); refine zL (some 25) Try.func100 #[.int .i64 (rd l0 x5_2)] ?_; (with_reducible refine (sandpileref17_In.calls (rd l0 x5_2) true _ A10.out).mono ?_); rintro e w' ⟨rfl, ⟨nd, rfl⟩⟩; refine ⟨_, rfl, ?_⟩))
           go_roundg k2
           case measure => have := HJ2.out; have := HK2.out; omega
           case rel => exact ⟨(wrap64 (x5_2 + 1)), zT, H', ⟨by have := HJ2.out; have := HK2.out; omega⟩, by repeat (first | exact Drawn0.refl _ | apply Drawn0.step)⟩
          ·replace c11 := Bool.eq_false_iff.mpr c11
           subst c11
           have H1 : (some 2) = some r := by rw [if_neg (show ¬ (false = true) by decide)] at H; exact H
           clear H
           have H := H1
           clear H1
           obtain rfl := Option.some.inj H
           have p306 : 0 ≤ (x5_2 : Int) := of_decide_eq_true ‹_›
           have q306 : x5_2 < (l0.length : Int) := of_decide_eq_true ‹_›
           obtain ⟨ad306, e306, hx306_0⟩ := Kd.at_int HR0.out x5_2 p306 q306
           cases e306
           replace p306 := eq_true p306
           replace q306 := eq_true q306
           go_wp2_with (first | ((with_reducible refine gate_callee (f := 100) rfl ?_); refine zL (some 25) Try.func100 #[.int .i64 (rd l0 x5_2)] ?_; (with_reducible refine (sandpileref17_In.calls (rd l0 x5_2) false _ A10.out).mono ?_); rintro e w' ⟨rfl, ⟨nd, rfl⟩⟩; refine ⟨_, rfl, ?_⟩))
           go_ret
           exact ⟨zT, by repeat (first | exact Drawn0.refl _ | apply Drawn0.step)⟩
         ·rw [if_neg c9] at H
          exact absurd H (by simp)
        ·rw [if_neg c8] at H
         exact absurd H (by simp)
       ·rw [if_neg c7] at H
        have c7b0 : decide (x5_2 < a1) = false := decide_eq_false c7
        clear c7
        obtain rfl := Option.some.inj H
        go_wp2
        go_ret
        exact ⟨zT, by repeat (first | exact Drawn0.refl _ | apply Drawn0.step)⟩
    ·rw [if_neg c6] at H
     have c6b0 : ((l0.length : Int) == a1) = false := beq_eq_false_iff_ne.mpr c6
     have c6b1 : ((l0.length : Int) != a1) = true := bne_iff_ne.mpr c6
     obtain rfl := Option.some.inj H
     go_wp2
     go_ret
     exact ⟨zT, by repeat (first | exact Drawn0.refl _ | apply Drawn0.step)⟩
def sandpileref19_Check.l0 : Nat → Int → List Int → Int → Int → List (S66) → Option (Int)
 | 0, _, _, _, _, _ => none
 | k + 1, x1, x2, x9, x309000, x309001 => if x9 < x309000 then (if x9 = x1 then (sandpileref19_Check.l0 k x1 x2 (wrap64 (x9 + 1)) x309000 x309001) else (if 0 ≤ x9 then (if x9 < (x2.length : Int) then (if (rd x2 x9) < 0 then (some 2) else (sandpileref19_Check.l0 k x1 x2 (wrap64 (x9 + 1)) x309000 x309001)) else (none)) else (none))) else (some 0)
def sandpileref19_Check.f (k : Nat) (a0_0 : Int) (l0_1 : List (S66)) (a1 : Int) (l2 : List Int) : Option (Int) := (sandpileref19_Rooted.f k a0_0 l0_1 a1).bind fun t309 => (if t309 = 0 then ((sandpileref17_Check.f k l2 a0_0).bind fun t310 => (if t310 = 0 then (sandpileref19_Check.l0 k a1 l2 0 a0_0 l0_1) else (some t310))) else (some t309))
theorem sandpileref19_Check.calls (k : Nat) (a0_0 : Int) (A0_1 : Option Addr) (c0_1 : Nat) (l0_1 : List (S66)) (a1 : Int) (A2 : Option Addr) (c2 : Nat) (l2 : List Int) (r : Int) (w : World) (hr0_1 : Kd.C k66 w A0_1 l0_1.length l0_1) (hc0_1 : l0_1.length ≤ c0_1) (hr2 : Kd.C (Kd.int .i64) w A2 l2.length l2) (hc2 : l2.length ≤ c2) (h : sandpileref19_Check.f k a0_0 l0_1 a1 l2 = some r) :
  Calls Try.prog 64 #[.agg #[.int .i64 a0_0, .slice A0_1 l0_1.length c0_1], .int .i64 a1, .slice A2 l2.length c2] w fun e w' => e = .returned (.int .i64 r) ∧ Below w.heap.size w w' := by
 have hu24 := Try.underlying24
 have HR0_1 := Aside0.mk hr0_1
 have HC0_1 := Aside0.mk hc0_1
 clear hr0_1 hc0_1
 have HR2 := Aside0.mk hr2
 have HC2 := Aside0.mk hc2
 clear hr2 hc2
 have HB := Aside0.mk (Below.refl w.heap.size w)
 have H : ((sandpileref19_Rooted.f k a0_0 l0_1 a1).bind fun t309 => (if t309 = 0 then ((sandpileref17_Check.f k l2 a0_0).bind fun t310 => (if t310 = 0 then (sandpileref19_Check.l0 k a1 l2 0 a0_0 l0_1) else (some t310))) else (some t309))) = some r := h
 clear h
 replace H := Option.bind_eq_some_iff.mp H
 obtain ⟨t309, A40, H⟩ := H
 replace H : (if t309 = 0 then ((sandpileref17_Check.f k l2 a0_0).bind fun t310 => (if t310 = 0 then (sandpileref19_Check.l0 k a1 l2 0 a0_0 l0_1) else (some t310))) else (some t309)) = some r := H
 have A4 := Aside0.mk A40
 clear A40
 by_cases c5 : t309 = 0
 ·rw [if_pos c5] at H
  have c5b0 : (t309 == 0) = true := beq_iff_eq.mpr c5
  have c5b1 : (t309 != 0) = false := bne_eq_false_iff_eq.mpr c5
  clear c5
  replace H := Option.bind_eq_some_iff.mp H
  obtain ⟨t310, A60, H⟩ := H
  replace H : (if t310 = 0 then (sandpileref19_Check.l0 k a1 l2 0 a0_0 l0_1) else (some t310)) = some r := H
  have A6 := Aside0.mk A60
  clear A60
  by_cases c7 : t310 = 0
  ·rw [if_pos c7] at H
   have c7b0 : (t310 == 0) = true := beq_iff_eq.mpr c7
   have c7b1 : (t310 != 0) = false := bne_eq_false_iff_eq.mpr c7
   clear c7
   have H' := Aside0.mk H
   clear H
   go_enter Try.func64, Try.ntmps64
   go_wp2_with (first | ((with_reducible refine gate_dst (N := 3) rfl ?_); refine zX 3 #[.int .i64 a0_0, .slice A0_1 l0_1.length c0_1] 24 ?_; intro gb308 hg w8 hbox hb; have BK308 := Aside0.mk (hbox); have GW308 := zG HB hg; have GE308 := zG HB hg; replace HB := zS HB hb; clear hb hbox hg; obtain ⟨hcz9_0, hcz9_1, hfz9_0, hfz9_1⟩ := zD2 BK308) | ((with_reducible refine gate_callee (f := 15) rfl ?_); refine zL (some 12) Try.func15 #[.agg #[.int .i64 a0_0, .slice A0_1 l0_1.length c0_1], .int .i64 a1] ?_; (with_reducible refine (sandpileref19_Rooted.calls k a0_0 _ _ l0_1 a1 t309 _ ?side1 ?side2 A4.out).mono ?_); (case side1 => exact Kd.C_below HR0_1.out zB); (case side2 => exact HC0_1.out); rintro e w10 ⟨rfl, hb⟩; refine ⟨_, rfl, ?_⟩; replace BK308 := zb BK308 hb; replace HB := zS HB hb; (try clear hb); obtain ⟨hcz11_0, hcz11_1, hfz11_0, hfz11_1⟩ := zD2 BK308) | ((with_reducible refine gate_callee (f := 86) rfl ?_); refine zL (some 19) Try.func86 #[.slice A2 l2.length c2, .int .i64 a0_0] ?_; (with_reducible refine (sandpileref17_Check.calls k _ _ l2 a0_0 t310 _ ?side1 ?side2 A6.out).mono ?_); (case side1 => exact Kd.C_below HR2.out zB); (case side2 => exact HC2.out); rintro e w' ⟨rfl, ⟨nd, rfl⟩⟩; refine ⟨_, rfl, ?_⟩))
   go_loopg [9] k (fun kq v9 w' => ∃ (x9_1 : Int), v9 = .int .i64 x9_1 ∧ Aside0 (sandpileref19_Check.l0 kq a1 l2 x9_1 a0_0 l0_1 = some r) ∧ Aside0 (kq ≤ k) ∧ Aside0 (w'.heap[gb308]? = some (.cells #[.int .i64 a0_0, (.slice A0_1 l0_1.length c0_1)] 24 (0, 0))) ∧ Aside0 (Below w.heap.size w w'))
   case atStart => exact ⟨(0), zT, H', ⟨Nat.le_refl _⟩, ⟨zK BK308⟩, ⟨zB⟩⟩
   case round =>
    clear H'
    try clear c1
    try clear c2
    try clear p2
    try clear c5
    try clear c5b0
    try clear c5b1
    try clear c6
    try clear c7
    try clear c7b0
    try clear c7b1
    try clear c8
    try clear hcz11_0
    try clear hcz11_1
    try clear hcz9_0
    try clear hcz9_1
    try clear hfz11_0
    try clear hfz11_1
    try clear hfz9_0
    try clear hfz9_1
    obtain ⟨x9_1, rfl, HA, HK1, BK308, HB⟩ := hrel
    cases gk with
    | zero => exact absurd HA.out (by simp [sandpileref19_Check.l0])
    | succ k1 =>
     have H := HA.out
     clear HA
     simp only [sandpileref19_Check.l0] at H
     by_cases c12 : x9_1 < a0_0
     ·rw [if_pos c12] at H
      have c12b0 : decide (x9_1 < a0_0) = true := decide_eq_true c12
      clear c12
      by_cases c13 : x9_1 = a1
      ·rw [if_pos c13] at H
       have c13b0 : (x9_1 == a1) = true := beq_iff_eq.mpr c13
       have c13b1 : (x9_1 != a1) = false := bne_eq_false_iff_eq.mpr c13
       clear c13
       have H' := Aside0.mk H
       clear H
       obtain ⟨hcz14_0, hcz14_1, hfz14_0, hfz14_1⟩ := zD2 BK308
       go_wp2
       go_roundg k1
       case measure => have := HK1.out; omega
       case rel => exact ⟨(wrap64 (x9_1 + 1)), zT, H', ⟨by have := HK1.out; omega⟩, ⟨zK BK308⟩, ⟨zB⟩⟩
      ·rw [if_neg c13] at H
       have c13b0 : (x9_1 == a1) = false := beq_eq_false_iff_ne.mpr c13
       have c13b1 : (x9_1 != a1) = true := bne_iff_ne.mpr c13
       by_cases c15 : 0 ≤ x9_1
       ·rw [if_pos c15] at H
        have c15b0 : decide (0 ≤ x9_1) = true := decide_eq_true c15
        clear c15
        by_cases c16 : x9_1 < (l2.length : Int)
        ·rw [if_pos c16] at H
         have c16b0 : decide (x9_1 < (l2.length : Int)) = true := decide_eq_true c16
         clear c16
         by_cases c17 : (rd l2 x9_1) < 0
         ·rw [if_pos c17] at H
          have c17b0 : decide ((rd l2 x9_1) < 0) = true := decide_eq_true c17
          clear c17
          obtain rfl := Option.some.inj H
          obtain ⟨hcz18_0, hcz18_1, hfz18_0, hfz18_1⟩ := zD2 BK308
          have p311 : 0 ≤ (x9_1 : Int) := of_decide_eq_true ‹_›
          have q311 : x9_1 < (l2.length : Int) := of_decide_eq_true ‹_›
          obtain ⟨ad311, e311, hx311_0⟩ := Kd.at_int HR2.out x9_1 p311 q311
          cases e311
          replace hx311_0 := (HB.out.cell (World.block_lt_of_cell? w _ hx311_0)).trans hx311_0
          replace p311 := eq_true p311
          replace q311 := eq_true q311
          go_wp2
          go_ret
          exact ⟨zE, zB⟩
         ·rw [if_neg c17] at H
          have c17b0 : decide ((rd l2 x9_1) < 0) = false := decide_eq_false c17
          clear c17
          have H' := Aside0.mk H
          clear H
          obtain ⟨hcz19_0, hcz19_1, hfz19_0, hfz19_1⟩ := zD2 BK308
          have p311 : 0 ≤ (x9_1 : Int) := of_decide_eq_true ‹_›
          have q311 : x9_1 < (l2.length : Int) := of_decide_eq_true ‹_›
          obtain ⟨ad311, e311, hx311_0⟩ := Kd.at_int HR2.out x9_1 p311 q311
          cases e311
          replace hx311_0 := (HB.out.cell (World.block_lt_of_cell? w _ hx311_0)).trans hx311_0
          replace p311 := eq_true p311
          replace q311 := eq_true q311
          go_wp2
          go_roundg k1
          case measure => have := HK1.out; omega
          case rel => exact ⟨(wrap64 (x9_1 + 1)), zT, H', ⟨by have := HK1.out; omega⟩, ⟨zK BK308⟩, ⟨zB⟩⟩
        ·rw [if_neg c16] at H
         exact absurd H (by simp)
       ·rw [if_neg c15] at H
        exact absurd H (by simp)
     ·rw [if_neg c12] at H
      have c12b0 : decide (x9_1 < a0_0) = false := decide_eq_false c12
      clear c12
      obtain rfl := Option.some.inj H
      obtain ⟨hcz20_0, hcz20_1, hfz20_0, hfz20_1⟩ := zD2 BK308
      go_wp2
      go_ret
      exact ⟨zE, zB⟩
  ·rw [if_neg c7] at H
   have c7b0 : (t310 == 0) = false := beq_eq_false_iff_ne.mpr c7
   have c7b1 : (t310 != 0) = true := bne_iff_ne.mpr c7
   obtain rfl := Option.some.inj H
   go_enter Try.func64, Try.ntmps64
   go_wp2_with (first | ((with_reducible refine gate_dst (N := 3) rfl ?_); refine zX 3 #[.int .i64 a0_0, .slice A0_1 l0_1.length c0_1] 24 ?_; intro gb308 hg w21 hbox hb; have BK308 := Aside0.mk (hbox); have GW308 := zG HB hg; have GE308 := zG HB hg; replace HB := zS HB hb; clear hb hbox hg; obtain ⟨hcz22_0, hcz22_1, hfz22_0, hfz22_1⟩ := zD2 BK308) | ((with_reducible refine gate_callee (f := 15) rfl ?_); refine zL (some 12) Try.func15 #[.agg #[.int .i64 a0_0, .slice A0_1 l0_1.length c0_1], .int .i64 a1] ?_; (with_reducible refine (sandpileref19_Rooted.calls k a0_0 _ _ l0_1 a1 t309 _ ?side1 ?side2 A4.out).mono ?_); (case side1 => exact Kd.C_below HR0_1.out zB); (case side2 => exact HC0_1.out); rintro e w23 ⟨rfl, hb⟩; refine ⟨_, rfl, ?_⟩; replace BK308 := zb BK308 hb; replace HB := zS HB hb; (try clear hb); obtain ⟨hcz24_0, hcz24_1, hfz24_0, hfz24_1⟩ := zD2 BK308) | ((with_reducible refine gate_callee (f := 86) rfl ?_); refine zL (some 19) Try.func86 #[.slice A2 l2.length c2, .int .i64 a0_0] ?_; (with_reducible refine (sandpileref17_Check.calls k _ _ l2 a0_0 t310 _ ?side1 ?side2 A6.out).mono ?_); (case side1 => exact Kd.C_below HR2.out zB); (case side2 => exact HC2.out); rintro e w' ⟨rfl, ⟨nd, rfl⟩⟩; refine ⟨_, rfl, ?_⟩))
   go_ret
   exact ⟨zE, zB⟩
 ·rw [if_neg c5] at H
  have c5b0 : (t309 == 0) = false := beq_eq_false_iff_ne.mpr c5
  have c5b1 : (t309 != 0) = true := bne_iff_ne.mpr c5
  obtain rfl := Option.some.inj H
  go_enter Try.func64, Try.ntmps64
  go_wp2_with (first | ((with_reducible refine gate_dst (N := 3) rfl ?_); refine zX 3 #[.int .i64 a0_0, .slice A0_1 l0_1.length c0_1] 24 ?_; intro gb308 hg w25 hbox hb; have BK308 := Aside0.mk (hbox); have GW308 := zG HB hg; have GE308 := zG HB hg; replace HB := zS HB hb; clear hb hbox hg; obtain ⟨hcz26_0, hcz26_1, hfz26_0, hfz26_1⟩ := zD2 BK308) | ((with_reducible refine gate_callee (f := 15) rfl ?_); refine zL (some 12) Try.func15 #[.agg #[.int .i64 a0_0, .slice A0_1 l0_1.length c0_1], .int .i64 a1] ?_; (with_reducible refine (sandpileref19_Rooted.calls k a0_0 _ _ l0_1 a1 t309 _ ?side1 ?side2 A4.out).mono ?_); (case side1 => exact Kd.C_below HR0_1.out zB); (case side2 => exact HC0_1.out); rintro e w27 ⟨rfl, hb⟩; refine ⟨_, rfl, ?_⟩; replace BK308 := zb BK308 hb; replace HB := zS HB hb; (try clear hb)))
  go_ret
  exact ⟨zE, zB⟩
def sandpileref23_Check.f (k : Nat) (a0_0 : Int) (l0_1 : List (S66)) (a1 : Int) (l2 : List Int) : Option (Int) := (sandpileref19_Check.f k a0_0 l0_1 a1 l2).bind fun t313 => (if t313 = 0 then (if 0 ≤ a1 then (if a1 < (l2.length : Int) then (if (rd l2 a1) = 0 then (some 0) else (some 3)) else (none)) else (none)) else (some t313))
theorem sandpileref23_Check.calls (k : Nat) (a0_0 : Int) (A0_1 : Option Addr) (c0_1 : Nat) (l0_1 : List (S66)) (a1 : Int) (A2 : Option Addr) (c2 : Nat) (l2 : List Int) (r : Int) (w : World) (hr0_1 : Kd.C k66 w A0_1 l0_1.length l0_1) (hc0_1 : l0_1.length ≤ c0_1) (hr2 : Kd.C (Kd.int .i64) w A2 l2.length l2) (hc2 : l2.length ≤ c2) (h : sandpileref23_Check.f k a0_0 l0_1 a1 l2 = some r) :
  Calls Try.prog 38 #[.agg #[.int .i64 a0_0, .slice A0_1 l0_1.length c0_1], .int .i64 a1, .slice A2 l2.length c2] w fun e w' => e = .returned (.int .i64 r) ∧ Below w.heap.size w w' := by
 have hu24 := Try.underlying24
 have HR0_1 := Aside0.mk hr0_1
 have HC0_1 := Aside0.mk hc0_1
 clear hr0_1 hc0_1
 have HR2 := Aside0.mk hr2
 have HC2 := Aside0.mk hc2
 clear hr2 hc2
 have HB := Aside0.mk (Below.refl w.heap.size w)
 have H : ((sandpileref19_Check.f k a0_0 l0_1 a1 l2).bind fun t313 => (if t313 = 0 then (if 0 ≤ a1 then (if a1 < (l2.length : Int) then (if (rd l2 a1) = 0 then (some 0) else (some 3)) else (none)) else (none)) else (some t313))) = some r := h
 clear h
 replace H := Option.bind_eq_some_iff.mp H
 obtain ⟨t313, A40, H⟩ := H
 replace H : (if t313 = 0 then (if 0 ≤ a1 then (if a1 < (l2.length : Int) then (if (rd l2 a1) = 0 then (some 0) else (some 3)) else (none)) else (none)) else (some t313)) = some r := H
 have A4 := Aside0.mk A40
 clear A40
 by_cases c5 : t313 = 0
 ·rw [if_pos c5] at H
  have c5b0 : (t313 == 0) = true := beq_iff_eq.mpr c5
  have c5b1 : (t313 != 0) = false := bne_eq_false_iff_eq.mpr c5
  clear c5
  by_cases c6 : 0 ≤ a1
  ·rw [if_pos c6] at H
   have c6b0 : decide (0 ≤ a1) = true := decide_eq_true c6
   clear c6
   by_cases c7 : a1 < (l2.length : Int)
   ·rw [if_pos c7] at H
    have c7b0 : decide (a1 < (l2.length : Int)) = true := decide_eq_true c7
    clear c7
    by_cases c8 : (rd l2 a1) = 0
    ·rw [if_pos c8] at H
     have c8b0 : ((rd l2 a1) == 0) = true := beq_iff_eq.mpr c8
     have c8b1 : ((rd l2 a1) != 0) = false := bne_eq_false_iff_eq.mpr c8
     clear c8
     obtain rfl := Option.some.inj H
     go_enter Try.func38, Try.ntmps38
     go_wp2_with (first | ((with_reducible refine gate_dst (N := 3) rfl ?_); refine zX 3 #[.int .i64 a0_0, .slice A0_1 l0_1.length c0_1] 24 ?_; intro gb312 hg w9 hbox hb; have BK312 := Aside0.mk (hbox); have GW312 := zG HB hg; have GE312 := zG HB hg; replace HB := zS HB hb; clear hb hbox hg; obtain ⟨hcz10_0, hcz10_1, hfz10_0, hfz10_1⟩ := zD2 BK312) | ((with_reducible refine gate_callee (f := 64) rfl ?_); refine zL (some 11) Try.func64 #[.agg #[.int .i64 a0_0, .slice A0_1 l0_1.length c0_1], .int .i64 a1, .slice A2 l2.length c2] ?_; (with_reducible refine (sandpileref19_Check.calls k a0_0 _ _ l0_1 a1 _ _ l2 t313 _ ?side1 ?side2 ?side3 ?side4 A4.out).mono ?_); (case side1 => exact Kd.C_below HR0_1.out zB); (case side2 => exact HC0_1.out); (case side3 => exact Kd.C_below HR2.out zB); (case side4 => exact HC2.out); rintro e w11 ⟨rfl, hb⟩; refine ⟨_, rfl, ?_⟩; replace BK312 := zb BK312 hb; replace HB := zS HB hb; (try clear hb); have p314 : 0 ≤ (a1 : Int) := of_decide_eq_true ‹_›; have q314 : a1 < (l2.length : Int) := of_decide_eq_true ‹_›; obtain ⟨ad314, e314, hx314_0⟩ := Kd.at_int HR2.out a1 p314 q314; cases e314; replace hx314_0 := (HB.out.cell (World.block_lt_of_cell? w _ hx314_0)).trans hx314_0; replace p314 := eq_true p314; replace q314 := eq_true q314))
     go_ret
     exact ⟨zE, zB⟩
    ·rw [if_neg c8] at H
     have c8b0 : ((rd l2 a1) == 0) = false := beq_eq_false_iff_ne.mpr c8
     have c8b1 : ((rd l2 a1) != 0) = true := bne_iff_ne.mpr c8
     obtain rfl := Option.some.inj H
     go_enter Try.func38, Try.ntmps38
     go_wp2_with (first | ((with_reducible refine gate_dst (N := 3) rfl ?_); refine zX 3 #[.int .i64 a0_0, .slice A0_1 l0_1.length c0_1] 24 ?_; intro gb312 hg w12 hbox hb; have BK312 := Aside0.mk (hbox); have GW312 := zG HB hg; have GE312 := zG HB hg; replace HB := zS HB hb; clear hb hbox hg; obtain ⟨hcz13_0, hcz13_1, hfz13_0, hfz13_1⟩ := zD2 BK312) | ((with_reducible refine gate_callee (f := 64) rfl ?_); refine zL (some 11) Try.func64 #[.agg #[.int .i64 a0_0, .slice A0_1 l0_1.length c0_1], .int .i64 a1, .slice A2 l2.length c2] ?_; (with_reducible refine (sandpileref19_Check.calls k a0_0 _ _ l0_1 a1 _ _ l2 t313 _ ?side1 ?side2 ?side3 ?side4 A4.out).mono ?_); (case side1 => exact Kd.C_below HR0_1.out zB); (case side2 => exact HC0_1.out); (case side3 => exact Kd.C_below HR2.out zB); (case side4 => exact HC2.out); rintro e w14 ⟨rfl, hb⟩; refine ⟨_, rfl, ?_⟩; replace BK312 := zb BK312 hb; replace HB := zS HB hb; (try clear hb); have p314 : 0 ≤ (a1 : Int) := of_decide_eq_true ‹_›; have q314 : a1 < (l2.length : Int) := of_decide_eq_true ‹_›; obtain ⟨ad314, e314, hx314_0⟩ := Kd.at_int HR2.out a1 p314 q314; cases e314; replace hx314_0 := (HB.out.cell (World.block_lt_of_cell? w _ hx314_0)).trans hx314_0; replace p314 := eq_true p314; replace q314 := eq_true q314))
     go_ret
     exact ⟨zE, zB⟩
   ·rw [if_neg c7] at H
    exact absurd H (by simp)
  ·rw [if_neg c6] at H
   exact absurd H (by simp)
 ·rw [if_neg c5] at H
  have c5b0 : (t313 == 0) = false := beq_eq_false_iff_ne.mpr c5
  have c5b1 : (t313 != 0) = true := bne_iff_ne.mpr c5
  obtain rfl := Option.some.inj H
  go_enter Try.func38, Try.ntmps38
  go_wp2_with (first | ((with_reducible refine gate_dst (N := 3) rfl ?_); refine zX 3 #[.int .i64 a0_0, .slice A0_1 l0_1.length c0_1] 24 ?_; intro gb312 hg w15 hbox hb; have BK312 := Aside0.mk (hbox); have GW312 := zG HB hg; have GE312 := zG HB hg; replace HB := zS HB hb; clear hb hbox hg; obtain ⟨hcz16_0, hcz16_1, hfz16_0, hfz16_1⟩ := zD2 BK312) | ((with_reducible refine gate_callee (f := 64) rfl ?_); refine zL (some 11) Try.func64 #[.agg #[.int .i64 a0_0, .slice A0_1 l0_1.length c0_1], .int .i64 a1, .slice A2 l2.length c2] ?_; (with_reducible refine (sandpileref19_Check.calls k a0_0 _ _ l0_1 a1 _ _ l2 t313 _ ?side1 ?side2 ?side3 ?side4 A4.out).mono ?_); (case side1 => exact Kd.C_below HR0_1.out zB); (case side2 => exact HC0_1.out); (case side3 => exact Kd.C_below HR2.out zB); (case side4 => exact HC2.out); rintro e w17 ⟨rfl, hb⟩; refine ⟨_, rfl, ?_⟩; replace BK312 := zb BK312 hb; replace HB := zS HB hb; (try clear hb)))
  go_ret
  exact ⟨zE, zB⟩
def sandpileref19_Waiting.l0 : Nat → Int → List Int → List Int → Int → Int → List (S66) → Option (List Int)
 | 0, _, _, _, _, _, _ => none
 | k + 1, x1, x2, x7, x8, x354000, x354001 => if x8 < x354000 then (if x8 = x1 then (sandpileref19_Waiting.l0 k x1 x2 x7 (wrap64 (x8 + 1)) x354000 x354001) else (if 0 ≤ x8 then (if x8 < (x2.length : Int) then ((sandpileref08_Valence.f k x354000 x354001 x8).bind fun t355 => (if (rd x2 x8) ≥ t355 then (if x7.length < 17592186044416 then (sandpileref19_Waiting.l0 k x1 x2 (x7 ++ [x8]) (wrap64 (x8 + 1)) x354000 x354001) else (none)) else (sandpileref19_Waiting.l0 k x1 x2 x7 (wrap64 (x8 + 1)) x354000 x354001))) else (none)) else (none))) else (some x7)
def sandpileref19_Waiting.f (k : Nat) (a0_0 : Int) (l0_1 : List (S66)) (a1 : Int) (l2 : List Int) : Option (List Int) := sandpileref19_Waiting.l0 k a1 l2 ([] : List Int) 0 a0_0 l0_1
def sandpileref19_Waiting.T5 : Bool × List (List Nat × List Nat) := (true, [([], []), ([], []), ([0, 1], [0, 1]), ([2], [2]), ([3], [3]), ([3], [3]), ([4, 5, 3], [3, 4, 5]), ([6, 3], [3, 6]), ([3], [3]), ([3], [3]), ([8, 9, 3, 3], [3, 8, 9]), ([7, 10, 3], [3, 7, 10]), ([3, 11], [3, 11])])
def sandpileref19_Waiting.B5 : List Nat := [0, 0, 3, 7, 15, 15, 63, 127, 15, 15, 783, 2047, 4095]
theorem sandpileref19_Waiting.tab5 : rtab .any (opsOf Try.f65 5) = sandpileref19_Waiting.T5 := by kernel_rfl
theorem sandpileref19_Waiting.bits5 : waitsOk sandpileref19_Waiting.T5.2 sandpileref19_Waiting.B5 = true := by kernel_rfl
theorem sandpileref19_Waiting.calls (k : Nat) (a0_0 : Int) (A0_1 : Option Addr) (c0_1 : Nat) (l0_1 : List (S66)) (a1 : Int) (A2 : Option Addr) (c2 : Nat) (l2 : List Int) (r : List Int) (w : World) (hr0_1 : Kd.C k66 w A0_1 l0_1.length l0_1) (hc0_1 : l0_1.length ≤ c0_1) (hr2 : Kd.C (Kd.int .i64) w A2 l2.length l2) (hc2 : l2.length ≤ c2) (h : sandpileref19_Waiting.f k a0_0 l0_1 a1 l2 = some r) :
  Calls Try.prog 65 #[.agg #[.int .i64 a0_0, .slice A0_1 l0_1.length c0_1], .int .i64 a1, .slice A2 l2.length c2] w fun e w' => ∃ v0_ : Value, e = .returned (v0_) ∧ Kd.R (Kd.int .i64) 3 w' w.heap.size (fun _ => True) v0_ r ∧ Below w.heap.size w w' := by
 have hu24 := Try.underlying24
 have HR0_1 := Aside0.mk hr0_1
 have HC0_1 := Aside0.mk hc0_1
 clear hr0_1 hc0_1
 have HR2 := Aside0.mk hr2
 have HC2 := Aside0.mk hc2
 clear hr2 hc2
 have HB := Aside0.mk (Below.refl w.heap.size w)
 have H : (sandpileref19_Waiting.l0 k a1 l2 ([] : List Int) 0 a0_0 l0_1) = some r := h
 clear h
 have H' := Aside0.mk H
 clear H
 go_enter Try.func65, Try.ntmps65
 go_wp2_with (first | ((with_reducible refine gate_dst (N := 3) rfl ?_); refine zX 3 #[.int .i64 a0_0, .slice A0_1 l0_1.length c0_1] 24 ?_; intro gb353 hg w4 hbox hb; have BK353 := Aside0.mk (hbox); have GW353 := zG HB hg; have GE353 := zG HB hg; replace HB := zS HB hb; clear hb hbox hg))
 go_loopg [7, 8] k (fun kq v7 v8 w' => ∃ (x7_1 : List Int) (x8_1 : Int), v8 = .int .i64 x8_1 ∧ Aside0 (sandpileref19_Waiting.l0 kq a1 l2 x7_1 x8_1 a0_0 l0_1 = some r) ∧ Aside0 (kq ≤ k) ∧ Aside0 (Kd.R (Kd.int .i64) 3 w' w.heap.size (fun _ => True) v7 x7_1) ∧ Aside0 (w'.heap[gb353]? = some (.cells #[.int .i64 a0_0, (.slice A0_1 l0_1.length c0_1)] 24 (0, 0))) ∧ Aside0 (Below w.heap.size w w'))
 case atStart => exact ⟨(([] : List Int)), (0), zT, H', ⟨Nat.le_refl _⟩, ⟨by first | exact Kd.R_nil _ _ _ _ _ | exact Kd.N_nil _ _ _ _ _ | exact Kd.V_nil _ _ _ _ _ | exact Kd.Q_nil _ _ _ _ _ | exact Kd.S_nil _ _ _ _ _⟩, ⟨zK BK353⟩, ⟨zB⟩⟩
 case round =>
  clear H'
  try clear c2
  try clear p2
  obtain ⟨x7_1, x8_1, rfl, HA, HK1, HO_7, BK353, HB⟩ := hrel
  cases gk with
  | zero => exact absurd HA.out (by simp [sandpileref19_Waiting.l0])
  | succ k1 =>
   have H := HA.out
   clear HA
   simp only [sandpileref19_Waiting.l0] at H
   by_cases c5 : x8_1 < a0_0
   ·rw [if_pos c5] at H
    have c5b0 : decide (x8_1 < a0_0) = true := decide_eq_true c5
    clear c5
    by_cases c6 : x8_1 = a1
    ·rw [if_pos c6] at H
     have c6b0 : (x8_1 == a1) = true := beq_iff_eq.mpr c6
     have c6b1 : (x8_1 != a1) = false := bne_eq_false_iff_eq.mpr c6
     clear c6
     have H' := Aside0.mk H
     clear H
     obtain ⟨hcz7_0, hcz7_1, hfz7_0, hfz7_1⟩ := zD2 BK353
     try go_wp2
     have n0_ := Aside0.mk (Kd.R_drew HO_7.out)
     have n1_ := Aside0.mk (blk_drew BK353.out)
     have n2_ := Aside0.mk (below_drew1 HB.out)
     clear HO_7
     clear BK353
     clear HB
     have HO_7 := n0_
     have BK353 := n1_
     have HB := n2_
     clear n0_ n1_ n2_
     refine start_ (n := 13) (S := fun w' => True) (ds := []) #[false, false, false, false, false, false, false, false, false, false, false, false, false] (by kernel_rfl) rfl rfl trivial (fun hHeld => ?_); refine with_tabW sandpileref19_Waiting.tab5 sandpileref19_Waiting.bits5 (fun HT_ HW_ => ?_)
     generalize wr.drew = w8 at HO_7 BK353 HB hHeld ⊢
     refine pure_ (i := 0) (N := some 15) (v := ?_) (a' := ?_) #[true, false, false, false, false, false, false, false, false, false, false, false, false] rfl rfl (any_of HT_.out (by kernel_rfl)) (fun _ _ _ h => h) (Or.inl ⟨by rfl, ?_⟩) ?_ ?_
     rotate_left
     ·intro w'
      go_simp
      with_reducible rfl
     rotate_left
     ·simp only [Act.put, List.setIfInBounds_toArray, List.set_cons_zero, List.set_cons_succ, i64_w, i32_w]
      rfl
     refine pure_ (i := 1) (N := some 16) (v := ?_) (a' := ?_) #[true, true, false, false, false, false, false, false, false, false, false, false, false] rfl rfl (any_of HT_.out (by kernel_rfl)) (fun _ _ _ h => h) (Or.inl ⟨by rfl, ?_⟩) ?_ ?_
     rotate_left
     ·intro w'
      go_simp
      with_reducible rfl
     rotate_left
     ·simp only [Act.put, List.setIfInBounds_toArray, List.set_cons_zero, List.set_cons_succ, i64_w, i32_w]
      rfl
     refine pure_ (i := 2) (N := some 17) (v := ?_) (a' := ?_) #[true, true, true, false, false, false, false, false, false, false, false, false, false] rfl rfl (any_of HT_.out (by kernel_rfl)) (fun _ _ _ h => h) (Or.inl ⟨by rfl, ?_⟩) ?_ ?_
     rotate_left
     ·intro w'
      go_simp
      with_reducible rfl
     rotate_left
     ·simp only [Act.put, List.setIfInBounds_toArray, List.set_cons_zero, List.set_cons_succ, i64_w, i32_w]
      rfl
     refine pure_ (i := 3) (N := some 18) (v := ?_) (a' := ?_) #[true, true, true, true, false, false, false, false, false, false, false, false, false] rfl rfl (any_of HT_.out (by kernel_rfl)) (fun _ _ _ h => h) (Or.inl ⟨by rfl, ?_⟩) ?_ ?_
     rotate_left
     ·intro w'
      go_simp
      with_reducible rfl
     rotate_left
     ·simp only [Act.put, List.setIfInBounds_toArray, List.set_cons_zero, List.set_cons_succ, i64_w, i32_w]
      rfl
     refine pure_ (i := 4) (N := some 19) (v := undef) (a' := ?_) #[true, true, true, true, true, false, false, false, false, false, false, false, false] rfl rfl (any_of HT_.out (by kernel_rfl)) (fun _ _ _ h => h) (Or.inr ⟨by rfl, rfl⟩) ?_ ?_
     rotate_left
     ·simp only [Act.put, List.setIfInBounds_toArray, List.set_cons_zero, List.set_cons_succ, i64_w, i32_w]
      rfl
     refine pure_ (i := 5) (N := some 20) (v := undef) (a' := ?_) #[true, true, true, true, true, true, false, false, false, false, false, false, false] rfl rfl (any_of HT_.out (by kernel_rfl)) (fun _ _ _ h => h) (Or.inr ⟨by rfl, rfl⟩) ?_ ?_
     rotate_left
     ·simp only [Act.put, List.setIfInBounds_toArray, List.set_cons_zero, List.set_cons_succ, i64_w, i32_w]
      rfl
     refine pure_ (i := 6) (N := some 21) (v := undef) (a' := ?_) #[true, true, true, true, true, true, true, false, false, false, false, false, false] rfl rfl (any_of HT_.out (by kernel_rfl)) (fun _ _ _ h => h) (Or.inr ⟨by rfl, rfl⟩) ?_ ?_
     rotate_left
     ·simp only [Act.put, List.setIfInBounds_toArray, List.set_cons_zero, List.set_cons_succ, i64_w, i32_w]
      rfl
     refine pure_ (i := 7) (N := some 22) (v := undef) (a' := ?_) #[true, true, true, true, true, true, true, true, false, false, false, false, false] rfl rfl (any_of HT_.out (by kernel_rfl)) (fun _ _ _ h => h) (Or.inr ⟨by rfl, rfl⟩) ?_ ?_
     rotate_left
     ·simp only [Act.put, List.setIfInBounds_toArray, List.set_cons_zero, List.set_cons_succ, i64_w, i32_w]
      rfl
     refine pure_ (i := 8) (N := some 23) (v := undef) (a' := ?_) #[true, true, true, true, true, true, true, true, true, false, false, false, false] rfl rfl (any_of HT_.out (by kernel_rfl)) (fun _ _ _ h => h) (Or.inr ⟨by rfl, rfl⟩) ?_ ?_
     rotate_left
     ·simp only [Act.put, List.setIfInBounds_toArray, List.set_cons_zero, List.set_cons_succ, i64_w, i32_w]
      rfl
     refine pure_ (i := 9) (N := some 24) (v := undef) (a' := ?_) #[true, true, true, true, true, true, true, true, true, true, false, false, false] rfl rfl (any_of HT_.out (by kernel_rfl)) (fun _ _ _ h => h) (Or.inr ⟨by rfl, rfl⟩) ?_ ?_
     rotate_left
     ·simp only [Act.put, List.setIfInBounds_toArray, List.set_cons_zero, List.set_cons_succ, i64_w, i32_w]
      rfl
     refine pure_ (i := 10) (N := some 25) (v := undef) (a' := ?_) #[true, true, true, true, true, true, true, true, true, true, true, false, false] rfl rfl (any_of HT_.out (by kernel_rfl)) (fun _ _ _ h => h) (Or.inr ⟨by rfl, rfl⟩) ?_ ?_
     rotate_left
     ·simp only [Act.put, List.setIfInBounds_toArray, List.set_cons_zero, List.set_cons_succ, i64_w, i32_w]
      rfl
     refine pure_ (i := 11) (N := some 26) (v := undef) (a' := ?_) #[true, true, true, true, true, true, true, true, true, true, true, true, false] rfl rfl (any_of HT_.out (by kernel_rfl)) (fun _ _ _ h => h) (Or.inr ⟨by rfl, rfl⟩) ?_ ?_
     rotate_left
     ·simp only [Act.put, List.setIfInBounds_toArray, List.set_cons_zero, List.set_cons_succ, i64_w, i32_w]
      rfl
     refine pure_ (i := 12) (N := some 27) (v := ?_) (a' := ?_) #[true, true, true, true, true, true, true, true, true, true, true, true, true] rfl rfl (any_of HT_.out (by kernel_rfl)) (fun _ _ _ h => h) (Or.inl ⟨by rfl, ?_⟩) ?_ ?_
     rotate_left
     ·intro w'
      go_simp
      with_reducible rfl
     rotate_left
     ·simp only [Act.put, List.setIfInBounds_toArray, List.set_cons_zero, List.set_cons_succ, i64_w, i32_w]
      rfl
     refine done_ (done_of HT_.out (by kernel_rfl)) ?_
     try go_wp2
     go_roundg k1
     case measure => have := HK1.out; omega
     case rel => exact ⟨(x7_1), (wrap64 (x8_1 + 1)), zT, H', ⟨by have := HK1.out; omega⟩, ⟨zR HO_7⟩, ⟨zK BK353⟩, ⟨zB⟩⟩
    ·rw [if_neg c6] at H
     have c6b0 : (x8_1 == a1) = false := beq_eq_false_iff_ne.mpr c6
     have c6b1 : (x8_1 != a1) = true := bne_iff_ne.mpr c6
     by_cases c9 : 0 ≤ x8_1
     ·rw [if_pos c9] at H
      have c9b0 : decide (0 ≤ x8_1) = true := decide_eq_true c9
      clear c9
      by_cases c10 : x8_1 < (l2.length : Int)
      ·rw [if_pos c10] at H
       have c10b0 : decide (x8_1 < (l2.length : Int)) = true := decide_eq_true c10
       clear c10
       replace H := Option.bind_eq_some_iff.mp H
       obtain ⟨t355, A110, H⟩ := H
       replace H : (if (rd l2 x8_1) ≥ t355 then (if x7_1.length < 17592186044416 then (sandpileref19_Waiting.l0 k1 a1 l2 (x7_1 ++ [x8_1]) (wrap64 (x8_1 + 1)) a0_0 l0_1) else (none)) else (sandpileref19_Waiting.l0 k1 a1 l2 x7_1 (wrap64 (x8_1 + 1)) a0_0 l0_1)) = some r := H
       have A11 := Aside0.mk A110
       clear A110
       by_cases c12 : (rd l2 x8_1) ≥ t355
       ·rw [if_pos c12] at H
        have c12b0 : decide (t355 ≤ (rd l2 x8_1)) = true := decide_eq_true c12
        clear c12
        by_cases c13 : x7_1.length < 17592186044416
        ·rw [if_pos c13] at H
         have LMc13 := Aside0.mk c13
         clear c13
         obtain ⟨y356, hy356⟩ : ∃ y_ : List Int, y_ = (x7_1 ++ [x8_1]) := ⟨_, rfl⟩
         replace H : (sandpileref19_Waiting.l0 k1 a1 l2 y356 (wrap64 (x8_1 + 1)) a0_0 l0_1) = some r := by first | (rw [hy356]; with_reducible exact H) | (have H2_ := (Option.bind_some _ _).symm.trans H; rw [hy356]; with_reducible exact H2_) | (have H2_ := (Option.bind_some _ _).symm.trans H; with_reducible exact H2_) | with_reducible exact H | (rw [hy356]; exact H) | exact H
         have Ny356 := Aside0.mk hy356
         clear hy356
         have H' := Aside0.mk H
         clear H
         obtain ⟨hcz14_0, hcz14_1, hfz14_0, hfz14_1⟩ := zD2 BK353
         try go_wp2
         have n0_ := Aside0.mk (Kd.R_drew HO_7.out)
         have n1_ := Aside0.mk (blk_drew BK353.out)
         have n2_ := Aside0.mk (below_drew1 HB.out)
         clear HO_7
         clear BK353
         clear HB
         have HO_7 := n0_
         have BK353 := n1_
         have HB := n2_
         clear n0_ n1_ n2_
         have p354 : 0 ≤ (x8_1 : Int) := of_decide_eq_true ‹_›
         have q354 : x8_1 < (l2.length : Int) := of_decide_eq_true ‹_›
         obtain ⟨ad354, e354, hx354_0⟩ := Kd.at_int HR2.out x8_1 p354 q354
         have hw354_0 := hx354_0
         cases e354
         replace hx354_0 := (HB.out.cell (World.block_lt_of_cell? w _ hx354_0)).trans hx354_0
         replace p354 := eq_true p354
         replace q354 := eq_true q354
         refine start_ (n := 13) (S := fun w' => w'.cell? ⟨gb353, 0, none⟩ = some (.int .i64 a0_0) ∧ w'.cell? ⟨gb353, 1, none⟩ = some (.slice A0_1 l0_1.length c0_1) ∧ w'.cell? (ad354.add (x8_1).toNat) = some (.int .i64 (rd l2 x8_1))) (ds := []) #[false, false, false, false, false, false, false, false, false, false, false, false, false] (by kernel_rfl) rfl rfl ⟨(blk_cell BK353.out 0).trans rfl, (blk_cell BK353.out 1).trans rfl, ((HB.out.cell (World.block_lt_of_cell? w _ hw354_0)).trans hw354_0)⟩ (fun hHeld => ?_); refine with_tabW sandpileref19_Waiting.tab5 sandpileref19_Waiting.bits5 (fun HT_ HW_ => ?_)
         generalize wr.drew = w15 at HO_7 BK353 HB hx354_0 hHeld ⊢
         refine pure_ (i := 0) (N := some 15) (v := ?_) (a' := ?_) #[true, false, false, false, false, false, false, false, false, false, false, false, false] rfl rfl (any_of HT_.out (by kernel_rfl)) (fun _ _ _ h => h) (Or.inl ⟨by rfl, ?_⟩) ?_ ?_
         rotate_left
         ·intro w'
          go_simp
          with_reducible rfl
         rotate_left
         ·simp only [Act.put, List.setIfInBounds_toArray, List.set_cons_zero, List.set_cons_succ, i64_w, i32_w]
          rfl
         refine pure_ (i := 1) (N := some 16) (v := ?_) (a' := ?_) #[true, true, false, false, false, false, false, false, false, false, false, false, false] rfl rfl (any_of HT_.out (by kernel_rfl)) (fun _ _ _ h => h) (Or.inl ⟨by rfl, ?_⟩) ?_ ?_
         rotate_left
         ·intro w'
          go_simp
          with_reducible rfl
         rotate_left
         ·simp only [Act.put, List.setIfInBounds_toArray, List.set_cons_zero, List.set_cons_succ, i64_w, i32_w]
          rfl
         refine pure_ (i := 2) (N := some 17) (v := ?_) (a' := ?_) #[true, true, true, false, false, false, false, false, false, false, false, false, false] rfl rfl (any_of HT_.out (by kernel_rfl)) (fun _ _ _ h => h) (Or.inl ⟨by rfl, ?_⟩) ?_ ?_
         rotate_left
         ·intro w'
          go_simp
          with_reducible rfl
         rotate_left
         ·simp only [Act.put, List.setIfInBounds_toArray, List.set_cons_zero, List.set_cons_succ, i64_w, i32_w]
          rfl
         refine pure_ (i := 3) (N := some 18) (v := ?_) (a' := ?_) #[true, true, true, true, false, false, false, false, false, false, false, false, false] rfl rfl (any_of HT_.out (by kernel_rfl)) (fun _ _ _ h => h) (Or.inl ⟨by rfl, ?_⟩) ?_ ?_
         rotate_left
         ·intro w'
          go_simp
          with_reducible rfl
         rotate_left
         ·simp only [Act.put, List.setIfInBounds_toArray, List.set_cons_zero, List.set_cons_succ, i64_w, i32_w]
          rfl
         refine pure_ (i := 4) (N := some 19) (v := ?_) (a' := ?_) #[true, true, true, true, true, false, false, false, false, false, false, false, false] rfl rfl (any_of HT_.out (by kernel_rfl)) (fun _ _ _ h => h) (Or.inl ⟨by rfl, ?_⟩) ?_ ?_
         rotate_left
         ·intro w'
          go_simp
          with_reducible rfl
         rotate_left
         ·simp only [Act.put, List.setIfInBounds_toArray, List.set_cons_zero, List.set_cons_succ, i64_w, i32_w]
          rfl
         refine pure_ (i := 5) (N := some 20) (v := ?_) (a' := ?_) #[true, true, true, true, true, true, false, false, false, false, false, false, false] rfl rfl (any_of HT_.out (by kernel_rfl)) (fun _ _ _ h => h) (Or.inl ⟨by rfl, ?_⟩) ?_ ?_
         rotate_left
         ·intro w'
          go_simp
          with_reducible rfl
         rotate_left
         ·simp only [Act.put, List.setIfInBounds_toArray, List.set_cons_zero, List.set_cons_succ, i64_w, i32_w]
          rfl
         refine pure_ (i := 6) (N := some 21) (v := ?_) (a' := ?_) #[true, true, true, true, true, true, true, false, false, false, false, false, false] rfl rfl (any_of HT_.out (by kernel_rfl)) (fun _ _ _ h => h) (Or.inl ⟨by rfl, ?_⟩) ?_ ?_
         rotate_left
         ·intro w'
          go_simp
          with_reducible rfl
         rotate_left
         ·simp only [Act.put, List.setIfInBounds_toArray, List.set_cons_zero, List.set_cons_succ, i64_w, i32_w]
          rfl
         refine pure_ (i := 9) (N := some 24) (v := ?_) (a' := ?_) #[true, true, true, true, true, true, true, false, false, true, false, false, false] rfl rfl (any_of HT_.out (by kernel_rfl)) (fun _ _ _ h => h) (Or.inl ⟨by rfl, ?_⟩) ?_ ?_
         rotate_left
         ·intro w'
          go_simp
          with_reducible rfl
         rotate_left
         ·simp only [Act.put, List.setIfInBounds_toArray, List.set_cons_zero, List.set_cons_succ, i64_w, i32_w]
          rfl
         refine take_ (i := 7) (N := some 22) (v := ?_) (a' := ?_) #[true, true, true, true, true, true, true, true, false, true, false, false, false] rfl rfl (take_ofW HT_.out HW_.out (by kernel_rfl)) (fun _ _ _ h => h) (Or.inl ⟨by rfl, ?_⟩) hHeld ?_ ?_
         rotate_left
         ·rintro w' ⟨s0, s1, s2⟩
          go_simp
          with_reducible rfl
         rotate_left
         ·simp only [Act.put, List.setIfInBounds_toArray, List.set_cons_zero, List.set_cons_succ, i64_w, i32_w]
          rfl
         refine take_ (i := 8) (N := some 23) (v := ?_) (a' := ?_) #[true, true, true, true, true, true, true, true, true, true, false, false, false] rfl rfl (take_ofW HT_.out HW_.out (by kernel_rfl)) (fun _ _ _ h => h) (Or.inl ⟨by rfl, ?_⟩) hHeld ?_ ?_
         rotate_left
         ·rintro w' ⟨s0, s1, s2⟩
          go_simp
          with_reducible rfl
         rotate_left
         ·simp only [Act.put, List.setIfInBounds_toArray, List.set_cons_zero, List.set_cons_succ, i64_w, i32_w]
          rfl
         refine one_ (i := 10) (N := some 25) #[true, true, true, true, true, true, true, true, true, true, true, false, false] rfl rfl (one_of HT_.out (by kernel_rfl)) (by decide) (fun K hK => ?_)
         refine goes_ Try.func87 (by kernel_rfl) rfl #[.agg #[.int .i64 a0_0, .slice A0_1 l0_1.length c0_1], .int .i64 x8_1] (by rfl) rfl rfl (by (try simp only [List.map_toArray, List.map_cons, List.map_nil]); first | done | rfl | (simp only [List.length_drop, List.length_take]; rfl)) ?_
         with_reducible refine (sandpileref08_Valence.calls k1 a0_0 _ _ l0_1 x8_1 t355 _ ?side1 ?side2 A11.out).mono ?_
         (case side1 => exact Kd.C_below HR0_1.out zB)
         (case side2 => exact HC0_1.out)
         rintro e w16 ⟨rfl, hb⟩
         refine ⟨_, rfl, ?_⟩
         have n0_ := zbR HO_7 hb
         have n1_ := zb BK353 hb
         have n2_ := zS HB hb
         clear HO_7
         clear BK353
         clear HB
         have HO_7 := n0_
         have BK353 := n1_
         have HB := n2_
         clear n0_ n1_ n2_
         (try clear hb)
         skip
         skip
         skip
         refine hK.out _ _ ⟨(blk_cell BK353.out 0).trans rfl, (blk_cell BK353.out 1).trans rfl, ((HB.out.cell (World.block_lt_of_cell? w _ hw354_0)).trans hw354_0)⟩ (fun hHeld => ?_)
         clear hK K
         refine norm_ (a' := ?_) ?_ ?_
         rotate_left
         ·show Act.put _ (some 25) _ = _
          simp only [Act.put, List.setIfInBounds_toArray, List.set_cons_zero, List.set_cons_succ, i64_w, i32_w]
          rfl
         refine pure_ (i := 11) (N := some 26) (v := ?_) (a' := ?_) #[true, true, true, true, true, true, true, true, true, true, true, true, false] rfl rfl (any_of HT_.out (by kernel_rfl)) (fun _ _ _ h => h) (Or.inl ⟨by rfl, ?_⟩) ?_ ?_
         rotate_left
         ·intro w'
          go_simp
          with_reducible rfl
         rotate_left
         ·simp only [Act.put, List.setIfInBounds_toArray, List.set_cons_zero, List.set_cons_succ, i64_w, i32_w]
          rfl
         refine pure_ (i := 12) (N := some 27) (v := ?_) (a' := ?_) #[true, true, true, true, true, true, true, true, true, true, true, true, true] rfl rfl (any_of HT_.out (by kernel_rfl)) (fun _ _ _ h => h) (Or.inl ⟨by rfl, ?_⟩) ?_ ?_
         rotate_left
         ·intro w'
          go_simp
          with_reducible rfl
         rotate_left
         ·simp only [Act.put, List.setIfInBounds_toArray, List.set_cons_zero, List.set_cons_succ, i64_w, i32_w]
          rfl
         refine done_ (done_of HT_.out (by kernel_rfl)) ?_
         try go_wp2_with (first | ((with_reducible refine gate_builtin (b := .append) (xs := #[.tmp 28, .tmp 30]) rfl ?_); at_builtin; refine Kd.R_append (Kd.int .i64) (w0 := w) w.heap.size rfl (.tmp 28) (.tmp 30) 33 3 (.int .i64 0) 8 rfl Try.underlying33 info3 rfl (by decide) (by omega) u7 x7_1 x8_1 [.int .i64 x8_1] (fun _ => True) (fun _ => False) rfl rfl ?aP (fun _ hk => hk.elim) ?aF ?aO ?aB ?aS ?aL ?_; (case aP => exact rfl); (case aB => exact zB); (case aF => exact (fun _ _ => trivial)); (case aO => exact (zR HO_7)); (case aS => exact (below_size zB)); (case aL => have := LMc13.out; omega); intro v357 w17 ho hb hg hat; rw [← Ny356.out] at ho; replace BK353 := Aside0.mk (blk_grown (zK BK353) hg (Kd.R_ne HO_7.out BK353.out (by decide))); replace HB := Aside0.mk (hb); have HO358 := Aside0.mk (ho); clear HO_7; clear ho hb hg hat))
         go_roundg k1
         case measure => have := HK1.out; omega
         case rel => exact ⟨(y356), (wrap64 (x8_1 + 1)), zT, H', ⟨by have := HK1.out; omega⟩, ⟨zR HO358⟩, ⟨zK BK353⟩, ⟨zB⟩⟩
        ·rw [if_neg c13] at H
         exact absurd H (by simp)
       ·rw [if_neg c12] at H
        have c12b0 : decide (t355 ≤ (rd l2 x8_1)) = false := decide_eq_false c12
        clear c12
        have H' := Aside0.mk H
        clear H
        obtain ⟨hcz18_0, hcz18_1, hfz18_0, hfz18_1⟩ := zD2 BK353
        try go_wp2
        have n0_ := Aside0.mk (Kd.R_drew HO_7.out)
        have n1_ := Aside0.mk (blk_drew BK353.out)
        have n2_ := Aside0.mk (below_drew1 HB.out)
        clear HO_7
        clear BK353
        clear HB
        have HO_7 := n0_
        have BK353 := n1_
        have HB := n2_
        clear n0_ n1_ n2_
        have p354 : 0 ≤ (x8_1 : Int) := of_decide_eq_true ‹_›
        have q354 : x8_1 < (l2.length : Int) := of_decide_eq_true ‹_›
        obtain ⟨ad354, e354, hx354_0⟩ := Kd.at_int HR2.out x8_1 p354 q354
        have hw354_0 := hx354_0
        cases e354
        replace hx354_0 := (HB.out.cell (World.block_lt_of_cell? w _ hx354_0)).trans hx354_0
        replace p354 := eq_true p354
        replace q354 := eq_true q354
        refine start_ (n := 13) (S := fun w' => w'.cell? ⟨gb353, 0, none⟩ = some (.int .i64 a0_0) ∧ w'.cell? ⟨gb353, 1, none⟩ = some (.slice A0_1 l0_1.length c0_1) ∧ w'.cell? (ad354.add (x8_1).toNat) = some (.int .i64 (rd l2 x8_1))) (ds := []) #[false, false, false, false, false, false, false, false, false, false, false, false, false] (by kernel_rfl) rfl rfl ⟨(blk_cell BK353.out 0).trans rfl, (blk_cell BK353.out 1).trans rfl, ((HB.out.cell (World.block_lt_of_cell? w _ hw354_0)).trans hw354_0)⟩ (fun hHeld => ?_); refine with_tabW sandpileref19_Waiting.tab5 sandpileref19_Waiting.bits5 (fun HT_ HW_ => ?_)
        generalize wr.drew = w19 at HO_7 BK353 HB hx354_0 hHeld ⊢
        refine pure_ (i := 0) (N := some 15) (v := ?_) (a' := ?_) #[true, false, false, false, false, false, false, false, false, false, false, false, false] rfl rfl (any_of HT_.out (by kernel_rfl)) (fun _ _ _ h => h) (Or.inl ⟨by rfl, ?_⟩) ?_ ?_
        rotate_left
        ·intro w'
         go_simp
         with_reducible rfl
        rotate_left
        ·simp only [Act.put, List.setIfInBounds_toArray, List.set_cons_zero, List.set_cons_succ, i64_w, i32_w]
         rfl
        refine pure_ (i := 1) (N := some 16) (v := ?_) (a' := ?_) #[true, true, false, false, false, false, false, false, false, false, false, false, false] rfl rfl (any_of HT_.out (by kernel_rfl)) (fun _ _ _ h => h) (Or.inl ⟨by rfl, ?_⟩) ?_ ?_
        rotate_left
        ·intro w'
         go_simp
         with_reducible rfl
        rotate_left
        ·simp only [Act.put, List.setIfInBounds_toArray, List.set_cons_zero, List.set_cons_succ, i64_w, i32_w]
         rfl
        refine pure_ (i := 2) (N := some 17) (v := ?_) (a' := ?_) #[true, true, true, false, false, false, false, false, false, false, false, false, false] rfl rfl (any_of HT_.out (by kernel_rfl)) (fun _ _ _ h => h) (Or.inl ⟨by rfl, ?_⟩) ?_ ?_
        rotate_left
        ·intro w'
         go_simp
         with_reducible rfl
        rotate_left
        ·simp only [Act.put, List.setIfInBounds_toArray, List.set_cons_zero, List.set_cons_succ, i64_w, i32_w]
         rfl
        refine pure_ (i := 3) (N := some 18) (v := ?_) (a' := ?_) #[true, true, true, true, false, false, false, false, false, false, false, false, false] rfl rfl (any_of HT_.out (by kernel_rfl)) (fun _ _ _ h => h) (Or.inl ⟨by rfl, ?_⟩) ?_ ?_
        rotate_left
        ·intro w'
         go_simp
         with_reducible rfl
        rotate_left
        ·simp only [Act.put, List.setIfInBounds_toArray, List.set_cons_zero, List.set_cons_succ, i64_w, i32_w]
         rfl
        refine pure_ (i := 4) (N := some 19) (v := ?_) (a' := ?_) #[true, true, true, true, true, false, false, false, false, false, false, false, false] rfl rfl (any_of HT_.out (by kernel_rfl)) (fun _ _ _ h => h) (Or.inl ⟨by rfl, ?_⟩) ?_ ?_
        rotate_left
        ·intro w'
         go_simp
         with_reducible rfl
        rotate_left
        ·simp only [Act.put, List.setIfInBounds_toArray, List.set_cons_zero, List.set_cons_succ, i64_w, i32_w]
         rfl
        refine pure_ (i := 5) (N := some 20) (v := ?_) (a' := ?_) #[true, true, true, true, true, true, false, false, false, false, false, false, false] rfl rfl (any_of HT_.out (by kernel_rfl)) (fun _ _ _ h => h) (Or.inl ⟨by rfl, ?_⟩) ?_ ?_
        rotate_left
        ·intro w'
         go_simp
         with_reducible rfl
        rotate_left
        ·simp only [Act.put, List.setIfInBounds_toArray, List.set_cons_zero, List.set_cons_succ, i64_w, i32_w]
         rfl
        refine pure_ (i := 6) (N := some 21) (v := ?_) (a' := ?_) #[true, true, true, true, true, true, true, false, false, false, false, false, false] rfl rfl (any_of HT_.out (by kernel_rfl)) (fun _ _ _ h => h) (Or.inl ⟨by rfl, ?_⟩) ?_ ?_
        rotate_left
        ·intro w'
         go_simp
         with_reducible rfl
        rotate_left
        ·simp only [Act.put, List.setIfInBounds_toArray, List.set_cons_zero, List.set_cons_succ, i64_w, i32_w]
         rfl
        refine pure_ (i := 9) (N := some 24) (v := ?_) (a' := ?_) #[true, true, true, true, true, true, true, false, false, true, false, false, false] rfl rfl (any_of HT_.out (by kernel_rfl)) (fun _ _ _ h => h) (Or.inl ⟨by rfl, ?_⟩) ?_ ?_
        rotate_left
        ·intro w'
         go_simp
         with_reducible rfl
        rotate_left
        ·simp only [Act.put, List.setIfInBounds_toArray, List.set_cons_zero, List.set_cons_succ, i64_w, i32_w]
         rfl
        refine take_ (i := 7) (N := some 22) (v := ?_) (a' := ?_) #[true, true, true, true, true, true, true, true, false, true, false, false, false] rfl rfl (take_ofW HT_.out HW_.out (by kernel_rfl)) (fun _ _ _ h => h) (Or.inl ⟨by rfl, ?_⟩) hHeld ?_ ?_
        rotate_left
        ·rintro w' ⟨s0, s1, s2⟩
         go_simp
         with_reducible rfl
        rotate_left
        ·simp only [Act.put, List.setIfInBounds_toArray, List.set_cons_zero, List.set_cons_succ, i64_w, i32_w]
         rfl
        refine take_ (i := 8) (N := some 23) (v := ?_) (a' := ?_) #[true, true, true, true, true, true, true, true, true, true, false, false, false] rfl rfl (take_ofW HT_.out HW_.out (by kernel_rfl)) (fun _ _ _ h => h) (Or.inl ⟨by rfl, ?_⟩) hHeld ?_ ?_
        rotate_left
        ·rintro w' ⟨s0, s1, s2⟩
         go_simp
         with_reducible rfl
        rotate_left
        ·simp only [Act.put, List.setIfInBounds_toArray, List.set_cons_zero, List.set_cons_succ, i64_w, i32_w]
         rfl
        refine one_ (i := 10) (N := some 25) #[true, true, true, true, true, true, true, true, true, true, true, false, false] rfl rfl (one_of HT_.out (by kernel_rfl)) (by decide) (fun K hK => ?_)
        refine goes_ Try.func87 (by kernel_rfl) rfl #[.agg #[.int .i64 a0_0, .slice A0_1 l0_1.length c0_1], .int .i64 x8_1] (by rfl) rfl rfl (by (try simp only [List.map_toArray, List.map_cons, List.map_nil]); first | done | rfl | (simp only [List.length_drop, List.length_take]; rfl)) ?_
        with_reducible refine (sandpileref08_Valence.calls k1 a0_0 _ _ l0_1 x8_1 t355 _ ?side1 ?side2 A11.out).mono ?_
        (case side1 => exact Kd.C_below HR0_1.out zB)
        (case side2 => exact HC0_1.out)
        rintro e w20 ⟨rfl, hb⟩
        refine ⟨_, rfl, ?_⟩
        have n0_ := zbR HO_7 hb
        have n1_ := zb BK353 hb
        have n2_ := zS HB hb
        clear HO_7
        clear BK353
        clear HB
        have HO_7 := n0_
        have BK353 := n1_
        have HB := n2_
        clear n0_ n1_ n2_
        (try clear hb)
        skip
        skip
        skip
        refine hK.out _ _ ⟨(blk_cell BK353.out 0).trans rfl, (blk_cell BK353.out 1).trans rfl, ((HB.out.cell (World.block_lt_of_cell? w _ hw354_0)).trans hw354_0)⟩ (fun hHeld => ?_)
        clear hK K
        refine norm_ (a' := ?_) ?_ ?_
        rotate_left
        ·show Act.put _ (some 25) _ = _
         simp only [Act.put, List.setIfInBounds_toArray, List.set_cons_zero, List.set_cons_succ, i64_w, i32_w]
         rfl
        refine pure_ (i := 11) (N := some 26) (v := ?_) (a' := ?_) #[true, true, true, true, true, true, true, true, true, true, true, true, false] rfl rfl (any_of HT_.out (by kernel_rfl)) (fun _ _ _ h => h) (Or.inl ⟨by rfl, ?_⟩) ?_ ?_
        rotate_left
        ·intro w'
         go_simp
         with_reducible rfl
        rotate_left
        ·simp only [Act.put, List.setIfInBounds_toArray, List.set_cons_zero, List.set_cons_succ, i64_w, i32_w]
         rfl
        refine pure_ (i := 12) (N := some 27) (v := ?_) (a' := ?_) #[true, true, true, true, true, true, true, true, true, true, true, true, true] rfl rfl (any_of HT_.out (by kernel_rfl)) (fun _ _ _ h => h) (Or.inl ⟨by rfl, ?_⟩) ?_ ?_
        rotate_left
        ·intro w'
         go_simp
         with_reducible rfl
        rotate_left
        ·simp only [Act.put, List.setIfInBounds_toArray, List.set_cons_zero, List.set_cons_succ, i64_w, i32_w]
         rfl
        refine done_ (done_of HT_.out (by kernel_rfl)) ?_
        try go_wp2
        go_roundg k1
        case measure => have := HK1.out; omega
        case rel => exact ⟨(x7_1), (wrap64 (x8_1 + 1)), zT, H', ⟨by have := HK1.out; omega⟩, ⟨zR HO_7⟩, ⟨zK BK353⟩, ⟨zB⟩⟩
      ·rw [if_neg c10] at H
       exact absurd H (by simp)
     ·rw [if_neg c9] at H
      exact absurd H (by simp)
   ·rw [if_neg c5] at H
    have c5b0 : decide (x8_1 < a0_0) = false := decide_eq_false c5
    clear c5
    obtain rfl := Option.some.inj H
    obtain ⟨hcz21_0, hcz21_1, hfz21_0, hfz21_1⟩ := zD2 BK353
    go_wp2
    go_ret
    exact ⟨_, zE, by (with_reducible repeat (first | apply Kd.R_alloc | apply Kd.R_drewN | apply Kd.R_drew)); exact HO_7.out, zB⟩
def sandpileref19_Calm.f (k : Nat) (a0_0 : Int) (l0_1 : List (S66)) (a1 : Int) (l2 : List Int) : Option (Bool) := (sandpileref19_Waiting.f k a0_0 l0_1 a1 l2).bind fun t360 => (some ((t360.length : Int) == 0))
theorem sandpileref19_Calm.calls (k : Nat) (a0_0 : Int) (A0_1 : Option Addr) (c0_1 : Nat) (l0_1 : List (S66)) (a1 : Int) (A2 : Option Addr) (c2 : Nat) (l2 : List Int) (r : Bool) (w : World) (hr0_1 : Kd.C k66 w A0_1 l0_1.length l0_1) (hc0_1 : l0_1.length ≤ c0_1) (hr2 : Kd.C (Kd.int .i64) w A2 l2.length l2) (hc2 : l2.length ≤ c2) (h : sandpileref19_Calm.f k a0_0 l0_1 a1 l2 = some r) :
  Calls Try.prog 39 #[.agg #[.int .i64 a0_0, .slice A0_1 l0_1.length c0_1], .int .i64 a1, .slice A2 l2.length c2] w fun e w' => e = .returned (.bool r) ∧ Below w.heap.size w w' := by
 have hu24 := Try.underlying24
 have HR0_1 := Aside0.mk hr0_1
 have HC0_1 := Aside0.mk hc0_1
 clear hr0_1 hc0_1
 have HR2 := Aside0.mk hr2
 have HC2 := Aside0.mk hc2
 clear hr2 hc2
 have HB := Aside0.mk (Below.refl w.heap.size w)
 have H : ((sandpileref19_Waiting.f k a0_0 l0_1 a1 l2).bind fun t360 => (some ((t360.length : Int) == 0))) = some r := h
 clear h
 replace H := Option.bind_eq_some_iff.mp H
 obtain ⟨t360, A40, H⟩ := H
 replace H : (some ((t360.length : Int) == 0)) = some r := H
 have A4 := Aside0.mk A40
 clear A40
 obtain rfl := Option.some.inj H
 go_enter Try.func39, Try.ntmps39
 go_wp2_with (first | ((with_reducible refine gate_dst (N := 3) rfl ?_); refine zX 3 #[.int .i64 a0_0, .slice A0_1 l0_1.length c0_1] 24 ?_; intro gb359 hg w5 hbox hb; have BK359 := Aside0.mk (hbox); have GW359 := zG HB hg; have GE359 := zG HB hg; replace HB := zS HB hb; clear hb hbox hg; obtain ⟨hcz6_0, hcz6_1, hfz6_0, hfz6_1⟩ := zD2 BK359) | ((with_reducible refine gate_callee (f := 65) rfl ?_); refine zL (some 10) Try.func65 #[.agg #[.int .i64 a0_0, .slice A0_1 l0_1.length c0_1], .int .i64 a1, .slice A2 l2.length c2] ?_; (with_reducible refine (sandpileref19_Waiting.calls k a0_0 _ _ l0_1 a1 _ _ l2 t360 _ ?side1 ?side2 ?side3 ?side4 A4.out).mono ?_); (case side1 => exact Kd.C_below HR0_1.out zB); (case side2 => exact HC0_1.out); (case side3 => exact Kd.C_below HR2.out zB); (case side4 => exact HC2.out); rintro e w7 ⟨v361, rfl, ho0, hb⟩; refine ⟨_, rfl, ?_⟩; have HO362 := Aside0.mk (Kd.R_lower ho0 (below_size zB)); replace BK359 := zb BK359 hb; replace HB := zS HB hb; (try clear hb); (try clear ho0); obtain ⟨Ao8, co8, eo8⟩ := Kd.R_slice HO362.out; subst eo8))
 go_ret
 exact ⟨zE, zB⟩
def chipB (x : Int) : Bool := decide (-1048576 ≤ x) && decide (x ≤ 1048576)
def rngF : List Int → Int
 | [] => 0
 | x :: l => if chipB x = true then rngF l else 2
def negF (q : Int) : Nat → List Int → Int
 | _, [] => 0
 | i, x :: l => if (i : Int) = q then negF q (i + 1) l else if x < 0 then 2 else negF q (i + 1) l
def errC (N : Int) (E : List S66) (q : Int) (c : List Int) : Int :=
 if rootG N E q = 0 then (if (c.length : Int) = N then (if rngF c = 0 then negF q 0 c else rngF c) else 8) else rootG N E q
def err23 (N : Int) (E : List S66) (q : Int) (c : List Int) : Int := if errC N E q c = 0 then (if rd c q = 0 then 0 else 3) else errC N E q c
theorem within_eq (x : Int) : chips_within.f x = some (chipB x) := by
 unfold chips_within.f chipB
 by_cases h : x ≥ -1048576
 ·rw [if_pos h, decide_eq_true (show -1048576 ≤ x from h), Bool.true_and]
 ·rw [if_neg h, decide_eq_false (show ¬ -1048576 ≤ x from h), Bool.false_and]
theorem in17_eq (x : Int) : sandpileref17_In.f x = some (chipB x) := by
 unfold sandpileref17_In.f chipB
 by_cases h : x ≥ -1048576
 ·rw [if_pos h, decide_eq_true (show -1048576 ≤ x from h), Bool.true_and]
 ·rw [if_neg h, decide_eq_false (show ¬ -1048576 ≤ x from h), Bool.false_and]
theorem chk_l0 (c : List Int) (hc : c.length ≤ 1000) : ∀ (m i : Nat), i + m = c.length → Ev (fun k => chips_Check.l0 k c c.length i) (rngF (c.drop i))
 | 0, i, hi => by
  refine Ev.of_succ ?_
  simp only [chips_Check.l0, if_neg (show ¬ (i : Int) < c.length by omega), List.drop_eq_nil_of_le (show c.length ≤ i by omega), rngF]
  exact Ev.const _
 | m + 1, i, hi => by
  refine Ev.of_succ ?_
  simp only [chips_Check.l0, if_pos (show (i : Int) < c.length by omega), if_pos (show (0 : Int) ≤ i by omega), within_eq, Option.bind_some, wrap_succ (show i ≤ 1000000 by omega)]
  rw [rd_drop (by omega), rngF]
  by_cases h : chipB (rd c i) = true
  ·simp only [if_pos h]; exact chk_l0 c hc m (i + 1) (by omega)
  ·simp only [if_neg h]; exact Ev.const _
theorem chk17_l0 (c : List Int) (hc : c.length ≤ 1000) : ∀ (m i : Nat), i + m = c.length → Ev (fun k => sandpileref17_Check.l0 k c c.length i) (rngF (c.drop i))
 | 0, i, hi => by
  refine Ev.of_succ ?_
  simp only [sandpileref17_Check.l0, if_neg (show ¬ (i : Int) < c.length by omega), List.drop_eq_nil_of_le (show c.length ≤ i by omega), rngF]
  exact Ev.const _
 | m + 1, i, hi => by
  refine Ev.of_succ ?_
  simp only [sandpileref17_Check.l0, if_pos (show (i : Int) < c.length by omega), if_pos (show (0 : Int) ≤ i by omega), in17_eq, Option.bind_some, wrap_succ (show i ≤ 1000000 by omega)]
  rw [rd_drop (by omega), rngF]
  by_cases h : chipB (rd c i) = true
  ·simp only [if_pos h]; exact chk17_l0 c hc m (i + 1) (by omega)
  ·simp only [if_neg h]; exact Ev.const _
theorem neg_l0 (q : Int) (c : List Int) (hc : c.length ≤ 1000) : ∀ (m i : Nat), i + m = c.length → Ev (fun k => stabilize_Check.l0 k q c c.length i) (negF q i (c.drop i))
 | 0, i, hi => by
  refine Ev.of_succ ?_
  simp only [stabilize_Check.l0, if_neg (show ¬ (i : Int) < c.length by omega), List.drop_eq_nil_of_le (show c.length ≤ i by omega), negF]
  exact Ev.const _
 | m + 1, i, hi => by
  refine Ev.of_succ ?_
  have ih := neg_l0 q c hc m (i + 1) (by omega)
  simp only [stabilize_Check.l0, if_pos (show (i : Int) < c.length by omega), if_pos (show (0 : Int) ≤ i by omega), wrap_succ (show i ≤ 1000000 by omega)]
  rw [rd_drop (by omega), negF]
  by_cases h : (i : Int) = q
  ·simp only [if_pos h]; exact ih
  ·simp only [if_neg h]
   by_cases h2 : rd c i < 0
   ·simp only [if_pos h2]; exact Ev.const _
   ·simp only [if_neg h2]; exact ih
theorem neg19_l0 (E : List S66) (q : Int) (c : List Int) (hc : c.length ≤ 1000) : ∀ (m i : Nat), i + m = c.length → Ev (fun k => sandpileref19_Check.l0 k q c i c.length E) (negF q i (c.drop i))
 | 0, i, hi => by
  refine Ev.of_succ ?_
  simp only [sandpileref19_Check.l0, if_neg (show ¬ (i : Int) < c.length by omega), List.drop_eq_nil_of_le (show c.length ≤ i by omega), negF]
  exact Ev.const _
 | m + 1, i, hi => by
  refine Ev.of_succ ?_
  have ih := neg19_l0 E q c hc m (i + 1) (by omega)
  simp only [sandpileref19_Check.l0, if_pos (show (i : Int) < c.length by omega), if_pos (show (0 : Int) ≤ i by omega), wrap_succ (show i ≤ 1000000 by omega)]
  rw [rd_drop (by omega), negF]
  by_cases h : (i : Int) = q
  ·simp only [if_pos h]; exact ih
  ·simp only [if_neg h]
   by_cases h2 : rd c i < 0
   ·simp only [if_pos h2]; exact Ev.const _
   ·simp only [if_neg h2]; exact ih
theorem root_range {N : Int} {E : List S66} {q : Int} (h : rootG N E q = 0) : 1 ≤ N ∧ N ≤ 12 ∧ 0 ≤ q ∧ q < N := by
 unfold rootG at h
 by_cases hc : checkG N E = 0
 ·rw [if_pos hc] at h
  obtain ⟨h1, h2, _⟩ := checkG_zero hc
  by_cases hp : partsOf E N.toNat = 1
  ·rw [if_pos hp] at h
   by_cases hq : 0 ≤ q ∧ q < N
   ·exact ⟨h1, h2, hq⟩
   ·rw [if_neg hq] at h; exact absurd h (by decide)
  ·rw [if_neg hp] at h; exact absurd h (by decide)
 ·rw [if_neg hc] at h; exact absurd h hc
theorem chips_ev (c : List Int) (N : Int) (hN : 1 ≤ N ∧ N ≤ 12) : Ev (fun k => chips_Check.f k c N) (if (c.length : Int) = N then rngF c else 8) := by
 unfold chips_Check.f chips_vertices.f
 simp only [if_neg (show ¬ N < 1 by omega), if_neg (show ¬ N > 12 by omega), Option.bind_some, if_true]
 by_cases h : (c.length : Int) = N
 ·simp only [if_pos h]
  exact chk_l0 c (by omega) c.length 0 (by omega)
 ·simp only [if_neg h]; exact Ev.const _
theorem chips17_ev (c : List Int) (N : Int) (hN : 1 ≤ N ∧ N ≤ 12) : Ev (fun k => sandpileref17_Check.f k c N) (if (c.length : Int) = N then rngF c else 8) := by
 unfold sandpileref17_Check.f
 simp only [if_neg (show ¬ N < 1 by omega)]
 refine Ev.of_succ ?_
 simp only [sandpileref17_Check.j0, decide_eq_false (show ¬ N > 12 by omega), Bool.false_eq_true, if_false]
 by_cases h : (c.length : Int) = N
 ·simp only [if_pos h]
  subst h
  exact chk17_l0 c (by omega) c.length 0 (by omega)
 ·simp only [if_neg h]; exact Ev.const _
theorem stCheck_ev (N : Int) (E : List S66) (q : Int) (c : List Int) (hE : E.length ≤ 1000) : Ev (fun k => stabilize_Check.f k N E q c) (errC N E q c) := by
 unfold stabilize_Check.f errC
 refine Ev.bind (rooted_ev N E q hE) ?_
 by_cases hr : rootG N E q = 0
 ·have hN := root_range hr
  simp only [if_pos hr]
  refine Ev.bind (chips_ev c N ⟨hN.1, hN.2.1⟩) ?_
  by_cases h : (c.length : Int) = N
  ·simp only [if_pos h]
   by_cases h2 : rngF c = 0
   ·simp only [if_pos h2]
    exact neg_l0 q c (by omega) c.length 0 (by omega)
   ·simp only [if_neg h2]; exact Ev.const _
  ·simp only [if_neg h]; exact Ev.const _
 ·simp only [if_neg hr]; exact Ev.const _
theorem check19_ev (N : Int) (E : List S66) (q : Int) (c : List Int) (hE : E.length ≤ 1000) : Ev (fun k => sandpileref19_Check.f k N E q c) (errC N E q c) := by
 unfold sandpileref19_Check.f errC
 refine Ev.bind (rooted19_ev N E q hE) ?_
 by_cases hr : rootG N E q = 0
 ·have hN := root_range hr
  simp only [if_pos hr]
  refine Ev.bind (chips17_ev c N ⟨hN.1, hN.2.1⟩) ?_
  by_cases h : (c.length : Int) = N
  ·simp only [if_pos h]
   by_cases h2 : rngF c = 0
   ·simp only [if_pos h2]
    subst h
    exact neg19_l0 E q c (by omega) c.length 0 (by omega)
   ·simp only [if_neg h2]; exact Ev.const _
  ·simp only [if_neg h]; exact Ev.const _
 ·simp only [if_neg hr]; exact Ev.const _
theorem errC_zero {N : Int} {E : List S66} {q : Int} {c : List Int} (h : errC N E q c = 0) : rootG N E q = 0 ∧ (c.length : Int) = N ∧ rngF c = 0 ∧ negF q 0 c = 0 := by
 unfold errC at h
 by_cases hr : rootG N E q = 0
 ·rw [if_pos hr] at h
  by_cases hl : (c.length : Int) = N
  ·rw [if_pos hl] at h
   by_cases h2 : rngF c = 0
   ·rw [if_pos h2] at h; exact ⟨hr, hl, h2, h⟩
   ·rw [if_neg h2] at h; exact absurd h h2
  ·rw [if_neg hl] at h; exact absurd h (by decide)
 ·rw [if_neg hr] at h; exact absurd h hr
theorem burnCheck_ev (N : Int) (E : List S66) (q : Int) (c : List Int) (hE : E.length ≤ 1000) : Ev (fun k => burning_check.f k N E q c) (err23 N E q c) := by
 unfold burning_check.f err23
 refine Ev.bind (stCheck_ev N E q c hE) ?_
 by_cases h : errC N E q c = 0
 ·obtain ⟨hr, hl, _, _⟩ := errC_zero h
  have hN := root_range hr
  simp only [if_pos h, if_pos hN.2.2.1, if_pos (show q < c.length by omega)]
  by_cases h2 : rd c q = 0
  ·simp only [if_pos h2]; exact Ev.const _
  ·simp only [if_neg h2]; exact Ev.const _
 ·simp only [if_neg h]; exact Ev.const _
theorem check23_ev (N : Int) (E : List S66) (q : Int) (c : List Int) (hE : E.length ≤ 1000) : Ev (fun k => sandpileref23_Check.f k N E q c) (err23 N E q c) := by
 unfold sandpileref23_Check.f err23
 refine Ev.bind (check19_ev N E q c hE) ?_
 by_cases h : errC N E q c = 0
 ·obtain ⟨hr, hl, _, _⟩ := errC_zero h
  have hN := root_range hr
  simp only [if_pos h, if_pos hN.2.2.1, if_pos (show q < c.length by omega)]
  by_cases h2 : rd c q = 0
  ·simp only [if_pos h2]; exact Ev.const _
  ·simp only [if_neg h2]; exact Ev.const _
 ·simp only [if_neg h]; exact Ev.const _
theorem rngF_zero : ∀ {c : List Int}, rngF c = 0 → ∀ x ∈ c, -1048576 ≤ x ∧ x ≤ 1048576
 | [], _, x, hx => absurd hx (by simp)
 | y :: c, h, x, hx => by
  rw [rngF] at h
  by_cases hy : chipB y = true
  ·rw [if_pos hy] at h
   simp [chipB] at hy
   rcases List.mem_cons.1 hx with rfl | hx
   ·exact hy
   ·exact rngF_zero h x hx
  ·rw [if_neg hy] at h; exact absurd h (by decide)
theorem negF_zero (q : Int) : ∀ {c : List Int} {i : Nat}, negF q i c = 0 → ∀ j : Nat, j < c.length → ((i + j : Nat) : Int) ≠ q → 0 ≤ rd c j
 | [], i, _, j, hj, _ => absurd hj (by simp)
 | y :: c, i, h, j, hj, hjq => by
  rw [negF] at h
  by_cases hi : (i : Int) = q
  ·rw [if_pos hi] at h
   cases j with
   | zero => exact absurd hi hjq
   | succ j =>
    have := negF_zero q h j (by simpa using hj) (by rw [show i + 1 + j = i + (j + 1) by omega]; exact hjq)
    simpa [rd, List.getD_eq_getElem?_getD] using this
  ·rw [if_neg hi] at h
   by_cases hy : y < 0
   ·rw [if_pos hy] at h; exact absurd h (by decide)
   ·rw [if_neg hy] at h
    cases j with
    | zero => simp [rd, List.getD_eq_getElem?_getD]; omega
    | succ j =>
     have := negF_zero q h j (by simpa using hj) (by rw [show i + 1 + j = i + (j + 1) by omega]; exact hjq)
     simpa [rd, List.getD_eq_getElem?_getD] using this
structure GoodC (n q : Nat) (c : List Int) : Prop where
 len : c.length = n
 pos : ∀ v : Nat, 0 ≤ rd c v
 up : ∀ v : Nat, rd c v ≤ 1048576
 sink : rd c q = 0
theorem rd_out {c : List Int} {v : Nat} (h : c.length ≤ v) : rd c v = 0 := by simp [rd, List.getD_eq_getElem?_getD, List.getElem?_eq_none h]
theorem err23_good {n q : Nat} {E : List S66} {c : List Int} (h : err23 n E q c = 0) : rootG n E q = 0 ∧ GoodC n q c := by
 unfold err23 at h
 by_cases he : errC n E q c = 0
 ·rw [if_pos he] at h
  by_cases hq : rd c q = 0
  ·obtain ⟨h1, h2, h3, h4⟩ := errC_zero he
   refine ⟨h1, ⟨by omega, fun v => ?_, fun v => ?_, hq⟩⟩
   ·by_cases hv : v < c.length
    ·by_cases e : v = q
     ·subst e; omega
     ·exact negF_zero q h4 v hv (by omega)
    ·rw [rd_out (by omega)]; exact Int.le_refl _
   ·by_cases hv : v < c.length
    ·have := rngF_zero h3 c[v] (List.getElem_mem _)
     simp only [rd, Int.toNat_natCast, List.getD_eq_getElem?_getD, List.getElem?_eq_getElem hv, Option.getD_some]; omega
    ·rw [rd_out (by omega)]; decide
  ·rw [if_neg hq] at h; exact absurd h (by decide)
 ·rw [if_neg he] at h; exact absurd h he
theorem burn_ev {n q : Nat} {E : List S66} {c : List Int} (hE : E.length ≤ 1000) (hn : n ≤ 12) (hin : edgesInB n E = true) (h : err23 n E q c = 0) : Ev (fun k => burning_Superstable.f k n E q c) (superB n (timesOf E) q c, (0 : Int)) := by
 obtain ⟨hr, hg⟩ := err23_good h
 have hl := hg.len
 have hq := root_range hr
 unfold burning_Superstable.f burning_Burn.f
 have hb := burnCheck_ev n E q c hE
 rw [h] at hb
 have hw : rightConf n E q c = true := by simp only [rightConf, Bool.and_eq_true, decide_eq_true_eq]; exact ⟨by omega, hin⟩
 refine Ev.bind (a := ((q : Int) :: (fireOf n E q c).map Int.ofNat, unbTo (burnAll (sinkOnly q) (fireOf n E q c)) n, (0 : Int))) ?_ ?_
 ·refine Ev.bind hb ?_
  simp only [if_true, hw, Int.toNat_natCast]
  exact Ev.const _
 ·simp only [if_true]
  have hx := burnt_all (burnAll (sinkOnly q) (fireOf n E q c)) n
  have e : (((unbTo (burnAll (sinkOnly q) (fireOf n E q c)) n).length : Int) == 0) = superB n (timesOf E) q c := by
   rw [Bool.eq_iff_iff]
   unfold superB
   rw [show fireList n (catchB n (timesOf E) c) (sinkOnly q) = fireOf n E q c from rfl, ← hx]
   simp
  rw [e]
  exact Ev.const _
def superstable_raised.l0 : Nat → Int → List Int → Int → Int → List (S66) → Option (List Int)
 | 0, _, _, _, _, _ => none
 | k + 1, x1, x2, x3, x272000, x272001 => (superstable_calm.f k x272000 x272001 x1 x2).bind fun t277 => (if t277 = true then (if 0 ≤ x3 then (if x3 < (x2.length : Int) then (superstable_raised.l0 k x1 (x2.set (x3 : Int).toNat (wrap64 ((rd x2 x3) + 1))) x3 x272000 x272001) else (none)) else (none)) else (if 0 ≤ x3 then (if x3 < (x2.length : Int) then (some (x2.set (x3 : Int).toNat (wrap64 ((rd x2 x3) - 1)))) else (none)) else (none)))
def superstable_raised.f (k : Nat) (a0_0 : Int) (l0_1 : List (S66)) (a1 : Int) (l2 : List Int) (a3 : Int) : Option (List Int) := (api_Divisor_int_36.f l2).bind fun t272 => (if 0 ≤ a3 then (if a3 < (t272.length : Int) then (superstable_raised.l0 k a1 (t272.set (a3 : Int).toNat (wrap64 ((rd t272 a3) + 1))) a3 a0_0 l0_1) else (none)) else (none))
theorem superstable_raised.calls (k : Nat) (a0_0 : Int) (A0_1 : Option Addr) (c0_1 : Nat) (l0_1 : List (S66)) (a1 : Int) (A2 : Option Addr) (c2 : Nat) (l2 : List Int) (a3 : Int) (r : List Int) (w : World) (hr0_1 : Kd.C k66 w A0_1 l0_1.length l0_1) (hc0_1 : l0_1.length ≤ c0_1) (hr2 : Kd.C (Kd.int .i64) w A2 l2.length l2) (hc2 : l2.length ≤ c2) (h : superstable_raised.f k a0_0 l0_1 a1 l2 a3 = some r) :
  Calls Try.prog 53 #[.agg #[.int .i64 a0_0, .slice A0_1 l0_1.length c0_1], .int .i64 a1, .slice A2 l2.length c2, .int .i64 a3] w fun e w' => ∃ v0_ : Value, e = .returned (v0_) ∧ Kd.R (Kd.int .i64) 3 w' w.heap.size (fun _ => True) v0_ r ∧ Below w.heap.size w w' := by
 have hu24 := Try.underlying24
 have HR0_1 := Aside0.mk hr0_1
 have HC0_1 := Aside0.mk hc0_1
 clear hr0_1 hc0_1
 have HR2 := Aside0.mk hr2
 have HC2 := Aside0.mk hc2
 clear hr2 hc2
 have HB := Aside0.mk (Below.refl w.heap.size w)
 have H : ((api_Divisor_int_36.f l2).bind fun t272 => (if 0 ≤ a3 then (if a3 < (t272.length : Int) then (superstable_raised.l0 k a1 (t272.set (a3 : Int).toNat (wrap64 ((rd t272 a3) + 1))) a3 a0_0 l0_1) else (none)) else (none))) = some r := h
 clear h
 replace H := Option.bind_eq_some_iff.mp H
 obtain ⟨t272, A50, H⟩ := H
 replace H : (if 0 ≤ a3 then (if a3 < (t272.length : Int) then (superstable_raised.l0 k a1 (t272.set (a3 : Int).toNat (wrap64 ((rd t272 a3) + 1))) a3 a0_0 l0_1) else (none)) else (none)) = some r := H
 have A5 := Aside0.mk A50
 clear A50
 by_cases c6 : 0 ≤ a3
 ·rw [if_pos c6] at H
  have c6b0 : decide (0 ≤ a3) = true := decide_eq_true c6
  clear c6
  by_cases c7 : a3 < (t272.length : Int)
  ·rw [if_pos c7] at H
   have c7b0 : decide (a3 < (t272.length : Int)) = true := decide_eq_true c7
   clear c7
   obtain ⟨y276, hy276⟩ : ∃ y_ : List Int, y_ = (t272.set (a3 : Int).toNat (wrap64 ((rd t272 a3) + 1))) := ⟨_, rfl⟩
   replace H : (superstable_raised.l0 k a1 y276 a3 a0_0 l0_1) = some r := by first | (rw [hy276]; with_reducible exact H) | (have H2_ := (Option.bind_some _ _).symm.trans H; rw [hy276]; with_reducible exact H2_) | (have H2_ := (Option.bind_some _ _).symm.trans H; with_reducible exact H2_) | with_reducible exact H | (rw [hy276]; exact H) | exact H
   have Ny276 := Aside0.mk hy276
   clear hy276
   have H' := Aside0.mk H
   clear H
   go_enter Try.func53, Try.ntmps53
   go_wp2_with (first | ((with_reducible refine gate_dst (N := 4) rfl ?_); refine zX 4 #[.int .i64 a0_0, .slice A0_1 l0_1.length c0_1] 24 ?_; intro gb271 hg w9 hbox hb; have BK271 := Aside0.mk (hbox); have GW271 := zG HB hg; have GE271 := zG HB hg; replace HB := zS HB hb; clear hb hbox hg) | ((with_reducible refine gate_callee (f := 36) rfl ?_); refine zL (some 10) Try.func36 #[.slice A2 l2.length c2] ?_; (with_reducible refine (api_Divisor_int_36.calls _ _ l2 t272 _ ?side1 ?side2 A5.out).mono ?_); (case side1 => exact Kd.C_below HR2.out zB); (case side2 => exact HC2.out); rintro e w10 ⟨v273, rfl, ho0, hb⟩; refine ⟨_, rfl, ?_⟩; have HO274 := Aside0.mk (Kd.R_lower ho0 (below_size zB)); replace BK271 := zb BK271 hb; replace HB := zS HB hb; (try clear hb); (try clear ho0); obtain ⟨Ao11, co11, eo11⟩ := Kd.R_slice HO274.out; subst eo11; have p275 : 0 ≤ (a3 : Int) := of_decide_eq_true ‹_›; have q275 : a3 < (t272.length : Int) := of_decide_eq_true ‹_›; obtain ⟨ad275, e275, hx275_0⟩ := Kd.at_int (Kd.R_reads' HO274.out).2.2 a3 p275 q275; cases e275; replace p275 := eq_true p275; replace q275 := eq_true q275; have p8 : 0 ≤ (a3 : Int) := of_decide_eq_true ‹_›; have q8 : (a3 : Int) < ((t272.length : Int) : Int) := of_decide_eq_true ‹_›; obtain ⟨go8, co8, eo8, gb8, gl8, cl8, HG8⟩ := Kd.R_form HO274.out (by omega); (first | cases eo8 | (injection eo8 with ea_ en_ ec_; (first | subst ea_ | (injection ea_ with ea_; subst ea_)); subst ec_; clear en_)); have GB8 := Aside0.mk gb8; have GG8 := Aside0.mk HG8; clear gb8 gl8 HG8; (first | simp only [add_plain] at hx275_0 | skip); obtain ⟨hx8_0, hf8_0⟩ := Kd.R_celln 0 HO274.out (a3 : Int) p8 q8; replace p8 := eq_true p8; replace q8 := eq_true q8; obtain ⟨hy12_, hz12_⟩ := Kd.R_celln 0 HO274.out (a3 : Int) (of_decide_eq_true ‹_›) (of_decide_eq_true ‹_›); have HP12 := Kd.R_putg HO274.out (a3 : Int) (wrap64 ((rd t272 a3) + 1))) | ((with_reducible refine gate_store (t := 3) (p := 16) rfl ?_); refine store_event (t := 3) (p := 16) (v := ?vo_w13) (w1 := (w10.setCell ⟨go8, (a3 : Int).toNat, none⟩ (.int .i64 (wrap64 ((rd t272 a3) + 1))))) ?hg ?ho ?hn ?hr ?_; (case ho => rfl); (case hg => rfl); (case hn => rfl); (case hr => first | (go_simp; done) | (go_simp; rfl)); intro w13 hw; have hg : w10.grownBy w13 (some go8) := (by rw [hw]; exact HP12.2); have hp_ : Kd.R (Kd.int .i64) 3 w13 w.heap.size (fun _ => True) (.slice (some ⟨go8, 0, none⟩) t272.length co11) y276 := (by rw [hw, Ny276.out]; exact HP12.1); clear HP12; replace BK271 := Aside0.mk (blk_grown (zK BK271) hg (Kd.R_ne HO274.out BK271.out (by decide))); replace HO274 := Aside0.mk (hp_); replace HB := Aside0.mk ((by rw [hw]; exact below_set (HB.out) GB8.out : Below w.heap.size w w13)); clear hg hw hp_))
   go_loopg [] k (fun kq w' => ∃ (x2_1 : List Int), Aside0 (superstable_raised.l0 kq a1 x2_1 a3 a0_0 l0_1 = some r) ∧ Aside0 (kq ≤ k) ∧ Aside0 (Kd.R (Kd.int .i64) 3 w' w.heap.size (fun _ => True) (.slice (some ⟨go8, 0, none⟩) t272.length co11) x2_1) ∧ Aside0 (w'.heap[gb271]? = some (.cells #[.int .i64 a0_0, (.slice A0_1 l0_1.length c0_1)] 24 (0, 0))) ∧ Aside0 (Below w.heap.size w w'))
   case atStart => exact ⟨(y276), H', ⟨Nat.le_refl _⟩, ⟨zR HO274⟩, ⟨zK BK271⟩, ⟨zB⟩⟩
   case round =>
    clear H'
    try clear c2
    try clear p2
    try clear q2
    try clear hx2
    try clear c3
    try clear c5
    try clear c6
    try clear c6b0
    try clear p6
    try clear c7
    try clear c7b0
    try clear p8
    try clear q8
    try clear hx8
    try clear hf8
    try clear hx275_0
    try clear hx8_0
    try clear p275
    try clear p8
    try clear q275
    try clear q8
    obtain ⟨x2_1, HA, HK1, HO_2, BK271, HB⟩ := hrel
    have hl2_1 := (Kd.R_reads' HO_2.out).1
    rw [hl2_1] at HO_2
    (try simp only [hl2_1])
    (try simp only [hl2_1] at BK271)
    cases gk with
    | zero => exact absurd HA.out (by simp [superstable_raised.l0])
    | succ k1 =>
     have H := HA.out
     clear HA
     simp only [superstable_raised.l0] at H
     replace H := Option.bind_eq_some_iff.mp H
     obtain ⟨t277, A140, H⟩ := H
     replace H : (if t277 = true then (if 0 ≤ a3 then (if a3 < (x2_1.length : Int) then (superstable_raised.l0 k1 a1 (x2_1.set (a3 : Int).toNat (wrap64 ((rd x2_1 a3) + 1))) a3 a0_0 l0_1) else (none)) else (none)) else (if 0 ≤ a3 then (if a3 < (x2_1.length : Int) then (some (x2_1.set (a3 : Int).toNat (wrap64 ((rd x2_1 a3) - 1)))) else (none)) else (none))) = some r := H
     have A14 := Aside0.mk A140
     clear A140
     by_cases c15 : t277 = true
     ·subst c15
      have H1 : (if 0 ≤ a3 then (if a3 < (x2_1.length : Int) then (superstable_raised.l0 k1 a1 (x2_1.set (a3 : Int).toNat (wrap64 ((rd x2_1 a3) + 1))) a3 a0_0 l0_1) else (none)) else (none)) = some r := by rw [if_pos rfl] at H; exact H
      clear H
      have H := H1
      clear H1
      by_cases c16 : 0 ≤ a3
      ·rw [if_pos c16] at H
       have c16b0 : decide (0 ≤ a3) = true := decide_eq_true c16
       clear c16
       by_cases c17 : a3 < (x2_1.length : Int)
       ·rw [if_pos c17] at H
        have c17b0 : decide (a3 < (x2_1.length : Int)) = true := decide_eq_true c17
        clear c17
        obtain ⟨y279, hy279⟩ : ∃ y_ : List Int, y_ = (x2_1.set (a3 : Int).toNat (wrap64 ((rd x2_1 a3) + 1))) := ⟨_, rfl⟩
        replace H : (superstable_raised.l0 k1 a1 y279 a3 a0_0 l0_1) = some r := by first | (rw [hy279]; with_reducible exact H) | (have H2_ := (Option.bind_some _ _).symm.trans H; rw [hy279]; with_reducible exact H2_) | (have H2_ := (Option.bind_some _ _).symm.trans H; with_reducible exact H2_) | with_reducible exact H | (rw [hy279]; exact H) | exact H
        have Ny279 := Aside0.mk hy279
        clear hy279
        have H' := Aside0.mk H
        clear H
        obtain ⟨hcz19_0, hcz19_1, hfz19_0, hfz19_1⟩ := zD2 BK271
        go_wp2_with (first | ((with_reducible refine gate_callee (f := 72) rfl ?_); refine zL (some 20) Try.func72 #[.agg #[.int .i64 a0_0, .slice A0_1 l0_1.length c0_1], .int .i64 a1, .slice (some ⟨go8, 0, none⟩) x2_1.length co11] ?_; (with_reducible refine (superstable_calm.calls k1 a0_0 _ _ l0_1 a1 _ _ x2_1 true _ ?side1 ?side2 ?side3 ?side4 A14.out).mono ?_); (case side1 => exact Kd.C_below HR0_1.out zB); (case side2 => exact HC0_1.out); (case side3 => exact zC (Kd.R_reads' HO_2.out).2.2); (case side4 => exact (Kd.R_reads' HO_2.out).2.1); rintro e w20 ⟨rfl, hb⟩; refine ⟨_, rfl, ?_⟩; replace HO_2 := zbR HO_2 hb; replace BK271 := zb BK271 hb; replace HB := zS HB hb; (try clear hb); have p278 : 0 ≤ (a3 : Int) := of_decide_eq_true ‹_›; have q278 : a3 < (x2_1.length : Int) := of_decide_eq_true ‹_›; obtain ⟨ad278, e278, hx278_0⟩ := Kd.at_int (Kd.R_reads' HO_2.out).2.2 a3 p278 q278; obtain rfl : (⟨go8, 0, none⟩ : Addr) = ad278 := (by injection e278); (first | simp only [add_plain] at hx278_0 | simp only [add_at] at hx278_0 | simp only [Addr.add, Nat.zero_add] at hx278_0 | skip); replace p278 := eq_true p278; replace q278 := eq_true q278; have p18 : 0 ≤ (a3 : Int) := of_decide_eq_true ‹_›; have q18 : (a3 : Int) < ((x2_1.length : Int) : Int) := of_decide_eq_true ‹_›; obtain ⟨hx18_0, hf18_0⟩ := Kd.R_celln 0 HO_2.out (a3 : Int) p18 q18; replace p18 := eq_true p18; replace q18 := eq_true q18; obtain ⟨hy21_, hz21_⟩ := Kd.R_celln 0 HO_2.out (a3 : Int) (of_decide_eq_true ‹_›) (of_decide_eq_true ‹_›); have HP21 := Kd.R_putg HO_2.out (a3 : Int) (wrap64 ((rd x2_1 a3) + 1))) | ((with_reducible refine gate_store (t := 3) (p := 26) rfl ?_); refine store_event (t := 3) (p := 26) (v := ?vo_w22) (w1 := (w20.setCell ⟨go8, (a3 : Int).toNat, none⟩ (.int .i64 (wrap64 ((rd x2_1 a3) + 1))))) ?hg ?ho ?hn ?hr ?_; (case ho => rfl); (case hg => rfl); (case hn => rfl); (case hr => first | (go_simp; done) | (go_simp; rfl)); intro w22 hw; have hg : w20.grownBy w22 (some go8) := (by rw [hw]; exact HP21.2); have hp_ : Kd.R (Kd.int .i64) 3 w22 w.heap.size (fun _ => True) (.slice (some ⟨go8, 0, none⟩) x2_1.length co11) y279 := (by rw [hw, Ny279.out]; exact HP21.1); clear HP21; replace BK271 := Aside0.mk (blk_grown (zK BK271) hg (Kd.R_ne HO_2.out BK271.out (by decide))); replace HO_2 := Aside0.mk (hp_); replace HB := Aside0.mk ((by rw [hw]; exact below_set (HB.out) GB8.out : Below w.heap.size w w22)); clear hg hw hp_))
        (try simp only [← hl2_1])
        go_roundg k1
        case measure => have := HK1.out; omega
        case rel => exact ⟨(y279), H', ⟨by have := HK1.out; omega⟩, ⟨by (try simp only [hl2_1]); (with_reducible repeat (first | apply Kd.R_alloc | apply Kd.R_drewN | apply Kd.R_drew)); exact HO_2.out⟩, ⟨by (try simp only [hl2_1]); exact zK BK271⟩, ⟨zB⟩⟩
       ·rw [if_neg c17] at H
        exact absurd H (by simp)
      ·rw [if_neg c16] at H
       exact absurd H (by simp)
     ·replace c15 := Bool.eq_false_iff.mpr c15
      subst c15
      have H1 : (if 0 ≤ a3 then (if a3 < (x2_1.length : Int) then (some (x2_1.set (a3 : Int).toNat (wrap64 ((rd x2_1 a3) - 1)))) else (none)) else (none)) = some r := by rw [if_neg (show ¬ (false = true) by decide)] at H; exact H
      clear H
      have H := H1
      clear H1
      by_cases c23 : 0 ≤ a3
      ·rw [if_pos c23] at H
       have c23b0 : decide (0 ≤ a3) = true := decide_eq_true c23
       clear c23
       by_cases c24 : a3 < (x2_1.length : Int)
       ·rw [if_pos c24] at H
        have c24b0 : decide (a3 < (x2_1.length : Int)) = true := decide_eq_true c24
        clear c24
        obtain ⟨y281, hy281⟩ : ∃ y_ : List Int, y_ = (x2_1.set (a3 : Int).toNat (wrap64 ((rd x2_1 a3) - 1))) := ⟨_, rfl⟩
        replace H : (some y281) = some r := by first | (rw [hy281]; with_reducible exact H) | (have H2_ := (Option.bind_some _ _).symm.trans H; rw [hy281]; with_reducible exact H2_) | (have H2_ := (Option.bind_some _ _).symm.trans H; with_reducible exact H2_) | with_reducible exact H | (rw [hy281]; exact H) | exact H
        have Ny281 := Aside0.mk hy281
        clear hy281
        obtain rfl := Option.some.inj H
        obtain ⟨hcz26_0, hcz26_1, hfz26_0, hfz26_1⟩ := zD2 BK271
        go_wp2_with (first | ((with_reducible refine gate_callee (f := 72) rfl ?_); refine zL (some 20) Try.func72 #[.agg #[.int .i64 a0_0, .slice A0_1 l0_1.length c0_1], .int .i64 a1, .slice (some ⟨go8, 0, none⟩) x2_1.length co11] ?_; (with_reducible refine (superstable_calm.calls k1 a0_0 _ _ l0_1 a1 _ _ x2_1 false _ ?side1 ?side2 ?side3 ?side4 A14.out).mono ?_); (case side1 => exact Kd.C_below HR0_1.out zB); (case side2 => exact HC0_1.out); (case side3 => exact zC (Kd.R_reads' HO_2.out).2.2); (case side4 => exact (Kd.R_reads' HO_2.out).2.1); rintro e w27 ⟨rfl, hb⟩; refine ⟨_, rfl, ?_⟩; replace HO_2 := zbR HO_2 hb; replace BK271 := zb BK271 hb; replace HB := zS HB hb; (try clear hb); have p280 : 0 ≤ (a3 : Int) := of_decide_eq_true ‹_›; have q280 : a3 < (x2_1.length : Int) := of_decide_eq_true ‹_›; obtain ⟨ad280, e280, hx280_0⟩ := Kd.at_int (Kd.R_reads' HO_2.out).2.2 a3 p280 q280; obtain rfl : (⟨go8, 0, none⟩ : Addr) = ad280 := (by injection e280); (first | simp only [add_plain] at hx280_0 | simp only [add_at] at hx280_0 | simp only [Addr.add, Nat.zero_add] at hx280_0 | skip); replace p280 := eq_true p280; replace q280 := eq_true q280; have p25 : 0 ≤ (a3 : Int) := of_decide_eq_true ‹_›; have q25 : (a3 : Int) < ((x2_1.length : Int) : Int) := of_decide_eq_true ‹_›; obtain ⟨hx25_0, hf25_0⟩ := Kd.R_celln 0 HO_2.out (a3 : Int) p25 q25; replace p25 := eq_true p25; replace q25 := eq_true q25; obtain ⟨hy28_, hz28_⟩ := Kd.R_celln 0 HO_2.out (a3 : Int) (of_decide_eq_true ‹_›) (of_decide_eq_true ‹_›); have HP28 := Kd.R_putg HO_2.out (a3 : Int) (wrap64 ((rd x2_1 a3) - 1))) | ((with_reducible refine gate_store (t := 3) (p := 32) rfl ?_); refine store_event (t := 3) (p := 32) (v := ?vo_w29) (w1 := (w27.setCell ⟨go8, (a3 : Int).toNat, none⟩ (.int .i64 (wrap64 ((rd x2_1 a3) - 1))))) ?hg ?ho ?hn ?hr ?_; (case ho => rfl); (case hg => rfl); (case hn => rfl); (case hr => first | (go_simp; done) | (go_simp; rfl)); intro w29 hw; have hg : w27.grownBy w29 (some go8) := (by rw [hw]; exact HP28.2); have hp_ : Kd.R (Kd.int .i64) 3 w29 w.heap.size (fun _ => True) (.slice (some ⟨go8, 0, none⟩) x2_1.length co11) y281 := (by rw [hw, Ny281.out]; exact HP28.1); clear HP28; replace BK271 := Aside0.mk (blk_grown (zK BK271) hg (Kd.R_ne HO_2.out BK271.out (by decide))); replace HO_2 := Aside0.mk (hp_); replace HB := Aside0.mk ((by rw [hw]; exact below_set (HB.out) GB8.out : Below w.heap.size w w29)); clear hg hw hp_))
        go_ret
        exact ⟨_, zE, by (with_reducible repeat (first | apply Kd.R_alloc | apply Kd.R_drewN | apply Kd.R_drew)); exact HO_2.out, zB⟩
       ·rw [if_neg c24] at H
        exact absurd H (by simp)
      ·rw [if_neg c23] at H
       exact absurd H (by simp)
  ·rw [if_neg c7] at H
   exact absurd H (by simp)
 ·rw [if_neg c6] at H
  exact absurd H (by simp)
end Go.Proofs.Ytffdiakgjakngaa.P
