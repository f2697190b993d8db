/- A part of the proof that SuperstableGenus answers true (text 10 of 13): own walks and plain laws; no conditions. -/
import Derived.Lib.SliceRun
import Derived.Test.YtffdiakgjakngaaGenus9
namespace Go.Proofs.Ytffdiakgjakngaa.P
open Go.RowKit Go.Proofs.YtffdiakgjakngaaW.PrintWords Go.Proofs.YtffdiakgjakngaaW.PrintLast Go.Proofs.YtffdiakgjakngaaW.PrintMore
set_option linter.unusedVariables false
set_option linter.unusedSimpArgs false
set_option maxHeartbeats 8000000
set_option maxRecDepth 100000
section
theorem rd_append_left {p l : List Int} {v : Nat} (h : v < p.length) : rd (p ++ l) v = rd p v := by simp [rd, List.getD_eq_getElem?_getD, List.getElem?_append_left h]
theorem rd_append_last (p : List Int) (x : Int) : rd (p ++ [x]) p.length = x := by simp [rd, List.getD_eq_getElem?_getD]
theorem rd_take {l : List Int} {m v : Nat} (h : v < m) : rd (l.take m) v = rd l v := by simp [rd, List.getD_eq_getElem?_getD, List.getElem?_take, h]
theorem mem_stabB (most : Nat → Nat) : ∀ (m : Nat) (l : List Int), l ∈ stabB most m ↔ l.length = m ∧ ∀ v : Nat, v < m → 0 ≤ rd l v ∧ rd l v ≤ most v
 | 0, l => by
  simp only [stabB, List.mem_singleton]
  constructor
  ·rintro rfl; exact ⟨rfl, fun v hv => by omega⟩
  ·rintro ⟨h, _⟩; exact List.length_eq_zero_iff.1 h
 | m + 1, l => by
  simp only [stabB, stepB, List.mem_flatMap, List.mem_map, List.mem_range]
  constructor
  ·rintro ⟨p, hp, x, hx, rfl⟩
   obtain ⟨h1, h2⟩ := (mem_stabB most m p).1 hp
   refine ⟨by simp [h1], fun v hv => ?_⟩
   by_cases e : v < m
   ·rw [rd_append_left (by omega)]; exact h2 v e
   ·rw [show v = p.length by omega, rd_append_last]; rw [h1]; omega
  ·rintro ⟨h1, h2⟩
   refine ⟨l.take m, (mem_stabB most m _).2 ⟨by simp; omega, fun v hv => by rw [rd_take hv]; exact h2 v (by omega)⟩, (rd l m).toNat, by have := h2 m (by omega); omega, ?_⟩
   have h3 := h2 m (by omega)
   have h4 : l.take (m + 1) = l.take m ++ [l[m]] := List.take_succ_eq_append_getElem (by omega)
   rw [List.take_of_length_le (by omega)] at h4
   rw [show ((rd l m).toNat : Int) = l[m] by
    have : rd l m = l[m] := by simp [rd, List.getD_eq_getElem?_getD, List.getElem?_eq_getElem (show m < l.length by omega)]
    omega]
   exact h4.symm
def LexLt (a b : List Int) : Prop := ∃ i : Nat, i < a.length ∧ (∀ j : Nat, j < i → rd a j = rd b j) ∧ rd a i < rd b i
theorem LexLt.irrefl (a : List Int) : ¬ LexLt a a := fun ⟨i, _, _, h⟩ => by omega
theorem stabB_order (most : Nat → Nat) : ∀ m, (stabB most m).Pairwise LexLt
 | 0 => List.pairwise_singleton _ _
 | m + 1 => by
  have ih := stabB_order most m
  simp only [stabB, stepB]
  rw [List.pairwise_flatMap]
  constructor
  ·intro p hp
   rw [List.pairwise_map]
   refine List.Pairwise.imp ?_ (List.pairwise_lt_range (n := most m + 1))
   intro x y hxy
   refine ⟨p.length, by simp, fun j hj => by rw [rd_append_left hj, rd_append_left hj], ?_⟩
   rw [rd_append_last, rd_append_last]; omega
  ·refine List.Pairwise.imp_of_mem ?_ ih
   intro p r hp hr hpr x hx y hy
   obtain ⟨a, _, rfl⟩ := List.mem_map.1 hx
   obtain ⟨b, _, rfl⟩ := List.mem_map.1 hy
   have l1 := stabB_len _ _ _ hp
   have l2 := stabB_len _ _ _ hr
   obtain ⟨i, h1, h2, h3⟩ := hpr
   refine ⟨i, by simp; omega, fun j hj => ?_, ?_⟩
   ·rw [rd_append_left (by omega), rd_append_left (by omega)]; exact h2 j hj
   ·rw [rd_append_left (by omega), rd_append_left (by omega)]; exact h3
theorem rd_ext {a b : List Int} (hl : a.length = b.length) (h : ∀ v : Nat, v < a.length → rd a v = rd b v) : a = b := by
 apply List.ext_getElem hl
 intro i h1 h2
 have := h i h1
 simpa [rd, List.getD_eq_getElem?_getD, List.getElem?_eq_getElem h1, List.getElem?_eq_getElem h2] using this
namespace Small
variable {n q : Nat} {E : List S66}
theorem mem_confs (h : Small n q E) (c : List Int) : c ∈ confs n E q ↔ c.length = n ∧ (∀ v : Nat, 0 ≤ rd c v) ∧ rd c q = 0 ∧ superB n (timesOf E) q c = true := by
 rw [h.confs_eq, List.mem_filter, mem_stabB, ← h.super_iff]
 constructor
 ·rintro ⟨⟨h1, h2⟩, h3⟩
  refine ⟨h1, fun v => ?_, ?_, h3⟩
  ·by_cases hv : v < n
   ·exact (h2 v hv).1
   ·rw [rd_out (by omega)]; exact Int.le_refl _
  ·have := h2 q h.q
   rw [most_q] at this
   omega
 ·rintro ⟨h1, h2, h3, h4⟩
  refine ⟨⟨h1, fun v hv => ⟨h2 v, ?_⟩⟩, h4⟩
  by_cases hq : v = q
  ·subst hq; rw [most_q, h3]; exact Int.le_refl _
  ·have := h.sup_lt hv hq h4
   unfold mostOf
   rw [if_neg hq]; omega
theorem confs_order (h : Small n q E) : (confs n E q).Pairwise LexLt := by
 rw [h.confs_eq]
 exact (stabB_order _ _).filter _
theorem confs_nodup (h : Small n q E) : (confs n E q).Nodup := h.confs_order.imp fun {a b} hab e => by subst e; exact LexLt.irrefl _ hab
theorem good_conf (h : Small n q E) {c : List Int} (hc : c ∈ confs n E q) : GoodC n q c := by
 obtain ⟨h1, h2, h3, h4⟩ := (h.mem_confs c).1 hc
 exact ⟨h1, h2, fun v => by have := ((h.conf_mem hc).2 v).2; omega, h3⟩
end Small
end
section
def sumN (f : Nat → Int) : Nat → Int
 | 0 => 0
 | u + 1 => sumN f u + f u
theorem sumN_congr {f g : Nat → Int} : ∀ {n : Nat}, (∀ u, u < n → f u = g u) → sumN f n = sumN g n
 | 0, _ => rfl
 | n + 1, h => by rw [sumN, sumN, sumN_congr fun u hu => h u (by omega), h n (by omega)]
theorem sumN_le {f g : Nat → Int} : ∀ {n : Nat}, (∀ u, u < n → f u ≤ g u) → sumN f n ≤ sumN g n
 | 0, _ => Int.le_refl _
 | n + 1, h => by
  have := sumN_le (n := n) fun u hu => h u (by omega)
  have := h n (by omega)
  rw [sumN, sumN]; omega
theorem sumN_eq {f g : Nat → Int} : ∀ {n : Nat}, (∀ u, u < n → f u ≤ g u) → sumN f n = sumN g n → ∀ u, u < n → f u = g u
 | 0, _, _, u, hu => by omega
 | n + 1, h, he, u, hu => by
  have h1 := sumN_le (n := n) fun u hu => h u (by omega)
  have h2 := h n (by omega)
  rw [sumN, sumN] at he
  by_cases e : u = n
  ·subst e; omega
  ·exact sumN_eq (n := n) (fun u hu => h u (by omega)) (by omega) u (by omega)
theorem sumN_set {f g : Nat → Int} {v : Nat} (h : ∀ u, u ≠ v → f u = g u) : ∀ {n : Nat}, v < n → sumN g n = sumN f n + (g v - f v)
 | 0, hv => by omega
 | n + 1, hv => by
  rw [sumN, sumN]
  by_cases e : v = n
  ·subst e
   rw [sumN_congr (f := g) (g := f) fun u hu => (h u (by omega)).symm]; omega
  ·have := sumN_set h (n := n) (by omega)
   rw [h n (by omega)]; omega
theorem sumN_zero {f : Nat → Int} : ∀ {n : Nat}, (∀ u, u < n → f u = 0) → sumN f n = 0
 | 0, _ => rfl
 | n + 1, h => by rw [sumN, sumN_zero fun u hu => h u (by omega), h n (by omega)]; rfl
def inE (B : Nat → Bool) (x : S66) : Int := if x.f0 ≠ x.f1 ∧ B x.f0.toNat = true ∧ B x.f1.toNat = true then x.f2 else 0
def conB (B : Nat → Bool) (v u : Int) (x : S66) : Int := if x.f0 ≠ x.f1 ∧ (x.f0 = v ∧ x.f1 < u ∧ B x.f1.toNat = true ∨ x.f1 = v ∧ x.f0 < u ∧ B x.f0.toNat = true) then x.f2 else 0
theorem flames_sum {N : Int} {E : List S66} (hR : RightE N E) (B : Nat → Bool) (v : Nat) (hv : B v = false) : ∀ u : Nat, flamesTo (timesOf E) B v u = sumE (conB B v u) E
 | 0 => by
  rw [sumE_zero]
  ·rfl
  ·intro x hx
   have := hR.ok x hx
   simp [edgeOk] at this
   rw [conB, if_neg (by omega)]
 | u + 1 => by
  rw [flamesTo, flames_sum hR B v hv u]
  cases hb : B u with
  | false =>
   rw [if_neg (by decide), sumE_congr (f := conB B v (u + 1 : Nat)) (g := conB B v u)]
   ·omega
   ·intro x hx
    have ho := hR.ok x hx
    simp [edgeOk] at ho
    unfold conB
    by_cases h : x.f0 ≠ x.f1 ∧ (x.f0 = (v : Int) ∧ x.f1 < (u : Int) ∧ B x.f1.toNat = true ∨ x.f1 = (v : Int) ∧ x.f0 < (u : Int) ∧ B x.f0.toNat = true)
    ·rw [if_pos h, if_pos ⟨h.1, by rcases h.2 with h | h; exact Or.inl ⟨h.1, by omega, h.2.2⟩; exact Or.inr ⟨h.1, by omega, h.2.2⟩⟩]
    ·rw [if_neg h, if_neg]
     rintro ⟨h1, h2 | h2⟩
     ·refine h ⟨h1, Or.inl ⟨h2.1, ?_, h2.2.2⟩⟩
      by_cases e : x.f1 = u
      ·have := h2.2.2; rw [show x.f1.toNat = u by omega, hb] at this; cases this
      ·omega
     ·refine h ⟨h1, Or.inr ⟨h2.1, ?_, h2.2.2⟩⟩
      by_cases e : x.f0 = u
      ·have := h2.2.2; rw [show x.f0.toNat = u by omega, hb] at this; cases this
      ·omega
  | true =>
   have huv : u ≠ v := fun e => by subst e; rw [hv] at hb; cases hb
   rw [if_pos rfl, times_btw hR v u (fun e => huv e.symm), btw_sum _ _ hR.order, ← sumE_add]
   refine (sumE_congr fun x hx => ?_).symm
   have hl := hR.le x hx
   have ho := hR.ok x hx
   simp [edgeOk] at ho
   show conB B v (u + 1 : Nat) x = conB B v u x + _
   by_cases h2 : x.f0 = min (v : Int) u ∧ x.f1 = max (v : Int) u
   ·have hA : conB B v (u + 1 : Nat) x = x.f2 := if_pos ⟨by omega, by
     by_cases e : v < u
     ·exact Or.inl ⟨by omega, by omega, by rw [show x.f1.toNat = u by omega]; exact hb⟩
     ·exact Or.inr ⟨by omega, by omega, by rw [show x.f0.toNat = u by omega]; exact hb⟩⟩
    have hB : conB B v u x = 0 := if_neg (by omega)
    rw [hA, hB, if_pos h2]
    omega
   ·unfold conB
    rw [if_neg h2]
    by_cases h : x.f0 ≠ x.f1 ∧ (x.f0 = (v : Int) ∧ x.f1 < (u : Int) ∧ B x.f1.toNat = true ∨ x.f1 = (v : Int) ∧ x.f0 < (u : Int) ∧ B x.f0.toNat = true)
    ·rw [if_pos h, if_pos ⟨h.1, by rcases h.2 with h | h; exact Or.inl ⟨h.1, by omega, h.2.2⟩; exact Or.inr ⟨h.1, by omega, h.2.2⟩⟩]; omega
    ·rw [if_neg h, if_neg]
     ·rfl
     ·rintro ⟨h1, h3 | h3⟩
      ·exact h ⟨h1, Or.inl ⟨h3.1, by omega, h3.2.2⟩⟩
      ·exact h ⟨h1, Or.inr ⟨h3.1, by omega, h3.2.2⟩⟩
theorem flamesTo_up {t : Nat → Nat → Int} (ht : ∀ i j, 0 ≤ t i j) {b b' : Nat → Bool} {v : Nat} : ∀ n, (∀ u, u < n → b u = true → b' u = true) → flamesTo t b v n ≤ flamesTo t b' v n
 | 0, _ => Int.le_refl _
 | n + 1, h => by
  have ih := flamesTo_up ht (v := v) n fun u hu => h u (by omega)
  have h0 := ht v n
  rw [flamesTo, flamesTo]
  cases hb : b n with
  | false => rw [if_neg (by decide)]; split <;> omega
  | true => rw [if_pos rfl, h n (by omega) hb, if_pos rfl]; omega
def left (n : Nat) (B : Nat → Bool) : Nat := (List.range n).countP fun v => !B v
theorem left_zero {n : Nat} {B : Nat → Bool} (h : left n B = 0) : ∀ v, v < n → B v = true := by
 unfold left at h
 rw [List.countP_eq_zero] at h
 intro v hv
 have := h v (List.mem_range.2 hv)
 simpa using this
theorem left_lt {B : Nat → Bool} {v : Nat} (hb : B v = false) : ∀ {n : Nat}, v < n → left n (fun u => decide (u = v) || B u) < left n B
 | 0, hv => by omega
 | n + 1, hv => by
  unfold left at *
  rw [List.range_succ, List.countP_append, List.countP_append]
  by_cases e : v = n
  ·subst e
   have h1 : (List.range v).countP (fun u => !(decide (u = v) || B u)) = (List.range v).countP fun u => !B u := List.countP_congr fun u hu => by
    have := List.mem_range.1 hu
    simp [show u ≠ v by omega]
   rw [h1]
   simp [hb]
  ·have ih := left_lt hb (n := n) (by omega)
   unfold left at ih
   have h2 : ([n] : List Nat).countP (fun u => !(decide (u = v) || B u)) = ([n] : List Nat).countP fun u => !B u := List.countP_congr fun u hu => by
    have := List.mem_singleton.1 hu
    simp [show u ≠ v by omega]
   dsimp only at ih ⊢
   omega
theorem in_step {B : Nat → Bool} {v : Nat} {n : Int} {x : S66} (hb : B v = false) (h0 : 0 ≤ x.f0 ∧ x.f0 < n) (h1 : 0 ≤ x.f1 ∧ x.f1 < n) : inE B x + conB B v n x = inE (fun u => decide (u = v) || B u) x := by
 by_cases hl : x.f0 = x.f1
 ·have e1 : inE B x = 0 := if_neg fun h => h.1 hl
  have e2 : conB B v n x = 0 := if_neg fun h => h.1 hl
  have e3 : inE (fun u => decide (u = v) || B u) x = 0 := if_neg fun h => h.1 hl
  rw [e1, e2, e3]; rfl
 ·by_cases ha : x.f0 = v
  ·have ha1 : x.f0.toNat = v := by omega
   have hb1 : x.f1.toNat ≠ v := by omega
   have e1 : inE B x = 0 := if_neg fun h => by have := h.2.1; rw [ha1, hb] at this; cases this
   cases e : B x.f1.toNat with
   | true =>
    have e2 : conB B v n x = x.f2 := if_pos ⟨hl, Or.inl ⟨ha, h1.2, e⟩⟩
    have e3 : inE (fun u => decide (u = v) || B u) x = x.f2 := if_pos ⟨hl, by simp [ha1], by simp [e]⟩
    rw [e1, e2, e3]; omega
   | false =>
    have e2 : conB B v n x = 0 := if_neg fun h => by
     rcases h.2 with h | h
     ·have := h.2.2; rw [e] at this; cases this
     ·omega
    have e3 : inE (fun u => decide (u = v) || B u) x = 0 := if_neg fun h => by have := h.2.2; simp [hb1, e] at this
    rw [e1, e2, e3]; rfl
  ·have ha1 : x.f0.toNat ≠ v := by omega
   by_cases hc : x.f1 = v
   ·have hb1 : x.f1.toNat = v := by omega
    have e1 : inE B x = 0 := if_neg fun h => by have := h.2.2; rw [hb1, hb] at this; cases this
    cases e : B x.f0.toNat with
    | true =>
     have e2 : conB B v n x = x.f2 := if_pos ⟨hl, Or.inr ⟨hc, h0.2, e⟩⟩
     have e3 : inE (fun u => decide (u = v) || B u) x = x.f2 := if_pos ⟨hl, by simp [e], by simp [hb1]⟩
     rw [e1, e2, e3]; omega
    | false =>
     have e2 : conB B v n x = 0 := if_neg fun h => by
      rcases h.2 with h | h
      ·omega
      ·have := h.2.2; rw [e] at this; cases this
     have e3 : inE (fun u => decide (u = v) || B u) x = 0 := if_neg fun h => by have := h.2.1; simp [ha1, e] at this
     rw [e1, e2, e3]; rfl
   ·have hb1 : x.f1.toNat ≠ v := by omega
    have e2 : conB B v n x = 0 := if_neg fun h => by omega
    have e3 : inE (fun u => decide (u = v) || B u) x = inE B x := by unfold inE; simp [ha1, hb1]
    rw [e2, e3]; omega
theorem fullify {n q : Nat} {E : List S66} (hR : RightE n E) (hq : q < n) {c : Nat → Int} (hc : NoBlock n (timesOf E) q c) : ∀ (m : Nat) (B : Nat → Bool) (r : Nat → Int), left n B ≤ m → B q = true →
  (∀ v, v < n → B v = true → v ≠ q → c v ≤ r v) → sumN (fun v => if B v = true ∧ v ≠ q then r v + 1 else 0) n = sumE (inE B) E →
  (∀ S : Nat → Bool, S q = false → (∃ v, v < n ∧ S v = true ∧ B v = true) → ∃ v, v < n ∧ S v = true ∧ B v = true ∧ r v < flamesTo (timesOf E) (fun u => !S u) v n) →
  ∃ r' : Nat → Int, (∀ v, v < n → v ≠ q → c v ≤ r' v) ∧ sumN (fun v => if v ≠ q then r' v + 1 else 0) n = sumE (inE fun _ => true) E ∧ NoBlock n (timesOf E) q r' := by
 have ht : ∀ i j, 0 ≤ timesOf E i j := fun i j => ((edgesIn_of hR.inB).times i j).1
 have done : ∀ (B : Nat → Bool) (r : Nat → Int), left n B = 0 → (∀ v, v < n → B v = true → v ≠ q → c v ≤ r v) → sumN (fun v => if B v = true ∧ v ≠ q then r v + 1 else 0) n = sumE (inE B) E →
  (∀ S : Nat → Bool, S q = false → (∃ v, v < n ∧ S v = true ∧ B v = true) → ∃ v, v < n ∧ S v = true ∧ B v = true ∧ r v < flamesTo (timesOf E) (fun u => !S u) v n) →
  ∃ r' : Nat → Int, (∀ v, v < n → v ≠ q → c v ≤ r' v) ∧ sumN (fun v => if v ≠ q then r' v + 1 else 0) n = sumE (inE fun _ => true) E ∧ NoBlock n (timesOf E) q r' := by
  intro B r h0 h1 h2 h3
  have hall := left_zero h0
  refine ⟨r, fun v hv hvq => h1 v hv (hall v hv) hvq, ?_, ?_⟩
  ·rw [sumN_congr (g := fun v => if B v = true ∧ v ≠ q then r v + 1 else 0) fun u hu => by simp [hall u hu], h2]
   refine sumE_congr fun x hx => ?_
   have ho := hR.ok x hx
   simp [edgeOk] at ho
   unfold inE
   rw [hall x.f0.toNat (by omega), hall x.f1.toNat (by omega)]
  ·rintro S ⟨v, hv, hs⟩ hSq
   obtain ⟨u, h4, h5, _, h6⟩ := h3 S hSq ⟨v, hv, hs, hall v hv⟩
   exact ⟨u, h4, h5, h6⟩
 intro m
 induction m with
 | zero => exact fun B r h0 _ h1 h2 h3 => done B r (by omega) h1 h2 h3
 | succ m ih =>
  intro B r h0 hBq h1 h2 h3
  by_cases hz : left n B = 0
  ·exact done B r hz h1 h2 h3
  ·have hex : ∃ v, v < n ∧ (fun u => !B u) v = true := by
    refine Classical.byContradiction fun hno => hz ?_
    unfold left
    rw [List.countP_eq_zero]
    intro v hv hb
    exact hno ⟨v, List.mem_range.1 hv, hb⟩
   obtain ⟨v, hv, hbv, hlt⟩ := hc (fun u => !B u) hex (by simp [hBq])
   have hbv' : B v = false := by simpa using hbv
   have hvq : v ≠ q := fun e => by subst e; rw [hBq] at hbv'; cases hbv'
   have e0 : (fun u => !(fun u => !B u) u) = B := by funext u; simp
   rw [e0] at hlt
   refine ih (fun u => decide (u = v) || B u) (fun u => if u = v then flamesTo (timesOf E) B v n - 1 else r u) (by have := left_lt hbv' hv; omega) (by simp [hBq]) ?_ ?_ ?_
   ·intro u hu hbu huq
    by_cases e : u = v
    ·subst e; simp only [if_true]; omega
    ·simp only [if_neg e]
     simp [e] at hbu
     exact h1 u hu hbu huq
   ·have hs := sumN_set (f := fun u => if B u = true ∧ u ≠ q then r u + 1 else 0) (g := fun u => if (decide (u = v) || B u) = true ∧ u ≠ q then (if u = v then flamesTo (timesOf E) B v n - 1 else r u) + 1 else 0) (v := v) (fun u hu => by simp [hu]) hv
    rw [hs, h2]
    simp only [decide_true, Bool.true_or, if_true, hbv', Bool.false_eq_true, false_and, if_false, ne_eq, hvq, not_false_eq_true, and_self]
    rw [flames_sum hR B v hbv' n]
    rw [show sumE (inE B) E + (sumE (conB B v n) E - 1 + 1 - 0) = sumE (inE B) E + sumE (conB B v n) E by omega, ← sumE_add]
    refine sumE_congr fun x hx => ?_
    have ho := hR.ok x hx
    simp [edgeOk] at ho
    exact in_step hbv' (by omega) (by omega)
   ·intro S hSq hex'
    by_cases hold : ∃ u, u < n ∧ S u = true ∧ B u = true
    ·obtain ⟨u, u1, u2, u3, u4⟩ := h3 S hSq hold
     refine ⟨u, u1, u2, by simp [u3], ?_⟩
     have : u ≠ v := fun e => by subst e; rw [u3] at hbv'; cases hbv'
     simp only [if_neg this]; exact u4
    ·obtain ⟨u, u1, u2, u3⟩ := hex'
     have huv : u = v := by
      refine Classical.byContradiction fun e => hold ⟨u, u1, u2, ?_⟩
      simpa [e] using u3
     subst huv
     refine ⟨u, u1, u2, by simp, ?_⟩
     simp only [if_true]
     have := flamesTo_up ht (b := B) (b' := fun w => !S w) (v := u) n (fun w hw hbw => by
      cases hs : S w with
      | false => rfl
      | true => exact absurd ⟨w, hw, hs, hbw⟩ hold)
     omega
def genE (n : Nat) (E : List S66) : Int := sumE (inE fun _ => true) E - n + 1
theorem sumN_const (n q : Nat) (hq : q < n) (f : Nat → Int) : sumN (fun v => if v ≠ q then f v + 1 else 0) n = sumN (fun v => if v ≠ q then f v else 0) n + n - 1 := by
 have key : ∀ m : Nat, sumN (fun v => if v ≠ q then f v + 1 else 0) m = sumN (fun v => if v ≠ q then f v else 0) m + m - (if q < m then 1 else 0) := fun m => by
  induction m with
  | zero => simp [sumN]
  | succ m ih =>
   rw [sumN, sumN, ih]
   by_cases e : m = q
   ·subst e; simp; omega
   ·rw [if_pos e, if_pos e]
    by_cases h : q < m
    ·rw [if_pos h, if_pos (by omega)]; omega
    ·rw [if_neg h, if_neg (by omega)]; omega
 rw [key n, if_pos hq]
theorem sumTo_sumN (l : List Int) : ∀ m : Nat, sumTo l m = sumN (fun v => rd l v) m
 | 0 => rfl
 | m + 1 => by rw [sumTo, sumN, sumTo_sumN l m]
theorem NoBlock.congr {n : Nat} {t : Nat → Nat → Int} {q : Nat} {c c' : Nat → Int} (h : NoBlock n t q c) (hc : ∀ v, v < n → v ≠ q → c' v ≤ c v) : NoBlock n t q c' := by
 rintro S hS hq
 obtain ⟨v, h1, h2, h3⟩ := h S hS hq
 have : v ≠ q := fun e => by subst e; rw [hq] at h2; cases h2
 exact ⟨v, h1, h2, by have := hc v h1 this; omega⟩
namespace Small
variable {n q : Nat} {E : List S66}
theorem full (h : Small n q E) {c : List Int} (hc : c ∈ confs n E q) : ∃ d : List Int, d ∈ confs n E q ∧ (∀ v : Nat, v < n → rd c v ≤ rd d v) ∧ sumOf d = genE n E := by
 obtain ⟨h1, h2, h3, h4⟩ := (h.mem_confs c).1 hc
 have ht : ∀ i j, 0 ≤ timesOf E i j := fun i j => ((edgesIn_of h.right.inB).times i j).1
 have hnb := (superB_iff ht q c).1 h4
 obtain ⟨r, r1, r2, r3⟩ := fullify h.right h.q hnb (left n fun u => decide (u = q)) (fun u => decide (u = q)) (fun _ => 0) (Nat.le_refl _) (by simp) (fun v hv hb hvq => by simp at hb; exact absurd hb hvq)
  (by
   rw [sumN_zero (fun u hu => by rw [if_neg]; simp), sumE_zero]
   intro x hx
   have ho := h.right.ok x hx
   simp [edgeOk] at ho
   unfold inE
   rw [if_neg]
   rintro ⟨e, e1, e2⟩
   simp at e1 e2
   omega)
  (fun S hS ⟨v, hv, hs, hb⟩ => by simp at hb; subst hb; rw [hS] at hs; cases hs)
 refine ⟨(List.range n).map fun (v : Nat) => if v = q then 0 else r v, ?_, ?_, ?_⟩
 ·refine (h.mem_confs _).2 ⟨by simp, fun v => ?_, ?_, ?_⟩
  ·by_cases hv : v < n
   ·rw [rd_map _ hv]
    by_cases e : v = q
    ·rw [if_pos e]; exact Int.le_refl _
    ·rw [if_neg e]; have := r1 v hv e; have := h2 v; omega
   ·rw [rd_out (by simp; omega)]; exact Int.le_refl _
  ·rw [rd_map _ h.q, if_pos rfl]
  ·refine (superB_iff ht q _).2 (r3.congr fun v hv hvq => ?_)
   rw [rd_map _ hv, if_neg hvq]; exact Int.le_refl _
 ·intro v hv
  rw [rd_map _ hv]
  by_cases e : v = q
  ·rw [if_pos e, e, h3]; exact Int.le_refl _
  ·rw [if_neg e]; exact r1 v hv e
 ·unfold sumOf genE
  rw [← r2, sumN_const n q h.q, sumTo_sumN]
  simp only [List.length_map, List.length_range]
  rw [sumN_congr (g := fun v => if v ≠ q then r v else 0) fun u hu => by
   rw [rd_map _ hu]
   by_cases e : u = q
   ·rw [if_pos e, if_neg (by simp [e])]
   ·rw [if_neg e, if_pos e]]
  omega
theorem sum_le (h : Small n q E) {c : List Int} (hc : c ∈ confs n E q) : 0 ≤ sumOf c ∧ sumOf c ≤ genE n E := by
 obtain ⟨d, hd, h1, h2⟩ := h.full hc
 have lc := (h.conf_mem hc).1
 have ld := (h.conf_mem hd).1
 have hp := ((h.mem_confs c).1 hc).2.1
 rw [← h2]
 unfold sumOf
 rw [sumTo_sumN, sumTo_sumN, lc, ld]
 have h0 := sumN_le (f := fun _ => 0) (g := fun (v : Nat) => rd c v) (n := n) fun u _ => hp u
 rw [sumN_zero (f := fun _ => 0) fun _ _ => rfl] at h0
 exact ⟨h0, sumN_le h1⟩
theorem top_iff (h : Small n q E) {c : List Int} (hc : c ∈ confs n E q) : sumOf c = genE n E ↔ ∀ v : Nat, v < n → v ≠ q → superB n (timesOf E) q (c.set v (rd c v + 1)) = false := by
 obtain ⟨h1, h2, h3, h4⟩ := (h.mem_confs c).1 hc
 constructor
 ·intro hs v hv hvq
  cases e : superB n (timesOf E) q (c.set v (rd c v + 1)) with
  | false => rfl
  | true =>
   have hm : c.set v (rd c v + 1) ∈ confs n E q := (h.mem_confs _).2 ⟨by simp [h1], fun u => by
    by_cases e : v = u
    ·subst e; rw [rd_set_self (by omega)]; have := h2 v; omega
    ·rw [rd_set_ne e]; exact h2 u, by rw [rd_set_ne hvq]; exact h3, e⟩
   have := (h.sum_le hm).2
   have hx : sumOf (c.set v (rd c v + 1)) = sumOf c + 1 := by
    unfold sumOf
    rw [sumTo_sumN, sumTo_sumN, List.length_set, sumN_set (f := fun (u : Nat) => rd c u) (v := v) (fun u hu => (rd_set_ne (fun e => hu e.symm) _).symm) (by omega), rd_set_self (by omega)]
    omega
   omega
 ·intro hall
  obtain ⟨d, hd, hle, hsum⟩ := h.full hc
  obtain ⟨d1, d2, d3, d4⟩ := (h.mem_confs d).1 hd
  have : c = d := rd_ext (by omega) fun v hv => by
   refine Classical.byContradiction fun hne => ?_
   have hl := hle v (by omega)
   have hvq : v ≠ q := fun e => by subst e; rw [h3, d3] at hne; exact hne rfl
   have hb := hall v (by omega) hvq
   have : superB n (timesOf E) q (c.set v (rd c v + 1)) = true := h.sup_down (fun u hu => by
    by_cases e : v = u
    ·subst e; rw [rd_set_self (by omega)]; omega
    ·rw [rd_set_ne e]; exact hle u hu) d4
   rw [hb] at this; cases this
  rw [this]; exact hsum
end Small
end
def sandpilelaw28_right.f (k : Nat) (a0_0 : Int) (l0_1 : List (S66)) (a1 : Int) : Option (Bool) := (sandpileref08_FewTrees.f k a0_0 l0_1).bind fun t380 => (if t380 = true then ((sandpileref19_Rooted.f k a0_0 l0_1 a1).bind fun t381 => (some (t381 == 0))) else (some false))
theorem sandpilelaw28_right.calls (k : Nat) (a0_0 : Int) (A0_1 : Option Addr) (c0_1 : Nat) (l0_1 : List (S66)) (a1 : Int) (r : Bool) (w : World) (hr0_1 : Kd.C k66 w A0_1 l0_1.length l0_1) (hc0_1 : l0_1.length ≤ c0_1) (h : sandpilelaw28_right.f k a0_0 l0_1 a1 = some r) :
  Calls Try.prog 27 #[.agg #[.int .i64 a0_0, .slice A0_1 l0_1.length c0_1], .int .i64 a1] w fun e w' => e = .returned (.bool r) ∧ Below w.heap.size w w' := by
 have hu24 := Try.underlying24
 have HR0_1 := Aside0.mk hr0_1
 have HC0_1 := Aside0.mk hc0_1
 clear hr0_1 hc0_1
 have HB := Aside0.mk (Below.refl w.heap.size w)
 have H : ((sandpileref08_FewTrees.f k a0_0 l0_1).bind fun t380 => (if t380 = true then ((sandpileref19_Rooted.f k a0_0 l0_1 a1).bind fun t381 => (some (t381 == 0))) else (some false))) = some r := h
 clear h
 replace H := Option.bind_eq_some_iff.mp H
 obtain ⟨t380, A30, H⟩ := H
 replace H : (if t380 = true then ((sandpileref19_Rooted.f k a0_0 l0_1 a1).bind fun t381 => (some (t381 == 0))) else (some false)) = some r := H
 have A3 := Aside0.mk A30
 clear A30
 by_cases c4 : t380 = true
 ·subst c4
  have H1 : ((sandpileref19_Rooted.f k a0_0 l0_1 a1).bind fun t381 => (some (t381 == 0))) = some r := by rw [if_pos rfl] at H; exact H
  clear H
  have H := H1
  clear H1
  replace H := Option.bind_eq_some_iff.mp H
  obtain ⟨t381, A50, H⟩ := H
  replace H : (some (t381 == 0)) = some r := H
  have A5 := Aside0.mk A50
  clear A50
  obtain rfl := Option.some.inj H
  go_enter Try.func27, Try.ntmps27
  go_wp2_with (first | ((with_reducible refine gate_dst (N := 2) rfl ?_); refine zX 2 #[.int .i64 a0_0, .slice A0_1 l0_1.length c0_1] 24 ?_; intro gb379 hg w6 hbox hb; have BK379 := Aside0.mk (hbox); have GW379 := zG HB hg; have GE379 := zG HB hg; replace HB := zS HB hb; clear hb hbox hg; obtain ⟨hcz7_0, hcz7_1, hfz7_0, hfz7_1⟩ := zD2 BK379) | ((with_reducible refine gate_callee (f := 10) rfl ?_); refine zL (some 6) Try.func10 #[.agg #[.int .i64 a0_0, .slice A0_1 l0_1.length c0_1]] ?_; (with_reducible refine (sandpileref08_FewTrees.calls k a0_0 _ _ l0_1 true _ ?side1 ?side2 A3.out).mono ?_); (case side1 => exact Kd.C_below HR0_1.out zB); (case side2 => exact HC0_1.out); rintro e w8 ⟨rfl, hb⟩; refine ⟨_, rfl, ?_⟩; replace BK379 := zb BK379 hb; replace HB := zS HB hb; (try clear hb); obtain ⟨hcz9_0, hcz9_1, hfz9_0, hfz9_1⟩ := zD2 BK379) | (go_at_call 15; (with_reducible refine (sandpileref19_Rooted.calls k a0_0 _ _ l0_1 a1 t381 _ ?side1 ?side2 A5.out).mono ?_); (case side1 => exact Kd.C_below HR0_1.out zB); (case side2 => exact HC0_1.out); rintro e w10 ⟨rfl, hb⟩; replace BK379 := zb BK379 hb; replace HB := zS HB hb; (try clear hb)))
  go_ret
  exact ⟨zE, zB⟩
 ·replace c4 := Bool.eq_false_iff.mpr c4
  subst c4
  have H1 : (some false) = some r := by rw [if_neg (show ¬ (false = true) by decide)] at H; exact H
  clear H
  have H := H1
  clear H1
  obtain rfl := Option.some.inj H
  go_enter Try.func27, Try.ntmps27
  go_wp2_with (first | ((with_reducible refine gate_dst (N := 2) rfl ?_); refine zX 2 #[.int .i64 a0_0, .slice A0_1 l0_1.length c0_1] 24 ?_; intro gb379 hg w11 hbox hb; have BK379 := Aside0.mk (hbox); have GW379 := zG HB hg; have GE379 := zG HB hg; replace HB := zS HB hb; clear hb hbox hg; obtain ⟨hcz12_0, hcz12_1, hfz12_0, hfz12_1⟩ := zD2 BK379) | ((with_reducible refine gate_callee (f := 10) rfl ?_); refine zL (some 6) Try.func10 #[.agg #[.int .i64 a0_0, .slice A0_1 l0_1.length c0_1]] ?_; (with_reducible refine (sandpileref08_FewTrees.calls k a0_0 _ _ l0_1 false _ ?side1 ?side2 A3.out).mono ?_); (case side1 => exact Kd.C_below HR0_1.out zB); (case side2 => exact HC0_1.out); rintro e w13 ⟨rfl, hb⟩; refine ⟨_, rfl, ?_⟩; replace BK379 := zb BK379 hb; replace HB := zS HB hb; (try clear hb)))
  go_ret
  exact ⟨zE, zB⟩
def sandpileref08_Genus.f (k : Nat) (a0_0 : Int) (l0_1 : List (S66)) : Option (Int) := (sandpileref08_Size.f a0_0 l0_1).bind fun t383 => ((sandpileref08_Parts.f k a0_0 l0_1).bind fun t384 => (some (wrap64 ((wrap64 (t383 - a0_0)) + t384))))
def sandpileref08_Genus.T1 : Bool × List (List Nat × List Nat) := (true, [([], []), ([0], [0]), ([], []), ([2], [2]), ([1, 3], [1, 3]), ([], []), ([5, 1], [5]), ([4, 6], [4, 6]), ([7, 6, 0, 1, 2, 3, 4, 5, 6, 7], [7])])
def sandpileref08_Genus.B1 : List Nat := [0, 1, 0, 4, 15, 0, 35, 127, 255]
theorem sandpileref08_Genus.tab1 : rtab .any (opsOf Try.f28 1) = sandpileref08_Genus.T1 := by kernel_rfl
theorem sandpileref08_Genus.bits1 : waitsOk sandpileref08_Genus.T1.2 sandpileref08_Genus.B1 = true := by kernel_rfl
theorem sandpileref08_Genus.calls (k : Nat) (a0_0 : Int) (A0_1 : Option Addr) (c0_1 : Nat) (l0_1 : List (S66)) (r : Int) (w : World) (hr0_1 : Kd.C k66 w A0_1 l0_1.length l0_1) (hc0_1 : l0_1.length ≤ c0_1) (h : sandpileref08_Genus.f k a0_0 l0_1 = some r) :
  Calls Try.prog 28 #[.agg #[.int .i64 a0_0, .slice A0_1 l0_1.length c0_1]] w fun e w' => e = .returned (.int .i64 r) ∧ Below w.heap.size w w' := by
 have hu24 := Try.underlying24
 have HR0_1 := Aside0.mk hr0_1
 have HC0_1 := Aside0.mk hc0_1
 clear hr0_1 hc0_1
 have HB := Aside0.mk (Below.refl w.heap.size w)
 have H : ((sandpileref08_Size.f a0_0 l0_1).bind fun t383 => ((sandpileref08_Parts.f k a0_0 l0_1).bind fun t384 => (some (wrap64 ((wrap64 (t383 - a0_0)) + t384))))) = some r := h
 clear h
 replace H := Option.bind_eq_some_iff.mp H
 obtain ⟨t383, A20, H⟩ := H
 replace H : ((sandpileref08_Parts.f k a0_0 l0_1).bind fun t384 => (some (wrap64 ((wrap64 (t383 - a0_0)) + t384)))) = some r := H
 have A2 := Aside0.mk A20
 clear A20
 replace H := Option.bind_eq_some_iff.mp H
 obtain ⟨t384, A30, H⟩ := H
 replace H : (some (wrap64 ((wrap64 (t383 - a0_0)) + t384))) = some r := H
 have A3 := Aside0.mk A30
 clear A30
 obtain rfl := Option.some.inj H
 go_enter Try.func28, Try.ntmps28
 try go_wp2_with (first | ((with_reducible refine gate_dst (N := 1) rfl ?_); refine zX 1 #[.int .i64 a0_0, .slice A0_1 l0_1.length c0_1] 24 ?_; intro gb382 hg w4 hbox hb; have BK382 := Aside0.mk (hbox); have GW382 := zG HB hg; have GE382 := zG HB hg; replace HB := zS HB hb; clear hb hbox hg))
 have n0_ := Aside0.mk (blk_drew BK382.out)
 have n1_ := Aside0.mk (below_drew1 HB.out)
 clear BK382
 clear HB
 have BK382 := n0_
 have HB := n1_
 clear n0_ n1_
 refine start_ (n := 9) (S := fun w' => w'.cell? ⟨gb382, 0, none⟩ = some (.int .i64 a0_0) ∧ w'.cell? ⟨gb382, 1, none⟩ = some (.slice A0_1 l0_1.length c0_1)) (ds := []) #[false, false, false, false, false, false, false, false, false] (by kernel_rfl) rfl rfl ⟨(blk_cell BK382.out 0).trans rfl, (blk_cell BK382.out 1).trans rfl⟩ (fun hHeld => ?_); refine with_tabW sandpileref08_Genus.tab1 sandpileref08_Genus.bits1 (fun HT_ HW_ => ?_)
 generalize w4.drew = w5 at BK382 HB hHeld ⊢
 refine pure_ (i := 2) (N := some 5) (v := ?_) (a' := ?_) #[false, false, true, false, false, false, false, false, false] rfl rfl (any_of HT_.out (by kernel_rfl)) (fun _ _ _ h => h) (Or.inl ⟨by rfl, ?_⟩) ?_ ?_
 rotate_left
 ·intro w'
  go_simp
  with_reducible rfl
 rotate_left
 ·simp only [Act.put, List.setIfInBounds_toArray, List.set_cons_zero, List.set_cons_succ, i64_w, i32_w]
  rfl
 refine take_ (i := 0) (N := some 3) (v := ?_) (a' := ?_) #[true, false, true, false, false, false, false, false, false] rfl rfl (take_ofW HT_.out HW_.out (by kernel_rfl)) (fun _ _ _ h => h) (Or.inl ⟨by rfl, ?_⟩) hHeld ?_ ?_
 rotate_left
 ·rintro w' ⟨s0, s1⟩
  go_simp
  with_reducible rfl
 rotate_left
 ·simp only [Act.put, List.setIfInBounds_toArray, List.set_cons_zero, List.set_cons_succ, i64_w, i32_w]
  rfl
 refine take_ (i := 3) (N := some 6) (v := ?_) (a' := ?_) #[true, false, true, true, false, false, false, false, false] rfl rfl (take_ofW HT_.out HW_.out (by kernel_rfl)) (fun _ _ _ h => h) (Or.inl ⟨by rfl, ?_⟩) hHeld ?_ ?_
 rotate_left
 ·rintro w' ⟨s0, s1⟩
  go_simp
  with_reducible rfl
 rotate_left
 ·simp only [Act.put, List.setIfInBounds_toArray, List.set_cons_zero, List.set_cons_succ, i64_w, i32_w]
  rfl
 refine take_ (i := 5) (N := some 8) (v := ?_) (a' := ?_) #[true, false, true, true, false, true, false, false, false] rfl rfl (take_ofW HT_.out HW_.out (by kernel_rfl)) (fun _ _ _ h => h) (Or.inl ⟨by rfl, ?_⟩) hHeld ?_ ?_
 rotate_left
 ·rintro w' ⟨s0, s1⟩
  go_simp
  with_reducible rfl
 rotate_left
 ·simp only [Act.put, List.setIfInBounds_toArray, List.set_cons_zero, List.set_cons_succ, i64_w, i32_w]
  rfl
 refine one_ (i := 1) (N := some 4) #[true, true, true, true, false, true, false, false, false] rfl rfl (one_of HT_.out (by kernel_rfl)) (by decide) (fun K hK => ?_)
 refine goes_ Try.func59 (by kernel_rfl) rfl #[.agg #[.int .i64 a0_0, .slice A0_1 l0_1.length c0_1]] (by rfl) rfl rfl (by (try simp only [List.map_toArray, List.map_cons, List.map_nil]); first | done | rfl | (simp only [List.length_drop, List.length_take]; rfl)) ?_
 with_reducible refine (sandpileref08_Size.calls a0_0 _ _ l0_1 t383 _ ?side1 ?side2 A2.out).mono ?_
 (case side1 => exact Kd.C_below HR0_1.out zB)
 (case side2 => exact HC0_1.out)
 rintro e w6 ⟨rfl, hb⟩
 refine ⟨_, rfl, ?_⟩
 have n0_ := zb BK382 hb
 have n1_ := zS HB hb
 clear BK382
 clear HB
 have BK382 := n0_
 have HB := n1_
 clear n0_ n1_
 (try clear hb)
 skip
 skip
 skip
 refine hK.out _ _ ⟨(blk_cell BK382.out 0).trans rfl, (blk_cell BK382.out 1).trans rfl⟩ (fun hHeld => ?_)
 clear hK K
 refine norm_ (a' := ?_) ?_ ?_
 rotate_left
 ·show Act.put _ (some 4) _ = _
  simp only [Act.put, List.setIfInBounds_toArray, List.set_cons_zero, List.set_cons_succ, i64_w, i32_w]
  rfl
 refine pure_ (i := 4) (N := some 7) (v := ?_) (a' := ?_) #[true, true, true, true, true, true, false, false, false] rfl rfl (any_of HT_.out (by kernel_rfl)) (fun _ _ _ h => h) (Or.inl ⟨by rfl, ?_⟩) ?_ ?_
 rotate_left
 ·intro w'
  go_simp
  with_reducible rfl
 rotate_left
 ·simp only [Act.put, List.setIfInBounds_toArray, List.set_cons_zero, List.set_cons_succ, i64_w, i32_w]
  rfl
 refine one_ (i := 6) (N := some 9) #[true, true, true, true, true, true, true, false, false] rfl rfl (one_of HT_.out (by kernel_rfl)) (by decide) (fun K hK => ?_)
 refine goes_ Try.func60 (by kernel_rfl) rfl #[.agg #[.int .i64 a0_0, .slice A0_1 l0_1.length c0_1]] (by rfl) rfl rfl (by (try simp only [List.map_toArray, List.map_cons, List.map_nil]); first | done | rfl | (simp only [List.length_drop, List.length_take]; rfl)) ?_
 with_reducible refine (sandpileref08_Parts.calls k a0_0 _ _ l0_1 t384 _ ?side1 ?side2 A3.out).mono ?_
 (case side1 => exact Kd.C_below HR0_1.out zB)
 (case side2 => exact HC0_1.out)
 rintro e w7 ⟨rfl, hb⟩
 refine ⟨_, rfl, ?_⟩
 have n0_ := zb BK382 hb
 have n1_ := zS HB hb
 clear BK382
 clear HB
 have BK382 := n0_
 have HB := n1_
 clear n0_ n1_
 (try clear hb)
 skip
 skip
 skip
 refine hK.out _ _ ⟨(blk_cell BK382.out 0).trans rfl, (blk_cell BK382.out 1).trans rfl⟩ (fun hHeld => ?_)
 clear hK K
 refine norm_ (a' := ?_) ?_ ?_
 rotate_left
 ·show Act.put _ (some 9) _ = _
  simp only [Act.put, List.setIfInBounds_toArray, List.set_cons_zero, List.set_cons_succ, i64_w, i32_w]
  rfl
 refine pure_ (i := 7) (N := some 10) (v := ?_) (a' := ?_) #[true, true, true, true, true, true, true, true, false] rfl rfl (any_of HT_.out (by kernel_rfl)) (fun _ _ _ h => h) (Or.inl ⟨by rfl, ?_⟩) ?_ ?_
 rotate_left
 ·intro w'
  go_simp
  with_reducible rfl
 rotate_left
 ·simp only [Act.put, List.setIfInBounds_toArray, List.set_cons_zero, List.set_cons_succ, i64_w, i32_w]
  rfl
 refine pure_ (i := 8) (N := some 2) (v := ?_) (a' := ?_) #[true, true, true, true, true, true, true, true, true] rfl rfl (any_of HT_.out (by kernel_rfl)) (fun _ _ _ h => h) (Or.inl ⟨by rfl, ?_⟩) ?_ ?_
 rotate_left
 ·intro w'
  go_simp
  with_reducible rfl
 rotate_left
 ·simp only [Act.put, List.setIfInBounds_toArray, List.set_cons_zero, List.set_cons_succ, i64_w, i32_w]
  rfl
 refine done_ (done_of HT_.out (by kernel_rfl)) ?_
 try go_wp2
 go_ret
 exact ⟨zE, zB⟩
section
attribute [local go_sem] max2_int min2_int max_two min_two max_three min_three max_four min_four
def sandpileref08_Limited.l0 : Nat → Int → Int → Int → List (S66) → Int → List (S66) → Option (Int × (List (S66)))
 | 0, _, _, _, _, _, _ => none
 | k + 1, x1, x6, x386000, x386001, x388000, x388001 => if x6 < (x386001.length : Int) then (if 0 ≤ x6 then (if ((rd_T66 x386001 x6).f0) = ((rd_T66 x386001 x6).f1) then (sandpileref08_Limited.l0 k x1 (wrap64 (x6 + 1)) x386000 x386001 x388000 x388001) else (if x388001.length < 5864062014805 then (sandpileref08_Limited.l0 k x1 (wrap64 (x6 + 1)) x386000 x386001 x388000 (x388001 ++ [(⟨(rd_T66 x386001 x6).f0, (rd_T66 x386001 x6).f1, mn ((rd_T66 x386001 x6).f2) x1⟩ : S66)])) else (none))) else (none)) else (some (x388000, x388001))
def sandpileref08_Limited.f (k : Nat) (a0_0 : Int) (l0_1 : List (S66)) (a1 : Int) : Option (Int × (List (S66))) := sandpileref08_Limited.l0 k a1 0 a0_0 l0_1 a0_0 ([] : List (S66))
theorem sandpileref08_Limited.calls (k : Nat) (a0_0 : Int) (A0_1 : Option Addr) (c0_1 : Nat) (l0_1 : List (S66)) (a1 : Int) (r1 : Int) (r2 : List (S66)) (w : World) (hr0_1 : Kd.C k66 w A0_1 l0_1.length l0_1) (hc0_1 : l0_1.length ≤ c0_1) (h : sandpileref08_Limited.f k a0_0 l0_1 a1 = some (r1, r2)) :
  Calls Try.prog 29 #[.agg #[.int .i64 a0_0, .slice A0_1 l0_1.length c0_1], .int .i64 a1] w fun e w' => ∃ v1_ : Value, e = .returned (.agg #[.int .i64 r1, v1_]) ∧ Kd.R k66 66 w' w.heap.size (fun _ => True) v1_ r2 ∧ Below w.heap.size w w' := by
 have hu24 := Try.underlying24
 have hu66 := Try.underlying66
 have HR0_1 := Aside0.mk hr0_1
 have HC0_1 := Aside0.mk hc0_1
 clear hr0_1 hc0_1
 have HB := Aside0.mk (Below.refl w.heap.size w)
 have H : (sandpileref08_Limited.l0 k a1 0 a0_0 l0_1 a0_0 ([] : List (S66))) = some (r1, r2) := h
 clear h
 have H' := Aside0.mk H
 clear H
 go_enter Try.func29, Try.ntmps29
 go_wp2_with (first | ((with_reducible refine gate_dst (N := 2) rfl ?_); refine zX 2 #[.int .i64 a0_0, .slice A0_1 l0_1.length c0_1] 24 ?_; intro gb385 hg w3 hbox hb; have BK385 := Aside0.mk (hbox); have GW385 := zG HB hg; have GE385 := zG HB hg; replace HB := zS HB hb; clear hb hbox hg) | ((with_reducible refine gate_dst (N := 4) rfl ?_); refine zX 4 #[.int .i64 0, .slice none 0 0] 24 ?_; intro gb386 hg w4 hbox hb; have BK386 := Aside0.mk (hbox); have GW386 := zG HB hg; have GE386 := zG HB hg; replace HB := zS HB hb; have NB385_386 := Aside0.mk ((by rw [hg]; exact Nat.ne_of_lt (blk_lt (g := gb385) (o := .cells #[.int .i64 a0_0, .slice A0_1 l0_1.length c0_1] 24 (0, 0)) (zK BK385)) : gb385 ≠ gb386)); have NB386_385 := Aside0.mk ((by rw [hg]; exact Nat.ne_of_gt (blk_lt (g := gb385) (o := .cells #[.int .i64 a0_0, .slice A0_1 l0_1.length c0_1] 24 (0, 0)) (zK BK385)) : gb386 ≠ gb385)); replace BK385 := zb BK385 hb; clear hb hbox hg; have hnb5 := NB385_386.out; have hnc5 := NB386_385.out; obtain ⟨hcz6_0, hcz6_1, hfz6_0, hfz6_1⟩ := zD2 BK385) | ((with_reducible refine gate_dst (N := 5) rfl ?_); refine zX 5 #[.int .i64 0, .slice none 0 0] 24 ?_; intro gb387 hg w7 hbox hb; have BK387 := Aside0.mk (hbox); have GW387 := zG HB hg; have GE387 := zG HB hg; replace HB := zS HB hb; have NB385_387 := Aside0.mk ((by rw [hg]; exact Nat.ne_of_lt (blk_lt (g := gb385) (o := .cells #[.int .i64 a0_0, .slice A0_1 l0_1.length c0_1] 24 (0, 0)) (zK BK385)) : gb385 ≠ gb387)); have NB387_385 := Aside0.mk ((by rw [hg]; exact Nat.ne_of_gt (blk_lt (g := gb385) (o := .cells #[.int .i64 a0_0, .slice A0_1 l0_1.length c0_1] 24 (0, 0)) (zK BK385)) : gb387 ≠ gb385)); replace BK385 := zb BK385 hb; have NB386_387 := Aside0.mk ((by rw [hg]; exact Nat.ne_of_lt (blk_lt (g := gb386) (o := .cells #[.int .i64 0, .slice none 0 0] 24 (0, 0)) (zK BK386)) : gb386 ≠ gb387)); have NB387_386 := Aside0.mk ((by rw [hg]; exact Nat.ne_of_gt (blk_lt (g := gb386) (o := .cells #[.int .i64 0, .slice none 0 0] 24 (0, 0)) (zK BK386)) : gb387 ≠ gb386)); replace BK386 := zb BK386 hb; clear hb hbox hg; have hnb8 := NB387_385.out; have hnc8 := NB385_387.out; have hnb9 := NB387_386.out; have hnc9 := NB386_387.out; obtain ⟨hcz10_0, hcz10_1, hfz10_0, hfz10_1⟩ := zD2 BK387))
 go_loopg [6] k (fun kq v6 w' => ∃ (x6_1 : Int) (x388001_1 : List (S66)) (u388001 : Value), v6 = .int .i64 x6_1 ∧ Aside0 (sandpileref08_Limited.l0 kq a1 x6_1 a0_0 l0_1 a0_0 x388001_1 = some (r1, r2)) ∧ Aside0 (kq ≤ k) ∧ Aside0 (Kd.R k66 66 w' w.heap.size (fun _ => True) u388001 x388001_1) ∧ Aside0 (w'.heap[gb385]? = some (.cells #[.int .i64 a0_0, (.slice A0_1 l0_1.length c0_1)] 24 (0, 0))) ∧ Aside0 (w'.heap[gb386]? = some (.cells #[.int .i64 0, (.slice none 0 0)] 24 (0, 0))) ∧ Aside0 (w'.heap[gb387]? = some (.cells #[.int .i64 a0_0, u388001] 24 (0, 0))) ∧ Aside0 (Below w.heap.size w w'))
 case atStart => exact ⟨(0), (([] : List (S66))), (.slice none 0 0), zT, H', ⟨Nat.le_refl _⟩, ⟨by first | exact Kd.R_nil _ _ _ _ _ | exact Kd.N_nil _ _ _ _ _ | exact Kd.V_nil _ _ _ _ _ | exact Kd.Q_nil _ _ _ _ _ | exact Kd.S_nil _ _ _ _ _⟩, ⟨by refine zk ?_; refine blk_far ?_ NB385_387.out _; refine zk ?_; refine blk_far ?_ NB385_387.out _; exact zK BK385⟩, ⟨by refine zk ?_; refine blk_far ?_ NB386_387.out _; refine zk ?_; refine blk_far ?_ NB386_387.out _; exact zK BK386⟩, ⟨by refine zk ?_; refine blk_put (cs := #[.int .i64 a0_0, .slice none 0 0]) ?_ 1 _ rfl; refine zk ?_; refine blk_put (cs := #[.int .i64 0, .slice none 0 0]) ?_ 0 _ rfl; exact zK BK387⟩, ⟨zB⟩⟩
 case round =>
  clear H'
  try clear c2
  try clear p2
  try clear c5
  try clear c8
  try clear c9
  try clear hcz10_0
  try clear hcz10_1
  try clear hcz6_0
  try clear hcz6_1
  try clear hfz10_0
  try clear hfz10_1
  try clear hfz6_0
  try clear hfz6_1
  obtain ⟨x6_1, x388001_1, u388001, rfl, HA, HK1, HO_388001, BK385, BK386, BK387, HB⟩ := hrel
  cases gk with
  | zero => exact absurd HA.out (by simp [sandpileref08_Limited.l0])
  | succ k1 =>
   have H := HA.out
   clear HA
   simp only [sandpileref08_Limited.l0] at H
   by_cases c11 : x6_1 < (l0_1.length : Int)
   ·rw [if_pos c11] at H
    have c11b0 : decide (x6_1 < (l0_1.length : Int)) = true := decide_eq_true c11
    clear c11
    by_cases c12 : 0 ≤ x6_1
    ·rw [if_pos c12] at H
     have c12b0 : decide (0 ≤ x6_1) = true := decide_eq_true c12
     clear c12
     by_cases c13 : ((rd_T66 l0_1 x6_1).f0) = ((rd_T66 l0_1 x6_1).f1)
     ·rw [if_pos c13] at H
      have c13b0 : (((rd_T66 l0_1 x6_1).f0) == ((rd_T66 l0_1 x6_1).f1)) = true := beq_iff_eq.mpr c13
      have c13b1 : (((rd_T66 l0_1 x6_1).f0) != ((rd_T66 l0_1 x6_1).f1)) = false := bne_eq_false_iff_eq.mpr c13
      clear c13
      have H' := Aside0.mk H
      clear H
      have hnb14 := NB385_386.out
      have hnc14 := NB386_385.out
      have hnb15 := NB385_387.out
      have hnc15 := NB387_385.out
      obtain ⟨hcz16_0, hcz16_1, hfz16_0, hfz16_1⟩ := zD2 BK385
      have p388 : 0 ≤ (x6_1 : Int) := of_decide_eq_true ‹_›
      have q388 : x6_1 < (l0_1.length : Int) := of_decide_eq_true ‹_›
      obtain ⟨ad388, e388, hx388_0, hx388_1, hx388_2⟩ := at_T66 HR0_1.out x6_1 p388 q388
      cases e388
      replace hx388_0 := (HB.out.cell (World.block_lt_of_cell? w _ hx388_0)).trans hx388_0
      replace hx388_1 := (HB.out.cell (World.block_lt_of_cell? w _ hx388_1)).trans hx388_1
      replace hx388_2 := (HB.out.cell (World.block_lt_of_cell? w _ hx388_2)).trans hx388_2
      replace p388 := eq_true p388
      replace q388 := eq_true q388
      go_wp2_with (first | ((with_reducible refine gate_dst (N := 7) rfl ?_); refine zX 7 #[.int .i64 0, .int .i64 0, .int .i64 0] 66 ?_; intro gb389 hg w17 hbox hb; replace HO_388001 := Aside0.mk (Kd.R_below (Kd.R_elderB (zR HO_388001) gb389 (Nat.le_of_eq hg.symm)) hb); have BK389 := Aside0.mk (hbox); have GW389 := zG HB hg; have GE389 := zG HB hg; replace HB := zS HB hb; have NB385_389 := Aside0.mk ((by rw [hg]; exact Nat.ne_of_lt (blk_lt (g := gb385) (o := .cells #[.int .i64 a0_0, .slice (some ad388) l0_1.length c0_1] 24 (0, 0)) (zK BK385)) : gb385 ≠ gb389)); have NB389_385 := Aside0.mk ((by rw [hg]; exact Nat.ne_of_gt (blk_lt (g := gb385) (o := .cells #[.int .i64 a0_0, .slice (some ad388) l0_1.length c0_1] 24 (0, 0)) (zK BK385)) : gb389 ≠ gb385)); replace BK385 := zb BK385 hb; have NB386_389 := Aside0.mk ((by rw [hg]; exact Nat.ne_of_lt (blk_lt (g := gb386) (o := .cells #[.int .i64 0, .slice none 0 0] 24 (0, 0)) (zK BK386)) : gb386 ≠ gb389)); have NB389_386 := Aside0.mk ((by rw [hg]; exact Nat.ne_of_gt (blk_lt (g := gb386) (o := .cells #[.int .i64 0, .slice none 0 0] 24 (0, 0)) (zK BK386)) : gb389 ≠ gb386)); replace BK386 := zb BK386 hb; have NB387_389 := Aside0.mk ((by rw [hg]; exact Nat.ne_of_lt (blk_lt (g := gb387) (o := .cells #[.int .i64 a0_0, u388001] 24 (0, 0)) (zK BK387)) : gb387 ≠ gb389)); have NB389_387 := Aside0.mk ((by rw [hg]; exact Nat.ne_of_gt (blk_lt (g := gb387) (o := .cells #[.int .i64 a0_0, u388001] 24 (0, 0)) (zK BK387)) : gb389 ≠ gb387)); replace BK387 := zb BK387 hb; clear hb hbox hg; have hnb18 := NB389_385.out; have hnc18 := NB385_389.out; have hnb19 := NB389_386.out; have hnc19 := NB386_389.out; have hnb20 := NB389_387.out; have hnc20 := NB387_389.out; obtain ⟨hcz21_0, hcz21_1, hcz21_2, hfz21_0, hfz21_1, hfz21_2⟩ := zD3 BK389))
      go_roundg k1
      case measure => have := HK1.out; omega
      case rel => exact ⟨(wrap64 (x6_1 + 1)), (x388001_1), (u388001), zT, H', ⟨by have := HK1.out; omega⟩, ⟨by (with_reducible repeat (first | apply Kd.R_alloc | apply Kd.R_drewN | apply Kd.R_drew)); exact Kd.R_mono (Kd.R_far (p := ⟨gb389, 2, none⟩) (Kd.R_far (p := ⟨gb389, 1, none⟩) (Kd.R_far (p := ⟨gb389, 0, none⟩) (Kd.R_mono HO_388001.out (fun k_ hk => (⟨hk, hk.2⟩ : _ ∧ k_ ≠ gb389))) (fun _ hk => hk.2) (.int .i64 ((rd_T66 l0_1 x6_1).f0))) (fun _ hk => hk.2) (.int .i64 ((rd_T66 l0_1 x6_1).f1))) (fun _ hk => hk.2) (.int .i64 ((rd_T66 l0_1 x6_1).f2))) (fun _ hk => trivial)⟩, ⟨by refine zk ?_; refine blk_far ?_ NB385_389.out _; refine zk ?_; refine blk_far ?_ NB385_389.out _; refine zk ?_; refine blk_far ?_ NB385_389.out _; exact zK BK385⟩, ⟨by refine zk ?_; refine blk_far ?_ NB386_389.out _; refine zk ?_; refine blk_far ?_ NB386_389.out _; refine zk ?_; refine blk_far ?_ NB386_389.out _; exact zK BK386⟩, ⟨by refine zk ?_; refine blk_far ?_ NB387_389.out _; refine zk ?_; refine blk_far ?_ NB387_389.out _; refine zk ?_; refine blk_far ?_ NB387_389.out _; exact zK BK387⟩, ⟨zB⟩⟩
     ·rw [if_neg c13] at H
      have c13b0 : (((rd_T66 l0_1 x6_1).f0) == ((rd_T66 l0_1 x6_1).f1)) = false := beq_eq_false_iff_ne.mpr c13
      have c13b1 : (((rd_T66 l0_1 x6_1).f0) != ((rd_T66 l0_1 x6_1).f1)) = true := bne_iff_ne.mpr c13
      obtain ⟨ji22, hji22⟩ : ∃ j_ : Int, (mn ((rd_T66 l0_1 x6_1).f2) a1) = j_ := ⟨_, rfl⟩
      replace H : (if x388001_1.length < 5864062014805 then (sandpileref08_Limited.l0 k1 a1 (wrap64 (x6_1 + 1)) a0_0 l0_1 a0_0 (x388001_1 ++ [(⟨(rd_T66 l0_1 x6_1).f0, (rd_T66 l0_1 x6_1).f1, ji22⟩ : S66)])) else (none)) = some (r1, r2) := by first | (rw [hji22] at H; exact H) | (simp only [hji22] at H ⊢; exact H)
      have hji22_ : (if a1 < ((rd_T66 l0_1 x6_1).f2) then a1 else ((rd_T66 l0_1 x6_1).f2)) = ji22 := hji22
      by_cases c23 : x388001_1.length < 5864062014805
      ·rw [if_pos c23] at H
       have LMc23 := Aside0.mk c23
       clear c23
       obtain ⟨y390, hy390⟩ : ∃ y_ : List (S66), y_ = (x388001_1 ++ [(⟨(rd_T66 l0_1 x6_1).f0, (rd_T66 l0_1 x6_1).f1, ji22⟩ : S66)]) := ⟨_, rfl⟩
       replace H : (sandpileref08_Limited.l0 k1 a1 (wrap64 (x6_1 + 1)) a0_0 l0_1 a0_0 y390) = some (r1, r2) := by first | (rw [hy390]; with_reducible exact H) | (have H2_ := (Option.bind_some _ _).symm.trans H; rw [hy390]; with_reducible exact H2_) | (have H2_ := (Option.bind_some _ _).symm.trans H; with_reducible exact H2_) | with_reducible exact H | (rw [hy390]; exact H) | exact H
       have Ny390 := Aside0.mk hy390
       clear hy390
       have H' := Aside0.mk H
       clear H
       have hnb24 := NB385_386.out
       have hnc24 := NB386_385.out
       have hnb25 := NB385_387.out
       have hnc25 := NB387_385.out
       obtain ⟨hcz26_0, hcz26_1, hfz26_0, hfz26_1⟩ := zD2 BK385
       have p388 : 0 ≤ (x6_1 : Int) := of_decide_eq_true ‹_›
       have q388 : x6_1 < (l0_1.length : Int) := of_decide_eq_true ‹_›
       obtain ⟨ad388, e388, hx388_0, hx388_1, hx388_2⟩ := at_T66 HR0_1.out x6_1 p388 q388
       cases e388
       replace hx388_0 := (HB.out.cell (World.block_lt_of_cell? w _ hx388_0)).trans hx388_0
       replace hx388_1 := (HB.out.cell (World.block_lt_of_cell? w _ hx388_1)).trans hx388_1
       replace hx388_2 := (HB.out.cell (World.block_lt_of_cell? w _ hx388_2)).trans hx388_2
       replace p388 := eq_true p388
       replace q388 := eq_true q388
       go_wp2_with (first | ((with_reducible refine gate_dst (N := 7) rfl ?_); refine zX 7 #[.int .i64 0, .int .i64 0, .int .i64 0] 66 ?_; intro gb389 hg w27 hbox hb; replace HO_388001 := Aside0.mk (Kd.R_below (Kd.R_elderB (zR HO_388001) gb389 (Nat.le_of_eq hg.symm)) hb); have BK389 := Aside0.mk (hbox); have GW389 := zG HB hg; have GE389 := zG HB hg; replace HB := zS HB hb; have NB385_389 := Aside0.mk ((by rw [hg]; exact Nat.ne_of_lt (blk_lt (g := gb385) (o := .cells #[.int .i64 a0_0, .slice (some ad388) l0_1.length c0_1] 24 (0, 0)) (zK BK385)) : gb385 ≠ gb389)); have NB389_385 := Aside0.mk ((by rw [hg]; exact Nat.ne_of_gt (blk_lt (g := gb385) (o := .cells #[.int .i64 a0_0, .slice (some ad388) l0_1.length c0_1] 24 (0, 0)) (zK BK385)) : gb389 ≠ gb385)); replace BK385 := zb BK385 hb; have NB386_389 := Aside0.mk ((by rw [hg]; exact Nat.ne_of_lt (blk_lt (g := gb386) (o := .cells #[.int .i64 0, .slice none 0 0] 24 (0, 0)) (zK BK386)) : gb386 ≠ gb389)); have NB389_386 := Aside0.mk ((by rw [hg]; exact Nat.ne_of_gt (blk_lt (g := gb386) (o := .cells #[.int .i64 0, .slice none 0 0] 24 (0, 0)) (zK BK386)) : gb389 ≠ gb386)); replace BK386 := zb BK386 hb; have NB387_389 := Aside0.mk ((by rw [hg]; exact Nat.ne_of_lt (blk_lt (g := gb387) (o := .cells #[.int .i64 a0_0, u388001] 24 (0, 0)) (zK BK387)) : gb387 ≠ gb389)); have NB389_387 := Aside0.mk ((by rw [hg]; exact Nat.ne_of_gt (blk_lt (g := gb387) (o := .cells #[.int .i64 a0_0, u388001] 24 (0, 0)) (zK BK387)) : gb389 ≠ gb387)); replace BK387 := zb BK387 hb; clear hb hbox hg; have hnb28 := NB389_385.out; have hnc28 := NB385_389.out; have hnb29 := NB389_386.out; have hnc29 := NB386_389.out; have hnb30 := NB389_387.out; have hnc30 := NB387_389.out; obtain ⟨hcz31_0, hcz31_1, hcz31_2, hfz31_0, hfz31_1, hfz31_2⟩ := zD3 BK389; have hnb32 := NB387_386.out; have hnc32 := NB386_387.out; obtain ⟨hcz33_0, hcz33_1, hfz33_0, hfz33_1⟩ := zD2 BK387) | ((with_reducible refine gate_builtin (b := .append) (xs := #[.tmp 29, .tmp 39]) rfl ?_); at_builtin; refine Kd.R_append k66 (w0 := w) w.heap.size rfl (.tmp 29) (.tmp 39) 22 66 (.agg #[(.int .i64 0), (.int .i64 0), (.int .i64 0)]) 24 rfl Try.underlying22 info66 rfl (by decide) (by omega) u388001 x388001_1 (⟨(rd_T66 l0_1 x6_1).f0, (rd_T66 l0_1 x6_1).f1, ji22⟩ : S66) [.int .i64 ((rd_T66 l0_1 x6_1).f0), .int .i64 ((rd_T66 l0_1 x6_1).f1), .int .i64 ji22] (fun k_ => k_ ≠ gb389) (fun _ => False) rfl (by first | (go_simp; done) | (go_simp; rfl)) ?aP (fun _ hk => hk.elim) ?aF ?aO ?aB ?aS ?aL ?_; (case aP => exact k66_mkM _ _ _ (⟨(rd_T66 l0_1 x6_1).f0, (rd_T66 l0_1 x6_1).f1, ji22⟩ : S66)); (case aB => exact zB); (case aF => exact (fun k_ hk => Kd.freshB (g := gb389) (o := .cells #[.int .i64 ((rd_T66 l0_1 x6_1).f0), .int .i64 ((rd_T66 l0_1 x6_1).f1), .int .i64 ((rd_T66 l0_1 x6_1).f2)] 66 (0, 0)) (by refine zk ?_; refine blk_put (cs := #[.int .i64 ((rd_T66 l0_1 x6_1).f0), .int .i64 ((rd_T66 l0_1 x6_1).f1), .int .i64 0]) ?_ 2 _ rfl; refine zk ?_; refine blk_put (cs := #[.int .i64 ((rd_T66 l0_1 x6_1).f0), .int .i64 0, .int .i64 0]) ?_ 1 _ rfl; refine zk ?_; refine blk_put (cs := #[.int .i64 0, .int .i64 0, .int .i64 0]) ?_ 0 _ rfl; exact zK BK389) k_ hk)); (case aO => exact (by (with_reducible repeat (first | apply Kd.R_alloc | apply Kd.R_drewN | apply Kd.R_drew)); exact Kd.R_mono (Kd.R_far (p := ⟨gb389, 2, none⟩) (Kd.R_far (p := ⟨gb389, 1, none⟩) (Kd.R_far (p := ⟨gb389, 0, none⟩) (Kd.R_mono HO_388001.out (fun k_ hk => (⟨hk, hk.2⟩ : _ ∧ k_ ≠ gb389))) (fun _ hk => hk.2) (.int .i64 ((rd_T66 l0_1 x6_1).f0))) (fun _ hk => hk.2) (.int .i64 ((rd_T66 l0_1 x6_1).f1))) (fun _ hk => hk.2) (.int .i64 ((rd_T66 l0_1 x6_1).f2))) (fun _ hk => hk.1.2))); (case aS => exact (below_size zB)); (case aL => have := LMc23.out; omega); intro v391 w34 ho hb hg hat; rw [← Ny390.out] at ho; replace BK385 := Aside0.mk (blk_grown (g := gb385) (o := .cells #[.int .i64 a0_0, .slice (some ad388) l0_1.length c0_1] 24 (0, 0)) (by refine zk ?_; refine blk_far ?_ NB385_389.out _; refine zk ?_; refine blk_far ?_ NB385_389.out _; refine zk ?_; refine blk_far ?_ NB385_389.out _; exact zK BK385) hg (Kd.R_ne HO_388001.out BK385.out (by decide))); replace BK386 := Aside0.mk (blk_grown (g := gb386) (o := .cells #[.int .i64 0, .slice none 0 0] 24 (0, 0)) (by refine zk ?_; refine blk_far ?_ NB386_389.out _; refine zk ?_; refine blk_far ?_ NB386_389.out _; refine zk ?_; refine blk_far ?_ NB386_389.out _; exact zK BK386) hg (Kd.R_ne HO_388001.out BK386.out (by decide))); replace BK387 := Aside0.mk (blk_grown (g := gb387) (o := .cells #[.int .i64 a0_0, u388001] 24 (0, 0)) (by refine zk ?_; refine blk_far ?_ NB387_389.out _; refine zk ?_; refine blk_far ?_ NB387_389.out _; refine zk ?_; refine blk_far ?_ NB387_389.out _; exact zK BK387) hg (Kd.R_ne HO_388001.out BK387.out (by decide))); replace BK389 := Aside0.mk (blk_grown (g := gb389) (o := .cells #[.int .i64 ((rd_T66 l0_1 x6_1).f0), .int .i64 ((rd_T66 l0_1 x6_1).f1), .int .i64 ((rd_T66 l0_1 x6_1).f2)] 66 (0, 0)) (by refine zk ?_; refine blk_put (cs := #[.int .i64 ((rd_T66 l0_1 x6_1).f0), .int .i64 ((rd_T66 l0_1 x6_1).f1), .int .i64 0]) ?_ 2 _ rfl; refine zk ?_; refine blk_put (cs := #[.int .i64 ((rd_T66 l0_1 x6_1).f0), .int .i64 0, .int .i64 0]) ?_ 1 _ rfl; refine zk ?_; refine blk_put (cs := #[.int .i64 0, .int .i64 0, .int .i64 0]) ?_ 0 _ rfl; exact zK BK389) hg (Kd.R_away HO_388001.out (fun _ hk => hk.2))); replace HB := Aside0.mk (hb); have HO392 := Aside0.mk (ho); clear HO_388001; clear ho hb hg hat; obtain ⟨Ao35, co35, eo35⟩ := Kd.R_slice HO392.out; subst eo35; obtain ⟨hcz36_0, hcz36_1, hfz36_0, hfz36_1⟩ := zD2 BK387))
       go_roundg k1
       case measure => have := HK1.out; omega
       case rel => exact ⟨(wrap64 (x6_1 + 1)), (y390), (.slice Ao35 y390.length co35), zT, H', ⟨by have := HK1.out; omega⟩, ⟨by (with_reducible repeat (first | apply Kd.R_alloc | apply Kd.R_drewN | apply Kd.R_drew)); exact Kd.R_mono (Kd.R_far (p := ⟨gb387, 1, none⟩) (Kd.R_types HO392.out BK387.out (by decide)) (fun _ hk => hk.2) (.slice Ao35 y390.length co35)) (fun _ hk => trivial)⟩, ⟨by refine zk ?_; refine blk_far ?_ NB385_387.out _; exact zK BK385⟩, ⟨by refine zk ?_; refine blk_far ?_ NB386_387.out _; exact zK BK386⟩, ⟨by refine zk ?_; refine blk_put (cs := #[.int .i64 a0_0, u388001]) ?_ 1 _ rfl; exact zK BK387⟩, ⟨zB⟩⟩
      ·rw [if_neg c23] at H
       exact absurd H (by simp)
    ·rw [if_neg c12] at H
     exact absurd H (by simp)
   ·rw [if_neg c11] at H
    have c11b0 : decide (x6_1 < (l0_1.length : Int)) = false := decide_eq_false c11
    clear c11
    simp only [Option.some.injEq, Prod.mk.injEq] at H
    obtain ⟨rfl, rfl⟩ := H
    have hnb37 := NB385_386.out
    have hnc37 := NB386_385.out
    have hnb38 := NB385_387.out
    have hnc38 := NB387_385.out
    obtain ⟨hcz39_0, hcz39_1, hfz39_0, hfz39_1⟩ := zD2 BK385
    have hnb40 := NB387_386.out
    have hnc40 := NB386_387.out
    obtain ⟨hcz41_0, hcz41_1, hfz41_0, hfz41_1⟩ := zD2 BK387
    obtain ⟨hcz42_0, hcz42_1, hfz42_0, hfz42_1⟩ := zD2 BK386
    obtain ⟨Ao43, co43, eo43⟩ := Kd.R_slice HO_388001.out
    subst eo43
    go_wp2
    refine bodyPost_ret (results_cell_row rfl _ _ gb386 24 #[.int .i64 a0_0, .slice Ao43 x388001_1.length co43] (0, 0) _ rfl (by refine zk ?_; refine blk_put (cs := #[.int .i64 a0_0, .slice none 0 0]) ?_ 1 _ rfl; refine zk ?_; refine blk_put (cs := #[.int .i64 0, .slice none 0 0]) ?_ 0 _ rfl; exact zK BK386) Try.underlying24 rfl (by kernel_rfl)) rfl ?_
    exact ⟨_, zE, by (with_reducible repeat (first | apply Kd.R_alloc | apply Kd.R_drewN | apply Kd.R_drew)); exact Kd.R_mono (Kd.R_far (p := ⟨gb386, 1, none⟩) (Kd.R_far (p := ⟨gb386, 0, none⟩) (Kd.R_types HO_388001.out BK386.out (by decide)) (fun _ hk => hk.2) (.int .i64 a0_0)) (fun _ hk => hk.2) (.slice Ao43 x388001_1.length co43)) (fun _ hk => trivial), zB⟩
end
def sandpilelaw28_Triangle.f  : Option (Int × (List (S66))) := some (3, (([(⟨0, 1, 1⟩ : S66), (⟨0, 2, 1⟩ : S66), (⟨1, 2, 1⟩ : S66)] : List (S66))))
theorem sandpilelaw28_Triangle.calls  (r1 : Int) (r2 : List (S66)) (w : World) (h : sandpilelaw28_Triangle.f  = some (r1, r2)) :
  Calls Try.prog 42 #[] w fun e w' => ∃ v1_ : Value, e = .returned (.agg #[.int .i64 r1, v1_]) ∧ Kd.R k66 66 w' w.heap.size (fun _ => True) v1_ r2 ∧ Below w.heap.size w w' := by
 have hu24 := Try.underlying24
 have hu66 := Try.underlying66
 have HB := Aside0.mk (Below.refl w.heap.size w)
 have H : (some (3, (([(⟨0, 1, 1⟩ : S66), (⟨0, 2, 1⟩ : S66), (⟨1, 2, 1⟩ : S66)] : List (S66))))) = some (r1, r2) := h
 clear h
 obtain ⟨y478, hy478⟩ : ∃ y_ : List (S66), y_ = (([(⟨0, 1, 1⟩ : S66), (⟨0, 2, 1⟩ : S66), (⟨1, 2, 1⟩ : S66)] : List (S66))) := ⟨_, rfl⟩
 replace H : (some (3, y478)) = some (r1, r2) := by first | (rw [hy478]; with_reducible exact H) | (have H2_ := (Option.bind_some _ _).symm.trans H; rw [hy478]; with_reducible exact H2_) | (have H2_ := (Option.bind_some _ _).symm.trans H; with_reducible exact H2_) | with_reducible exact H | (rw [hy478]; exact H) | exact H
 have Ny478 := Aside0.mk hy478
 clear hy478
 simp only [Option.some.injEq, Prod.mk.injEq] at H
 obtain ⟨rfl, rfl⟩ := H
 go_enter Try.func42, Try.ntmps42
 go_wp2_with (first | ((with_reducible refine gate_dst (N := 0) rfl ?_); refine zX 0 #[.int .i64 0, .slice none 0 0] 24 ?_; intro gb477 hg w1 hbox hb; have BK477 := Aside0.mk (hbox); have GW477 := zG HB hg; have GE477 := zG HB hg; replace HB := zS HB hb; clear hb hbox hg) | ((with_reducible refine gate_dst (N := 4) rfl ?_); refine Kd.R_lit k66 _ 66 ?hg (N := 4) ?hd (xs := ([(⟨0, 1, 1⟩ : S66), (⟨0, 2, 1⟩ : S66), (⟨1, 2, 1⟩ : S66)] : List (S66))) (inner := [.int .i64 0, .int .i64 1, .int .i64 1, .int .i64 0, .int .i64 2, .int .i64 1, .int .i64 1, .int .i64 2, .int .i64 1]) (ok := fun _ => True) (okp := fun _ => True) ?hr ?hp (fun _ hk => hk) trivial (Below.refl _ _) (Nat.le_refl _) (by simp) ?_; (case hd => rfl); (case hg => rfl); (case hr => first | (go_simp; done) | (go_simp; rfl)); (case hp => exact (Reps.c3 (show Kd.M k66 _ _ _ (⟨0, 1, 1⟩ : S66) [.int .i64 0, .int .i64 1, .int .i64 1] from (k66_mkM _ _ _ (⟨0, 1, 1⟩ : S66) )) (Reps.c3 (show Kd.M k66 _ _ _ (⟨0, 2, 1⟩ : S66) [.int .i64 0, .int .i64 2, .int .i64 1] from (k66_mkM _ _ _ (⟨0, 2, 1⟩ : S66) )) (Reps.c3 (show Kd.M k66 _ _ _ (⟨1, 2, 1⟩ : S66) [.int .i64 1, .int .i64 2, .int .i64 1] from (k66_mkM _ _ _ (⟨1, 2, 1⟩ : S66) )) (Reps.none _ _))))); intro v479 w2 ho3 hb hg_ hnew_; clear hg_ hnew_; (first | rw [← Ny478.out] at ho3 | (simp only [Int.reduceToNat] at ho3; rw [← Ny478.out] at ho3)); have HO480 := Aside0.mk (Kd.R_lower ho3 (below_size zB)); replace BK477 := zb BK477 hb; replace HB := zS HB hb; clear hb ho3; obtain ⟨Ao4, co4, eo4⟩ := Kd.R_slice HO480.out; subst eo4; obtain ⟨hcz5_0, hcz5_1, hfz5_0, hfz5_1⟩ := zD2 BK477))
 refine bodyPost_ret (results_cell_row rfl _ _ gb477 24 #[.int .i64 3, .slice Ao4 y478.length co4] (0, 0) _ rfl (by refine zk ?_; refine blk_put (cs := #[.int .i64 3, .slice none 0 0]) ?_ 1 _ rfl; refine zk ?_; refine blk_put (cs := #[.int .i64 0, .slice none 0 0]) ?_ 0 _ rfl; exact zK BK477) Try.underlying24 rfl (by kernel_rfl)) rfl ?_
 exact ⟨_, zE, by (with_reducible repeat (first | apply Kd.R_alloc | apply Kd.R_drewN | apply Kd.R_drew)); exact Kd.R_mono (Kd.R_far (p := ⟨gb477, 1, none⟩) (Kd.R_far (p := ⟨gb477, 0, none⟩) (Kd.R_types HO480.out BK477.out (by decide)) (fun _ hk => hk.2) (.int .i64 3)) (fun _ hk => hk.2) (.slice Ao4 y478.length co4)) (fun _ hk => trivial), zB⟩
def DelAt (qx gx : Nat) (row : Option Nat) (wb : World) (l : List (List Int)) (del : List Int → Bool) : Prop :=
 ∀ (W' : World) (A0 : Option Addr) (c0 : Nat) (x : List Int), wb.grownBy W' row → x ∈ l → x.length ≤ c0 → Kd.C (Kd.int .i64) W' A0 x.length x →
  Calls Try.prog 52 #[.slice A0 x.length c0, .pointer (some ⟨qx, 0, none⟩), .pointer (some ⟨gx, 0, none⟩)] W' fun e w' => e = .returned (.bool (del x)) ∧ Below W'.heap.size W' w'
theorem rd_L2_mem {l : List (List Int)} {i : Nat} (h : i < l.length) : rd_L2 l i ∈ l := by
 have e : rd_L2 l i = l[i] := by simp [rd_L2, List.getD_eq_getElem?_getD, List.getElem?_eq_getElem h]
 rw [e]; exact List.getElem_mem h
theorem indexFunc_calls (qx gx base : Nat) (row : Option Nat) (A : Option Addr) (cap : Nat) (ok : Nat → Prop) (l : List (List Int)) (del : List Int → Bool) (wb W : World) (hN : Kd.N (Kd.slice 3 (Kd.int .i64)) 42 W base ok (.slice A l.length cap) l) (hwb : wb.grownBy W row) (hD : DelAt qx gx row wb l del) :
  Calls Try.prog 61 #[.slice A l.length cap, .func (.func 52) #[] #[.pointer (some ⟨qx, 0, none⟩), .pointer (some ⟨gx, 0, none⟩)]] W fun e w' => ∃ r : Int, e = .returned (.int .i64 r) ∧ ((r = -1 ∧ ∀ j : Nat, j < l.length → del (rd_L2 l j) = false) ∨ ∃ i : Nat, r = i ∧ i < l.length ∧ del (rd_L2 l i) = true ∧ ∀ j : Nat, j < i → del (rd_L2 l j) = false) ∧ Below W.heap.size W w' := by
 have HN := Aside0.mk hN
 have HWB := Aside0.mk hwb
 have HD := Aside0.mk hD
 clear hN hwb hD
 go_enter Try.func61, Try.ntmps61
 go_wp2
 go_loopw [8] (fun i wr => ∃ k : Nat, k ≤ l.length ∧ i = .int .i64 k ∧ Aside0 (∀ j : Nat, j < k → del (rd_L2 l j) = false) ∧ Aside0 (Below W.heap.size W wr)) (fun i _ => l.length - (intOf i).toNat)
 case atStart => exact ⟨0, by omega, rfl, ⟨fun j hj => by omega⟩, ⟨Below.refl _ _⟩⟩
 case round =>
  obtain ⟨k, hk, rfl, HF, HB⟩ := hrel
  by_cases hkl : k < l.length
  ·obtain ⟨-, hcap, hC⟩ := Kd.N_reads' (Kd.N_below HN.out HB.out)
   obtain ⟨ad, Ac, cc, rfl, hx0, hcc, hcr⟩ := at_L2 hC k (by omega) (by omega)
   rw [Int.toNat_natCast] at hx0
   have HM := Aside0.mk (HD.out wr Ac cc (rd_L2 l k) (HWB.out.trans (grown_of_below HB.out _)) (rd_L2_mem hkl) hcc hcr)
   have HRK := Aside0.mk (rfl : rd_L2 l k = rd_L2 l k)
   have hk0 : (0 : Int) ≤ (k : Int) := by omega
   have hk1 : (k : Int) < (l.length : Int) := by omega
   have hlb : l.length ≤ 9223372036854775807 := Kd.C_max hC
   clear hC hcr hcc hcap
   cases hb : del (rd_L2 l k) with
   | true =>
    rw [hb] at HM
    have Hb := Aside0.mk hb
    clear hb
    go_wp2_with (go_at_call 52; refine HM.out.mono ?_; rintro e w1 ⟨rfl, hb1⟩; have HB1 := Aside0.mk hb1; clear hb1)
    go_ret
    exact ⟨k, rfl, .inr ⟨k, rfl, hkl, Hb.out, HF.out⟩, HB.out.trans (HB1.out.mono HB.out.size)⟩
   | false =>
    rw [hb] at HM
    have Hb := Aside0.mk hb
    clear hb
    go_wp2_with (go_at_call 52; refine HM.out.mono ?_; rintro e w1 ⟨rfl, hb1⟩; have HB1 := Aside0.mk hb1; clear hb1)
    go_roundw
    case rel => exact ⟨k + 1, by omega, by go_num, ⟨fun j hj => by
     by_cases e : j = k
     ·subst e; exact Hb.out
     ·exact HF.out j (by omega)⟩, ⟨HB.out.trans (HB1.out.mono HB.out.size)⟩⟩
    case measure => exact (show l.length - ((k : Int) + 1).toNat < l.length - ((k : Int)).toNat by omega)
  ·obtain rfl : k = l.length := by omega
   go_wp2
   go_ret
   exact ⟨-1, rfl, .inl ⟨rfl, HF.out⟩, HB.out⟩
theorem rd_L2_set {ys : List (List Int)} {i m : Nat} (h : i ≠ m) (x : List Int) : rd_L2 (ys.set i x) m = rd_L2 ys m := by
 simp [rd_L2, List.getD_eq_getElem?_getD, List.getElem?_set, h]
theorem ne_minus (i : Nat) : ((i : Int) == -1) = false := by
 rw [beq_eq_false_iff_ne]; omega
theorem take_next {l : List (List Int)} {j : Nat} (h : j < l.length) : l.take (j + 1) = l.take j ++ [rd_L2 l j] := by
 rw [List.take_succ_eq_append_getElem h]
 simp [rd_L2, List.getD_eq_getElem?_getD, List.getElem?_eq_getElem h]
theorem take_set_next {ys : List (List Int)} {i : Nat} (h : i < ys.length) (x : List Int) : (ys.set i x).take (i + 1) = ys.take i ++ [x] := by
 rw [List.take_succ_eq_append_getElem (by simpa using h)]
 simp [List.take_set_of_le]
theorem filter_next {l : List (List Int)} {del : List Int → Bool} {j : Nat} (h : j < l.length) : (l.take (j + 1)).filter (fun x => !del x) = (l.take j).filter (fun x => !del x) ++ (if del (rd_L2 l j) then [] else [rd_L2 l j]) := by
 rw [take_next h, List.filter_append]
 cases hd : del (rd_L2 l j) <;> simp [hd]
theorem zeroDiv (w : World) : (zeroValue 42).run Try.prog w = .ok (.slice none 0 0) w := by kernel_rfl
theorem filter_first {l : List (List Int)} {del : List Int → Bool} {i : Nat} (h1 : del (rd_L2 l i) = true) (h2 : ∀ j : Nat, j < i → del (rd_L2 l j) = false) (h : i < l.length) : l.take i = (l.take (i + 1)).filter fun x => !del x := by
 rw [take_next h, List.filter_append]
 rw [show [rd_L2 l i].filter (fun x => !del x) = [] by simp [h1], List.append_nil]
 symm
 rw [List.filter_eq_self]
 intro x hx
 obtain ⟨j, hj, rfl⟩ := List.mem_take_iff_getElem.1 hx
 have h3 := h2 j (by omega)
 have e : rd_L2 l j = l[j]'(by omega) := by simp [rd_L2, List.getD_eq_getElem?_getD, List.getElem?_eq_getElem (by omega : j < l.length)]
 rw [e] at h3
 simp [h3]
theorem n_put {W : World} {base g0 n cap : Nat} {ok : Nat → Prop} {ys : List (List Int)} {x : List Int} {v : Value} {i : Nat} (h : Kd.N (Kd.slice 3 (Kd.int .i64)) 42 W base ok (.slice (some ⟨g0, 0, none⟩) n cap) ys) (hM : Kd.FK (Kd.slice 3 (Kd.int .i64)) W (fun k => ok k ∧ k ≠ g0) x [v]) (hi : i < n) :
  (∃ u, W.cell? ⟨g0, i, none⟩ = some u) ∧ W.frozen? ⟨g0, i, none⟩ = false ∧ Kd.N (Kd.slice 3 (Kd.int .i64)) 42 (W.setCell ⟨g0, i, none⟩ v) base ok (.slice (some ⟨g0, 0, none⟩) n cap) (ys.set i x) ∧ W.grownBy (W.setCell ⟨g0, i, none⟩ v) (some g0) := by
 obtain ⟨c, hcl, -, hcc, hfr⟩ := Kd.N_elem h [] (i : Int) (by omega) (by omega)
 obtain ⟨u, rfl⟩ : ∃ u, c = [u] := List.length_eq_one_iff.1 hcl
 have hs := Kd.N_seg h (i : Int) (by omega) (by omega) (c := [u]) (seg := [v]) (j := 0) (x' := x) (okp := fun k => ok k ∧ k ≠ g0) hcl hcc (by simp [Kd.slice]) (by simpa using hM) (fun k hk => hk)
 rw [Int.toNat_natCast] at hcc hs
 have h0 := hcc 0 u rfl
 have hf0 := hfr 0
 rw [Int.toNat_natCast] at hf0
 refine ⟨⟨u, by simpa [Kd.slice] using h0⟩, by simpa [Kd.slice] using hf0, ?_⟩
 simpa [Kd.slice, World.setCells] using hs
theorem n_clear {base g0 n cap : Nat} {ok : Nat → Prop} : ∀ (m i : Nat) (W : World) (ys : List (List Int)), i + m = n → ys.length = n → Kd.N (Kd.slice 3 (Kd.int .i64)) 42 W base ok (.slice (some ⟨g0, 0, none⟩) n cap) ys →
  ∃ zs : List (List Int), zs.length = n ∧ zs.take i = ys.take i ∧ Kd.N (Kd.slice 3 (Kd.int .i64)) 42 (W.setCells g0 i (List.replicate m (.slice none 0 0))) base ok (.slice (some ⟨g0, 0, none⟩) n cap) zs ∧ W.grownBy (W.setCells g0 i (List.replicate m (.slice none 0 0))) (some g0) := by
 intro m
 induction m with
 | zero => intro i W ys _ hy h; exact ⟨ys, hy, rfl, h, ⟨rfl, rfl, rfl, Nat.le_refl _, fun _ _ _ => rfl⟩⟩
 | succ m ih =>
  intro i W ys hi hy h
  obtain ⟨-, -, h1, h2⟩ := n_put (x := []) (v := .slice none 0 0) (i := i) h (fun W' _ => ⟨none, 0, rfl, Nat.le_refl _, Kd.C_nil _ _⟩) (by omega)
  obtain ⟨zs, z1, z2, z3, z4⟩ := ih (i + 1) _ (ys.set i []) (by omega) (by rw [List.length_set]; exact hy) h1
  refine ⟨zs, z1, ?_, by rw [List.replicate_succ, World.setCells]; exact z3, by rw [List.replicate_succ, World.setCells]; exact h2.trans z4⟩
  have h5 := congrArg (List.take i) z2
  rw [List.take_take, List.take_take, show min i (i + 1) = i by omega] at h5
  rw [h5, List.take_set_of_le (Nat.le_refl i)]
theorem deleteFunc_some (qx gx base g0 cap : Nat) (ok : Nat → Prop) (l : List (List Int)) (del : List Int → Bool) (wb W : World) (hN : Kd.N (Kd.slice 3 (Kd.int .i64)) 42 W base ok (.slice (some ⟨g0, 0, none⟩) l.length cap) l) (hwb : wb.grownBy W (some g0)) (hD : DelAt qx gx (some g0) wb l del) (hex : ∃ j : Nat, j < l.length ∧ del (rd_L2 l j) = true) :
  Calls Try.prog 51 #[.slice (some ⟨g0, 0, none⟩) l.length cap, .func (.func 52) #[] #[.pointer (some ⟨qx, 0, none⟩), .pointer (some ⟨gx, 0, none⟩)]] W fun e w' => ∃ m : Nat, e = .returned (.slice (some ⟨g0, 0, none⟩) m cap) ∧ m = (l.filter fun x => !del x).length ∧ Kd.N (Kd.slice 3 (Kd.int .i64)) 42 w' base ok (.slice (some ⟨g0, 0, none⟩) m cap) (l.filter fun x => !del x) ∧ W.grownBy w' (some g0) := by
 have HN := Aside0.mk hN
 have HWB := Aside0.mk hwb
 have HD := Aside0.mk hD
 have HEX := Aside0.mk hex
 have HI : Aside0 (Calls Try.prog 61 #[.slice (some ⟨g0, 0, none⟩) l.length cap, .func (.func 52) #[] #[.pointer (some ⟨qx, 0, none⟩), .pointer (some ⟨gx, 0, none⟩)]] W fun e w' => ∃ i : Nat, e = .returned (.int .i64 i) ∧ i < l.length ∧ del (rd_L2 l i) = true ∧ (∀ j : Nat, j < i → del (rd_L2 l j) = false) ∧ Below W.heap.size W w') := ⟨(indexFunc_calls qx gx base (some g0) (some ⟨g0, 0, none⟩) cap ok l del wb W hN hwb hD).mono (by
  rintro e w' ⟨r, rfl, h | ⟨i, rfl, h1, h2, h3⟩, hb⟩
  ·obtain ⟨j, hj, hdj⟩ := hex
   rw [h.2 j hj] at hdj; cases hdj
  ·exact ⟨i, rfl, h1, h2, h3, hb⟩)⟩
 obtain ⟨-, hcap, hC0⟩ := Kd.N_reads' hN
 have hlb : l.length ≤ 9223372036854775807 := Kd.C_max hC0
 clear hN hwb hD hex hC0
 go_enter Try.func51, Try.ntmps51
 go_wp2_with (go_at_call 61; refine HI.out.mono ?_; rintro e w1 ⟨i0, rfl, hi0, hdi, hfi, hb⟩; have HDI := Aside0.mk hdi; have HFI := Aside0.mk hfi; have HB1 := Aside0.mk hb; have hne := ne_minus i0; clear hdi hfi hb)
 have HF0 := Aside0.mk (filter_first HDI.out HFI.out hi0)
 have HG0 := Aside0.mk (grown_of_below HB1.out (some g0))
 have HN1 := Aside0.mk (Kd.N_below HN.out HB1.out)
 clear HI HDI HFI HB1 HEX hne
 go_loopw [5, 6] (fun ii jj wr => ∃ (i j : Nat) (ys : List (List Int)), i < j ∧ j ≤ l.length ∧ ii = .int .i64 i ∧ jj = .int .i64 j ∧ Aside0 (ys.length = l.length) ∧ Aside0 (ys.take i = (l.take j).filter fun x => !del x) ∧ Aside0 (∀ m : Nat, j ≤ m → rd_L2 ys m = rd_L2 l m) ∧ Aside0 (Kd.N (Kd.slice 3 (Kd.int .i64)) 42 wr base ok (.slice (some ⟨g0, 0, none⟩) l.length cap) ys) ∧ Aside0 (W.grownBy wr (some g0))) (fun _ jj _ => l.length - (intOf jj).toNat)
 case atStart => exact ⟨i0, i0 + 1, l, by omega, by omega, rfl, by go_num, ⟨rfl⟩, HF0, ⟨fun _ _ => rfl⟩, HN1, HG0⟩
 case round =>
  clear HF0 HG0 HN1
  obtain ⟨i, j, ys, hij, hj, rfl, rfl, HYL, HT, HR, HN2, HG⟩ := hrel
  by_cases hjl : j < l.length
  ·obtain ⟨c, hcl, hFK, hcc, -⟩ := Kd.N_elem HN2.out [] (j : Int) (by omega) (by omega)
   rw [show ys.getD (j : Int).toNat [] = rd_L2 l j from HR.out j (Nat.le_refl _)] at hFK
   rw [Int.toNat_natCast] at hcc
   obtain ⟨Aj, cj, rfl, hle, hF⟩ := Kd.FK_slice_open hFK
   have hx0 : wr.cell? ⟨g0, j, none⟩ = some (.slice Aj (rd_L2 l j).length cj) := by have h := hcc 0 _ rfl; simpa [Kd.slice] using h
   have HM := Aside0.mk (HD.out wr Aj cj (rd_L2 l j) (HWB.out.trans HG.out) (rd_L2_mem hjl) hle (Kd.F_now hF))
   have HFK := Aside0.mk hFK
   have hj0 : (0 : Int) ≤ (j : Int) := by omega
   have hj1 : (j : Int) < (l.length : Int) := by omega
   have hi0' : (0 : Int) ≤ (i : Int) := by omega
   have hi1 : (i : Int) < (l.length : Int) := by omega
   have HTJ := Aside0.mk (show (l.take (j + 1)).filter (fun x => !del x) = (l.take j).filter (fun x => !del x) ++ (if del (rd_L2 l j) then [] else [rd_L2 l j]) from filter_next hjl)
   have HRX := Aside0.mk (show ∃ x, x = rd_L2 l j from ⟨_, rfl⟩)
   clear hcl hFK hcc hle hF
   cases hb : del (rd_L2 l j) with
   | true =>
    rw [hb] at HM HTJ
    clear hb
    go_wp2_with (go_at_call 52; refine HM.out.mono ?_; rintro e w2 ⟨rfl, hb1⟩; have HB2 := Aside0.mk hb1; clear hb1)
    go_roundw
    case rel => exact ⟨i, j + 1, ys, by omega, by omega, rfl, by go_num, HYL, ⟨by rw [HTJ.out, HT.out]; simp⟩, ⟨fun m hm => HR.out m (by omega)⟩, ⟨Kd.N_below HN2.out HB2.out⟩, ⟨HG.out.trans (grown_of_below HB2.out _)⟩⟩
    case measure => exact (show l.length - ((j : Int) + 1).toNat < l.length - ((j : Int)).toNat by omega)
   | false =>
    rw [hb] at HM HTJ
    clear hb
    go_wp2_with (go_at_call 52; refine HM.out.mono ?_; rintro e w2 ⟨rfl, hb1⟩; obtain ⟨q1, q2, q3⟩ := n_put (Kd.N_below HN2.out hb1) (Kd.FK_below HFK.out hb1) (show i < l.length by omega); have HB2 := Aside0.mk hb1; have HN3 := Aside0.mk q3.1; have HG3 := Aside0.mk q3.2; obtain ⟨q0, q1⟩ := q1; clear q3 hb1)
    go_roundw
    case rel => exact ⟨i + 1, j + 1, ys.set i (rd_L2 l j), by omega, by omega, by go_num, by go_num, ⟨by rw [List.length_set]; exact HYL.out⟩, ⟨by rw [take_set_next (by rw [HYL.out]; omega), HTJ.out, HT.out]; simp⟩, ⟨fun m hm => by rw [rd_L2_set (by omega)]; exact HR.out m (by omega)⟩, HN3, ⟨(HG.out.trans (grown_of_below HB2.out _)).trans HG3.out⟩⟩
    case measure => exact (show l.length - ((j : Int) + 1).toNat < l.length - ((j : Int)).toNat by omega)
  ·obtain rfl : j = l.length := by omega
   have hcl := Lib.run_clear_slice (P := Try.prog) wr 27 42 0 (.slice none 0 0) Try.underlying27 zeroDiv rfl rfl g0 i (l.length - i) (cap - i) (by omega) (fun j hj => by
    obtain ⟨⟨u, hu⟩, -⟩ := n_put (x := []) (v := .slice none 0 0) (i := i + j) HN2.out (fun W' _ => ⟨none, 0, rfl, Nat.le_refl _, Kd.C_nil _ _⟩) (by omega)
    rw [hu]; rfl) (fun j hj => (n_put (x := []) (v := .slice none 0 0) (i := i + j) HN2.out (fun W' _ => ⟨none, 0, rfl, Nat.le_refl _, Kd.C_nil _ _⟩) (by omega)).2.1)
   obtain ⟨zs, z1, z2, z3, z4⟩ := n_clear (l.length - i) i wr ys (by omega) HYL.out HN2.out
   have HZ1 := Aside0.mk z1
   have HZ2 := Aside0.mk z2
   have HZ3 := Aside0.mk z3
   have HZ4 := Aside0.mk z4
   have hi0 : (0 : Int) ≤ (i : Int) := by omega
   have hi1 : (i : Int) ≤ (l.length : Int) := by omega
   have hi2 : (i : Int) ≤ (cap : Int) := by omega
   have hci : ¬ cap = i := by omega
   clear z1 z2 z3 z4
   generalize wr.setCells g0 i (List.replicate (l.length - i) (.slice none 0 0)) = w9 at hcl HZ3 HZ4
   go_wp2
   go_ret
   have hft : (l.filter fun x => !del x) = zs.take i := by
    have h := HT.out
    rw [List.take_length] at h
    rw [← h, HZ2.out]
   have hml : i = (l.filter fun x => !del x).length := by rw [hft, List.length_take, HZ1.out]; omega
   refine ⟨i, rfl, hml, ?_, HG.out.trans HZ4.out⟩
   rw [hft]
   exact Kd.N_take HZ3.out (by rw [HZ1.out]; omega)
theorem filter_none {l : List (List Int)} {del : List Int → Bool} (h : ∀ j : Nat, j < l.length → del (rd_L2 l j) = false) : (l.filter fun x => !del x) = l := by
 rw [List.filter_eq_self]
 intro x hx
 obtain ⟨j, hj, rfl⟩ := List.mem_iff_getElem.1 hx
 have h3 := h j hj
 have e : rd_L2 l j = l[j] := by simp [rd_L2, List.getD_eq_getElem?_getD, List.getElem?_eq_getElem hj]
 rw [e] at h3
 simp [h3]
theorem deleteFunc_none (qx gx base : Nat) (row : Option Nat) (A : Option Addr) (cap : Nat) (ok : Nat → Prop) (l : List (List Int)) (del : List Int → Bool) (wb W : World) (hN : Kd.N (Kd.slice 3 (Kd.int .i64)) 42 W base ok (.slice A l.length cap) l) (hwb : wb.grownBy W row) (hD : DelAt qx gx row wb l del) (hex : ∀ j : Nat, j < l.length → del (rd_L2 l j) = false) :
  Calls Try.prog 51 #[.slice A l.length cap, .func (.func 52) #[] #[.pointer (some ⟨qx, 0, none⟩), .pointer (some ⟨gx, 0, none⟩)]] W fun e w' => e = .returned (.slice A l.length cap) ∧ Below W.heap.size W w' := by
 have HI : Aside0 (Calls Try.prog 61 #[.slice A l.length cap, .func (.func 52) #[] #[.pointer (some ⟨qx, 0, none⟩), .pointer (some ⟨gx, 0, none⟩)]] W fun e w' => e = .returned (.int .i64 (-1)) ∧ Below W.heap.size W w') := ⟨(indexFunc_calls qx gx base row A cap ok l del wb W hN hwb hD).mono (by
  rintro e w' ⟨r, rfl, ⟨rfl, h⟩ | ⟨i, rfl, h1, h2, h3⟩, hb⟩
  ·exact ⟨rfl, hb⟩
  ·rw [hex i h1] at h2; cases h2)⟩
 clear hN hwb hD hex
 go_enter Try.func51, Try.ntmps51
 go_wp2_with (go_at_call 61; refine HI.out.mono ?_; rintro e w1 ⟨rfl, hb⟩; have HB1 := Aside0.mk hb; clear hb)
 go_ret
 exact ⟨rfl, HB1.out⟩
def risesTo (x : List Int) (q : Int) (r : Nat → List Int) (k : Nat) : Bool := (List.range k).any fun v => decide ((v : Int) ≠ q) && decide (rd x v < rd (r v) v)
theorem risesTo_succ (x : List Int) (q : Int) (r : Nat → List Int) (k : Nat) : risesTo x q r (k + 1) = (risesTo x q r k || (decide ((k : Int) ≠ q) && decide (rd x k < rd (r k) k))) := by simp [risesTo, List.range_succ, List.any_append]
theorem risesTo_true {x : List Int} {q : Int} {r : Nat → List Int} {k n : Nat} (hk : k < n) (hq : (k : Int) ≠ q) (h : rd x k < rd (r k) k) : risesTo x q r n = true := by
 unfold risesTo
 rw [List.any_eq_true]
 exact ⟨k, List.mem_range.2 hk, by simp [hq, h]⟩
theorem maximal1_calls (K : Nat) (N : Int) (A0 : Option Addr) (c0 : Nat) (E : List S66) (q : Int) (qx gx : Nat) (A : Option Addr) (c : Nat) (x : List Int) (r : Nat → List Int) (W : World) (hr0 : Kd.C k66 W A0 E.length E) (hc0 : E.length ≤ c0) (hg : W.heap[gx]? = some (.cells #[.int .i64 N, .slice A0 E.length c0] 24 (0, 0))) (hq : W.heap[qx]? = some (.cells #[.int .i64 q] 3 (0, 0)))
  (hx : Kd.C (Kd.int .i64) W A x.length x) (hc : x.length ≤ c) (hr : ∀ v : Nat, v < x.length → (v : Int) ≠ q → superstable_raised.f K N E q x v = some (r v) ∧ v < (r v).length) :
  Calls Try.prog 52 #[.slice A x.length c, .pointer (some ⟨qx, 0, none⟩), .pointer (some ⟨gx, 0, none⟩)] W fun e w' => e = .returned (.bool (risesTo x q r x.length)) ∧ Below W.heap.size W w' := by
 have HR0 := Aside0.mk hr0
 have HG := Aside0.mk hg
 have HQ := Aside0.mk hq
 have HX := Aside0.mk hx
 have HR := Aside0.mk hr
 have hlb : x.length ≤ 9223372036854775807 := Kd.C_max hx
 clear hr0 hg hq hx hr
 go_enter Try.func52, Try.ntmps52
 go_wp2
 go_loopw [10] (fun i wr => ∃ k : Nat, k ≤ x.length ∧ i = .int .i64 k ∧ Aside0 (risesTo x q r k = false) ∧ Aside0 (Below W.heap.size W wr)) (fun i _ => x.length - (intOf i).toNat)
 case atStart => exact ⟨0, by omega, rfl, ⟨rfl⟩, ⟨Below.refl _ _⟩⟩
 case round =>
  obtain ⟨k, hk, rfl, HF, HB⟩ := hrel
  have hq0 : wr.cell? ⟨qx, 0, none⟩ = some (.int .i64 q) := (blk_cell (blk_below HQ.out HB.out) 0).trans rfl
  have hg0 : wr.cell? ⟨gx, 0, none⟩ = some (.int .i64 N) := (blk_cell (blk_below HG.out HB.out) 0).trans rfl
  have hg1 : wr.cell? ⟨gx, 1, none⟩ = some (.slice A0 E.length c0) := (blk_cell (blk_below HG.out HB.out) 1).trans rfl
  have hu := Try.underlying24
  by_cases hkl : k < x.length
  ·have hC := Kd.C_below HX.out HB.out
   have HC := Aside0.mk hC
   obtain ⟨ad, rfl, hx0⟩ := Kd.at_int hC k (by omega) (by omega)
   rw [Int.toNat_natCast] at hx0
   have hk0 : (0 : Int) ≤ (k : Int) := by omega
   have hk1 : (k : Int) < (x.length : Int) := by omega
   clear hC
   by_cases hkq : (k : Int) = q
   ·have HS := Aside0.mk (show risesTo x q r (k + 1) = false from by rw [risesTo_succ, HF.out]; simp [hkq])
    have hqb : ((k : Int) == q) = true := by simpa using hkq
    have HKQ := Aside0.mk hkq
    clear hkq
    go_wp2
    go_roundw
    case rel => exact ⟨k + 1, by omega, by go_num, HS, HB⟩
    case measure => exact (show x.length - ((k : Int) + 1).toNat < x.length - ((k : Int)).toNat by omega)
   ·have hqb : ((k : Int) == q) = false := by simpa using hkq
    obtain ⟨hrf, hrl⟩ := HR.out k hkl hkq
    have HRF := Aside0.mk (superstable_raised.calls K N A0 c0 E q (some ad) c x k (r k) wr (Kd.C_below HR0.out HB.out) hc0 HC.out hc hrf)
    have HKQ := Aside0.mk hkq
    clear hkq hrf
    by_cases hup : rd x k < rd (r k) k
    ·have HT := Aside0.mk (risesTo_true (n := x.length) hkl HKQ.out hup)
     have hk2 : (k : Int) < ((r k).length : Int) := by omega
     go_wp2_with (go_at_call 53; refine HRF.out.mono ?_; rintro e w1 ⟨v1, rfl, hr1, hb1⟩; obtain ⟨Ar, cr, rfl⟩ := Kd.R_slice hr1; obtain ⟨-, -, hC1⟩ := Kd.R_reads' hr1; obtain ⟨ad1, rfl, hy⟩ := Kd.at_int hC1 k (by omega) (by omega); rw [Int.toNat_natCast] at hy; have HB1 := Aside0.mk hb1; clear hr1 hb1 hC1)
     go_ret
     exact ⟨by rw [HT.out]; rfl, HB.out.trans (HB1.out.mono HB.out.size)⟩
    ·have HS := Aside0.mk (show risesTo x q r (k + 1) = false from by rw [risesTo_succ, HF.out]; simp [hup])
     have hup' : ¬ rd (r k) k > rd x k := hup
     have hk2 : (k : Int) < ((r k).length : Int) := by omega
     go_wp2_with (go_at_call 53; refine HRF.out.mono ?_; rintro e w1 ⟨v1, rfl, hr1, hb1⟩; obtain ⟨Ar, cr, rfl⟩ := Kd.R_slice hr1; obtain ⟨-, -, hC1⟩ := Kd.R_reads' hr1; obtain ⟨ad1, rfl, hy⟩ := Kd.at_int hC1 k (by omega) (by omega); rw [Int.toNat_natCast] at hy; have HB1 := Aside0.mk hb1; clear hr1 hb1 hC1)
     go_roundw
     case rel => exact ⟨k + 1, by omega, by go_num, HS, ⟨HB.out.trans (HB1.out.mono HB.out.size)⟩⟩
     case measure => exact (show x.length - ((k : Int) + 1).toNat < x.length - ((k : Int)).toNat by omega)
  ·obtain rfl : k = x.length := by omega
   go_wp2
   go_ret
   exact ⟨by rw [HF.out]; rfl, HB.out⟩
theorem top_bad (k : Nat) (N : Int) (A0 : Option Addr) (c0 : Nat) (E : List S66) (q : Int) (l : List (List Int)) (t : Int) (w : World) (hr0 : Kd.C k66 w A0 E.length E) (hc0 : E.length ≤ c0) (hf : superstable_All.f k N E q = some (l, t)) (ht : t ≠ 0) :
  Calls Try.prog 20 #[.agg #[.int .i64 N, .slice A0 E.length c0], .int .i64 q] w fun e w' => e = .returned (.tuple #[.slice none 0 0, .int .i64 t]) ∧ Below w.heap.size w w' := by
 have hu := Try.underlying24
 have Hf := Aside0.mk hf
 have hne : (t != 0) = true := by simpa using ht
 have HX := Aside0.mk (blk_alloc (heap_alloc_new w (.cells #[.int .i64 N, .slice A0 E.length c0] 24)) (.cells #[.int .i64 q] 3))
 have hg0 : ((w.alloc (.cells #[.int .i64 N, .slice A0 E.length c0] 24)).alloc (.cells #[.int .i64 q] 3)).cell? ⟨w.heap.size, 0, none⟩ = some (.int .i64 N) := (blk_cell HX.out 0).trans rfl
 have hg1 : ((w.alloc (.cells #[.int .i64 N, .slice A0 E.length c0] 24)).alloc (.cells #[.int .i64 q] 3)).cell? ⟨w.heap.size, 1, none⟩ = some (.slice A0 E.length c0) := (blk_cell HX.out 1).trans rfl
 clear hf ht
 go_enter Try.func20, Try.ntmps20
 go_wp2_with (go_at_call 12; refine (superstable_All.calls k N A0 c0 E q l t _ (Kd.C_alloc (Kd.C_alloc hr0 _) _) hc0 Hf.out).mono ?_; rintro e w1 ⟨v, rfl, hN, hb⟩; have HB := Aside0.mk (below_step (below_alloc (below_alloc (Below.refl w.heap.size w) _) _) hb); clear hN hb)
 go_ret2
 exact ⟨rfl, HB.out⟩
theorem top_good (k K : Nat) (N : Int) (A0 : Option Addr) (c0 : Nat) (E : List S66) (q : Int) (l : List (List Int)) (r : List Int → Nat → List Int) (w : World) (hr0 : Kd.C k66 w A0 E.length E) (hc0 : E.length ≤ c0) (hf : superstable_All.f k N E q = some (l, 0)) (hr : ∀ x ∈ l, ∀ v : Nat, v < x.length → (v : Int) ≠ q → superstable_raised.f K N E q x v = some (r x v) ∧ v < (r x v).length) :
  Calls Try.prog 20 #[.agg #[.int .i64 N, .slice A0 E.length c0], .int .i64 q] w fun e w' => ∃ v, e = .returned (.tuple #[v, .int .i64 0]) ∧ Kd.N (Kd.slice 3 (Kd.int .i64)) 42 w' w.heap.size (fun k_ => (w.heap.size ≤ k_)) v (l.filter fun x => !risesTo x q (r x) x.length) ∧ Below w.heap.size w w' := by
 have hu := Try.underlying24
 have Hf := Aside0.mk hf
 have HX := Aside0.mk (blk_alloc (heap_alloc_new w (.cells #[.int .i64 N, .slice A0 E.length c0] 24)) (.cells #[.int .i64 q] 3))
 have HQ := Aside0.mk (heap_alloc2_new w (.cells #[.int .i64 N, .slice A0 E.length c0] 24) (.cells #[.int .i64 q] 3))
 have hg0 : ((w.alloc (.cells #[.int .i64 N, .slice A0 E.length c0] 24)).alloc (.cells #[.int .i64 q] 3)).cell? ⟨w.heap.size, 0, none⟩ = some (.int .i64 N) := (blk_cell HX.out 0).trans rfl
 have hg1 : ((w.alloc (.cells #[.int .i64 N, .slice A0 E.length c0] 24)).alloc (.cells #[.int .i64 q] 3)).cell? ⟨w.heap.size, 1, none⟩ = some (.slice A0 E.length c0) := (blk_cell HX.out 1).trans rfl
 have HR := Aside0.mk hr
 clear hf hr
 go_enter Try.func20, Try.ntmps20
 go_wp2_with (go_at_call 12; refine (superstable_All.calls k N A0 c0 E q l 0 _ (Kd.C_alloc (Kd.C_alloc hr0 _) _) hc0 Hf.out).mono ?_; rintro e w1 ⟨v, rfl, hN, hb⟩; obtain ⟨Av, cv, rfl⟩ := Kd.N_slice hN; have HB := Aside0.mk (below_step (below_alloc (below_alloc (Below.refl w.heap.size w) _) _) hb); have HX1 := Aside0.mk (blk_below HX.out hb); have HQ1 := Aside0.mk (blk_below HQ.out hb); have HN := Aside0.mk hN; clear hN hb)
 have hW0 : w.heap.size + 2 = ((w.alloc (.cells #[.int .i64 N, .slice A0 E.length c0] 24)).alloc (.cells #[.int .i64 q] 3)).heap.size := by simp
 rw [← hW0] at HN
 have HDA : Aside0 (∀ row, (∀ g, row = some g → w.heap.size + 2 ≤ g) → DelAt (w.heap.size + 1) w.heap.size row w1 l (fun x => risesTo x q (r x) x.length)) := ⟨fun row hrow W' A c x hgr hxl hc hx => by
  have hB : Below w.heap.size w W' := pw_below_grown HB.out row HB.out.size hgr (fun g e => by have := hrow g e; omega)
  refine maximal1_calls K N A0 c0 E q (w.heap.size + 1) w.heap.size A c x (r x) W' (Kd.C_below hr0 hB) hc0 ((hgr.block _ (blk_lt HX1.out) (fun e => by have := hrow _ e.symm; omega)).trans HX1.out) ((hgr.block _ (blk_lt HQ1.out) (fun e => by have := hrow _ e.symm; omega)).trans HQ1.out) hx hc (HR.out x hxl)⟩
 have hsz := HB.out.size
 by_cases hex : ∃ j : Nat, j < l.length ∧ (fun x => risesTo x q (r x) x.length) (rd_L2 l j) = true
 ·obtain ⟨g0, cap, hv, hge, -, -⟩ := Kd.N_form HN.out (by obtain ⟨j, hj, _⟩ := hex; omega)
  injection hv with hv1 hv2 hv3
  subst hv1 hv3
  refine (deleteFunc_some (w.heap.size + 1) w.heap.size (w.heap.size + 2) g0 cv (fun k => w.heap.size + 2 ≤ k) l _ w1 w1 HN.out ⟨rfl, rfl, rfl, Nat.le_refl _, fun _ _ _ => rfl⟩ (HDA.out (some g0) (fun g e => by injection e with e; omega)) hex).mono ?_
  rintro e w2 ⟨m, rfl, hm, hN2, hg2⟩
  have HN2 := Aside0.mk (Kd.N_mono (Kd.N_lower (base' := w.heap.size) hN2 (by omega)) (ok' := fun k => w.heap.size ≤ k) (fun k hk => by omega))
  have HB2 := Aside0.mk (pw_below_grown HB.out (some g0) HB.out.size hg2 (fun k e => by injection e with e; omega))
  clear hm hN2 hg2 hex hW0
  go_wp2
  go_ret2
  exact ⟨_, rfl, HN2.out, HB2.out⟩
 ·have hno : ∀ j : Nat, j < l.length → (fun x => risesTo x q (r x) x.length) (rd_L2 l j) = false := fun j hj => by
   cases h : (fun x => risesTo x q (r x) x.length) (rd_L2 l j) with
   | false => rfl
   | true => exact absurd ⟨j, hj, h⟩ hex
  have HFN := Aside0.mk (filter_none (l := l) (del := fun x => risesTo x q (r x) x.length) hno)
  refine (deleteFunc_none (w.heap.size + 1) w.heap.size (w.heap.size + 2) none Av cv (fun k => w.heap.size + 2 ≤ k) l _ w1 w1 HN.out ⟨rfl, rfl, rfl, Nat.le_refl _, fun _ _ _ => rfl⟩ (HDA.out none (fun g e => by cases e)) hno).mono ?_
  rintro e w2 ⟨rfl, hb2⟩
  have HN2 := Aside0.mk (Kd.N_below (Kd.N_mono (Kd.N_lower (base' := w.heap.size) HN.out (by omega)) (ok' := fun k => w.heap.size ≤ k) (fun k hk => by omega)) hb2)
  have HB2 := Aside0.mk (HB.out.trans (hb2.mono HB.out.size))
  clear hb2 hex hno hW0
  go_wp2
  go_ret2
  exact ⟨.slice Av l.length cv, rfl, by rw [HFN.out]; exact HN2.out, HB2.out⟩
def okRaised (k : Nat) (N : Int) (E : List S66) (q : Int) (l : List (List Int)) : Bool := l.all fun c => (List.range c.length).all fun v => decide ((v : Int) = q) || match superstable_raised.f k N E q c v with | some r => decide (v < r.length) | none => false
def raisedAt (k : Nat) (N : Int) (E : List S66) (q : Int) (c : List Int) (v : Nat) : List Int := (superstable_raised.f k N E q c v).getD []
theorem okRaised_get {k : Nat} {N : Int} {E : List S66} {q : Int} {l : List (List Int)} (h : okRaised k N E q l = true) : ∀ x ∈ l, ∀ v : Nat, v < x.length → (v : Int) ≠ q → superstable_raised.f k N E q x v = some (raisedAt k N E q x v) ∧ v < (raisedAt k N E q x v).length := by
 intro x hx v hv hq
 have h1 := List.all_eq_true.1 (List.all_eq_true.1 h x hx) v (List.mem_range.2 hv)
 rw [decide_eq_false hq, Bool.false_or] at h1
 unfold raisedAt
 cases hr : superstable_raised.f k N E q x v with
 | none => rw [hr] at h1; cases h1
 | some r => rw [hr] at h1; exact ⟨rfl, by simpa using h1⟩
def superstable_Maximal.f (k : Nat) (N : Int) (E : List S66) (q : Int) : Option (List (List Int) × Int) :=
 (superstable_All.f k N E q).bind fun t => if t.2 = 0 then (if okRaised k N E q t.1 = true then some (t.1.filter fun x => !risesTo x q (raisedAt k N E q x) x.length, 0) else none) else some ([], t.2)
theorem superstable_Maximal.calls (k : Nat) (a0_0 : Int) (A0_1 : Option Addr) (c0_1 : Nat) (l0_1 : List (S66)) (a1 : Int) (r1 : List (List Int)) (r2 : Int) (w : World) (hr0_1 : Kd.C k66 w A0_1 l0_1.length l0_1) (hc0_1 : l0_1.length ≤ c0_1) (h : superstable_Maximal.f k a0_0 l0_1 a1 = some (r1, r2)) :
  Calls Try.prog 20 #[.agg #[.int .i64 a0_0, .slice A0_1 l0_1.length c0_1], .int .i64 a1] w fun e w' => ∃ v0_ : Value, e = .returned (.tuple #[v0_, .int .i64 r2]) ∧ Kd.N (Kd.slice 3 (Kd.int .i64)) 42 w' w.heap.size (fun k_ => (w.heap.size ≤ k_)) v0_ r1 ∧ Below w.heap.size w w' := by
 unfold superstable_Maximal.f at h
 obtain ⟨⟨l, t⟩, ht, H⟩ := Option.bind_eq_some_iff.mp h
 simp only at H
 by_cases h0 : t = 0
 ·subst h0
  rw [if_pos rfl] at H
  by_cases hv : okRaised k a0_0 l0_1 a1 l = true
  ·rw [if_pos hv] at H
   simp only [Option.some.injEq, Prod.mk.injEq] at H
   obtain ⟨rfl, rfl⟩ := H
   exact top_good k k a0_0 A0_1 c0_1 l0_1 a1 l _ w hr0_1 hc0_1 ht (okRaised_get hv)
  ·rw [if_neg hv] at H; cases H
 ·rw [if_neg h0] at H
  simp only [Option.some.injEq, Prod.mk.injEq] at H
  obtain ⟨rfl, rfl⟩ := H
  refine (top_bad k a0_0 A0_1 c0_1 l0_1 a1 l t w hr0_1 hc0_1 ht h0).mono ?_
  rintro e w' ⟨rfl, hb⟩
  exact ⟨_, rfl, Kd.N_nil _ _ _ _ _, hb⟩
end Go.Proofs.Ytffdiakgjakngaa.P
