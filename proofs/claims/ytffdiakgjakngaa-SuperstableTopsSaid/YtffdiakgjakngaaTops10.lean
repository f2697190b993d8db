/- A part of the proof that SuperstableTops answers true (text 10 of 15): own walks and plain laws; no conditions. -/
import Derived.Test.YtffdiakgjakngaaTops9
namespace Go.Proofs.Ytffdiakgjakngaa.P
open Go.RowKit Go.Proofs.YtffdiakgjakngaaW.PrintWords Go.Proofs.YtffdiakgjakngaaW.PrintLast Go.Proofs.YtffdiakgjakngaaW.PrintMore
set_option linter.unusedVariables false
set_option linter.unusedSimpArgs false
set_option maxHeartbeats 8000000
set_option maxRecDepth 100000
section
def valN (E : List S66) (v : Nat) : Nat → Int
 | 0 => 0
 | u + 1 => valN E v u + (if u = v then 0 else btw E u v)
theorem valN_bound {N : Int} {E : List S66} (h : RightE N E) (v : Nat) : ∀ u : Nat, 0 ≤ valN E v u ∧ valN E v u ≤ 50 * u
 | 0 => by simp [valN]
 | u + 1 => by
  have h1 := valN_bound h v u
  have h2 := btw_nonneg h u v
  simp only [valN]
  split <;> omega
theorem valence_l0 {N : Int} {E : List S66} (hR : RightE N E) (hE : E.length ≤ 1000) (n : Nat) (hn : n ≤ 1000) (v : Nat) : ∀ (m u : Nat), u + m = n → Ev (fun k => sandpileref08_Valence.l0 k v (valN E v u) u n E) (valN E v n)
 | 0, u, hu => by
  obtain rfl : u = n := by omega
  refine Ev.of_succ ?_
  simp only [sandpileref08_Valence.l0, if_neg (show ¬ ((u : Int) < (u : Int)) by omega)]
  exact Ev.const _
 | m + 1, u, hu => by
  have ih := valence_l0 hR hE n hn v m (u + 1) (by omega)
  have hb := valN_bound hR v u
  have hb2 := btw_nonneg hR u v
  refine Ev.of_succ ?_
  simp only [sandpileref08_Valence.l0, if_pos (show (u : Int) < (n : Int) by omega), wrap_succ (show u ≤ 1000000 by omega)]
  simp only [valN] at ih
  by_cases h : u = v
  ·simp only [if_pos (show (u : Int) = (v : Int) by omega)]
   rw [if_pos h, Int.add_zero] at ih; exact ih
  ·simp only [if_neg (show ¬ (u : Int) = (v : Int) by omega)]
   rw [if_neg h] at ih
   refine Ev.bind (between_ev n E u v hE) ?_
   rw [show wrap64 (valN E v u + btw E u v) = valN E v u + btw E u v from wrap_id (by omega)]
   exact ih
theorem valence_ev {N : Int} {E : List S66} (hR : RightE N E) (hE : E.length ≤ 1000) (n : Nat) (hn : n ≤ 1000) (v : Nat) : Ev (fun k => sandpileref08_Valence.f k n E v) (valN E v n) := by
 unfold sandpileref08_Valence.f
 have := valence_l0 hR hE n hn v n 0 (by omega)
 simpa [valN] using this
def valL (E : List S66) (n : Nat) : List Int := (List.range n).map fun v => valN E v n
theorem rd_valL (E : List S66) (n v : Nat) (h : v < n) : rd (valL E n) v = valN E v n := by simp [rd, valL, List.getD_eq_getElem?_getD, List.getElem?_map, List.getElem?_range h]
theorem top_l0 {N : Int} {E : List S66} (hR : RightE N E) (hE : E.length ≤ 1000) (n : Nat) (hn : n ≤ 1000) (q : Int) : ∀ (m v : Nat), v + m = n → Ev (fun k => sandpileref19_Top.l0 k q (topTo (valL E n) q n v) v n E) (topTo (valL E n) q n n)
 | 0, v, hv => by
  obtain rfl : v = n := by omega
  refine Ev.of_succ ?_
  simp only [sandpileref19_Top.l0, if_neg (show ¬ ((v : Int) < (v : Int)) by omega)]
  exact Ev.const _
 | m + 1, v, hv => by
  have ih := top_l0 hR hE n hn q m (v + 1) (by omega)
  have hb := valN_bound hR v n
  refine Ev.of_succ ?_
  simp only [sandpileref19_Top.l0, if_pos (show (v : Int) < (n : Int) by omega), wrap_succ (show v ≤ 1000000 by omega)]
  by_cases h : (v : Int) = q
  ·simp only [if_pos h]
   rw [topTo_skip h] at ih; exact ih
  ·simp only [if_neg h]
   rw [topTo_set h (by omega), rd_valL E n v (by omega)] at ih
   refine Ev.bind (valence_ev hR hE n hn v) ?_
   simp only [if_pos (show (0 : Int) ≤ (v : Int) by omega), topTo_length, if_pos (show (v : Int) < (n : Int) by omega), Int.toNat_natCast]
   rw [show wrap64 (valN E v n - 1) = valN E v n - 1 from wrap_id (by omega)]
   exact ih
theorem top_ev {N : Int} {E : List S66} (hR : RightE N E) (hE : E.length ≤ 1000) (n : Nat) (hn : n ≤ 1000) (q : Int) : Ev (fun k => sandpileref19_Top.f k n E q) (topTo (valL E n) q n n) := by
 unfold sandpileref19_Top.f
 simp only [if_pos (show (0 : Int) ≤ (n : Int) by omega), Int.toNat_natCast, if_pos (show n ≤ 35184372088832 by omega)]
 have := top_l0 hR hE n hn q n 0 (by omega)
 rw [topTo_zero] at this
 exact this
def mostOf (E : List S66) (n q : Nat) (v : Nat) : Nat := if v = q then 0 else (valN E v n - 1).toNat
theorem stab_l2 (E : List S66) (n : Nat) (q : Int) (top : List Int) (v M : Nat) (o : List (List Int)) (hM : M ≤ 10000) (ho : o.length ≤ 100000) (i : Nat) (hi : i < o.length) (hp : (rd_L2 o i).length ≤ 1000) (r : List (List Int)) : ∀ (m j : Nat) (nx : List (List Int)), j + m = M + 1 → nx.length + m ≤ 1000000 →
  Ev (fun k => sandpileref28_Stables.l1 k q top o v M (nx ++ (List.range' j m).map fun (x : Nat) => rd_L2 o i ++ [(x : Int)]) ((i + 1 : Nat) : Int) n E) r → Ev (fun k => sandpileref28_Stables.l2 k q top o v M nx i j n E) r
 | 0, j, nx, hj, hl, h => by
  refine Ev.of_succ ?_
  simp only [sandpileref28_Stables.l2, if_neg (show ¬ ((j : Int) ≤ (M : Int)) by omega), wrap_succ (show i ≤ 1000000 by omega)]
  simpa using h
 | m + 1, j, nx, hj, hl, h => by
  rw [List.range'_succ, List.map_cons] at h
  have ih := stab_l2 E n q top v M o hM ho i hi hp r m (j + 1) (nx ++ [rd_L2 o i ++ [(j : Int)]]) (by omega) (by simp; omega) (by simpa using h)
  refine Ev.of_succ ?_
  simp only [sandpileref28_Stables.l2, if_pos (show (j : Int) ≤ (M : Int) by omega), Option.bind_some, if_pos (show (0 : Int) ≤ (i : Int) by omega), if_pos (show (i : Int) < (o.length : Int) by omega), List.length_nil, Nat.zero_add, if_pos (show (rd_L2 o i).length < 17592186044416 by omega), List.nil_append, if_pos (show nx.length < 5864062014805 by omega), wrap_succ (show j ≤ 1000000 by omega)]
  exact ih
theorem stab_l1 (E : List S66) (n : Nat) (q : Int) (top : List Int) (v M : Nat) (hv : v ≤ 1000) (o : List (List Int)) (hM : M ≤ 10000) (ho : o.length ≤ 100000) (hp : ∀ p ∈ o, p.length ≤ 1000) (hb : o.length * (M + 1) ≤ 1000000) (r : List (List Int)) : ∀ (m i : Nat) (nx : List (List Int)), i + m = o.length → nx.length = i * (M + 1) →
  Ev (fun k => sandpileref28_Stables.l0 k q top (nx ++ (o.drop i).flatMap fun p => (List.range (M + 1)).map fun (x : Nat) => p ++ [(x : Int)]) ((v + 1 : Nat) : Int) n E) r → Ev (fun k => sandpileref28_Stables.l1 k q top o v M nx i n E) r
 | 0, i, nx, hi, hl, h => by
  refine Ev.of_succ ?_
  simp only [sandpileref28_Stables.l1, if_neg (show ¬ ((i : Int) < (o.length : Int)) by omega), wrap_succ (show v ≤ 1000000 by omega)]
  rw [List.drop_eq_nil_of_le (by omega)] at h
  simpa using h
 | m + 1, i, nx, hi, hl, h => by
  have hmul : (i + 1) * (M + 1) ≤ o.length * (M + 1) := Nat.mul_le_mul_right _ (by omega)
  have hmul2 : (i + 1) * (M + 1) = i * (M + 1) + (M + 1) := Nat.succ_mul _ _
  rw [rd_L2_drop (by omega), List.flatMap_cons] at h
  have ih := stab_l1 E n q top v M hv o hM ho hp hb r m (i + 1) (nx ++ (List.range (M + 1)).map fun (x : Nat) => rd_L2 o i ++ [(x : Int)]) (by omega) (by simp; omega) (by rw [List.append_assoc]; exact h)
  refine Ev.of_succ ?_
  simp only [sandpileref28_Stables.l1, if_pos (show (i : Int) < (o.length : Int) by omega)]
  have hpi : (rd_L2 o i).length ≤ 1000 := hp _ (by
   have e : rd_L2 o i = o[i] := by simp [rd_L2, List.getD_eq_getElem?_getD, List.getElem?_eq_getElem (by omega : i < o.length)]
   rw [e]; exact List.getElem_mem _)
  refine stab_l2 E n q top v M o hM ho i (by omega) hpi r (M + 1) 0 nx (by omega) (by omega) ?_
  rw [← List.range_eq_range']
  exact ih
theorem sum_const {α : Type} (l : List α) (c : Nat) : (l.map fun _ => c).sum = l.length * c := by
 induction l with
 | nil => simp
 | cons x l ih => simp only [List.map_cons, List.sum_cons, ih, List.length_cons, Nat.succ_mul]; omega
theorem stab_l0 (E : List S66) (n : Nat) (hn : n ≤ 1000) (q : Nat) (top : List Int) (htl : top.length = n) (most : Nat → Nat) (hmost : ∀ v : Nat, v < n → (if v = q then (0 : Int) else rd top v) = (most v : Int)) (hM : ∀ v : Nat, v < n → most v ≤ 10000) (hb : ∀ v : Nat, v ≤ n → (stabB most v).length ≤ 100000) :
  ∀ (m v : Nat), v + m = n → Ev (fun k => sandpileref28_Stables.l0 k q top (stabB most v) v n E) (stabB most n)
 | 0, v, hv => by
  obtain rfl : v = n := by omega
  refine Ev.of_succ ?_
  simp only [sandpileref28_Stables.l0, if_neg (show ¬ ((v : Int) < (v : Int)) by omega)]
  exact Ev.const _
 | m + 1, v, hv => by
  have ih := stab_l0 E n hn q top htl most hmost hM hb m (v + 1) (by omega)
  have hb1 := hb (v + 1) (by omega)
  have hlen : (stabB most (v + 1)).length = (stabB most v).length * (most v + 1) := by
   show (stepB most v (stabB most v)).length = _
   unfold stepB
   rw [List.length_flatMap]
   simp only [List.length_map, List.length_range]
   exact sum_const _ _
  have key : Ev (fun k => sandpileref28_Stables.j1 k q top (stabB most v) v (most v : Nat) n E) (stabB most n) := by
   refine Ev.of_succ ?_
   simp only [sandpileref28_Stables.j1]
   refine stab_l1 E n q top v (most v) (by omega) _ (hM v (by omega)) (hb v (by omega)) (fun p hp => by have := stabB_len most v p hp; omega) (by omega) _ (stabB most v).length 0 [] (by omega) (by simp) ?_
   exact ih
  refine Ev.of_succ ?_
  simp only [sandpileref28_Stables.l0, if_pos (show (v : Int) < (n : Int) by omega), if_pos (show (0 : Int) ≤ (v : Int) by omega), if_pos (show (v : Int) < (top.length : Int) by omega)]
  have hm := hmost v (by omega)
  by_cases h : v = q
  ·simp only [if_pos (show (v : Int) = (q : Int) by omega)]
   rw [if_pos h] at hm; rw [hm]; exact key
  ·simp only [if_neg (show ¬ (v : Int) = (q : Int) by omega)]
   rw [if_neg h] at hm; rw [hm]; exact key
theorem all_l0 {N : Int} {E : List S66} (hR : RightE N E) (hE : E.length ≤ 1000) (n : Nat) (hn : n ≤ 15) (q : Int) (l : List (List Int)) (hl : l.length ≤ 100000) (hls : ∀ c ∈ l, c.length = n) : ∀ (m i : Nat) (o : List (List Int)), i + m = l.length → o.length ≤ i → Ev (fun k => sandpileref28_All.l0 k q l o i n E) (o ++ (l.drop i).filter (isB E n q))
 | 0, i, o, hi, ho => by
  refine Ev.of_succ ?_
  simp only [sandpileref28_All.l0, if_neg (show ¬ ((i : Int) < (l.length : Int)) by omega)]
  rw [List.drop_eq_nil_of_le (by omega)]
  simpa using Ev.const _
 | m + 1, i, o, hi, ho => by
  have hm := hls (rd_L2 l i) (by
   have e : rd_L2 l i = l[i] := by simp [rd_L2, List.getD_eq_getElem?_getD, List.getElem?_eq_getElem (by omega : i < l.length)]
   rw [e]; exact List.getElem_mem _)
  refine Ev.of_succ ?_
  simp only [sandpileref28_All.l0, if_pos (show (i : Int) < (l.length : Int) by omega), if_pos (show (0 : Int) ≤ (i : Int) by omega), wrap_succ (show i ≤ 1000000 by omega), if_pos (show o.length < 5864062014805 by omega)]
  refine Ev.bind (is_ev hR hE n hn q _ hm) ?_
  rw [rd_L2_drop (by omega), List.filter_cons]
  cases hb : isB E n q (rd_L2 l i) with
  | true =>
   simp only [if_true]
   have ih := all_l0 hR hE n hn q l hl hls m (i + 1) (o ++ [rd_L2 l i]) (by omega) (by simp; omega)
   simpa using ih
  | false =>
   simp only [Bool.false_eq_true, if_false]
   exact all_l0 hR hE n hn q l hl hls m (i + 1) o (by omega) (by omega)
def sumM : List S66 → Int
 | [] => 0
 | x :: E => x.f2 + sumM E
theorem sumM_append : ∀ (A B : List S66), sumM (A ++ B) = sumM A + sumM B
 | [], B => by simp [sumM]
 | x :: A, B => by rw [List.cons_append, sumM, sumM, sumM_append A B]; omega
theorem sizeTo_sum {N : Int} {E : List S66} (hR : RightE N E) : ∀ k, k ≤ E.length → ((sizeTo E k : Nat) : Int) = sumM (E.take k)
 | 0, _ => rfl
 | k + 1, hk => by
  have e : rd_T66 E k = E[k] := by simp [rd_T66, List.getD_eq_getElem?_getD, List.getElem?_eq_getElem (by omega : k < E.length)]
  have := hR.ok E[k] (List.getElem_mem _)
  simp [edgeOk] at this
  rw [List.take_succ_eq_append_getElem (by omega), sumM_append, ← sizeTo_sum hR k (by omega), sizeTo, e]
  simp only [sumM]
  omega
theorem btw_ge {E : List S66} (h : ∀ x ∈ E, 1 ≤ x.f2) (a b : Int) : 0 ≤ btw E a b := by
 unfold btw
 split
 ·rename_i x hx; have := h x (List.mem_of_find?_eq_some hx); omega
 ·omega
theorem valN_cons {x : S66} {E : List S66} (h : ∀ y ∈ x :: E, 1 ≤ y.f2) (v : Nat) : ∀ u : Nat, valN (x :: E) v u ≤ valN E v u + (if (∃ w : Nat, w < u ∧ w ≠ v ∧ x.f0 = min (w : Int) v ∧ x.f1 = max (w : Int) v) then x.f2 else 0)
 | 0 => by simp [valN]
 | u + 1 => by
  have ih := valN_cons h v u
  have hx := h x (List.mem_cons_self ..)
  have hg := btw_ge (fun y hy => h y (List.mem_cons_of_mem _ hy)) (u : Int) v
  have hsub : (if (∃ w : Nat, w < u ∧ w ≠ v ∧ x.f0 = min (w : Int) v ∧ x.f1 = max (w : Int) v) then x.f2 else 0) ≤ (if (∃ w : Nat, w < u + 1 ∧ w ≠ v ∧ x.f0 = min (w : Int) v ∧ x.f1 = max (w : Int) v) then x.f2 else 0) := by
   by_cases h1 : ∃ w : Nat, w < u ∧ w ≠ v ∧ x.f0 = min (w : Int) v ∧ x.f1 = max (w : Int) v
   ·obtain ⟨w, hw, h2⟩ := h1
    rw [if_pos ⟨w, hw, h2⟩, if_pos ⟨w, by omega, h2⟩]; exact Int.le_refl _
   ·rw [if_neg h1]; split <;> omega
  simp only [valN]
  by_cases e : u = v
  ·rw [if_pos e, if_pos e]; omega
  ·rw [if_neg e, if_neg e, btw_cons]
   by_cases hh : x.f0 = min (u : Int) v ∧ x.f1 = max (u : Int) v
   ·rw [if_pos hh, if_pos (show ∃ w : Nat, w < u + 1 ∧ w ≠ v ∧ x.f0 = min (w : Int) v ∧ x.f1 = max (w : Int) v from ⟨u, by omega, e, hh⟩)]
    rw [if_neg (show ¬ ∃ w : Nat, w < u ∧ w ≠ v ∧ x.f0 = min (w : Int) v ∧ x.f1 = max (w : Int) v from by rintro ⟨w, hw, hwv, h1, h2⟩; omega)] at ih
    omega
   ·rw [if_neg hh]; omega
theorem valN_le : ∀ {E : List S66}, (∀ y ∈ E, 1 ≤ y.f2) → ∀ v u : Nat, valN E v u ≤ sumM E
 | [], _, v, u => by
  have : ∀ u, valN [] v u = 0 := fun u => by
   induction u with
   | zero => rfl
   | succ u ih => simp [valN, ih, btw]
  simp [this, sumM]
 | x :: E, h, v, u => by
  have h1 := valN_cons h v u
  have h2 := valN_le (fun y hy => h y (List.mem_cons_of_mem _ hy)) v u
  have hx := h x (List.mem_cons_self ..)
  simp only [sumM]
  split at h1 <;> omega
theorem valOf_valN {n : Nat} {E : List S66} (hR : RightE n E) (v : Nat) : ∀ u, flamesTo (timesOf E) (fun u => !decide (u = v)) v u = valN E v u
 | 0 => rfl
 | u + 1 => by
  rw [flamesTo, valN, valOf_valN hR v u]
  congr 1
  by_cases h : u = v
  ·simp [h]
  ·simp only [h, decide_false, Bool.not_false, if_true, if_neg h]
   rw [times_btw hR v u (fun e => h e.symm), btw_comm]; simp
theorem leq_rd : ∀ {a b : List Int} (v : Nat), Leq a b → rd a v ≤ rd b v
 | [], [], v, _ => Int.le_refl _
 | x :: a, y :: b, 0, h => by simpa [rd] using h.1
 | x :: a, y :: b, v + 1, h => by
  have := leq_rd v h.2
  simpa [rd] using this
 | [], y :: b, v, h => h.elim
 | x :: a, [], v, h => h.elim
theorem valN_pos {n q : Nat} {E : List S66} (hR : RightE n E) (hC : EConn n E) (hq : q < n) {v : Nat} (hv : v < n) (hvq : v ≠ q) : 1 ≤ valN E v n := by
 obtain ⟨x, hx, hne⟩ := hC (fun u => decide (u = v)) ⟨v, hv, by simp⟩ ⟨q, hq, by simp; omega⟩
 have hb := btw_edge hR hx
 have hok := hR.ok x hx
 simp [edgeOk] at hok
 have e0 : ((x.f0.toNat : Nat) : Int) = x.f0 := by omega
 have e1 : ((x.f1.toNat : Nat) : Int) = x.f1 := by omega
 have key : ∀ w : Nat, w < n → w ≠ v → btw E w v > 0 → 1 ≤ valN E v n := fun w hw hwv hbt => by
  have h2 : ∀ u : Nat, w < u → 1 ≤ valN E v u := fun u => by
   induction u with
   | zero => omega
   | succ u ih =>
    intro hu
    have hbd := valN_bound hR v u
    have hb3 := btw_nonneg hR u v
    rw [valN]
    by_cases e : w = u
    ·subst e; rw [if_neg hwv]; omega
    ·have := ih (by omega)
     split <;> omega
  exact h2 n hw
 by_cases h1 : x.f0.toNat = v
 ·have h2 : x.f1.toNat ≠ v := fun e => hne (by simp [h1, e])
  exact key x.f1.toNat (by omega) h2 (by rw [← h1, e0, e1, btw_comm]; exact hb)
 ·have h2 : x.f1.toNat = v := by
   refine Classical.byContradiction fun e => hne (by simp [h1, e])
  exact key x.f0.toNat (by omega) h1 (by rw [← h2, e0, e1]; exact hb)
theorem stabB_bound {most : Nat → Nat} {q : Nat} (hq : most q = 0) (hm : ∀ v, most v ≤ 7) : ∀ v : Nat, (stabB most v).length ≤ 8 ^ (v - (if q < v then 1 else 0))
 | 0 => by simp [stabB]
 | v + 1 => by
  have ih := stabB_bound hq hm v
  have hlen : (stabB most (v + 1)).length = (stabB most v).length * (most v + 1) := by
   show (stepB most v (stabB most v)).length = _
   unfold stepB
   rw [List.length_flatMap]
   simp only [List.length_map, List.length_range]
   exact sum_const _ _
  rw [hlen]
  by_cases e : q = v
  ·subst e
   rw [hq, if_pos (by omega)]
   rw [if_neg (by omega)] at ih
   simpa using ih
  ·by_cases h : q < v
   ·rw [if_pos h] at ih
    rw [if_pos (by omega), show v + 1 - 1 = (v - 1) + 1 by omega, Nat.pow_succ]
    exact Nat.mul_le_mul ih (by have := hm v; omega)
   ·rw [if_neg h] at ih
    rw [if_neg (by omega), show v + 1 - 0 = (v - 0) + 1 by omega, Nat.pow_succ]
    exact Nat.mul_le_mul ih (by have := hm v; omega)
structure Small (n q : Nat) (E : List S66) : Prop where
 right : RightE n E
 conn : EConn n E
 len : E.length ≤ 40
 n1 : 1 ≤ n
 n5 : n ≤ 5
 q : q < n
 size : sizeTo E E.length ≤ 8
namespace Small
variable {n q : Nat} {E : List S66}
theorem val_le (h : Small n q E) (v : Nat) : valN E v n ≤ 8 := by
 have h1 := valN_le (E := E) (fun y hy => by have := h.right.ok y hy; simp [edgeOk] at this; omega) v n
 have h2 := sizeTo_sum h.right E.length (Nat.le_refl _)
 rw [List.take_length] at h2
 have := h.size
 omega
theorem most_le (h : Small n q E) (v : Nat) : mostOf E n q v ≤ 7 := by
 unfold mostOf
 split
 ·omega
 ·have := h.val_le v; omega
theorem most_q (E : List S66) (n q : Nat) : mostOf E n q q = 0 := by simp [mostOf]
theorem stab_le (h : Small n q E) {v : Nat} (hv : v ≤ n) : (stabB (mostOf E n q) v).length ≤ 4096 := by
 have h1 := stabB_bound (most_q E n q) h.most_le v
 have h2 : 8 ^ (v - (if q < v then 1 else 0)) ≤ 8 ^ 4 := Nat.pow_le_pow_right (by omega) (by have := h.n5; have := h.q; split <;> omega)
 omega
theorem super_iff (h : Small n q E) (c : List Int) : superB n (timesOf E) q c = isB E n q c := by
 rw [Bool.eq_iff_iff, superB_iff (fun i j => ((edgesIn_of h.right.inB).times i j).1), is_iff h.right h.conn h.q]
theorem all_ev (h : Small n q E) : Ev (fun k => sandpileref28_All.f k n E q) ((stabB (mostOf E n q) n).filter (isB E n q)) := by
 have hE : E.length ≤ 1000 := by have := h.len; omega
 have hn : n ≤ 15 := by have := h.n5; omega
 unfold sandpileref28_All.f
 refine Ev.bind (a := stabB (mostOf E n q) n) ?_ ?_
 ·unfold sandpileref28_Stables.f
  refine Ev.bind (top_ev h.right hE n (by omega) q) ?_
  have := stab_l0 E n (by omega) q (topTo (valL E n) q n n) (topTo_length _ _ _ _) (mostOf E n q) (fun v hv => by
   unfold mostOf
   by_cases e : v = q
   ·rw [if_pos e, if_pos e]; rfl
   ·have hp := valN_pos h.right h.conn h.q hv e
    rw [if_neg e, if_neg e]
    rw [show rd (topTo (valL E n) q n n) v = valN E v n - 1 from by
     simp only [rd, topTo, Int.toNat_natCast, List.getD_eq_getElem?_getD, List.getElem?_map, List.getElem?_range hv, Option.map_some, Option.getD_some]
     rw [if_pos ⟨hv, by omega⟩]
     have := rd_valL E n v hv
     simp only [rd, Int.toNat_natCast, List.getD_eq_getElem?_getD] at this
     rw [this]]
    omega) (fun v _ => by have := h.most_le v; omega) (fun v hv => by have := h.stab_le hv; omega) n 0 (by omega)
  exact this
 ·have := all_l0 h.right hE n hn q (stabB (mostOf E n q) n) (by have := h.stab_le (Nat.le_refl n); omega) (fun c hc => stabB_len _ _ _ hc) (stabB (mostOf E n q) n).length 0 [] (by omega) (by simp)
  simpa using this
theorem confs_eq (h : Small n q E) : confs n E q = (stabB (mostOf E n q) n).filter (isB E n q) := by
 unfold confs
 have ht := (edgesIn_of h.right.inB).times
 have hdown : ∀ a b : List Int, a.length = n → Leq a b → superB n (timesOf E) q b = true → superB n (timesOf E) q a = true := fun a b _ hab hb => by
  rw [superB_iff (fun i j => (ht i j).1)] at hb ⊢
  exact hb.down (fun v _ => leq_rd v hab)
 rw [outB_eq q confB (superB n (timesOf E) q) (mostOf E n q) n hdown (fun l v hl hv hvq hc => by
   have h1 := (superB_small h.right.inB (by have := h.n5; omega) hv hvq hc).1
   unfold valOf at h1
   rw [valOf_valN h.right] at h1
   unfold mostOf
   rw [if_neg hvq]
   omega) (most_q E n q) (fun v _ => by have := h.most_le v; show _ ≤ 1000; omega) n [] (by simp) ?_]
 ·rw [← stabB_eq]
  refine List.filter_congr fun c _ => h.super_iff c
 ·by_cases h2 : n = 1
  ·left
   rw [superB_iff (fun i j => (ht i j).1)]
   rintro S ⟨v, hv, hs⟩ hSq
   have := h.q
   rw [show v = q by omega, hSq] at hs; cases hs
  ·right
   have := h.q
   have := h.n1
   by_cases h3 : q = 0
   ·exact ⟨1, by simp, by omega, by omega⟩
   ·exact ⟨0, by simp, by omega, by omega⟩
theorem confs_le (h : Small n q E) : (confs n E q).length ≤ 4096 := by
 rw [h.confs_eq]
 exact Nat.le_trans (List.length_filter_le _ _) (h.stab_le (Nat.le_refl n))
end Small
end
section
attribute [local go_sem] Oper.semAt_some
theorem all_good (k n : Nat) (A0 : Option Addr) (c0 : Nat) (E : List S66) (q : Nat) (l : List Int) (w : World) (hr0 : Kd.C k66 w A0 E.length E) (hc0 : E.length ≤ c0) (hf : superstable_first.f k n E q = some (l, 0)) (htot : (confs n E q).length ≤ 16384) :
  Calls Try.prog 12 #[.agg #[.int .i64 n, .slice A0 E.length c0], .int .i64 q] w fun e w' => ∃ v, e = .returned (.tuple #[v, .int .i64 0]) ∧ (Kd.slice 3 (Kd.int .i64)).R 42 w' w.heap.size (fun _ => True) v (confs n E q) ∧ Below w.heap.size w w' := by
 have hu := Try.underlying24
 obtain ⟨hr, hm, hin, -⟩ := first_zero hf
 obtain ⟨_, ⟨_, hn⟩, _, hq0, hqn⟩ := rooted_zero hr
 have hn12 : n ≤ 12 := by omega
 have hcalm := Aside0.mk (fun c (hc : OkC n q c) => calm_ok hr hin hc)
 have hsmall : Aside0 (∀ (p : List Int) (x kk : Nat), superB n (timesOf E) q (p ++ (x : Int) :: List.replicate kk 0) = true → p.length + 1 + kk = n → p.length ≠ q → x + 1 < confB) := ⟨fun p x kk h hp hpq => by
  have h1 := superB_small hin hn12 (v := p.length) (by omega) hpq h
  have hx : rd (p ++ (x : Int) :: List.replicate kk 0) p.length = x := by simp [rd, List.getD_eq_getElem?_getD]
  rw [hx] at h1
  show x + 1 < 1000
  omega⟩
 have Htot := Aside0.mk htot
 have Hf := Aside0.mk hf
 have HXS := Aside0.mk (three_boxes w (.cells #[.int .i64 n, .slice A0 E.length c0] 24) (.cells #[.slice none 0 0] 27) (.cells #[.int .i64 0] 28))
 have hg0 : (((w.alloc (.cells #[.int .i64 n, .slice A0 E.length c0] 24)).alloc (.cells #[.slice none 0 0] 27)).alloc (.cells #[.int .i64 0] 28)).cell? ⟨w.heap.size, 0, none⟩ = some (.int .i64 n) := (blk_cell HXS.out.1 0).trans rfl
 have hg1 : (((w.alloc (.cells #[.int .i64 n, .slice A0 E.length c0] 24)).alloc (.cells #[.slice none 0 0] 27)).alloc (.cells #[.int .i64 0] 28)).cell? ⟨w.heap.size, 1, none⟩ = some (.slice A0 E.length c0) := (blk_cell HXS.out.1 1).trans rfl
 clear hf hr hm hin htot hq0 hqn hn
 refine (callsIn_wide (n := 10)).1 ?_
 refine callsIn_of_wp_marks Try.func12 rfl trivial ?_ rfl
 simp only [Try.ntmps12, List.size_toArray, List.length_cons, List.length_nil, Nat.reduceAdd, Nat.reduceSub, Array.replicate_succ, Array.replicate_zero, List.push_toArray, List.append_toArray, List.nil_append, List.cons_append]
 gi_wp2_with (first | (refine ⟨trivial, ?_⟩; gi_at_call 43; refine (callsIn_wide.2 (superstable_first.calls k n A0 c0 E q l 0 _ (Kd.C_alloc (Kd.C_alloc (Kd.C_alloc hr0 _) _) _) hc0 Hf.out)).mono ?_; rintro e w1 ⟨v, rfl, hr1, hb⟩; have HB := Aside0.mk ((below_alloc (below_alloc (below_alloc (Below.refl w.heap.size w) _) _) _).trans (hb.mono (by simp; omega))); have X0 := Aside0.mk (blk_below HXS.out.1 hb); have X1 := Aside0.mk (blk_below HXS.out.2.1 hb); have X2 := Aside0.mk (blk_below HXS.out.2.2 hb); have y0 : (w1.alloc (.cells #[.slice none 0 0] 27)).cell? ⟨w.heap.size, 0, none⟩ = some (.int .i64 n) := (blk_cell (blk_alloc X0.out _) 0).trans rfl; have y1 : (w1.alloc (.cells #[.slice none 0 0] 27)).cell? ⟨w.heap.size, 1, none⟩ = some (.slice A0 E.length c0) := (blk_cell (blk_alloc X0.out _) 1).trans rfl; clear hr1 hb) | (refine ⟨trivial, ?_⟩; gi_at_call 44; refine (callsIn_wide.2 (configurations_calls n A0 c0 E q _)).mono ?_; rintro e w3 ⟨rfl, rfl⟩))
 have hwl : w.heap.size + 1 + 1 < w1.heap.size := blk_lt X2.out
 have hww := HB.out.size
 obtain ⟨og, hog⟩ : ∃ o : Obj, o = .cells #[.int .i64 n, .slice A0 E.length c0] 24 := ⟨_, rfl⟩
 obtain ⟨oq, hoq⟩ : ∃ o : Obj, o = .cells #[.int .i64 q] 3 := ⟨_, rfl⟩
 obtain ⟨oo, hoo⟩ : ∃ o : Obj, o = .cells #[.slice none 0 0] 27 := ⟨_, rfl⟩
 obtain ⟨Z0, Z1, Z2⟩ := three_boxes w1 oo og oq
 have HO3 := Aside0.mk (Z0.trans (by rw [hoo] : _ = some (.cells #[.slice none 0 0] 27 (0, 0))))
 have HG3 := Aside0.mk (Z1.trans (by rw [hog] : _ = some (.cells #[.int .i64 n, .slice A0 E.length c0] 24 (0, 0))))
 have HQ3 := Aside0.mk (Z2.trans (by rw [hoq] : _ = some (.cells #[.int .i64 q] 3 (0, 0))))
 have HB3 := Aside0.mk (below_alloc (below_alloc (below_alloc HB.out oo) og) oq)
 have X13 := Aside0.mk (blk_alloc (blk_alloc (blk_alloc X1.out oo) og) oq)
 have X23 := Aside0.mk (blk_alloc (blk_alloc (blk_alloc X2.out oo) og) oq)
 clear Z0 Z1 Z2
 subst hog hoq hoo
 clear y0 y1 hg0 hg1 X0 X1 X2 HB HXS
 generalize (((w1.alloc (.cells #[.slice none 0 0] 27)).alloc (.cells #[.int .i64 n, .slice A0 E.length c0] 24)).alloc (.cells #[.int .i64 q] 3)) = W3 at HO3 HG3 HQ3 HB3 X13 X23 ⊢
 have hbo := blk_lt HO3.out
 have hbg := blk_lt HG3.out
 have hbq := blk_lt HQ3.out
 generalize hbq1 : w1.heap.size + 1 + 1 = qx at HQ3 hbq ⊢
 generalize hbg1 : w1.heap.size + 1 = gx at HG3 hbg hbq1 ⊢
 generalize w1.heap.size = bo at HO3 hwl hww hbo hbg1 ⊢
 have hws := HB3.out.size
 refine wpIn_rangeFunc_st (σ := Unit) (α := List Int × Value) (F := Fence.wide) (n := 10) rfl (by decide) (gf := 70) (lb := #[.pointer (some ⟨gx, 0, none⟩), .pointer (some ⟨qx, 0, none⟩)]) rfl trivial (enters_of Try.func70 (by kernel_rfl) rfl)
  (fun o => conf1_seq (w0 := w) (B := confB) (K := k + 20) (n := n) (A0 := A0) (c0 := c0) (E := E) (q := q) (gx := gx) (qx := qx) (calm := superB n (timesOf E) q) _ (W3.heap.size + 2) (by simp) hn12 hr0 hc0 hcalm.out hsmall.out (by decide) (by decide) Htot.out (blk_alloc (blk_alloc HG3.out _) _) (blk_alloc (blk_alloc HQ3.out _) _) (below_alloc (below_alloc HB3.out _) _)) (fun _ => rfl)
  (fun _ => True) ?adm ?st ?ar
  (fun _ pre W => W3.heap.size + 2 ≤ W.heap.size ∧ ∃ v, W.heap[bo]? = some (.cells #[v] 27 (0, 0)) ∧ W.heap[w.heap.size + 1]? = some (.cells #[.slice none 0 0] 27 (0, 0)) ∧ W.heap[w.heap.size + 1 + 1]? = some (.cells #[.int .i64 0] 28 (0, 0)) ∧ (Kd.slice 3 (Kd.int .i64)).R 42 W w.heap.size (fun k => ¬ (k = gx ∨ k = qx ∨ W3.heap.size + 2 ≤ k ∧ k < W3.heap.size + 2 + 4)) v (pre.map Prod.fst) ∧ Below w.heap.size w W) (fun _ _ _ _ => False)
  ?is (fun _ _ _ _ _ _ h _ => h) ?ib (fun _ _ _ _ _ h _ => h) ?kt ?h0 ?a1 ?assign ?body ?done (fun _ _ _ _ _ _ _ h => h.elim)
 case assign =>
  intro l x W K hK
  gi_wp2
  exact hK
 case adm =>
  intro o s W1 h
  exact ⟨trivial, by rw [h]; exact KeepLD.refl _ _⟩
 case st => intro s A B _ h k o h1 h2 h3 _; exact (h.block k (Array.getElem?_eq_some_iff.1 h3).1 (fun e => by injection e; omega)).trans h3
 case ar => intro s x A B _ h k o h1 h2 h3 _; exact (h.1.block k (Array.getElem?_eq_some_iff.1 h3).1 (fun e => by injection e; omega)).trans h3
 case is =>
  rintro s pre A B _ ⟨hs, v, h1, h2, h3, h4, h5⟩ hst
  exact ⟨Nat.le_trans hs hst.size, v, (hst.block bo (blk_lt h1) (fun e => by injection e; omega)).trans h1, (hst.block _ (blk_lt h2) (fun e => by injection e; omega)).trans h2, (hst.block _ (blk_lt h3) (fun e => by injection e; omega)).trans h3, Kd.R_grown h4 hst (fun k hk e => hk (.inr (.inr (by injection e; omega)))), pw_below_grown h5 _ h5.size hst (fun k e => by injection e; omega)⟩
 case ib =>
  rintro s pre A B ⟨hs, v, h1, h2, h3, h4, h5⟩ hb
  exact ⟨by rw [hb.size]; exact hs, v, hb.cells h1, hb.cells h2, hb.cells h3, R_bk h4 hb, h5.trans (hb.below w.heap.size (by omega))⟩
 case kt =>
  intro s A B C D hab hbc hcd
  refine ⟨fun hsz => ((hab.below w.heap.size (by omega)).trans (hbc.1 (by rw [hab.size]; exact hsz))).trans (hcd.below w.heap.size (by omega)), fun k hk hsz => ?_⟩
  have hkl : k ≠ W3.heap.size + 1 := by rcases hk with rfl | rfl | hk <;> omega
  exact (hcd.heap k hkl).trans ((hbc.2 k hk (by rw [hab.size]; exact hsz)).trans (hab.heap k hkl))
 case h0 =>
  rintro o s W1 rfl
  exact ⟨by simp, _, blk_alloc (blk_alloc HO3.out _) _, blk_alloc (blk_alloc X13.out _) _, blk_alloc (blk_alloc X23.out _) _, Kd.R_nil _ _ _ _ _, below_alloc (below_alloc HB3.out _) _⟩
 case body =>
  rintro l s pre ⟨xl, xv⟩ Wb W1 W _ ⟨hs, v, i1, i2, i3, i4, i5⟩ ⟨har, hrx, hsz4⟩ hbd hbk
  simp only at hrx
  obtain ⟨Ax, cx, rfl⟩ := Kd.R_slice hrx
  have hbW : Wb.heap.size ≤ W.heap.size := by have := hbk.size; have := har.size; omega
  have b1 := Aside0.mk (hbk.cells ((har.block bo (blk_lt i1) (fun e => by injection e; omega)).trans i1))
  have b2 := Aside0.mk (hbk.cells ((har.block _ (blk_lt i2) (fun e => by injection e; omega)).trans i2))
  have b3 := Aside0.mk (hbk.cells ((har.block _ (blk_lt i3) (fun e => by injection e; omega)).trans i3))
  have b4 := Aside0.mk (R_bk (Kd.R_grown i4 har (fun k hk e => hk (.inr (.inr (by injection e; omega))))) hbk)
  have b5 := Aside0.mk ((pw_below_grown i5 _ i5.size har (fun k e => by injection e; omega)).trans (hbk.below w.heap.size (by omega)))
  have bx := Aside0.mk (Kd.M_row (Kd.R_lower (Kd.R_mono (ok' := fun k => Wb.heap.size ≤ k) (Kd.R_bound (R_bk hrx hbk)) (fun k hk => hk.2.1)) i5.size))
  have hvl : ∀ k, v.ownBlock = some k → k < Wb.heap.size := fun k hk => Kd.R_lt i4 k hk
  have HVL := Aside0.mk hvl
  have HTY := Aside0.mk (Kd.R_typed i4)
  clear i1 i2 i3 i4 i5 har hrx hbk hvl
  obtain ⟨Ar, cr, rfl⟩ := Kd.R_slice b4.out
  have hep : (pre.map Prod.fst).length = pre.length := by simp
  rw [hep] at b1 b4 HVL HTY
  have hc := keeps_box b1.out
  have hf := blk_frozen b1.out 0
  have hne : (((pre.length : Nat) : Int) == 16384) = false := by simp; omega
  have LN : Aside0 (((pre.map Prod.fst).length + 1) * 24 ≤ 140737488355328) := ⟨by rw [hep]; omega⟩
  have HOKP : Aside0 (∀ k, Wb.heap.size ≤ k → ¬ (k = gx ∨ k = qx ∨ W3.heap.size + 2 ≤ k ∧ k < W3.heap.size + 2 + 4) ∧ some k ≠ (Value.slice Ar pre.length cr).ownBlock) := ⟨fun k hk => ⟨by omega, fun e => by have := HVL.out k e.symm; omega⟩⟩
  have HFR : Aside0 (∀ k, W.heap.size ≤ k → ¬ (k = gx ∨ k = qx ∨ W3.heap.size + 2 ≤ k ∧ k < W3.heap.size + 2 + 4)) := ⟨fun k hk => by omega⟩
  gi_wp2_with (gi_at_builtin; go_loud (refine R_append_in (Kd.slice 3 (Kd.int .i64)) (w0 := w) w.heap.size rfl (.tmp 26) (.tmp 28) 27 42 (.slice none 0 0) 24 rfl Try.underlying27 info42 rfl (by decide) (by omega) (.slice Ar pre.length cr) (pre.map Prod.fst) xl [.slice Ax xl.length cx] (fun k => ¬ (k = gx ∨ k = qx ∨ W3.heap.size + 2 ≤ k ∧ k < W3.heap.size + 2 + 4)) (fun k => Wb.heap.size ≤ k) rfl rfl bx.out HOKP.out HFR.out b4.out b5.out b5.out.size LN.out ?_; intro v1 w1' hown hb hgr hat; obtain ⟨A1, c1, rfl⟩ := Kd.R_slice hown; have X1 := Aside0.mk ((hgr.block bo (blk_lt b1.out) (Kd.R_ne b4.out b1.out (by decide))).trans b1.out); have X2 := Aside0.mk ((hgr.block _ (blk_lt b2.out) (Kd.R_ne b4.out b2.out (by decide))).trans b2.out); have X3 := Aside0.mk ((hgr.block _ (blk_lt b3.out) (Kd.R_ne b4.out b3.out (by decide))).trans b3.out); have hc1 := keeps_box X1.out; have hf1 := blk_frozen X1.out 0; have HO1 := Aside0.mk hown; have HB1 := Aside0.mk hb; have HG1 := Aside0.mk hgr; clear hown hb hgr hat))
  refine ⟨(keepLD_append b4.out HG1.out).trans (keepLD_set _ _ (blk_lt HO3.out)), ⟨fun hsz => Below.setCell ((Below.refl w.heap.size W).grown HG1.out hsz (Kd.R_base b4.out)) (by show w.heap.size ≤ bo; omega) _, fun k hk hlt => ?_⟩, by have := HG1.out.size; simp; omega, .slice A1 (pre.length + 1) c1, by simpa using blk_set X1.out 0 (.slice A1 (pre.length + 1) c1), blk_far X2.out (by show w.heap.size + 1 ≠ bo; omega) _, blk_far X3.out (by show w.heap.size + 1 + 1 ≠ bo; omega) _, ?_, below_set HB1.out (by show w.heap.size ≤ bo; omega)⟩
  ·have hkb : k ≠ bo := by rcases hk with rfl | rfl | hk <;> omega
   rw [Below.heap_setCell _ _ _ _ hkb]
   exact HG1.out.block k hlt (fun e => (b4.out.1 k e.symm) hk)
  ·have h := Kd.R_set HO1.out X1.out (by decide) 0 (.slice A1 (pre.length + 1) c1)
   simpa using h
 case done =>
  rintro s xs W W' _ hxs ⟨hs, v, i1, i2, i3, i4, i5⟩ hbk hdf
  obtain ⟨Av, cv, hv⟩ := Kd.R_slice i4
  rw [List.length_map] at hv
  subst hv
  have b1 := Aside0.mk (hbk.cells i1)
  have b2 := Aside0.mk (hbk.cells i2)
  have b3 := Aside0.mk (hbk.cells i3)
  have b4 := Aside0.mk (R_bk i4 hbk)
  have b5 := Aside0.mk (i5.trans (hbk.below w.heap.size (by omega)))
  have HDF := Aside0.mk hdf
  have HXS := Aside0.mk (show xs.map Prod.fst = confs n E q from hxs)
  clear i1 i2 i3 i4 i5 hdf hxs hbk
  have hc := keeps_box b1.out
  have q1 : W'.cell? ⟨w.heap.size + 1, 0, none⟩ = some (.slice none 0 0) := (blk_cell b2.out 0).trans rfl
  have q2 : W'.frozen? ⟨w.heap.size + 1, 0, none⟩ = false := blk_frozen b2.out 0
  have X3 := Aside0.mk (blk_far (p := ⟨w.heap.size + 1, 0, none⟩) b3.out (by show w.heap.size + 1 + 1 ≠ w.heap.size + 1; omega) (.slice Av xs.length cv))
  have q3 : (W'.setCell ⟨w.heap.size + 1, 0, none⟩ (.slice Av xs.length cv)).cell? ⟨w.heap.size + 1 + 1, 0, none⟩ = some (.int .i64 0) := (blk_cell X3.out 0).trans rfl
  have q4 := blk_frozen X3.out 0
  have Y1 := Aside0.mk (blk_far (p := ⟨w.heap.size + 1 + 1, 0, none⟩) (blk_set b2.out 0 (.slice Av xs.length cv)) (by show w.heap.size + 1 ≠ w.heap.size + 1 + 1; omega) (.int .i64 0))
  have Y2 := Aside0.mk (blk_set X3.out 0 (.int .i64 0))
  have hbd : w.heap.size + 1 ≠ W3.heap.size := by omega
  have hbd2 : w.heap.size + 1 + 1 ≠ W3.heap.size := by omega
  have Y3 := Aside0.mk (show ((W'.setCell ⟨w.heap.size + 1, 0, none⟩ (.slice Av xs.length cv)).setCell ⟨w.heap.size + 1 + 1, 0, none⟩ (.int .i64 0)).heap[W3.heap.size]? = some (.deferred (some [])) from by rw [Below.heap_setCell _ _ _ _ (fun e => hbd2 e.symm), Below.heap_setCell _ _ _ _ (fun e => hbd e.symm)]; exact HDF.out)
  have Y4 := Aside0.mk (Kd.R_set (Kd.R_set b4.out b2.out (by decide) 0 (.slice Av xs.length cv)) X3.out (by decide) 0 (.int .i64 0))
  have Y5 := Aside0.mk ((b5.out.setCell (p := ⟨w.heap.size + 1, 0, none⟩) (by show w.heap.size ≤ w.heap.size + 1; omega) (.slice Av xs.length cv)).setCell (p := ⟨w.heap.size + 1 + 1, 0, none⟩) (by show w.heap.size ≤ w.heap.size + 1 + 1; omega) (.int .i64 0))
  gi_wp2_with fail
  have hbk5 : Bk W3.heap.size ((W'.setCell ⟨w.heap.size + 1, 0, none⟩ (.slice Av xs.length cv)).setCell ⟨w.heap.size + 1 + 1, 0, none⟩ (.int .i64 0)) (((W'.setCell ⟨w.heap.size + 1, 0, none⟩ (.slice Av xs.length cv)).setCell ⟨w.heap.size + 1 + 1, 0, none⟩ (.int .i64 0)).putObj W3.heap.size (.deferred none)) := ⟨_, _, Y3.out, rfl, rfl⟩
  refine bodyPostM_one (D := W3.heap.size) rfl Y3.out (results_cells2 (p := 4) (u := 5) rfl _ _ ⟨w.heap.size + 1, 0, none⟩ ⟨w.heap.size + 1 + 1, 0, none⟩ (.slice Av xs.length cv) (.int .i64 0) rfl rfl Try.underlying27 Try.underlying28 rfl rfl ((blk_cell (hbk5.cells Y1.out) 0).trans (by simp)) ((blk_cell (hbk5.cells Y2.out) 0).trans (by simp))) ⟨_, rfl, ?_, Y5.out.trans (hbk5.below w.heap.size (by omega))⟩
  rw [← HXS.out]
  exact Kd.R_mono (R_bk Y4.out hbk5) (fun _ _ => trivial)
theorem superstable_All.calls (k : Nat) (a0_0 : Int) (A0_1 : Option Addr) (c0_1 : Nat) (l0_1 : List (S66)) (a1 : Int) (r1 : List (List Int)) (r2 : Int) (w : World) (hr0_1 : Kd.C k66 w A0_1 l0_1.length l0_1) (hc0_1 : l0_1.length ≤ c0_1) (h : superstable_All.f k a0_0 l0_1 a1 = some (r1, r2)) :
  Calls Try.prog 12 #[.agg #[.int .i64 a0_0, .slice A0_1 l0_1.length c0_1], .int .i64 a1] w fun e w' => ∃ v0_ : Value, e = .returned (.tuple #[v0_, .int .i64 r2]) ∧ Kd.N (Kd.slice 3 (Kd.int .i64)) 42 w' w.heap.size (fun k_ => (w.heap.size ≤ k_)) v0_ r1 ∧ Below w.heap.size w w' := by
 unfold superstable_All.f at h
 obtain ⟨⟨l, t⟩, ht, H⟩ := Option.bind_eq_some_iff.mp h
 simp only at H
 by_cases h0 : t = 0
 ·subst h0
  rw [if_pos rfl] at H
  by_cases hv : (confs a0_0.toNat l0_1 a1.toNat).length ≤ 16384
  ·rw [if_pos hv] at H
   simp only [Option.some.injEq, Prod.mk.injEq] at H
   obtain ⟨rfl, rfl⟩ := H
   obtain ⟨hr, -, -, -⟩ := first_zero ht
   obtain ⟨_, ⟨hN, hN12⟩, _, hq0, _⟩ := rooted_zero hr
   obtain ⟨n, rfl⟩ := Int.eq_ofNat_of_zero_le hN
   obtain ⟨q, rfl⟩ := Int.eq_ofNat_of_zero_le hq0
   rw [Int.toNat_natCast, Int.toNat_natCast] at hv ⊢
   refine (all_good k n A0_1 c0_1 l0_1 q l w hr0_1 hc0_1 ht hv).mono ?_
   rintro e w' ⟨v, rfl, h1, h2⟩
   exact ⟨v, rfl, Kd.R_N (Kd.R_mono (Kd.R_bound h1) (fun k hk => hk.2.1)), h2⟩
  ·rw [if_neg hv] at H; cases H
 ·rw [if_neg h0] at H
  simp only [Option.some.injEq, Prod.mk.injEq] at H
  obtain ⟨rfl, rfl⟩ := H
  refine (all_bad k a0_0 A0_1 c0_1 l0_1 a1 l t w hr0_1 hc0_1 ht h0).mono ?_
  rintro e w' ⟨rfl, hb⟩
  exact ⟨_, rfl, Kd.R_N (Kd.R_nil _ _ _ _ _), hb⟩
end
section
def CountsAt (w : World) (g : Nat) (f : Nat → Int) : Prop := ∃ cs : Array Value, w.heap[g]? = some (.cells cs 71 (0, 0)) ∧ cs.size = 7200 ∧ ∀ i, i < 7200 → cs[i]? = some (.int .i64 (f i))
def sumTo (l : List Int) : Nat → Int
 | 0 => 0
 | k + 1 => sumTo l k + rd l k
def sumOf (l : List Int) : Int := sumTo l l.length
def countTo (l : List (List Int)) : Nat → Nat → Int
 | 0 => fun _ => 0
 | k + 1 => fun i => if i = (sumOf (rd_L2 l k)).toNat then countTo l k i + 1 else countTo l k i
def topOfTo (l : List (List Int)) : Nat → Int
 | 0 => 0
 | k + 1 => max (topOfTo l k) (sumOf (rd_L2 l k))
theorem zero7200 : Try.zeroCells71 = (List.replicate 7200 (Value.int .i64 0)).toArray := by kernel_rfl
theorem counts_new {w : World} {o : Obj} (ho : o = .cells Try.zeroCells71 71) : CountsAt (w.alloc o) w.heap.size (fun _ => 0) := by
 refine ⟨_, (heap_alloc_new w o).trans (by rw [ho]), by rw [zero7200, List.size_toArray, List.length_replicate], fun i hi => ?_⟩
 rw [zero7200, List.getElem?_toArray, List.getElem?_replicate, if_pos hi]
namespace CountsAt
variable {w w' : World} {g : Nat} {f : Nat → Int}
theorem lt (h : CountsAt w g f) : g < w.heap.size := by obtain ⟨cs, hb, _⟩ := h; exact blk_lt hb
theorem cell (h : CountsAt w g f) (i : Nat) (hi : i < 7200) : w.cell? ⟨g, i, none⟩ = some (.int .i64 (f i)) := by obtain ⟨cs, hb, _, hc⟩ := h; exact (blk_cell hb i).trans (hc i hi)
theorem frozen (h : CountsAt w g f) (i : Nat) : w.frozen? ⟨g, i, none⟩ = false := by obtain ⟨cs, hb, _⟩ := h; exact blk_frozen hb i
theorem below (h : CountsAt w g f) (hb : Below w.heap.size w w') : CountsAt w' g f := by obtain ⟨cs, hh, h1, h2⟩ := h; exact ⟨cs, blk_below hh hb, h1, h2⟩
theorem set (h : CountsAt w g f) (i : Nat) (hi : i < 7200) (x : Int) : CountsAt (w.setCell ⟨g, i, none⟩ (.int .i64 x)) g (fun j => if j = i then x else f j) := by
 obtain ⟨cs, hh, h1, h2⟩ := h
 refine ⟨cs.setIfInBounds i (.int .i64 x), by simpa using blk_set hh i (.int .i64 x), by simp [h1], fun k hk => ?_⟩
 by_cases e : k = i
 ·subst e
  rw [Array.getElem?_setIfInBounds_self_of_lt (by omega)]; simp
 ·rw [Array.getElem?_setIfInBounds_ne (by omega), h2 k hk]; simp [e]
theorem reads (h : CountsAt w g f) (n : Nat) (hn : n ≤ 7200) : Kd.C (Kd.int .i64) w (some ⟨g, 0, none⟩) n ((List.range n).map f) :=
 Kd.C_of_reads (d := 0) ⟨by simp, by omega, fun _ => ⟨_, rfl, fun j hj => by
  rw [add_at, Nat.zero_add]
  rw [h.cell j (by omega), List.getD_eq_getElem?_getD, List.getElem?_map, List.getElem?_range hj]
  rfl⟩⟩
end CountsAt
theorem clone_calls' (n : Nat) (A : Option Addr) (c : Nat) (L : List Int) (w : World) (hl : L.length = n) (hn : n ≤ c) (hC : Kd.C (Kd.int .i64) w A n L) (hs : n < 17592186044416 := by omega) :
  Calls Try.prog 45 #[.slice A n c] w fun e w' => ∃ v0_ : Value, e = .returned (v0_) ∧ Kd.R (Kd.int .i64) 3 w' w.heap.size (fun _ => True) v0_ L ∧ Below w.heap.size w w' := by
 subst hl
 exact slices_Clone_int_int.calls A c L L w hC hn (by unfold slices_Clone_int_int.f clone.f; rw [if_pos hs])
theorem sumTo_bound {l : List Int} (h : ∀ j : Nat, 0 ≤ rd l j ∧ rd l j ≤ 599) : ∀ k : Nat, 0 ≤ sumTo l k ∧ sumTo l k ≤ 599 * k
 | 0 => by simp [sumTo]
 | k + 1 => by
  have h1 := sumTo_bound h k
  have h2 := h k
  simp only [sumTo]
  omega
theorem countTo_bound (l : List (List Int)) : ∀ (k : Nat) (i : Nat), 0 ≤ countTo l k i ∧ countTo l k i ≤ k
 | 0, i => by simp [countTo]
 | k + 1, i => by
  have := countTo_bound l k i
  simp only [countTo]
  split <;> omega
theorem topOfTo_bound {l : List (List Int)} : ∀ k : Nat, (∀ i : Nat, i < k → 0 ≤ sumOf (rd_L2 l i) ∧ sumOf (rd_L2 l i) ≤ 7188) → 0 ≤ topOfTo l k ∧ topOfTo l k ≤ 7188
 | 0, _ => by simp [topOfTo]
 | k + 1, h => by
  have h1 := topOfTo_bound k (fun i hi => h i (by omega))
  have h2 := h k (by omega)
  simp only [topOfTo]
  omega
theorem levels_good (k : Nat) (N : Int) (A0 : Option Addr) (c0 : Nat) (E : List S66) (q : Int) (l : List (List Int)) (w : World) (hr0 : Kd.C k66 w A0 E.length E) (hc0 : E.length ≤ c0) (hf : superstable_All.f k N E q = some (l, 0)) (hl : l.length ≤ 16384) (hx : ∀ i : Nat, i < l.length → (rd_L2 l i).length ≤ 12 ∧ ∀ j : Nat, 0 ≤ rd (rd_L2 l i) j ∧ rd (rd_L2 l i) j ≤ 599) :
  Calls Try.prog 14 #[.agg #[.int .i64 N, .slice A0 E.length c0], .int .i64 q] w fun e w' => ∃ v, e = .returned (.tuple #[v, .int .i64 0]) ∧ (Kd.int .i64).R 3 w' w.heap.size (fun _ => True) v ((List.range ((topOfTo l l.length).toNat + 1)).map (countTo l l.length)) ∧ Below w.heap.size w w' := by
 have hu := Try.underlying24
 have hui := Try.underlying71
 have Hf := Aside0.mk hf
 have HX := Aside0.mk hx
 clear hf hx
 go_enter Try.func14, Try.ntmps14
 go_wp2_with (go_at_call 12; refine (superstable_All.calls k N A0 c0 E q l 0 _ (Kd.C_alloc hr0 _) hc0 Hf.out).mono ?_; rintro e w1 ⟨v, rfl, hN, hb⟩; obtain ⟨Av, cv, rfl⟩ := Kd.N_slice hN; have HB := Aside0.mk (below_step (below_alloc (Below.refl w.heap.size w) _) hb); have HN := Aside0.mk (Kd.N_lower (base' := w.heap.size) (Kd.N_mono (Kd.N_bound hN) (ok' := fun k => k < w1.heap.size) (fun k hk => hk.2)) (by simp)); clear hN hb)
 have HC := Aside0.mk (counts_new (w := w1) rfl)
 have HN2 := Aside0.mk (Kd.N_mono (Kd.N_alloc HN.out (.cells Try.zeroCells71 71)) (ok' := fun k => k ≠ w1.heap.size) (fun k hk => by omega))
 have HB2 := Aside0.mk (below_alloc HB.out (.cells Try.zeroCells71 71))
 have hgl := HB.out.size
 clear HN HB
 generalize (w1.alloc (.cells Try.zeroCells71 71)) = W1 at HC HN2 HB2 ⊢
 generalize w1.heap.size = g at HC HN2 hgl ⊢
 go_loopw [9, 26] (fun t i wr => ∃ k : Nat, k ≤ l.length ∧ i = .int .i64 k ∧ t = .int .i64 (topOfTo l k) ∧ Aside0 (CountsAt wr g (countTo l k)) ∧ Aside0 ((Kd.slice 3 (Kd.int .i64)).N 42 wr w.heap.size (fun k => k ≠ g) (.slice Av l.length cv) l) ∧ Aside0 (Below w.heap.size w wr)) (fun _ i _ => l.length - (intOf i).toNat)
 case atStart => exact ⟨0, by omega, rfl, rfl, HC, HN2, HB2⟩
 case round =>
  clear HC HN2 HB2
  obtain ⟨k, hk, rfl, rfl, HC, HN, HB⟩ := hrel
  have hs : ∀ i : Nat, i < l.length → 0 ≤ sumOf (rd_L2 l i) ∧ sumOf (rd_L2 l i) ≤ 7188 := fun i hi => by
   have h1 := HX.out i hi
   have h2 := sumTo_bound h1.2 (rd_L2 l i).length
   unfold sumOf
   omega
  have htop := topOfTo_bound k (fun i hi => hs i (by omega))
  by_cases hkl : k < l.length
  ·have hsk := hs k hkl
   have HSK := Aside0.mk (show topOfTo l (k + 1) = max (topOfTo l k) (sumOf (rd_L2 l k)) from rfl)
   have HCK := Aside0.mk (show countTo l (k + 1) = fun i => if i = (sumOf (rd_L2 l k)).toNat then countTo l k i + 1 else countTo l k i from rfl)
   obtain ⟨-, -, hC⟩ := Kd.N_reads' HN.out
   obtain ⟨ad, Ac, cc, rfl, hx0, hcc, hcr⟩ := at_L2 hC k (by omega) (by omega)
   rw [Int.toNat_natCast] at hx0
   have hxk := HX.out k hkl
   have hcb := countTo_bound l k
   have HCB := Aside0.mk hcb
   have HTB := Aside0.mk htop
   have hk0 : (0 : Int) ≤ (k : Int) := by omega
   have hk1 : (k : Int) < (l.length : Int) := by omega
   generalize rd_L2 l k = c at hx0 hcc hcr hxk hsk HSK HCK
   have HXK := Aside0.mk hxk.2
   have hc12 := hxk.1
   have HCR := Aside0.mk hcr
   have HSKB := Aside0.mk hsk
   clear hs htop hC hxk hcb hcr hcc hsk
   go_wp2
   go_loop [12, 32] (fun s i => ∃ j : Nat, j ≤ c.length ∧ i = .int .i64 j ∧ s = .int .i64 (sumTo c j)) (fun _ i => c.length - (intOf i).toNat)
   case atStart => exact ⟨0, by omega, rfl, rfl⟩
   case round =>
    obtain ⟨j, hj, rfl, rfl⟩ := hrel
    have hsb := sumTo_bound HXK.out j
    by_cases hjc : j < c.length
    ·obtain ⟨bd, rfl, hy⟩ := Kd.at_int HCR.out j (by omega) (by omega)
     rw [Int.toNat_natCast] at hy
     have hrb := HXK.out j
     have hj0 : (0 : Int) ≤ (j : Int) := by omega
     have hj1 : (j : Int) < (c.length : Int) := by omega
     have HST := Aside0.mk (show sumTo c (j + 1) = sumTo c j + rd c j from rfl)
     generalize sumTo c j = sj at hsb HST ⊢
     generalize rd c j = rj at hy hrb HST
     go_wp2
     go_round
     case rel => exact ⟨j + 1, by omega, by go_num, by rw [HST.out]⟩
     case measure => simp [intOf]; omega
    ·obtain rfl : j = c.length := by omega
     obtain ⟨m, hm⟩ := Int.eq_ofNat_of_zero_le hsb.1
     have hso : sumOf c = (m : Int) := hm
     rw [hso] at HSK HCK HSKB
     rw [hm]
     have hm72 : m < 7200 := by have := HSKB.out.2; omega
     have hcl := HC.out.cell m hm72
     have hfz := HC.out.frozen m
     have hcb := HCB.out m
     have htb := HTB.out
     have HC2 := Aside0.mk (HC.out.set m hm72 (countTo l k m + 1))
     rw [show (fun j => if j = m then countTo l k m + 1 else countTo l k j) = countTo l (k + 1) from by rw [HCK.out]; funext i; by_cases e : i = m <;> simp [e]] at HC2
     have HN2 := Aside0.mk (Kd.N_far HN.out (p := ⟨g, m, none⟩) (fun k hk => hk) (.int .i64 (countTo l k m + 1)))
     have HB2 := Aside0.mk (Below.setCell (p := ⟨g, m, none⟩) HB.out hgl (.int .i64 (countTo l k m + 1)))
     clear hm hso hsb
     have hm0 : (0 : Int) ≤ (m : Int) := by omega
     have hm1 : (m : Int) < 7200 := by omega
     generalize countTo l k m = x at hcl hcb HC2 HN2 HB2
     generalize topOfTo l k = tp at htb HSK ⊢
     go_wp2
     go_roundw
     case rel => exact ⟨k + 1, by omega, by go_num, by rw [HSK.out]; congr 1; split <;> omega, HC2, HN2, HB2⟩
     case measure => exact (show l.length - ((k : Int) + 1).toNat < l.length - ((k : Int)).toNat by omega)
  ·obtain rfl : k = l.length := by omega
   obtain ⟨m, hm⟩ := Int.eq_ofNat_of_zero_le htop.1
   rw [hm] at htop ⊢
   have HM := Aside0.mk hm
   have hm72 : m + 1 ≤ 7200 := by omega
   have hm0 : (0 : Int) ≤ (m : Int) + 1 := by omega
   have hm1 : (m : Int) + 1 ≤ 7200 := by omega
   have HCL := Aside0.mk (clone_calls' (m + 1) (some ⟨g, 0, none⟩) 7200 ((List.range (m + 1)).map (countTo l l.length)) wr (by simp) hm72 (HC.out.reads (m + 1) hm72))
   clear hm htop
   go_wp2_with (go_at_call 45; refine HCL.out.mono ?_; rintro e w3 ⟨v, rfl, h1, h2⟩; have H1 := Aside0.mk h1; have H2 := Aside0.mk h2; clear h1 h2)
   go_ret2
   refine ⟨v, rfl, ?_, HB.out.trans (H2.out.mono HB.out.size)⟩
   rw [HM.out, Int.toNat_natCast]
   exact Kd.R_lower H1.out HB.out.size
theorem levels_bad (k : Nat) (N : Int) (A0 : Option Addr) (c0 : Nat) (E : List S66) (q : Int) (l : List (List Int)) (t : Int) (w : World) (hr0 : Kd.C k66 w A0 E.length E) (hc0 : E.length ≤ c0) (hf : superstable_All.f k N E q = some (l, t)) (ht : t ≠ 0) :
  Calls Try.prog 14 #[.agg #[.int .i64 N, .slice A0 E.length c0], .int .i64 q] w fun e w' => e = .returned (.tuple #[.slice none 0 0, .int .i64 t]) ∧ Below w.heap.size w w' := by
 have hu := Try.underlying24
 have Hf := Aside0.mk hf
 have hne : (t != 0) = true := by simpa using ht
 clear hf ht
 go_enter Try.func14, Try.ntmps14
 go_wp2_with (go_at_call 12; refine (superstable_All.calls k N A0 c0 E q l t _ (Kd.C_alloc hr0 _) hc0 Hf.out).mono ?_; rintro e w1 ⟨v, rfl, hN, hb⟩; have HB := Aside0.mk (below_step (below_alloc (Below.refl w.heap.size w) _) hb); clear hN hb)
 go_ret2
 exact ⟨rfl, HB.out⟩
def okLevels (l : List (List Int)) : Bool := decide (l.length ≤ 16384) && l.all fun c => decide (c.length ≤ 12) && c.all fun x => decide (0 ≤ x ∧ x ≤ 599)
theorem okLevels_get {l : List (List Int)} (h : okLevels l = true) : l.length ≤ 16384 ∧ ∀ i : Nat, i < l.length → (rd_L2 l i).length ≤ 12 ∧ ∀ j : Nat, 0 ≤ rd (rd_L2 l i) j ∧ rd (rd_L2 l i) j ≤ 599 := by
 simp only [okLevels, Bool.and_eq_true, decide_eq_true_eq] at h
 refine ⟨h.1, fun i hi => ?_⟩
 have e : rd_L2 l i = l[i] := by simp [rd_L2, List.getD_eq_getElem?_getD, List.getElem?_eq_getElem hi]
 have h2 := List.all_eq_true.1 h.2 _ (List.getElem_mem hi)
 rw [← e] at h2
 simp only [Bool.and_eq_true, decide_eq_true_eq] at h2
 refine ⟨h2.1, fun j => ?_⟩
 by_cases hj : j < (rd_L2 l i).length
 ·have h3 := List.all_eq_true.1 h2.2 _ (List.getElem_mem hj)
  have e3 : rd (rd_L2 l i) j = (rd_L2 l i)[j] := by simp [rd, List.getD_eq_getElem?_getD, List.getElem?_eq_getElem hj]
  rw [e3]; simpa using h3
 ·have e3 : rd (rd_L2 l i) j = 0 := by simp only [rd, Int.toNat_natCast, List.getD_eq_getElem?_getD, List.getElem?_eq_none (by omega : (rd_L2 l i).length ≤ j)]; rfl
  rw [e3]; omega
def levelsOf (l : List (List Int)) : List Int := (List.range ((topOfTo l l.length).toNat + 1)).map (countTo l l.length)
def superstable_Levels.f (k : Nat) (N : Int) (E : List S66) (q : Int) : Option (List Int × Int) :=
 (superstable_All.f k N E q).bind fun t => if t.2 = 0 then (if okLevels t.1 = true then some (levelsOf t.1, 0) else none) else some ([], t.2)
theorem superstable_Levels.calls (k : Nat) (a0_0 : Int) (A0_1 : Option Addr) (c0_1 : Nat) (l0_1 : List (S66)) (a1 : Int) (r1 : List Int) (r2 : Int) (w : World) (hr0_1 : Kd.C k66 w A0_1 l0_1.length l0_1) (hc0_1 : l0_1.length ≤ c0_1) (h : superstable_Levels.f k a0_0 l0_1 a1 = some (r1, r2)) :
  Calls Try.prog 14 #[.agg #[.int .i64 a0_0, .slice A0_1 l0_1.length c0_1], .int .i64 a1] w fun e w' => ∃ v0_ : Value, e = .returned (.tuple #[v0_, .int .i64 r2]) ∧ Kd.R (Kd.int .i64) 3 w' w.heap.size (fun _ => True) v0_ r1 ∧ Below w.heap.size w w' := by
 unfold superstable_Levels.f at h
 obtain ⟨⟨l, t⟩, ht, H⟩ := Option.bind_eq_some_iff.mp h
 simp only at H
 by_cases h0 : t = 0
 ·subst h0
  rw [if_pos rfl] at H
  by_cases hv : okLevels l = true
  ·rw [if_pos hv] at H
   simp only [Option.some.injEq, Prod.mk.injEq] at H
   obtain ⟨rfl, rfl⟩ := H
   obtain ⟨g1, g2⟩ := okLevels_get hv
   exact levels_good k a0_0 A0_1 c0_1 l0_1 a1 l w hr0_1 hc0_1 ht g1 g2
  ·rw [if_neg hv] at H; cases H
 ·rw [if_neg h0] at H
  simp only [Option.some.injEq, Prod.mk.injEq] at H
  obtain ⟨rfl, rfl⟩ := H
  refine (levels_bad k a0_0 A0_1 c0_1 l0_1 a1 l t w hr0_1 hc0_1 ht h0).mono ?_
  rintro e w' ⟨rfl, hb⟩
  exact ⟨_, rfl, Kd.R_nil _ _ _ _ _, hb⟩
end
def sandpileref17_Total.l0 : Nat → List Int → Int → Int → Option (Int)
 | 0, _, _, _ => none
 | k + 1, x0, x3, x4 => if x4 < (x0.length : Int) then (if 0 ≤ x4 then (sandpileref17_Total.l0 k x0 (wrap64 (x3 + (rd x0 x4))) (wrap64 (x4 + 1))) else (none)) else (some x3)
def sandpileref17_Total.f (k : Nat) (l0 : List Int) : Option (Int) := sandpileref17_Total.l0 k l0 0 0
mutual
def sandpileref28_Levels.l0 : Nat → List (List Int) → List Int → Int → Option (List Int)
 | 0, _, _, _ => none
 | k + 1, x5, x6, x7 => if x7 < (x5.length : Int) then (if 0 ≤ x7 then ((sandpileref17_Total.f k (rd_L2 x5 x7)).bind fun t265 => (sandpileref28_Levels.l1 k x5 x6 x7 t265)) else (none)) else (some x6)
def sandpileref28_Levels.l1 : Nat → List (List Int) → List Int → Int → Int → Option (List Int)
 | 0, _, _, _, _ => none
 | k + 1, x5, x6, x7, x8 => if (x6.length : Int) ≤ x8 then (if x6.length < 17592186044416 then (sandpileref28_Levels.l1 k x5 (x6 ++ [0]) x7 x8) else (none)) else (if 0 ≤ x8 then (if x8 < (x6.length : Int) then (sandpileref28_Levels.l0 k x5 (x6.set (x8 : Int).toNat (wrap64 ((rd x6 x8) + 1))) (wrap64 (x7 + 1))) else (none)) else (none))
end
def sandpileref17_Order.l0 : Nat → List Int → List Int → Int → Option (Int)
 | 0, _, _, _ => none
 | k + 1, x0, x1, x5 => if x5 < (x0.length : Int) then (if 0 ≤ x5 then (if x5 < (x1.length : Int) then (if (rd x0 x5) < (rd x1 x5) then (some (-1)) else (if (rd x0 x5) > (rd x1 x5) then (some 1) else (sandpileref17_Order.l0 k x0 x1 (wrap64 (x5 + 1))))) else (none)) else (none)) else (some 0)
def sandpileref17_Order.f (k : Nat) (l0 : List Int) (l1 : List Int) : Option (Int) := sandpileref17_Order.l0 k l0 l1 0
theorem sandpileref17_Order.calls (k : Nat) (A0 : Option Addr) (c0 : Nat) (l0 : List Int) (A1 : Option Addr) (c1 : Nat) (l1 : List Int) (r : Int) (w : World) (hr0 : Kd.C (Kd.int .i64) w A0 l0.length l0) (hc0 : l0.length ≤ c0) (hr1 : Kd.C (Kd.int .i64) w A1 l1.length l1) (hc1 : l1.length ≤ c1) (h : sandpileref17_Order.f k l0 l1 = some r) :
  Calls Try.prog 58 #[.slice A0 l0.length c0, .slice A1 l1.length c1] w fun e w' => e = .returned (.int .i64 r) ∧ Drawn0 w w' := by
 have HR0 := Aside0.mk hr0
 have HC0 := Aside0.mk hc0
 clear hr0 hc0
 have HR1 := Aside0.mk hr1
 have HC1 := Aside0.mk hc1
 clear hr1 hc1
 have H : (sandpileref17_Order.l0 k l0 l1 0) = some r := h
 clear h
 have H' := Aside0.mk H
 clear H
 go_enter Try.func58, Try.ntmps58
 go_wp2
 repeat (go_quiet (fail); try go_wp2)
 go_loopg [5] k (fun kq v5 w' => ∃ (x5_1 : Int), v5 = .int .i64 x5_1 ∧ Aside0 (sandpileref17_Order.l0 kq l0 l1 x5_1 = some r) ∧ Aside0 (kq ≤ k) ∧ Drawn0 w w')
 case atStart => exact ⟨(0), zT, H', ⟨Nat.le_refl _⟩, by repeat (first | exact Drawn0.refl _ | apply Drawn0.step)⟩
 case round =>
  clear H'
  try clear c1
  try clear p2
  obtain ⟨x5_1, rfl, HA, HK1, ⟨m1, rfl⟩⟩ := hrel
  cases gk with
  | zero => exact absurd HA.out (by simp [sandpileref17_Order.l0])
  | succ k1 =>
   have H := HA.out
   clear HA
   simp only [sandpileref17_Order.l0] at H
   by_cases c3 : x5_1 < (l0.length : Int)
   ·rw [if_pos c3] at H
    have c3b0 : decide (x5_1 < (l0.length : Int)) = true := decide_eq_true c3
    clear c3
    by_cases c4 : 0 ≤ x5_1
    ·rw [if_pos c4] at H
     have c4b0 : decide (0 ≤ x5_1) = true := decide_eq_true c4
     clear c4
     by_cases c5 : x5_1 < (l1.length : Int)
     ·rw [if_pos c5] at H
      have c5b0 : decide (x5_1 < (l1.length : Int)) = true := decide_eq_true c5
      clear c5
      by_cases c6 : (rd l0 x5_1) < (rd l1 x5_1)
      ·rw [if_pos c6] at H
       have c6b0 : decide ((rd l0 x5_1) < (rd l1 x5_1)) = true := decide_eq_true c6
       clear c6
       obtain rfl := Option.some.inj H
       have p249 : 0 ≤ (x5_1 : Int) := of_decide_eq_true ‹_›
       have q249 : x5_1 < (l0.length : Int) := of_decide_eq_true ‹_›
       obtain ⟨ad249, e249, hx249_0⟩ := Kd.at_int HR0.out x5_1 p249 q249
       cases e249
       replace p249 := eq_true p249
       replace q249 := eq_true q249
       have p250 : 0 ≤ (x5_1 : Int) := of_decide_eq_true ‹_›
       have q250 : x5_1 < (l1.length : Int) := of_decide_eq_true ‹_›
       obtain ⟨ad250, e250, hx250_0⟩ := Kd.at_int HR1.out x5_1 p250 q250
       cases e250
       replace p250 := eq_true p250
       replace q250 := eq_true q250
       go_wp2
       repeat (go_quiet (fail); try go_wp2)
       go_ret
       exact ⟨zT, by repeat (first | exact Drawn0.refl _ | apply Drawn0.step)⟩
      ·rw [if_neg c6] at H
       have c6b0 : decide ((rd l0 x5_1) < (rd l1 x5_1)) = false := decide_eq_false c6
       clear c6
       by_cases c7 : (rd l0 x5_1) > (rd l1 x5_1)
       ·rw [if_pos c7] at H
        have c7b0 : decide ((rd l1 x5_1) < (rd l0 x5_1)) = true := decide_eq_true c7
        clear c7
        obtain rfl := Option.some.inj H
        have p249 : 0 ≤ (x5_1 : Int) := of_decide_eq_true ‹_›
        have q249 : x5_1 < (l0.length : Int) := of_decide_eq_true ‹_›
        obtain ⟨ad249, e249, hx249_0⟩ := Kd.at_int HR0.out x5_1 p249 q249
        cases e249
        replace p249 := eq_true p249
        replace q249 := eq_true q249
        have p250 : 0 ≤ (x5_1 : Int) := of_decide_eq_true ‹_›
        have q250 : x5_1 < (l1.length : Int) := of_decide_eq_true ‹_›
        obtain ⟨ad250, e250, hx250_0⟩ := Kd.at_int HR1.out x5_1 p250 q250
        cases e250
        replace p250 := eq_true p250
        replace q250 := eq_true q250
        have p251 : 0 ≤ (x5_1 : Int) := of_decide_eq_true ‹_›
        have q251 : x5_1 < (l0.length : Int) := of_decide_eq_true ‹_›
        obtain ⟨ad251, e251, hx251_0⟩ := Kd.at_int HR0.out x5_1 p251 q251
        obtain rfl : ad249 = ad251 := (by injection e251)
        replace p251 := eq_true p251
        replace q251 := eq_true q251
        have p252 : 0 ≤ (x5_1 : Int) := of_decide_eq_true ‹_›
        have q252 : x5_1 < (l1.length : Int) := of_decide_eq_true ‹_›
        obtain ⟨ad252, e252, hx252_0⟩ := Kd.at_int HR1.out x5_1 p252 q252
        obtain rfl : ad250 = ad252 := (by injection e252)
        replace p252 := eq_true p252
        replace q252 := eq_true q252
        go_wp2
        repeat (go_quiet (fail); try go_wp2)
        go_ret
        exact ⟨zT, by repeat (first | exact Drawn0.refl _ | apply Drawn0.step)⟩
       ·rw [if_neg c7] at H
        have c7b0 : decide ((rd l1 x5_1) < (rd l0 x5_1)) = false := decide_eq_false c7
        clear c7
        have H' := Aside0.mk H
        clear H
        have p249 : 0 ≤ (x5_1 : Int) := of_decide_eq_true ‹_›
        have q249 : x5_1 < (l0.length : Int) := of_decide_eq_true ‹_›
        obtain ⟨ad249, e249, hx249_0⟩ := Kd.at_int HR0.out x5_1 p249 q249
        cases e249
        replace p249 := eq_true p249
        replace q249 := eq_true q249
        have p250 : 0 ≤ (x5_1 : Int) := of_decide_eq_true ‹_›
        have q250 : x5_1 < (l1.length : Int) := of_decide_eq_true ‹_›
        obtain ⟨ad250, e250, hx250_0⟩ := Kd.at_int HR1.out x5_1 p250 q250
        cases e250
        replace p250 := eq_true p250
        replace q250 := eq_true q250
        have p251 : 0 ≤ (x5_1 : Int) := of_decide_eq_true ‹_›
        have q251 : x5_1 < (l0.length : Int) := of_decide_eq_true ‹_›
        obtain ⟨ad251, e251, hx251_0⟩ := Kd.at_int HR0.out x5_1 p251 q251
        obtain rfl : ad249 = ad251 := (by injection e251)
        replace p251 := eq_true p251
        replace q251 := eq_true q251
        have p252 : 0 ≤ (x5_1 : Int) := of_decide_eq_true ‹_›
        have q252 : x5_1 < (l1.length : Int) := of_decide_eq_true ‹_›
        obtain ⟨ad252, e252, hx252_0⟩ := Kd.at_int HR1.out x5_1 p252 q252
        obtain rfl : ad250 = ad252 := (by injection e252)
        replace p252 := eq_true p252
        replace q252 := eq_true q252
        go_wp2
        repeat (go_quiet (fail); try go_wp2)
        go_roundg k1
        case measure => have := HK1.out; omega
        case rel => exact ⟨(wrap64 (x5_1 + 1)), zT, H', ⟨by have := HK1.out; omega⟩, by repeat (first | exact Drawn0.refl _ | apply Drawn0.step)⟩
     ·rw [if_neg c5] at H
      exact absurd H (by simp)
    ·rw [if_neg c4] at H
     exact absurd H (by simp)
   ·rw [if_neg c3] at H
    have c3b0 : decide (x5_1 < (l0.length : Int)) = false := decide_eq_false c3
    clear c3
    obtain rfl := Option.some.inj H
    go_wp2
    repeat (go_quiet (fail); try go_wp2)
    go_ret
    exact ⟨zT, by repeat (first | exact Drawn0.refl _ | apply Drawn0.step)⟩
def sandpileref17_Same.f (k : Nat) (l0 : List Int) (l1 : List Int) : Option (Bool) := if (l0.length : Int) = (l1.length : Int) then ((sandpileref17_Order.f k l0 l1).bind fun t253 => (some (t253 == 0))) else (some false)
theorem sandpileref17_Same.calls (k : Nat) (A0 : Option Addr) (c0 : Nat) (l0 : List Int) (A1 : Option Addr) (c1 : Nat) (l1 : List Int) (r : Bool) (w : World) (hr0 : Kd.C (Kd.int .i64) w A0 l0.length l0) (hc0 : l0.length ≤ c0) (hr1 : Kd.C (Kd.int .i64) w A1 l1.length l1) (hc1 : l1.length ≤ c1) (h : sandpileref17_Same.f k l0 l1 = some r) :
  Calls Try.prog 26 #[.slice A0 l0.length c0, .slice A1 l1.length c1] w fun e w' => e = .returned (.bool r) ∧ Drawn0 w w' := by
 have HR0 := Aside0.mk hr0
 have HC0 := Aside0.mk hc0
 clear hr0 hc0
 have HR1 := Aside0.mk hr1
 have HC1 := Aside0.mk hc1
 clear hr1 hc1
 have H : (if (l0.length : Int) = (l1.length : Int) then ((sandpileref17_Order.f k l0 l1).bind fun t253 => (some (t253 == 0))) else (some false)) = some r := h
 clear h
 by_cases c3 : (l0.length : Int) = (l1.length : Int)
 ·rw [if_pos c3] at H
  have c3b0 : ((l0.length : Int) == (l1.length : Int)) = true := beq_iff_eq.mpr c3
  have c3b1 : ((l0.length : Int) != (l1.length : Int)) = false := bne_eq_false_iff_eq.mpr c3
  have c3b2 : (l0.length == l1.length) = true := by first | simpa using c3 | (simp at c3 ⊢; omega)
  clear c3
  replace H := Option.bind_eq_some_iff.mp H
  obtain ⟨t253, A40, H⟩ := H
  replace H : (some (t253 == 0)) = some r := H
  have A4 := Aside0.mk A40
  clear A40
  obtain rfl := Option.some.inj H
  go_enter Try.func26, Try.ntmps26
  go_wp2_with (first | ((with_reducible refine gate_callee (f := 58) rfl ?_); refine zL (some 12) Try.func58 #[.slice A0 l0.length c0, .slice A1 l1.length c1] ?_; (with_reducible refine (sandpileref17_Order.calls k _ _ l0 _ _ l1 t253 _ ?side1 ?side2 ?side3 ?side4 A4.out).mono ?_); (case side1 => repeat (first | exact HR0.out | (with_reducible refine Kd.C_alloc ?_ _) | (with_reducible refine Kd.C_drewN ?_ _) | (with_reducible refine Kd.C_drew ?_))); (case side2 => exact HC0.out); (case side3 => repeat (first | exact HR1.out | (with_reducible refine Kd.C_alloc ?_ _) | (with_reducible refine Kd.C_drewN ?_ _) | (with_reducible refine Kd.C_drew ?_))); (case side4 => exact HC1.out); rintro e w' ⟨rfl, ⟨nd, rfl⟩⟩; refine ⟨_, rfl, ?_⟩))
  go_ret
  exact ⟨zT, by repeat (first | exact Drawn0.refl _ | apply Drawn0.step)⟩
 ·rw [if_neg c3] at H
  have c3b0 : ((l0.length : Int) == (l1.length : Int)) = false := beq_eq_false_iff_ne.mpr c3
  have c3b1 : ((l0.length : Int) != (l1.length : Int)) = true := bne_iff_ne.mpr c3
  have c3b2 : (l0.length == l1.length) = false := by first | simpa using c3 | (simp at c3 ⊢; omega)
  obtain rfl := Option.some.inj H
  go_enter Try.func26, Try.ntmps26
  go_wp2
  go_ret
  exact ⟨zT, by repeat (first | exact Drawn0.refl _ | apply Drawn0.step)⟩
def sandpileref17_SameAll.l0 : Nat → List (List Int) → List (List Int) → Int → Option (Bool)
 | 0, _, _, _ => none
 | k + 1, x0, x1, x5 => if x5 < (x0.length : Int) then (if 0 ≤ x5 then (if x5 < (x1.length : Int) then ((sandpileref17_Same.f k (rd_L2 x0 x5) (rd_L2 x1 x5)).bind fun t256 => (if t256 = true then (sandpileref17_SameAll.l0 k x0 x1 (wrap64 (x5 + 1))) else (some false))) else (none)) else (none)) else (some true)
def sandpileref17_SameAll.f (k : Nat) (l0 : List (List Int)) (l1 : List (List Int)) : Option (Bool) := if (l0.length : Int) = (l1.length : Int) then (sandpileref17_SameAll.l0 k l0 l1 0) else (some false)
theorem sandpileref17_SameAll.calls (k : Nat) (A0 : Option Addr) (c0 : Nat) (l0 : List (List Int)) (A1 : Option Addr) (c1 : Nat) (l1 : List (List Int)) (r : Bool) (w : World) (hr0 : Kd.C (Kd.slice 3 (Kd.int .i64)) w A0 l0.length l0) (hc0 : l0.length ≤ c0) (hr1 : Kd.C (Kd.slice 3 (Kd.int .i64)) w A1 l1.length l1) (hc1 : l1.length ≤ c1) (h : sandpileref17_SameAll.f k l0 l1 = some r) :
  Calls Try.prog 17 #[.slice A0 l0.length c0, .slice A1 l1.length c1] w fun e w' => e = .returned (.bool r) ∧ Drawn0 w w' := by
 have HR0 := Aside0.mk hr0
 have HC0 := Aside0.mk hc0
 clear hr0 hc0
 have HR1 := Aside0.mk hr1
 have HC1 := Aside0.mk hc1
 clear hr1 hc1
 have H : (if (l0.length : Int) = (l1.length : Int) then (sandpileref17_SameAll.l0 k l0 l1 0) else (some false)) = some r := h
 clear h
 by_cases c3 : (l0.length : Int) = (l1.length : Int)
 ·rw [if_pos c3] at H
  have c3b0 : ((l0.length : Int) == (l1.length : Int)) = true := beq_iff_eq.mpr c3
  have c3b1 : ((l0.length : Int) != (l1.length : Int)) = false := bne_eq_false_iff_eq.mpr c3
  have c3b2 : (l0.length == l1.length) = true := by first | simpa using c3 | (simp at c3 ⊢; omega)
  clear c3
  have H' := Aside0.mk H
  clear H
  go_enter Try.func17, Try.ntmps17
  go_wp2
  repeat (go_quiet (fail); try go_wp2)
  go_loopg [5] k (fun kq v5 w' => ∃ (x5_1 : Int), v5 = .int .i64 x5_1 ∧ Aside0 (sandpileref17_SameAll.l0 kq l0 l1 x5_1 = some r) ∧ Aside0 (kq ≤ k) ∧ Drawn0 w w')
  case atStart => exact ⟨(0), zT, H', ⟨Nat.le_refl _⟩, by repeat (first | exact Drawn0.refl _ | apply Drawn0.step)⟩
  case round =>
   clear H'
   try clear c1
   try clear p2
   try clear c3
   try clear c3b0
   try clear c3b1
   try clear c3b2
   obtain ⟨x5_1, rfl, HA, HK1, ⟨m1, rfl⟩⟩ := hrel
   cases gk with
   | zero => exact absurd HA.out (by simp [sandpileref17_SameAll.l0])
   | succ k1 =>
    have H := HA.out
    clear HA
    simp only [sandpileref17_SameAll.l0] at H
    by_cases c4 : x5_1 < (l0.length : Int)
    ·rw [if_pos c4] at H
     have c4b0 : decide (x5_1 < (l0.length : Int)) = true := decide_eq_true c4
     clear c4
     by_cases c5 : 0 ≤ x5_1
     ·rw [if_pos c5] at H
      have c5b0 : decide (0 ≤ x5_1) = true := decide_eq_true c5
      clear c5
      by_cases c6 : x5_1 < (l1.length : Int)
      ·rw [if_pos c6] at H
       have c6b0 : decide (x5_1 < (l1.length : Int)) = true := decide_eq_true c6
       clear c6
       replace H := Option.bind_eq_some_iff.mp H
       obtain ⟨t256, A70, H⟩ := H
       replace H : (if t256 = true then (sandpileref17_SameAll.l0 k1 l0 l1 (wrap64 (x5_1 + 1))) else (some false)) = some r := H
       have A7 := Aside0.mk A70
       clear A70
       by_cases c8 : t256 = true
       ·subst c8
        have H1 : (sandpileref17_SameAll.l0 k1 l0 l1 (wrap64 (x5_1 + 1))) = some r := by rw [if_pos rfl] at H; exact H
        clear H
        have H := H1
        clear H1
        have H' := Aside0.mk H
        clear H
        have p254 : 0 ≤ (x5_1 : Int) := of_decide_eq_true ‹_›
        have q254 : x5_1 < (l0.length : Int) := of_decide_eq_true ‹_›
        obtain ⟨ad254, A254_0, c254_0, e254, hx254_0, hl254_0, hi254_0⟩ := at_L2 HR0.out x5_1 p254 q254
        cases e254
        have HR254_0 := Aside0.mk hi254_0
        have HC254_0 := Aside0.mk hl254_0
        clear hi254_0 hl254_0
        replace p254 := eq_true p254
        replace q254 := eq_true q254
        have p255 : 0 ≤ (x5_1 : Int) := of_decide_eq_true ‹_›
        have q255 : x5_1 < (l1.length : Int) := of_decide_eq_true ‹_›
        obtain ⟨ad255, A255_0, c255_0, e255, hx255_0, hl255_0, hi255_0⟩ := at_L2 HR1.out x5_1 p255 q255
        cases e255
        have HR255_0 := Aside0.mk hi255_0
        have HC255_0 := Aside0.mk hl255_0
        clear hi255_0 hl255_0
        replace p255 := eq_true p255
        replace q255 := eq_true q255
        go_wp2_with (first | (go_at_call 26; (with_reducible refine (sandpileref17_Same.calls k1 _ _ (rd_L2 l0 x5_1) _ _ (rd_L2 l1 x5_1) true _ ?side1 ?side2 ?side3 ?side4 A7.out).mono ?_); (case side1 => repeat (first | exact HR254_0.out | (with_reducible refine Kd.C_alloc ?_ _) | (with_reducible refine Kd.C_drewN ?_ _) | (with_reducible refine Kd.C_drew ?_))); (case side2 => exact HC254_0.out); (case side3 => repeat (first | exact HR255_0.out | (with_reducible refine Kd.C_alloc ?_ _) | (with_reducible refine Kd.C_drewN ?_ _) | (with_reducible refine Kd.C_drew ?_))); (case side4 => exact HC255_0.out); rintro e w' ⟨rfl, ⟨nd, rfl⟩⟩; (try first | exact ⟨rfl, _, World.drewN_drewN _ _ _⟩ | exact ⟨rfl, _, Eq.trans (World.drewN_drewN _ _ _) (congrArg (World.drewN _) (Nat.add_assoc _ _ _))⟩)))
        repeat (go_quiet (first | (go_at_call 26; (with_reducible refine (sandpileref17_Same.calls k1 _ _ (rd_L2 l0 x5_1) _ _ (rd_L2 l1 x5_1) true _ ?side1 ?side2 ?side3 ?side4 A7.out).mono ?_); (case side1 => repeat (first | exact HR254_0.out | (with_reducible refine Kd.C_alloc ?_ _) | (with_reducible refine Kd.C_drewN ?_ _) | (with_reducible refine Kd.C_drew ?_))); (case side2 => exact HC254_0.out); (case side3 => repeat (first | exact HR255_0.out | (with_reducible refine Kd.C_alloc ?_ _) | (with_reducible refine Kd.C_drewN ?_ _) | (with_reducible refine Kd.C_drew ?_))); (case side4 => exact HC255_0.out); rintro e w' ⟨rfl, ⟨nd, rfl⟩⟩; (try first | exact ⟨rfl, _, World.drewN_drewN _ _ _⟩ | exact ⟨rfl, _, Eq.trans (World.drewN_drewN _ _ _) (congrArg (World.drewN _) (Nat.add_assoc _ _ _))⟩))); try go_wp2_with (first | (go_at_call 26; (with_reducible refine (sandpileref17_Same.calls k1 _ _ (rd_L2 l0 x5_1) _ _ (rd_L2 l1 x5_1) true _ ?side1 ?side2 ?side3 ?side4 A7.out).mono ?_); (case side1 => repeat (first | exact HR254_0.out | (with_reducible refine Kd.C_alloc ?_ _) | (with_reducible refine Kd.C_drewN ?_ _) | (with_reducible refine Kd.C_drew ?_))); (case side2 => exact HC254_0.out); (case side3 => repeat (first | exact HR255_0.out | (with_reducible refine Kd.C_alloc ?_ _) | (with_reducible refine Kd.C_drewN ?_ _) | (with_reducible refine Kd.C_drew ?_))); (case side4 => exact HC255_0.out); rintro e w' ⟨rfl, ⟨nd, rfl⟩⟩; (try first | exact ⟨rfl, _, World.drewN_drewN _ _ _⟩ | exact ⟨rfl, _, Eq.trans (World.drewN_drewN _ _ _) (congrArg (World.drewN _) (Nat.add_assoc _ _ _))⟩))))
        go_roundg k1
        case measure => have := HK1.out; omega
        case rel => exact ⟨(wrap64 (x5_1 + 1)), zT, H', ⟨by have := HK1.out; omega⟩, by repeat (first | exact Drawn0.refl _ | apply Drawn0.step)⟩
       ·replace c8 := Bool.eq_false_iff.mpr c8
        subst c8
        have H1 : (some false) = some r := by rw [if_neg (show ¬ (false = true) by decide)] at H; exact H
        clear H
        have H := H1
        clear H1
        obtain rfl := Option.some.inj H
        have p254 : 0 ≤ (x5_1 : Int) := of_decide_eq_true ‹_›
        have q254 : x5_1 < (l0.length : Int) := of_decide_eq_true ‹_›
        obtain ⟨ad254, A254_0, c254_0, e254, hx254_0, hl254_0, hi254_0⟩ := at_L2 HR0.out x5_1 p254 q254
        cases e254
        have HR254_0 := Aside0.mk hi254_0
        have HC254_0 := Aside0.mk hl254_0
        clear hi254_0 hl254_0
        replace p254 := eq_true p254
        replace q254 := eq_true q254
        have p255 : 0 ≤ (x5_1 : Int) := of_decide_eq_true ‹_›
        have q255 : x5_1 < (l1.length : Int) := of_decide_eq_true ‹_›
        obtain ⟨ad255, A255_0, c255_0, e255, hx255_0, hl255_0, hi255_0⟩ := at_L2 HR1.out x5_1 p255 q255
        cases e255
        have HR255_0 := Aside0.mk hi255_0
        have HC255_0 := Aside0.mk hl255_0
        clear hi255_0 hl255_0
        replace p255 := eq_true p255
        replace q255 := eq_true q255
        go_wp2_with (first | (go_at_call 26; (with_reducible refine (sandpileref17_Same.calls k1 _ _ (rd_L2 l0 x5_1) _ _ (rd_L2 l1 x5_1) false _ ?side1 ?side2 ?side3 ?side4 A7.out).mono ?_); (case side1 => repeat (first | exact HR254_0.out | (with_reducible refine Kd.C_alloc ?_ _) | (with_reducible refine Kd.C_drewN ?_ _) | (with_reducible refine Kd.C_drew ?_))); (case side2 => exact HC254_0.out); (case side3 => repeat (first | exact HR255_0.out | (with_reducible refine Kd.C_alloc ?_ _) | (with_reducible refine Kd.C_drewN ?_ _) | (with_reducible refine Kd.C_drew ?_))); (case side4 => exact HC255_0.out); rintro e w' ⟨rfl, ⟨nd, rfl⟩⟩; (try first | exact ⟨rfl, _, World.drewN_drewN _ _ _⟩ | exact ⟨rfl, _, Eq.trans (World.drewN_drewN _ _ _) (congrArg (World.drewN _) (Nat.add_assoc _ _ _))⟩)))
        repeat (go_quiet (first | (go_at_call 26; (with_reducible refine (sandpileref17_Same.calls k1 _ _ (rd_L2 l0 x5_1) _ _ (rd_L2 l1 x5_1) false _ ?side1 ?side2 ?side3 ?side4 A7.out).mono ?_); (case side1 => repeat (first | exact HR254_0.out | (with_reducible refine Kd.C_alloc ?_ _) | (with_reducible refine Kd.C_drewN ?_ _) | (with_reducible refine Kd.C_drew ?_))); (case side2 => exact HC254_0.out); (case side3 => repeat (first | exact HR255_0.out | (with_reducible refine Kd.C_alloc ?_ _) | (with_reducible refine Kd.C_drewN ?_ _) | (with_reducible refine Kd.C_drew ?_))); (case side4 => exact HC255_0.out); rintro e w' ⟨rfl, ⟨nd, rfl⟩⟩; (try first | exact ⟨rfl, _, World.drewN_drewN _ _ _⟩ | exact ⟨rfl, _, Eq.trans (World.drewN_drewN _ _ _) (congrArg (World.drewN _) (Nat.add_assoc _ _ _))⟩))); try go_wp2_with (first | (go_at_call 26; (with_reducible refine (sandpileref17_Same.calls k1 _ _ (rd_L2 l0 x5_1) _ _ (rd_L2 l1 x5_1) false _ ?side1 ?side2 ?side3 ?side4 A7.out).mono ?_); (case side1 => repeat (first | exact HR254_0.out | (with_reducible refine Kd.C_alloc ?_ _) | (with_reducible refine Kd.C_drewN ?_ _) | (with_reducible refine Kd.C_drew ?_))); (case side2 => exact HC254_0.out); (case side3 => repeat (first | exact HR255_0.out | (with_reducible refine Kd.C_alloc ?_ _) | (with_reducible refine Kd.C_drewN ?_ _) | (with_reducible refine Kd.C_drew ?_))); (case side4 => exact HC255_0.out); rintro e w' ⟨rfl, ⟨nd, rfl⟩⟩; (try first | exact ⟨rfl, _, World.drewN_drewN _ _ _⟩ | exact ⟨rfl, _, Eq.trans (World.drewN_drewN _ _ _) (congrArg (World.drewN _) (Nat.add_assoc _ _ _))⟩))))
        go_ret
        exact ⟨zT, by repeat (first | exact Drawn0.refl _ | apply Drawn0.step)⟩
      ·rw [if_neg c6] at H
       exact absurd H (by simp)
     ·rw [if_neg c5] at H
      exact absurd H (by simp)
    ·rw [if_neg c4] at H
     have c4b0 : decide (x5_1 < (l0.length : Int)) = false := decide_eq_false c4
     clear c4
     obtain rfl := Option.some.inj H
     go_wp2
     repeat (go_quiet (fail); try go_wp2)
     go_ret
     exact ⟨zT, by repeat (first | exact Drawn0.refl _ | apply Drawn0.step)⟩
 ·rw [if_neg c3] at H
  have c3b0 : ((l0.length : Int) == (l1.length : Int)) = false := beq_eq_false_iff_ne.mpr c3
  have c3b1 : ((l0.length : Int) != (l1.length : Int)) = true := bne_iff_ne.mpr c3
  have c3b2 : (l0.length == l1.length) = false := by first | simpa using c3 | (simp at c3 ⊢; omega)
  obtain rfl := Option.some.inj H
  go_enter Try.func17, Try.ntmps17
  go_wp2
  repeat (go_quiet (fail); try go_wp2)
  go_ret
  exact ⟨zT, by repeat (first | exact Drawn0.refl _ | apply Drawn0.step)⟩
def slices_Equal_int_int.l0 : Nat → List Int → List Int → Int → Int → Option (Bool)
 | 0, _, _, _, _ => none
 | k + 1, x0, x1, x12, x13 => if x13 < x12 then (if 0 ≤ x13 then (if x13 < (x0.length : Int) then (if x13 < (x1.length : Int) then (if (rd x0 x13) = (rd x1 x13) then (slices_Equal_int_int.l0 k x0 x1 x12 (wrap64 (x13 + 1))) else (some false)) else (none)) else (none)) else (none)) else (some true)
def slices_Equal_int_int.f (k : Nat) (l0 : List Int) (l1 : List Int) : Option (Bool) := if (l0.length : Int) = (l1.length : Int) then (slices_Equal_int_int.l0 k l0 l1 (l0.length : Int) 0) else (some false)
theorem slices_Equal_int_int.calls (k : Nat) (A0 : Option Addr) (c0 : Nat) (l0 : List Int) (A1 : Option Addr) (c1 : Nat) (l1 : List Int) (r : Bool) (w : World) (hr0 : Kd.C (Kd.int .i64) w A0 l0.length l0) (hc0 : l0.length ≤ c0) (hr1 : Kd.C (Kd.int .i64) w A1 l1.length l1) (hc1 : l1.length ≤ c1) (h : slices_Equal_int_int.f k l0 l1 = some r) :
  Calls Try.prog 18 #[.slice A0 l0.length c0, .slice A1 l1.length c1] w fun e w' => e = .returned (.bool r) ∧ Drawn0 w w' := by
 have HR0 := Aside0.mk hr0
 have HC0 := Aside0.mk hc0
 clear hr0 hc0
 have HR1 := Aside0.mk hr1
 have HC1 := Aside0.mk hc1
 clear hr1 hc1
 have H : (if (l0.length : Int) = (l1.length : Int) then (slices_Equal_int_int.l0 k l0 l1 (l0.length : Int) 0) else (some false)) = some r := h
 clear h
 by_cases c3 : (l0.length : Int) = (l1.length : Int)
 ·rw [if_pos c3] at H
  have c3b0 : ((l0.length : Int) == (l1.length : Int)) = true := beq_iff_eq.mpr c3
  have c3b1 : ((l0.length : Int) != (l1.length : Int)) = false := bne_eq_false_iff_eq.mpr c3
  have c3b2 : (l0.length == l1.length) = true := by first | simpa using c3 | (simp at c3 ⊢; omega)
  clear c3
  have H' := Aside0.mk H
  clear H
  go_enter Try.func18, Try.ntmps18
  go_wp2
  repeat (go_quiet (fail); try go_wp2)
  go_loopg [13] k (fun kq v13 w' => ∃ (x13_1 : Int), v13 = .int .i64 x13_1 ∧ Aside0 (slices_Equal_int_int.l0 kq l0 l1 (l0.length : Int) x13_1 = some r) ∧ Aside0 (kq ≤ k) ∧ Drawn0 w w')
  case atStart => exact ⟨(0), zT, H', ⟨Nat.le_refl _⟩, by repeat (first | exact Drawn0.refl _ | apply Drawn0.step)⟩
  case round =>
   clear H'
   try clear c1
   try clear p2
   try clear c3
   try clear c3b0
   try clear c3b1
   try clear c3b2
   obtain ⟨x13_1, rfl, HA, HK1, ⟨m1, rfl⟩⟩ := hrel
   cases gk with
   | zero => exact absurd HA.out (by simp [slices_Equal_int_int.l0])
   | succ k1 =>
    have H := HA.out
    clear HA
    simp only [slices_Equal_int_int.l0] at H
    by_cases c4 : x13_1 < (l0.length : Int)
    ·rw [if_pos c4] at H
     have c4b0 : decide (x13_1 < (l0.length : Int)) = true := decide_eq_true c4
     clear c4
     by_cases c5 : 0 ≤ x13_1
     ·rw [if_pos c5] at H
      have c5b0 : decide (0 ≤ x13_1) = true := decide_eq_true c5
      clear c5
      by_cases c6 : x13_1 < (l0.length : Int)
      ·rw [if_pos c6] at H
       have c6b0 : decide (x13_1 < (l0.length : Int)) = true := decide_eq_true c6
       clear c6
       by_cases c7 : x13_1 < (l1.length : Int)
       ·rw [if_pos c7] at H
        have c7b0 : decide (x13_1 < (l1.length : Int)) = true := decide_eq_true c7
        clear c7
        by_cases c8 : (rd l0 x13_1) = (rd l1 x13_1)
        ·rw [if_pos c8] at H
         have c8b0 : ((rd l0 x13_1) == (rd l1 x13_1)) = true := beq_iff_eq.mpr c8
         have c8b1 : ((rd l0 x13_1) != (rd l1 x13_1)) = false := bne_eq_false_iff_eq.mpr c8
         clear c8
         have H' := Aside0.mk H
         clear H
         have p257 : 0 ≤ (x13_1 : Int) := of_decide_eq_true ‹_›
         have q257 : x13_1 < (l0.length : Int) := of_decide_eq_true ‹_›
         obtain ⟨ad257, e257, hx257_0⟩ := Kd.at_int HR0.out x13_1 p257 q257
         cases e257
         replace p257 := eq_true p257
         replace q257 := eq_true q257
         have p258 : 0 ≤ (x13_1 : Int) := of_decide_eq_true ‹_›
         have q258 : x13_1 < (l1.length : Int) := of_decide_eq_true ‹_›
         obtain ⟨ad258, e258, hx258_0⟩ := Kd.at_int HR1.out x13_1 p258 q258
         cases e258
         replace p258 := eq_true p258
         replace q258 := eq_true q258
         go_wp2
         repeat (go_quiet (fail); try go_wp2)
         go_roundg k1
         case measure => have := HK1.out; omega
         case rel => exact ⟨(wrap64 (x13_1 + 1)), zT, H', ⟨by have := HK1.out; omega⟩, by repeat (first | exact Drawn0.refl _ | apply Drawn0.step)⟩
        ·rw [if_neg c8] at H
         have c8b0 : ((rd l0 x13_1) == (rd l1 x13_1)) = false := beq_eq_false_iff_ne.mpr c8
         have c8b1 : ((rd l0 x13_1) != (rd l1 x13_1)) = true := bne_iff_ne.mpr c8
         obtain rfl := Option.some.inj H
         have p257 : 0 ≤ (x13_1 : Int) := of_decide_eq_true ‹_›
         have q257 : x13_1 < (l0.length : Int) := of_decide_eq_true ‹_›
         obtain ⟨ad257, e257, hx257_0⟩ := Kd.at_int HR0.out x13_1 p257 q257
         cases e257
         replace p257 := eq_true p257
         replace q257 := eq_true q257
         have p258 : 0 ≤ (x13_1 : Int) := of_decide_eq_true ‹_›
         have q258 : x13_1 < (l1.length : Int) := of_decide_eq_true ‹_›
         obtain ⟨ad258, e258, hx258_0⟩ := Kd.at_int HR1.out x13_1 p258 q258
         cases e258
         replace p258 := eq_true p258
         replace q258 := eq_true q258
         go_wp2
         repeat (go_quiet (fail); try go_wp2)
         go_ret
         exact ⟨zT, by repeat (first | exact Drawn0.refl _ | apply Drawn0.step)⟩
       ·rw [if_neg c7] at H
        exact absurd H (by simp)
      ·rw [if_neg c6] at H
       exact absurd H (by simp)
     ·rw [if_neg c5] at H
      exact absurd H (by simp)
    ·rw [if_neg c4] at H
     have c4b0 : decide (x13_1 < (l0.length : Int)) = false := decide_eq_false c4
     clear c4
     obtain rfl := Option.some.inj H
     go_wp2
     repeat (go_quiet (fail); try go_wp2)
     go_ret
     exact ⟨zT, by repeat (first | exact Drawn0.refl _ | apply Drawn0.step)⟩
 ·rw [if_neg c3] at H
  have c3b0 : ((l0.length : Int) == (l1.length : Int)) = false := beq_eq_false_iff_ne.mpr c3
  have c3b1 : ((l0.length : Int) != (l1.length : Int)) = true := bne_iff_ne.mpr c3
  have c3b2 : (l0.length == l1.length) = false := by first | simpa using c3 | (simp at c3 ⊢; omega)
  obtain rfl := Option.some.inj H
  go_enter Try.func18, Try.ntmps18
  go_wp2
  repeat (go_quiet (fail); try go_wp2)
  go_ret
  exact ⟨zT, by repeat (first | exact Drawn0.refl _ | apply Drawn0.step)⟩
def superstable_Count.f (k : Nat) (a0_0 : Int) (l0_1 : List (S66)) (a1 : Int) : Option (Int × Int) := (superstable_All.f k a0_0 l0_1 a1).bind fun bt146 => (some ((bt146.1.length : Int), bt146.2))
theorem superstable_Count.calls (k : Nat) (a0_0 : Int) (A0_1 : Option Addr) (c0_1 : Nat) (l0_1 : List (S66)) (a1 : Int) (r1 : Int) (r2 : Int) (w : World) (hr0_1 : Kd.C k66 w A0_1 l0_1.length l0_1) (hc0_1 : l0_1.length ≤ c0_1) (h : superstable_Count.f k a0_0 l0_1 a1 = some (r1, r2)) :
  Calls Try.prog 13 #[.agg #[.int .i64 a0_0, .slice A0_1 l0_1.length c0_1], .int .i64 a1] w fun e w' => e = .returned (.tuple #[.int .i64 r1, .int .i64 r2]) ∧ Below w.heap.size w w' := by
 have hu24 := Try.underlying24
 have HR0_1 := Aside0.mk hr0_1
 have HC0_1 := Aside0.mk hc0_1
 clear hr0_1 hc0_1
 have HB := Aside0.mk (Below.refl w.heap.size w)
 have H : ((superstable_All.f k a0_0 l0_1 a1).bind fun bt146 => (some ((bt146.1.length : Int), bt146.2))) = some (r1, r2) := h
 clear h
 replace H := Option.bind_eq_some_iff.mp H
 obtain ⟨⟨t146, t149⟩, A30, H⟩ := H
 replace H : (some ((t146.length : Int), t149)) = some (r1, r2) := H
 have A3 := Aside0.mk A30
 clear A30
 simp only [Option.some.injEq, Prod.mk.injEq] at H
 obtain ⟨rfl, rfl⟩ := H
 go_enter Try.func13, Try.ntmps13
 go_wp2_with (first | ((with_reducible refine gate_dst (N := 2) rfl ?_); refine zX 2 #[.int .i64 a0_0, .slice A0_1 l0_1.length c0_1] 24 ?_; intro gb145 hg w4 hbox hb; have BK145 := Aside0.mk (hbox); have GW145 := zG HB hg; have GE145 := zG HB hg; replace HB := zS HB hb; clear hb hbox hg; obtain ⟨hcz5_0, hcz5_1, hfz5_0, hfz5_1⟩ := zD2 BK145) | ((with_reducible refine gate_callee (f := 12) rfl ?_); refine zL (some 11) Try.func12 #[.agg #[.int .i64 a0_0, .slice A0_1 l0_1.length c0_1], .int .i64 a1] ?_; (with_reducible refine (superstable_All.calls k a0_0 _ _ l0_1 a1 t146 t149 _ ?side1 ?side2 A3.out).mono ?_); (case side1 => exact Kd.C_below HR0_1.out zB); (case side2 => exact HC0_1.out); rintro e w6 ⟨v147, rfl, ho0, hb⟩; refine ⟨_, rfl, ?_⟩; have HO148 := Aside0.mk (Kd.N_lower (Kd.N_mono (ok' := fun k_ => k_ ≠ gb145) ho0 (fun k_ hk_ => (Kd.freshB (zK BK145) k_ hk_))) (below_size zB)); replace BK145 := zb BK145 hb; replace HB := zS HB hb; (try clear hb); (try clear ho0); obtain ⟨Ao7, co7, eo7⟩ := Kd.N_slice HO148.out; subst eo7))
 go_ret2
 exact ⟨zE, zB⟩
section
theorem root_small {N : Int} {E : List S66} {q : Int} (hf : fewB N E = true) (h : rootG N E q = 0) : ∃ n q' : Nat, N = n ∧ q = q' ∧ Small n q' E := by
 unfold rootG at h
 by_cases h0 : checkG N E = 0
 ·rw [if_pos h0] at h
  obtain ⟨h1, h12, hR⟩ := checkG_zero h0
  obtain ⟨n, rfl⟩ := Int.eq_ofNat_of_zero_le (show 0 ≤ N by omega)
  rw [Int.toNat_natCast] at h
  by_cases hp : partsOf E n = 1
  ·rw [if_pos hp] at h
   by_cases hq : 0 ≤ q ∧ q < (n : Int)
   ·obtain ⟨q', rfl⟩ := Int.eq_ofNat_of_zero_le hq.1
    unfold fewB at hf
    by_cases hl : E.length > 40
    ·rw [if_pos hl] at hf; cases hf
    ·rw [if_neg hl, if_pos h0] at hf
     by_cases h5 : (n : Int) ≤ 5
     ·rw [if_pos h5] at hf
      exact ⟨n, q', rfl, rfl, hR, (parts_conn (by omega) hR).1 hp, by omega, by omega, by omega, by omega, by simpa using hf⟩
     ·rw [if_neg h5] at hf; cases hf
   ·rw [if_neg hq] at h; exact absurd h (by decide)
  ·rw [if_neg hp] at h; exact absurd h (by decide)
 ·rw [if_neg h0] at h; exact absurd h h0
theorem few_len {N : Int} {E : List S66} (hf : fewB N E = true) : E.length ≤ 40 := by
 unfold fewB at hf
 by_cases hl : E.length > 40
 ·rw [if_pos hl] at hf; cases hf
 ·omega
theorem first_bad {N : Int} {E : List S66} {q : Int} (hE : E.length ≤ 1000) (h : rootG N E q ≠ 0) : Ev (fun k => superstable_first.f k N E q) (([] : List Int), rootG N E q) := by
 unfold superstable_first.f stabilize_Maximal.f
 refine Ev.bind (a := (([] : List Int), rootG N E q)) ?_ (Ev.const _)
 refine Ev.bind (rooted_ev N E q hE) ?_
 simp only [if_neg h]; exact Ev.const _
theorem all_bad_ev {N : Int} {E : List S66} {q : Int} (hE : E.length ≤ 1000) (h : rootG N E q ≠ 0) : Ev (fun k => superstable_All.f k N E q) (([] : List (List Int)), rootG N E q) := by
 unfold superstable_All.f
 refine Ev.bind (first_bad hE h) ?_
 simp only [if_neg h]; exact Ev.const _
namespace Small
variable {n q : Nat} {E : List S66}
theorem list_ok (h : Small n q E) : okList n E = true := by
 unfold okList
 rw [h.right.mults h.len, h.right.inB]; rfl
theorem first_ev (h : Small n q E) (hr : rootG n E q = 0) : Ev (fun k => superstable_first.f k n E q) (topTo (pileVal n E) q n n, (0 : Int)) := by
 unfold superstable_first.f stabilize_Maximal.f
 refine Ev.bind (a := (topTo (pileVal n E) q n n, (0 : Int))) ?_ (Ev.const _)
 have := rooted_ev n E q (by have := h.len; omega)
 rw [hr] at this
 refine Ev.bind this ?_
 simp only [if_true, h.list_ok, Int.toNat_natCast]; exact Ev.const _
theorem superAll_ev (h : Small n q E) (hr : rootG n E q = 0) : Ev (fun k => superstable_All.f k n E q) (confs n E q, (0 : Int)) := by
 unfold superstable_All.f
 refine Ev.bind (h.first_ev hr) ?_
 simp only [if_true, Int.toNat_natCast, if_pos (show (confs n E q).length ≤ 16384 by have := h.confs_le; omega)]; exact Ev.const _
theorem conf_mem (h : Small n q E) {c : List Int} (hc : c ∈ confs n E q) : c.length = n ∧ ∀ v : Nat, 0 ≤ rd c v ∧ rd c v ≤ 8 := by
 rw [h.confs_eq] at hc
 have h1 := (List.mem_filter.1 hc).1
 have hl := stabB_len _ _ _ h1
 have key : ∀ (m : Nat) (l : List Int), l ∈ stabB (mostOf E n q) m → ∀ v : Nat, 0 ≤ rd l v ∧ rd l v ≤ 8 := by
  intro m
  induction m with
  | zero => intro l hl v; simp [stabB] at hl; subst hl; simp [rd]
  | succ m ih =>
   intro l hl v
   simp only [stabB, stepB, List.mem_flatMap, List.mem_map, List.mem_range] at hl
   obtain ⟨p, hp, x, hx, rfl⟩ := hl
   have h2 := ih p hp v
   have hm := h.most_le m
   have hpl := stabB_len _ _ _ hp
   simp only [rd, Int.toNat_natCast, List.getD_eq_getElem?_getD] at h2 ⊢
   rcases Nat.lt_trichotomy v p.length with h3 | h3 | h3
   ·rw [List.getElem?_append_left h3]; exact h2
   ·rw [h3, List.getElem?_append_right (Nat.le_refl _), Nat.sub_self]; simp; omega
   ·rw [List.getElem?_eq_none (by simp; omega)]; simp
 exact ⟨hl, key n c h1⟩
end Small
theorem order_l0 (c : List Int) (hc : c.length ≤ 1000) : ∀ (m i : Nat), i + m = c.length → Ev (fun k => sandpileref17_Order.l0 k c c i) 0
 | 0, i, hi => by
  refine Ev.of_succ ?_
  simp only [sandpileref17_Order.l0, if_neg (show ¬ ((i : Int) < (c.length : Int)) by omega)]
  exact Ev.const _
 | m + 1, i, hi => by
  have ih := order_l0 c hc m (i + 1) (by omega)
  refine Ev.of_succ ?_
  simp only [sandpileref17_Order.l0, if_pos (show (i : Int) < (c.length : Int) by omega), if_pos (show (0 : Int) ≤ (i : Int) by omega), if_neg (show ¬ rd c i < rd c i by omega), if_neg (show ¬ rd c i > rd c i by omega), wrap_succ (show i ≤ 1000000 by omega)]
  exact ih
theorem same_ev (c : List Int) (hc : c.length ≤ 1000) : Ev (fun k => sandpileref17_Same.f k c c) true := by
 unfold sandpileref17_Same.f
 simp only [if_true]
 refine Ev.bind (a := (0 : Int)) ?_ (Ev.const _)
 unfold sandpileref17_Order.f
 exact order_l0 c hc c.length 0 (by omega)
theorem sameAll_l0 (l : List (List Int)) (hl : l.length ≤ 100000) (hx : ∀ i : Nat, i < l.length → (rd_L2 l i).length ≤ 1000) : ∀ (m i : Nat), i + m = l.length → Ev (fun k => sandpileref17_SameAll.l0 k l l i) true
 | 0, i, hi => by
  refine Ev.of_succ ?_
  simp only [sandpileref17_SameAll.l0, if_neg (show ¬ ((i : Int) < (l.length : Int)) by omega)]
  exact Ev.const _
 | m + 1, i, hi => by
  have ih := sameAll_l0 l hl hx m (i + 1) (by omega)
  refine Ev.of_succ ?_
  simp only [sandpileref17_SameAll.l0, if_pos (show (i : Int) < (l.length : Int) by omega), if_pos (show (0 : Int) ≤ (i : Int) by omega), wrap_succ (show i ≤ 1000000 by omega)]
  refine Ev.bind (same_ev _ (hx i (by omega))) ?_
  simp only [if_true]
  exact ih
theorem sameAll_ev (l : List (List Int)) (hl : l.length ≤ 100000) (hx : ∀ i : Nat, i < l.length → (rd_L2 l i).length ≤ 1000) : Ev (fun k => sandpileref17_SameAll.f k l l) true := by
 unfold sandpileref17_SameAll.f
 simp only [if_true]
 exact sameAll_l0 l hl hx l.length 0 (by omega)
end
def sumE (f : S66 → Int) : List S66 → Int
 | [] => 0
 | x :: E => f x + sumE f E
theorem sumE_congr {f g : S66 → Int} : ∀ {E : List S66}, (∀ x ∈ E, f x = g x) → sumE f E = sumE g E
 | [], _ => rfl
 | x :: E, h => by rw [sumE, sumE, h x (List.mem_cons_self ..), sumE_congr fun y hy => h y (List.mem_cons_of_mem _ hy)]
theorem sumE_add (f g : S66 → Int) : ∀ E, sumE (fun x => f x + g x) E = sumE f E + sumE g E
 | [] => rfl
 | x :: E => by rw [sumE, sumE, sumE, sumE_add f g E]; omega
theorem sumE_zero {f : S66 → Int} : ∀ {E : List S66}, (∀ x ∈ E, f x = 0) → sumE f E = 0
 | [], _ => rfl
 | x :: E, h => by rw [sumE, h x (List.mem_cons_self ..), sumE_zero fun y hy => h y (List.mem_cons_of_mem _ hy)]; rfl
theorem btw_sum (a b : Int) : ∀ {E : List S66}, E.Pairwise Before → btw E a b = sumE (fun x => if x.f0 = min a b ∧ x.f1 = max a b then x.f2 else 0) E
 | [], _ => rfl
 | x :: E, h => by
  obtain ⟨h1, h2⟩ := List.pairwise_cons.1 h
  rw [btw_cons, sumE]
  by_cases hx : x.f0 = min a b ∧ x.f1 = max a b
  ·rw [if_pos hx, if_pos hx, sumE_zero]
   ·omega
   ·intro y hy
    rw [if_neg]
    have := h1 y hy
    unfold Before at this
    omega
  ·rw [if_neg hx, if_neg hx, btw_sum a b h2]; omega
def c1 (v : Nat) (x : Nat × Int × Int) : Int := if x.2.1 = x.2.2 then 0 else (if x.2.1.toNat = v then 1 else 0) + (if x.2.2.toNat = v then 1 else 0)
def sandpileref17_In.f (a0 : Int) : Option (Bool) := if a0 ≥ (-1048576) then (some (decide (a0 ≤ 1048576))) else (some false)
mutual
def sandpileref17_Check.j0 : Nat → List Int → Int → Bool → Option (Int)
 | 0, _, _, _ => none
 | k + 1, x0, x1, x11 => if x11 = true then (some 2) else (if (x0.length : Int) = x1 then (sandpileref17_Check.l0 k x0 x1 0) else (some 8))
def sandpileref17_Check.l0 : Nat → List Int → Int → Int → Option (Int)
 | 0, _, _, _ => none
 | k + 1, x0, x1, x5 => if x5 < x1 then (if 0 ≤ x5 then (if x5 < (x0.length : Int) then ((sandpileref17_In.f (rd x0 x5)).bind fun t307 => (if t307 = true then (sandpileref17_Check.l0 k x0 x1 (wrap64 (x5 + 1))) else (some 2))) else (none)) else (none)) else (some 0)
end
def chipB (x : Int) : Bool := decide (-1048576 ≤ x) && decide (x ≤ 1048576)
def rngF : List Int → Int
 | [] => 0
 | x :: l => if chipB x = true then rngF l else 2
def negF (q : Int) : Nat → List Int → Int
 | _, [] => 0
 | i, x :: l => if (i : Int) = q then negF q (i + 1) l else if x < 0 then 2 else negF q (i + 1) l
def errC (N : Int) (E : List S66) (q : Int) (c : List Int) : Int :=
 if rootG N E q = 0 then (if (c.length : Int) = N then (if rngF c = 0 then negF q 0 c else rngF c) else 8) else rootG N E q
def err23 (N : Int) (E : List S66) (q : Int) (c : List Int) : Int := if errC N E q c = 0 then (if rd c q = 0 then 0 else 3) else errC N E q c
theorem within_eq (x : Int) : chips_within.f x = some (chipB x) := by
 unfold chips_within.f chipB
 by_cases h : x ≥ -1048576
 ·rw [if_pos h, decide_eq_true (show -1048576 ≤ x from h), Bool.true_and]
 ·rw [if_neg h, decide_eq_false (show ¬ -1048576 ≤ x from h), Bool.false_and]
theorem chk_l0 (c : List Int) (hc : c.length ≤ 1000) : ∀ (m i : Nat), i + m = c.length → Ev (fun k => chips_Check.l0 k c c.length i) (rngF (c.drop i))
 | 0, i, hi => by
  refine Ev.of_succ ?_
  simp only [chips_Check.l0, if_neg (show ¬ (i : Int) < c.length by omega), List.drop_eq_nil_of_le (show c.length ≤ i by omega), rngF]
  exact Ev.const _
 | m + 1, i, hi => by
  refine Ev.of_succ ?_
  simp only [chips_Check.l0, if_pos (show (i : Int) < c.length by omega), if_pos (show (0 : Int) ≤ i by omega), within_eq, Option.bind_some, wrap_succ (show i ≤ 1000000 by omega)]
  rw [rd_drop (by omega), rngF]
  by_cases h : chipB (rd c i) = true
  ·simp only [if_pos h]; exact chk_l0 c hc m (i + 1) (by omega)
  ·simp only [if_neg h]; exact Ev.const _
theorem neg_l0 (q : Int) (c : List Int) (hc : c.length ≤ 1000) : ∀ (m i : Nat), i + m = c.length → Ev (fun k => stabilize_Check.l0 k q c c.length i) (negF q i (c.drop i))
 | 0, i, hi => by
  refine Ev.of_succ ?_
  simp only [stabilize_Check.l0, if_neg (show ¬ (i : Int) < c.length by omega), List.drop_eq_nil_of_le (show c.length ≤ i by omega), negF]
  exact Ev.const _
 | m + 1, i, hi => by
  refine Ev.of_succ ?_
  have ih := neg_l0 q c hc m (i + 1) (by omega)
  simp only [stabilize_Check.l0, if_pos (show (i : Int) < c.length by omega), if_pos (show (0 : Int) ≤ i by omega), wrap_succ (show i ≤ 1000000 by omega)]
  rw [rd_drop (by omega), negF]
  by_cases h : (i : Int) = q
  ·simp only [if_pos h]; exact ih
  ·simp only [if_neg h]
   by_cases h2 : rd c i < 0
   ·simp only [if_pos h2]; exact Ev.const _
   ·simp only [if_neg h2]; exact ih
theorem root_range {N : Int} {E : List S66} {q : Int} (h : rootG N E q = 0) : 1 ≤ N ∧ N ≤ 12 ∧ 0 ≤ q ∧ q < N := by
 unfold rootG at h
 by_cases hc : checkG N E = 0
 ·rw [if_pos hc] at h
  obtain ⟨h1, h2, _⟩ := checkG_zero hc
  by_cases hp : partsOf E N.toNat = 1
  ·rw [if_pos hp] at h
   by_cases hq : 0 ≤ q ∧ q < N
   ·exact ⟨h1, h2, hq⟩
   ·rw [if_neg hq] at h; exact absurd h (by decide)
  ·rw [if_neg hp] at h; exact absurd h (by decide)
 ·rw [if_neg hc] at h; exact absurd h hc
theorem chips_ev (c : List Int) (N : Int) (hN : 1 ≤ N ∧ N ≤ 12) : Ev (fun k => chips_Check.f k c N) (if (c.length : Int) = N then rngF c else 8) := by
 unfold chips_Check.f chips_vertices.f
 simp only [if_neg (show ¬ N < 1 by omega), if_neg (show ¬ N > 12 by omega), Option.bind_some, if_true]
 by_cases h : (c.length : Int) = N
 ·simp only [if_pos h]
  exact chk_l0 c (by omega) c.length 0 (by omega)
 ·simp only [if_neg h]; exact Ev.const _
theorem stCheck_ev (N : Int) (E : List S66) (q : Int) (c : List Int) (hE : E.length ≤ 1000) : Ev (fun k => stabilize_Check.f k N E q c) (errC N E q c) := by
 unfold stabilize_Check.f errC
 refine Ev.bind (rooted_ev N E q hE) ?_
 by_cases hr : rootG N E q = 0
 ·have hN := root_range hr
  simp only [if_pos hr]
  refine Ev.bind (chips_ev c N ⟨hN.1, hN.2.1⟩) ?_
  by_cases h : (c.length : Int) = N
  ·simp only [if_pos h]
   by_cases h2 : rngF c = 0
   ·simp only [if_pos h2]
    exact neg_l0 q c (by omega) c.length 0 (by omega)
   ·simp only [if_neg h2]; exact Ev.const _
  ·simp only [if_neg h]; exact Ev.const _
 ·simp only [if_neg hr]; exact Ev.const _
theorem errC_zero {N : Int} {E : List S66} {q : Int} {c : List Int} (h : errC N E q c = 0) : rootG N E q = 0 ∧ (c.length : Int) = N ∧ rngF c = 0 ∧ negF q 0 c = 0 := by
 unfold errC at h
 by_cases hr : rootG N E q = 0
 ·rw [if_pos hr] at h
  by_cases hl : (c.length : Int) = N
  ·rw [if_pos hl] at h
   by_cases h2 : rngF c = 0
   ·rw [if_pos h2] at h; exact ⟨hr, hl, h2, h⟩
   ·rw [if_neg h2] at h; exact absurd h h2
  ·rw [if_neg hl] at h; exact absurd h (by decide)
 ·rw [if_neg hr] at h; exact absurd h hr
theorem burnCheck_ev (N : Int) (E : List S66) (q : Int) (c : List Int) (hE : E.length ≤ 1000) : Ev (fun k => burning_check.f k N E q c) (err23 N E q c) := by
 unfold burning_check.f err23
 refine Ev.bind (stCheck_ev N E q c hE) ?_
 by_cases h : errC N E q c = 0
 ·obtain ⟨hr, hl, _, _⟩ := errC_zero h
  have hN := root_range hr
  simp only [if_pos h, if_pos hN.2.2.1, if_pos (show q < c.length by omega)]
  by_cases h2 : rd c q = 0
  ·simp only [if_pos h2]; exact Ev.const _
  ·simp only [if_neg h2]; exact Ev.const _
 ·simp only [if_neg h]; exact Ev.const _
theorem rngF_zero : ∀ {c : List Int}, rngF c = 0 → ∀ x ∈ c, -1048576 ≤ x ∧ x ≤ 1048576
 | [], _, x, hx => absurd hx (by simp)
 | y :: c, h, x, hx => by
  rw [rngF] at h
  by_cases hy : chipB y = true
  ·rw [if_pos hy] at h
   simp [chipB] at hy
   rcases List.mem_cons.1 hx with rfl | hx
   ·exact hy
   ·exact rngF_zero h x hx
  ·rw [if_neg hy] at h; exact absurd h (by decide)
theorem negF_zero (q : Int) : ∀ {c : List Int} {i : Nat}, negF q i c = 0 → ∀ j : Nat, j < c.length → ((i + j : Nat) : Int) ≠ q → 0 ≤ rd c j
 | [], i, _, j, hj, _ => absurd hj (by simp)
 | y :: c, i, h, j, hj, hjq => by
  rw [negF] at h
  by_cases hi : (i : Int) = q
  ·rw [if_pos hi] at h
   cases j with
   | zero => exact absurd hi hjq
   | succ j =>
    have := negF_zero q h j (by simpa using hj) (by rw [show i + 1 + j = i + (j + 1) by omega]; exact hjq)
    simpa [rd, List.getD_eq_getElem?_getD] using this
  ·rw [if_neg hi] at h
   by_cases hy : y < 0
   ·rw [if_pos hy] at h; exact absurd h (by decide)
   ·rw [if_neg hy] at h
    cases j with
    | zero => simp [rd, List.getD_eq_getElem?_getD]; omega
    | succ j =>
     have := negF_zero q h j (by simpa using hj) (by rw [show i + 1 + j = i + (j + 1) by omega]; exact hjq)
     simpa [rd, List.getD_eq_getElem?_getD] using this
structure GoodC (n q : Nat) (c : List Int) : Prop where
 len : c.length = n
 pos : ∀ v : Nat, 0 ≤ rd c v
 up : ∀ v : Nat, rd c v ≤ 1048576
 sink : rd c q = 0
theorem rd_out {c : List Int} {v : Nat} (h : c.length ≤ v) : rd c v = 0 := by simp [rd, List.getD_eq_getElem?_getD, List.getElem?_eq_none h]
theorem err23_good {n q : Nat} {E : List S66} {c : List Int} (h : err23 n E q c = 0) : rootG n E q = 0 ∧ GoodC n q c := by
 unfold err23 at h
 by_cases he : errC n E q c = 0
 ·rw [if_pos he] at h
  by_cases hq : rd c q = 0
  ·obtain ⟨h1, h2, h3, h4⟩ := errC_zero he
   refine ⟨h1, ⟨by omega, fun v => ?_, fun v => ?_, hq⟩⟩
   ·by_cases hv : v < c.length
    ·by_cases e : v = q
     ·subst e; omega
     ·exact negF_zero q h4 v hv (by omega)
    ·rw [rd_out (by omega)]; exact Int.le_refl _
   ·by_cases hv : v < c.length
    ·have := rngF_zero h3 c[v] (List.getElem_mem _)
     simp only [rd, Int.toNat_natCast, List.getD_eq_getElem?_getD, List.getElem?_eq_getElem hv, Option.getD_some]; omega
    ·rw [rd_out (by omega)]; decide
  ·rw [if_neg hq] at h; exact absurd h (by decide)
 ·rw [if_neg he] at h; exact absurd h he
theorem burn_ev {n q : Nat} {E : List S66} {c : List Int} (hE : E.length ≤ 1000) (hn : n ≤ 12) (hin : edgesInB n E = true) (h : err23 n E q c = 0) : Ev (fun k => burning_Superstable.f k n E q c) (superB n (timesOf E) q c, (0 : Int)) := by
 obtain ⟨hr, hg⟩ := err23_good h
 have hl := hg.len
 have hq := root_range hr
 unfold burning_Superstable.f burning_Burn.f
 have hb := burnCheck_ev n E q c hE
 rw [h] at hb
 have hw : rightConf n E q c = true := by simp only [rightConf, Bool.and_eq_true, decide_eq_true_eq]; exact ⟨by omega, hin⟩
 refine Ev.bind (a := ((q : Int) :: (fireOf n E q c).map Int.ofNat, unbTo (burnAll (sinkOnly q) (fireOf n E q c)) n, (0 : Int))) ?_ ?_
 ·refine Ev.bind hb ?_
  simp only [if_true, hw, Int.toNat_natCast]
  exact Ev.const _
 ·simp only [if_true]
  have hx := burnt_all (burnAll (sinkOnly q) (fireOf n E q c)) n
  have e : (((unbTo (burnAll (sinkOnly q) (fireOf n E q c)) n).length : Int) == 0) = superB n (timesOf E) q c := by
   rw [Bool.eq_iff_iff]
   unfold superB
   rw [show fireList n (catchB n (timesOf E) c) (sinkOnly q) = fireOf n E q c from rfl, ← hx]
   simp
  rw [e]
  exact Ev.const _
end Go.Proofs.Ytffdiakgjakngaa.P
