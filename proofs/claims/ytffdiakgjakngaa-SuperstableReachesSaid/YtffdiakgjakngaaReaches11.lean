/- A part of the proof that SuperstableReaches answers true (text 11 of 12): own walks and plain laws; no conditions. -/
import Derived.Test.YtffdiakgjakngaaReaches10
namespace Go.Proofs.Ytffdiakgjakngaa.P
open Go.RowKit Go.Proofs.YtffdiakgjakngaaW.PrintWords Go.Proofs.YtffdiakgjakngaaW.PrintLast Go.Proofs.YtffdiakgjakngaaW.PrintMore
set_option linter.unusedVariables false
set_option linter.unusedSimpArgs false
set_option maxHeartbeats 8000000
set_option maxRecDepth 100000
mutual
def sandpileref23_Subsets.l0 : Nat → Int → Int → Int → List (S66) → Option ((List (List Int)))
 | 0, _, _, _, _ => none
 | k + 1, x3, x4, x215000, x215001 => if x4 < x215000 then (sandpileref23_Subsets.l0 k (wrap64 (2 * x3)) (wrap64 (x4 + 1)) x215000 x215001) else (sandpileref23_Subsets.l1 k x3 ([] : List (List Int)) 0 x215000 x215001)
def sandpileref23_Subsets.l1 : Nat → Int → List (List Int) → Int → Int → List (S66) → Option ((List (List Int)))
 | 0, _, _, _, _, _ => none
 | k + 1, x3, x5, x6, x215000, x215001 => if x6 < x3 then ((sandpileref23_members.f k x215000 x6).bind fun t215 => (if x5.length < 5864062014805 then (sandpileref23_Subsets.l1 k x3 (x5 ++ [t215]) (wrap64 (x6 + 1)) x215000 x215001) else (none))) else (some x5)
end
def sandpileref23_Subsets.f (k : Nat) (a0_0 : Int) (l0_1 : List (S66)) : Option ((List (List Int))) := sandpileref23_Subsets.l0 k 1 0 a0_0 l0_1
def sandpileref08_Holds.l0 : Nat → List Int → Int → Int → Option (Bool)
 | 0, _, _, _ => none
 | k + 1, x0, x1, x5 => if x5 < (x0.length : Int) then (if 0 ≤ x5 then (if (rd x0 x5) = x1 then (some true) else (sandpileref08_Holds.l0 k x0 x1 (wrap64 (x5 + 1)))) else (none)) else (some false)
def sandpileref08_Holds.f (k : Nat) (l0 : List Int) (a1 : Int) : Option (Bool) := sandpileref08_Holds.l0 k l0 a1 0
def sandpileref18_Out.l0 : Nat → List Int → Int → Int → Int → Int → List (S66) → Option (Int)
 | 0, _, _, _, _, _, _ => none
 | k + 1, x1, x2, x7, x8, x223000, x223001 => if x8 < x223000 then ((sandpileref08_Holds.f k x1 x8).bind fun t223 => (if t223 = true then (sandpileref18_Out.l0 k x1 x2 x7 (wrap64 (x8 + 1)) x223000 x223001) else ((sandpileref08_Between.f k x223000 x223001 x2 x8).bind fun t224 => (sandpileref18_Out.l0 k x1 x2 (wrap64 (x7 + t224)) (wrap64 (x8 + 1)) x223000 x223001)))) else (some x7)
def sandpileref18_Out.f (k : Nat) (a0_0 : Int) (l0_1 : List (S66)) (l1 : List Int) (a2 : Int) : Option (Int) := sandpileref18_Out.l0 k l1 a2 0 0 a0_0 l0_1
def sandpileref18_MaySet.l0 : Nat → List Int → List Int → Int → Int → Int → List (S66) → Option (Bool)
 | 0, _, _, _, _, _, _ => none
 | k + 1, x1, x2, x7, x8, x226000, x226001 => if x8 < (x2.length : Int) then (if 0 ≤ x8 then ((sandpileref18_Out.f k x226000 x226001 x2 (rd x2 x8)).bind fun t227 => (if 0 ≤ (rd x2 x8) then (if (rd x2 x8) < (x1.length : Int) then (if (rd x1 (rd x2 x8)) < t227 then (some false) else (sandpileref18_MaySet.l0 k x1 x2 (wrap64 (x7 + t227)) (wrap64 (x8 + 1)) x226000 x226001)) else (none)) else (none))) else (none)) else (some (decide (x7 > 0)))
def sandpileref18_MaySet.f (k : Nat) (a0_0 : Int) (l0_1 : List (S66)) (l1 : List Int) (l2 : List Int) : Option (Bool) := sandpileref18_MaySet.l0 k l1 l2 0 0 a0_0 l0_1
def sandpileref23_Blocking.f (k : Nat) (a0_0 : Int) (l0_1 : List (S66)) (a1 : Int) (l2 : List Int) (l3 : List Int) : Option (Bool) := if (l3.length : Int) > 0 then ((sandpileref08_Holds.f k l3 a1).bind fun t231 => (if t231 = true then (some false) else ((sandpileref18_MaySet.f k a0_0 l0_1 l2 l3).bind fun t232 => (some t232)))) else (some false)
def sandpileref23_Is.l0 : Nat → Int → List Int → List (List Int) → Int → Int → List (S66) → Option (Bool)
 | 0, _, _, _, _, _, _ => none
 | k + 1, x1, x2, x7, x8, x234000, x234001 => if x8 < (x7.length : Int) then (if 0 ≤ x8 then ((sandpileref23_Blocking.f k x234000 x234001 x1 x2 (rd_L2 x7 x8)).bind fun t238 => (if t238 = true then (some false) else (sandpileref23_Is.l0 k x1 x2 x7 (wrap64 (x8 + 1)) x234000 x234001))) else (none)) else (some true)
def sandpileref23_Is.f (k : Nat) (a0_0 : Int) (l0_1 : List (S66)) (a1 : Int) (l2 : List Int) : Option (Bool) := (sandpileref23_Subsets.f k a0_0 l0_1).bind fun t234 => (sandpileref23_Is.l0 k a1 l2 t234 0 a0_0 l0_1)
theorem rd_drop {l : List Int} {i : Nat} (h : i < l.length) : l.drop i = rd l i :: l.drop (i + 1) := by
 rw [List.drop_eq_getElem_cons h]
 simp [rd, List.getD_eq_getElem?_getD, List.getElem?_eq_getElem h]
def memF : Nat → Nat → Nat → List Int
 | 0, _, _ => []
 | m + 1, i, d => (if d % 2 = 1 then [(i : Int)] else []) ++ memF m (i + 1) (d / 2)
def subsetsOf (n : Nat) : List (List Int) := (List.range (2 ^ n)).map (memF n 0)
def outN (E : List S66) (s : List Int) (v : Int) : Nat → Int
 | 0 => 0
 | u + 1 => outN E s v u + (if (u : Int) ∈ s then 0 else btw E v u)
theorem outN_bound {N : Int} {E : List S66} (h : RightE N E) (s : List Int) (v : Int) : ∀ u : Nat, 0 ≤ outN E s v u ∧ outN E s v u ≤ 50 * u
 | 0 => by simp [outN]
 | u + 1 => by
  have h1 := outN_bound h s v u
  have h2 := btw_nonneg h v u
  simp only [outN]
  split <;> omega
def mayFrom (E : List S66) (n : Nat) (c s : List Int) : Int → List Int → Bool
 | a, [] => decide (a > 0)
 | a, v :: l => if rd c v < outN E s v n then false else mayFrom E n c s (a + outN E s v n) l
def blockB (E : List S66) (n : Nat) (q : Int) (c s : List Int) : Bool := decide (0 < s.length) && !decide (q ∈ s) && mayFrom E n c s 0 s
theorem memF_mem : ∀ {m i d : Nat} {x : Int}, x ∈ memF m i d ↔ ∃ j : Nat, j < m ∧ x = ((i + j : Nat) : Int) ∧ d.testBit j = true
 | 0, i, d, x => by simp [memF]
 | m + 1, i, d, x => by
  rw [memF, List.mem_append, memF_mem (m := m)]
  constructor
  ·rintro (h | ⟨j, hj, h1, h2⟩)
   ·split at h
    ·rename_i h1
     simp at h
     exact ⟨0, by omega, by simpa using h, by rw [Nat.testBit_zero]; simpa using h1⟩
    ·simp at h
   ·exact ⟨j + 1, by omega, by rw [h1]; congr 1; omega, by rw [Nat.testBit_succ]; exact h2⟩
  ·rintro ⟨j, hj, h1, h2⟩
   cases j with
   | zero =>
    left
    rw [Nat.testBit_zero] at h2
    rw [if_pos (by simpa using h2)]
    simpa using h1
   | succ j => exact .inr ⟨j, by omega, by rw [h1]; congr 1; omega, by rw [Nat.testBit_succ] at h2; exact h2⟩
def isB (E : List S66) (n : Nat) (q : Int) (c : List Int) : Bool := (subsetsOf n).all fun s => !blockB E n q c s
theorem bits_of (S : Nat → Bool) : ∀ n, ∃ d, d < 2 ^ n ∧ ∀ j, j < n → d.testBit j = S j
 | 0 => ⟨0, by simp, fun j hj => by omega⟩
 | n + 1 => by
  obtain ⟨d, hd, h⟩ := bits_of (fun j => S (j + 1)) n
  refine ⟨(if S 0 then 1 else 0) + 2 * d, ?_, fun j hj => ?_⟩
  ·rw [Nat.pow_succ]; split <;> omega
  ·cases j with
   | zero =>
    rw [Nat.testBit_zero]
    cases hs : S 0 <;> simp <;> omega
   | succ j =>
    rw [Nat.testBit_succ, show ((if S 0 then 1 else 0) + 2 * d) / 2 = d by split <;> omega]
    exact h j (by omega)
theorem outN_flames {n : Nat} {E : List S66} (hR : RightE n E) (s : List Int) (v : Nat) (hv : (v : Int) ∈ s) : ∀ u, outN E s v u = flamesTo (timesOf E) (fun u => !decide ((u : Int) ∈ s)) v u
 | 0 => rfl
 | u + 1 => by
  rw [outN, flamesTo, outN_flames hR s v hv u]
  congr 1
  by_cases h : (u : Int) ∈ s
  ·simp [h]
  ·have hne : v ≠ u := fun e => by subst e; exact h hv
   simp only [if_neg h, h, decide_false, Bool.not_false, if_true]
   exact (times_btw hR v u hne).symm
theorem mayFrom_iff (E : List S66) (n : Nat) (c s : List Int) : ∀ (l : List Int) (a : Int), mayFrom E n c s a l = true ↔ (∀ v ∈ l, outN E s v n ≤ rd c v) ∧ 0 < a + (l.map fun v => outN E s v n).sum
 | [], a => by simp [mayFrom]
 | v :: l, a => by
  rw [mayFrom]
  by_cases h : rd c v < outN E s v n
  ·rw [if_pos h]
   simp; intro h2; omega
  ·rw [if_neg h, mayFrom_iff E n c s l]
   simp only [List.mem_cons, forall_eq_or_imp, List.map_cons, List.sum_cons]
   constructor
   ·rintro ⟨h1, h2⟩; exact ⟨⟨by omega, h1⟩, by omega⟩
   ·rintro ⟨⟨_, h1⟩, h2⟩; exact ⟨h1, by omega⟩
theorem sum_pos {f : Int → Int} : ∀ {l : List Int}, (∀ v ∈ l, 0 ≤ f v) → (∃ v ∈ l, 0 < f v) → 0 < (l.map f).sum
 | [], _, ⟨v, hv, _⟩ => by simp at hv
 | x :: l, h0, ⟨v, hv, h1⟩ => by
  have hx := h0 x (List.mem_cons_self ..)
  have hl : ∀ v ∈ l, 0 ≤ f v := fun v hv => h0 v (List.mem_cons_of_mem _ hv)
  have hs : 0 ≤ (l.map f).sum := by
   clear h1 hv h0 hx
   induction l with
   | nil => simp
   | cons y l ih =>
    have := ih (fun v hv => hl v (List.mem_cons_of_mem _ hv))
    have := hl y (List.mem_cons_self ..)
    simp only [List.map_cons, List.sum_cons]; omega
  simp only [List.map_cons, List.sum_cons]
  rcases List.mem_cons.1 hv with rfl | hv
  ·omega
  ·have := sum_pos hl ⟨v, hv, h1⟩
   omega
theorem is_iff {n q : Nat} {E : List S66} (hR : RightE n E) (hC : EConn n E) (hq : q < n) (c : List Int) : isB E n q c = true ↔ NoBlock n (timesOf E) q (fun v => rd c v) := by
 unfold isB
 rw [List.all_eq_true]
 constructor
 ·intro h S hS hSq
  obtain ⟨d, hd, hb⟩ := bits_of S n
  have hmem : ∀ v : Nat, v < n → ((v : Int) ∈ memF n 0 d ↔ S v = true) := fun v hv => by
   rw [memF_mem]
   constructor
   ·rintro ⟨j, hj, h1, h2⟩
    rw [hb j hj] at h2
    rw [show v = j by omega]; exact h2
   ·intro h1; exact ⟨v, hv, by simp, by rw [hb v hv]; exact h1⟩
  have h1 := h (memF n 0 d) (List.mem_map.2 ⟨d, List.mem_range.2 hd, rfl⟩)
  generalize hs : memF n 0 d = s at h1 hmem
  have hsn : ∀ v ∈ s, ∃ j : Nat, j < n ∧ v = (j : Int) := fun v hv => by
   rw [← hs] at hv
   obtain ⟨j, hj, h2, _⟩ := memF_mem.1 hv
   exact ⟨j, hj, by simpa using h2⟩
  obtain ⟨v0, hv0, hS0⟩ := hS
  have hne : 0 < s.length := List.length_pos_of_mem ((hmem v0 hv0).2 hS0)
  have hqs : ¬ ((q : Int) ∈ s) := fun h2 => by rw [(hmem q hq).1 h2] at hSq; cases hSq
  have hfl : ∀ v : Nat, v < n → (v : Int) ∈ s → outN E s v n = flamesTo (timesOf E) (fun u => !S u) v n := fun v hv hvs => by
   rw [outN_flames hR s v hvs n]
   refine flamesTo_congr v n fun u hu => ?_
   have := hmem u hu
   cases hSu : S u with
   | true => simp [this.2 hSu]
   | false => simp [show ¬ ((u : Int) ∈ s) from fun h2 => by rw [this.1 h2] at hSu; cases hSu]
  unfold blockB at h1
  rw [decide_eq_true hne, decide_eq_false hqs, Bool.true_and, Bool.not_false, Bool.true_and, Bool.not_eq_true'] at h1
  have h2 := mt (mayFrom_iff E n c s s 0).2 (by rw [h1]; decide)
  by_cases h3 : ∀ v ∈ s, outN E s v n ≤ rd c v
  ·exfalso
   refine h2 ⟨h3, ?_⟩
   rw [Int.zero_add]
   refine sum_pos (fun v hv => (outN_bound hR s v n).1) ?_
   obtain ⟨x, hx, hxe⟩ := hC S ⟨v0, hv0, hS0⟩ ⟨q, hq, hSq⟩
   have hbx := btw_edge hR hx
   have hok := hR.ok x hx
   simp [edgeOk] at hok
   have hbig : ∀ (a b : Nat), a < n → b < n → S a = true → S b = false → btw E a b > 0 → ∃ v ∈ s, 0 < outN E s v n := fun a b ha hb2 hSa hSb hbt => by
    refine ⟨a, (hmem a ha).2 hSa, ?_⟩
    have hbs : ¬ ((b : Int) ∈ s) := fun h4 => by rw [(hmem b hb2).1 h4] at hSb; cases hSb
    have key : ∀ u, b < u → 0 < outN E s a u := fun u => by
     induction u with
     | zero => omega
     | succ u ih =>
      intro hu
      have hbd := outN_bound hR s a u
      have hb3 := btw_nonneg hR a u
      rw [outN]
      by_cases e : b = u
      ·subst e; rw [if_neg hbs]; omega
      ·have := ih (by omega)
       split <;> omega
    exact key n hb2
   have e0 : ((x.f0.toNat : Nat) : Int) = x.f0 := by omega
   have e1 : ((x.f1.toNat : Nat) : Int) = x.f1 := by omega
   cases hs0 : S x.f0.toNat with
   | true =>
    refine hbig x.f0.toNat x.f1.toNat (by omega) (by omega) hs0 ?_ (by rw [e0, e1]; exact hbx)
    cases hs1 : S x.f1.toNat with
    | false => rfl
    | true => rw [hs0, hs1] at hxe; exact absurd rfl hxe
   | false =>
    refine hbig x.f1.toNat x.f0.toNat (by omega) (by omega) ?_ hs0 (by rw [e0, e1, btw_comm]; exact hbx)
    cases hs1 : S x.f1.toNat with
    | true => rfl
    | false => rw [hs0, hs1] at hxe; exact absurd rfl hxe
  ·simp only [Classical.not_forall] at h3
   obtain ⟨v, hv, h4⟩ := h3
   obtain ⟨j, hj, rfl⟩ := hsn v hv
   refine ⟨j, hj, (hmem j hj).1 hv, ?_⟩
   rw [← hfl j hj hv]
   show rd c j < _
   omega
 ·intro h s hs
  obtain ⟨d, hd, rfl⟩ := List.mem_map.1 hs
  generalize hs2 : memF n 0 d = s
  have hsn : ∀ v ∈ s, ∃ j : Nat, j < n ∧ v = (j : Int) := fun v hv => by
   rw [← hs2] at hv
   obtain ⟨j, hj, h2, _⟩ := memF_mem.1 hv
   exact ⟨j, hj, by simpa using h2⟩
  unfold blockB
  by_cases hne : 0 < s.length
  ·by_cases hqs : (q : Int) ∈ s
   ·simp [hqs]
   ·rw [decide_eq_true hne, decide_eq_false hqs, Bool.true_and, Bool.not_false, Bool.true_and, Bool.not_eq_true', Bool.eq_false_iff]
    intro hm
    have h1 := ((mayFrom_iff E n c s s 0).1 hm).1
    obtain ⟨v0, hv0⟩ := List.exists_mem_of_length_pos hne
    obtain ⟨j0, hj0, rfl⟩ := hsn v0 hv0
    obtain ⟨v, hv, hSv, hlt⟩ := h (fun u => decide ((u : Int) ∈ s)) ⟨j0, hj0, by simpa using hv0⟩ (by simpa using hqs)
    have hvs : (v : Int) ∈ s := by simpa using hSv
    have h2 := h1 v hvs
    rw [outN_flames hR s v hvs n] at h2
    have hlt2 : rd c v < flamesTo (timesOf E) (fun u => !decide ((u : Int) ∈ s)) v n := hlt
    omega
  ·simp [show s.length = 0 by omega]
mutual
def sandpileref28_Stables.l0 : Nat → Int → List Int → List (List Int) → Int → Int → List (S66) → Option ((List (List Int)))
 | 0, _, _, _, _, _, _ => none
 | k + 1, x1, x5, x6, x7, x188000, x188001 => if x7 < x188000 then (if 0 ≤ x7 then (if x7 < (x5.length : Int) then (if x7 = x1 then (sandpileref28_Stables.j1 k x1 x5 x6 x7 0 x188000 x188001) else (sandpileref28_Stables.j1 k x1 x5 x6 x7 (rd x5 x7) x188000 x188001)) else (none)) else (none)) else (some x6)
def sandpileref28_Stables.j1 : Nat → Int → List Int → List (List Int) → Int → Int → Int → List (S66) → Option ((List (List Int)))
 | 0, _, _, _, _, _, _, _ => none
 | k + 1, x1, x5, x6, x7, x8, x188000, x188001 => sandpileref28_Stables.l1 k x1 x5 x6 x7 x8 ([] : List (List Int)) 0 x188000 x188001
def sandpileref28_Stables.l1 : Nat → Int → List Int → List (List Int) → Int → Int → List (List Int) → Int → Int → List (S66) → Option ((List (List Int)))
 | 0, _, _, _, _, _, _, _, _, _ => none
 | k + 1, x1, x5, x6, x7, x8, x9, x10, x188000, x188001 => if x10 < (x6.length : Int) then (sandpileref28_Stables.l2 k x1 x5 x6 x7 x8 x9 x10 0 x188000 x188001) else (sandpileref28_Stables.l0 k x1 x5 x9 (wrap64 (x7 + 1)) x188000 x188001)
def sandpileref28_Stables.l2 : Nat → Int → List Int → List (List Int) → Int → Int → List (List Int) → Int → Int → Int → List (S66) → Option ((List (List Int)))
 | 0, _, _, _, _, _, _, _, _, _, _ => none
 | k + 1, x1, x5, x6, x7, x8, x9, x10, x11, x188000, x188001 => if x11 ≤ x8 then ((some (([] : List Int) : List Int)).bind fun y198 => (if 0 ≤ x10 then (if x10 < (x6.length : Int) then (if y198.length + (rd_L2 x6 x10).length < 17592186044416 then ((some (y198 ++ (rd_L2 x6 x10) : List Int)).bind fun y202 => (if y202.length < 17592186044416 then (if x9.length < 5864062014805 then (sandpileref28_Stables.l2 k x1 x5 x6 x7 x8 (x9 ++ [(y202 ++ [x11])]) x10 (wrap64 (x11 + 1)) x188000 x188001) else (none)) else (none))) else (none)) else (none)) else (none))) else (sandpileref28_Stables.l1 k x1 x5 x6 x7 x8 x9 (wrap64 (x10 + 1)) x188000 x188001)
end
section
def valN (E : List S66) (v : Nat) : Nat → Int
 | 0 => 0
 | u + 1 => valN E v u + (if u = v then 0 else btw E u v)
def mostOf (E : List S66) (n q : Nat) (v : Nat) : Nat := if v = q then 0 else (valN E v n - 1).toNat
theorem sum_const {α : Type} (l : List α) (c : Nat) : (l.map fun _ => c).sum = l.length * c := by
 induction l with
 | nil => simp
 | cons x l ih => simp only [List.map_cons, List.sum_cons, ih, List.length_cons, Nat.succ_mul]; omega
def sumM : List S66 → Int
 | [] => 0
 | x :: E => x.f2 + sumM E
theorem sumM_append : ∀ (A B : List S66), sumM (A ++ B) = sumM A + sumM B
 | [], B => by simp [sumM]
 | x :: A, B => by rw [List.cons_append, sumM, sumM, sumM_append A B]; omega
theorem sizeTo_sum {N : Int} {E : List S66} (hR : RightE N E) : ∀ k, k ≤ E.length → ((sizeTo E k : Nat) : Int) = sumM (E.take k)
 | 0, _ => rfl
 | k + 1, hk => by
  have e : rd_T66 E k = E[k] := by simp [rd_T66, List.getD_eq_getElem?_getD, List.getElem?_eq_getElem (by omega : k < E.length)]
  have := hR.ok E[k] (List.getElem_mem _)
  simp [edgeOk] at this
  rw [List.take_succ_eq_append_getElem (by omega), sumM_append, ← sizeTo_sum hR k (by omega), sizeTo, e]
  simp only [sumM]
  omega
theorem btw_ge {E : List S66} (h : ∀ x ∈ E, 1 ≤ x.f2) (a b : Int) : 0 ≤ btw E a b := by
 unfold btw
 split
 ·rename_i x hx; have := h x (List.mem_of_find?_eq_some hx); omega
 ·omega
theorem valN_cons {x : S66} {E : List S66} (h : ∀ y ∈ x :: E, 1 ≤ y.f2) (v : Nat) : ∀ u : Nat, valN (x :: E) v u ≤ valN E v u + (if (∃ w : Nat, w < u ∧ w ≠ v ∧ x.f0 = min (w : Int) v ∧ x.f1 = max (w : Int) v) then x.f2 else 0)
 | 0 => by simp [valN]
 | u + 1 => by
  have ih := valN_cons h v u
  have hx := h x (List.mem_cons_self ..)
  have hg := btw_ge (fun y hy => h y (List.mem_cons_of_mem _ hy)) (u : Int) v
  have hsub : (if (∃ w : Nat, w < u ∧ w ≠ v ∧ x.f0 = min (w : Int) v ∧ x.f1 = max (w : Int) v) then x.f2 else 0) ≤ (if (∃ w : Nat, w < u + 1 ∧ w ≠ v ∧ x.f0 = min (w : Int) v ∧ x.f1 = max (w : Int) v) then x.f2 else 0) := by
   by_cases h1 : ∃ w : Nat, w < u ∧ w ≠ v ∧ x.f0 = min (w : Int) v ∧ x.f1 = max (w : Int) v
   ·obtain ⟨w, hw, h2⟩ := h1
    rw [if_pos ⟨w, hw, h2⟩, if_pos ⟨w, by omega, h2⟩]; exact Int.le_refl _
   ·rw [if_neg h1]; split <;> omega
  simp only [valN]
  by_cases e : u = v
  ·rw [if_pos e, if_pos e]; omega
  ·rw [if_neg e, if_neg e, btw_cons]
   by_cases hh : x.f0 = min (u : Int) v ∧ x.f1 = max (u : Int) v
   ·rw [if_pos hh, if_pos (show ∃ w : Nat, w < u + 1 ∧ w ≠ v ∧ x.f0 = min (w : Int) v ∧ x.f1 = max (w : Int) v from ⟨u, by omega, e, hh⟩)]
    rw [if_neg (show ¬ ∃ w : Nat, w < u ∧ w ≠ v ∧ x.f0 = min (w : Int) v ∧ x.f1 = max (w : Int) v from by rintro ⟨w, hw, hwv, h1, h2⟩; omega)] at ih
    omega
   ·rw [if_neg hh]; omega
theorem valN_le : ∀ {E : List S66}, (∀ y ∈ E, 1 ≤ y.f2) → ∀ v u : Nat, valN E v u ≤ sumM E
 | [], _, v, u => by
  have : ∀ u, valN [] v u = 0 := fun u => by
   induction u with
   | zero => rfl
   | succ u ih => simp [valN, ih, btw]
  simp [this, sumM]
 | x :: E, h, v, u => by
  have h1 := valN_cons h v u
  have h2 := valN_le (fun y hy => h y (List.mem_cons_of_mem _ hy)) v u
  have hx := h x (List.mem_cons_self ..)
  simp only [sumM]
  split at h1 <;> omega
theorem valOf_valN {n : Nat} {E : List S66} (hR : RightE n E) (v : Nat) : ∀ u, flamesTo (timesOf E) (fun u => !decide (u = v)) v u = valN E v u
 | 0 => rfl
 | u + 1 => by
  rw [flamesTo, valN, valOf_valN hR v u]
  congr 1
  by_cases h : u = v
  ·simp [h]
  ·simp only [h, decide_false, Bool.not_false, if_true, if_neg h]
   rw [times_btw hR v u (fun e => h e.symm), btw_comm]; simp
theorem leq_rd : ∀ {a b : List Int} (v : Nat), Leq a b → rd a v ≤ rd b v
 | [], [], v, _ => Int.le_refl _
 | x :: a, y :: b, 0, h => by simpa [rd] using h.1
 | x :: a, y :: b, v + 1, h => by
  have := leq_rd v h.2
  simpa [rd] using this
 | [], y :: b, v, h => h.elim
 | x :: a, [], v, h => h.elim
theorem stabB_bound {most : Nat → Nat} {q : Nat} (hq : most q = 0) (hm : ∀ v, most v ≤ 7) : ∀ v : Nat, (stabB most v).length ≤ 8 ^ (v - (if q < v then 1 else 0))
 | 0 => by simp [stabB]
 | v + 1 => by
  have ih := stabB_bound hq hm v
  have hlen : (stabB most (v + 1)).length = (stabB most v).length * (most v + 1) := by
   show (stepB most v (stabB most v)).length = _
   unfold stepB
   rw [List.length_flatMap]
   simp only [List.length_map, List.length_range]
   exact sum_const _ _
  rw [hlen]
  by_cases e : q = v
  ·subst e
   rw [hq, if_pos (by omega)]
   rw [if_neg (by omega)] at ih
   simpa using ih
  ·by_cases h : q < v
   ·rw [if_pos h] at ih
    rw [if_pos (by omega), show v + 1 - 1 = (v - 1) + 1 by omega, Nat.pow_succ]
    exact Nat.mul_le_mul ih (by have := hm v; omega)
   ·rw [if_neg h] at ih
    rw [if_neg (by omega), show v + 1 - 0 = (v - 0) + 1 by omega, Nat.pow_succ]
    exact Nat.mul_le_mul ih (by have := hm v; omega)
structure Small (n q : Nat) (E : List S66) : Prop where
 right : RightE n E
 conn : EConn n E
 len : E.length ≤ 40
 n1 : 1 ≤ n
 n5 : n ≤ 5
 q : q < n
 size : sizeTo E E.length ≤ 8
namespace Small
variable {n q : Nat} {E : List S66}
theorem val_le (h : Small n q E) (v : Nat) : valN E v n ≤ 8 := by
 have h1 := valN_le (E := E) (fun y hy => by have := h.right.ok y hy; simp [edgeOk] at this; omega) v n
 have h2 := sizeTo_sum h.right E.length (Nat.le_refl _)
 rw [List.take_length] at h2
 have := h.size
 omega
theorem most_le (h : Small n q E) (v : Nat) : mostOf E n q v ≤ 7 := by
 unfold mostOf
 split
 ·omega
 ·have := h.val_le v; omega
theorem most_q (E : List S66) (n q : Nat) : mostOf E n q q = 0 := by simp [mostOf]
theorem stab_le (h : Small n q E) {v : Nat} (hv : v ≤ n) : (stabB (mostOf E n q) v).length ≤ 4096 := by
 have h1 := stabB_bound (most_q E n q) h.most_le v
 have h2 : 8 ^ (v - (if q < v then 1 else 0)) ≤ 8 ^ 4 := Nat.pow_le_pow_right (by omega) (by have := h.n5; have := h.q; split <;> omega)
 omega
theorem super_iff (h : Small n q E) (c : List Int) : superB n (timesOf E) q c = isB E n q c := by
 rw [Bool.eq_iff_iff, superB_iff (fun i j => ((edgesIn_of h.right.inB).times i j).1), is_iff h.right h.conn h.q]
theorem confs_eq (h : Small n q E) : confs n E q = (stabB (mostOf E n q) n).filter (isB E n q) := by
 unfold confs
 have ht := (edgesIn_of h.right.inB).times
 have hdown : ∀ a b : List Int, a.length = n → Leq a b → superB n (timesOf E) q b = true → superB n (timesOf E) q a = true := fun a b _ hab hb => by
  rw [superB_iff (fun i j => (ht i j).1)] at hb ⊢
  exact hb.down (fun v _ => leq_rd v hab)
 rw [outB_eq q confB (superB n (timesOf E) q) (mostOf E n q) n hdown (fun l v hl hv hvq hc => by
   have h1 := (superB_small h.right.inB (by have := h.n5; omega) hv hvq hc).1
   unfold valOf at h1
   rw [valOf_valN h.right] at h1
   unfold mostOf
   rw [if_neg hvq]
   omega) (most_q E n q) (fun v _ => by have := h.most_le v; show _ ≤ 1000; omega) n [] (by simp) ?_]
 ·rw [← stabB_eq]
  refine List.filter_congr fun c _ => h.super_iff c
 ·by_cases h2 : n = 1
  ·left
   rw [superB_iff (fun i j => (ht i j).1)]
   rintro S ⟨v, hv, hs⟩ hSq
   have := h.q
   rw [show v = q by omega, hSq] at hs; cases hs
  ·right
   have := h.q
   have := h.n1
   by_cases h3 : q = 0
   ·exact ⟨1, by simp, by omega, by omega⟩
   ·exact ⟨0, by simp, by omega, by omega⟩
theorem confs_le (h : Small n q E) : (confs n E q).length ≤ 4096 := by
 rw [h.confs_eq]
 exact Nat.le_trans (List.length_filter_le _ _) (h.stab_le (Nat.le_refl n))
end Small
end
def sandpileref17_Total.l0 : Nat → List Int → Int → Int → Option (Int)
 | 0, _, _, _ => none
 | k + 1, x0, x3, x4 => if x4 < (x0.length : Int) then (if 0 ≤ x4 then (sandpileref17_Total.l0 k x0 (wrap64 (x3 + (rd x0 x4))) (wrap64 (x4 + 1))) else (none)) else (some x3)
def sandpileref17_Total.f (k : Nat) (l0 : List Int) : Option (Int) := sandpileref17_Total.l0 k l0 0 0
mutual
def sandpileref28_Levels.l0 : Nat → List (List Int) → List Int → Int → Option (List Int)
 | 0, _, _, _ => none
 | k + 1, x5, x6, x7 => if x7 < (x5.length : Int) then (if 0 ≤ x7 then ((sandpileref17_Total.f k (rd_L2 x5 x7)).bind fun t265 => (sandpileref28_Levels.l1 k x5 x6 x7 t265)) else (none)) else (some x6)
def sandpileref28_Levels.l1 : Nat → List (List Int) → List Int → Int → Int → Option (List Int)
 | 0, _, _, _, _ => none
 | k + 1, x5, x6, x7, x8 => if (x6.length : Int) ≤ x8 then (if x6.length < 17592186044416 then (sandpileref28_Levels.l1 k x5 (x6 ++ [0]) x7 x8) else (none)) else (if 0 ≤ x8 then (if x8 < (x6.length : Int) then (sandpileref28_Levels.l0 k x5 (x6.set (x8 : Int).toNat (wrap64 ((rd x6 x8) + 1))) (wrap64 (x7 + 1))) else (none)) else (none))
end
section
theorem root_small {N : Int} {E : List S66} {q : Int} (hf : fewB N E = true) (h : rootG N E q = 0) : ∃ n q' : Nat, N = n ∧ q = q' ∧ Small n q' E := by
 unfold rootG at h
 by_cases h0 : checkG N E = 0
 ·rw [if_pos h0] at h
  obtain ⟨h1, h12, hR⟩ := checkG_zero h0
  obtain ⟨n, rfl⟩ := Int.eq_ofNat_of_zero_le (show 0 ≤ N by omega)
  rw [Int.toNat_natCast] at h
  by_cases hp : partsOf E n = 1
  ·rw [if_pos hp] at h
   by_cases hq : 0 ≤ q ∧ q < (n : Int)
   ·obtain ⟨q', rfl⟩ := Int.eq_ofNat_of_zero_le hq.1
    unfold fewB at hf
    by_cases hl : E.length > 40
    ·rw [if_pos hl] at hf; cases hf
    ·rw [if_neg hl, if_pos h0] at hf
     by_cases h5 : (n : Int) ≤ 5
     ·rw [if_pos h5] at hf
      exact ⟨n, q', rfl, rfl, hR, (parts_conn (by omega) hR).1 hp, by omega, by omega, by omega, by omega, by simpa using hf⟩
     ·rw [if_neg h5] at hf; cases hf
   ·rw [if_neg hq] at h; exact absurd h (by decide)
  ·rw [if_neg hp] at h; exact absurd h (by decide)
 ·rw [if_neg h0] at h; exact absurd h h0
theorem few_len {N : Int} {E : List S66} (hf : fewB N E = true) : E.length ≤ 40 := by
 unfold fewB at hf
 by_cases hl : E.length > 40
 ·rw [if_pos hl] at hf; cases hf
 ·omega
namespace Small
variable {n q : Nat} {E : List S66}
theorem list_ok (h : Small n q E) : okList n E = true := by
 unfold okList
 rw [h.right.mults h.len, h.right.inB]; rfl
theorem first_ev (h : Small n q E) (hr : rootG n E q = 0) : Ev (fun k => superstable_first.f k n E q) (topTo (pileVal n E) q n n, (0 : Int)) := by
 unfold superstable_first.f stabilize_Maximal.f
 refine Ev.bind (a := (topTo (pileVal n E) q n n, (0 : Int))) ?_ (Ev.const _)
 have := rooted_ev n E q (by have := h.len; omega)
 rw [hr] at this
 refine Ev.bind this ?_
 simp only [if_true, h.list_ok, Int.toNat_natCast]; exact Ev.const _
theorem superAll_ev (h : Small n q E) (hr : rootG n E q = 0) : Ev (fun k => superstable_All.f k n E q) (confs n E q, (0 : Int)) := by
 unfold superstable_All.f
 refine Ev.bind (h.first_ev hr) ?_
 simp only [if_true, Int.toNat_natCast, if_pos (show (confs n E q).length ≤ 16384 by have := h.confs_le; omega)]; exact Ev.const _
theorem conf_mem (h : Small n q E) {c : List Int} (hc : c ∈ confs n E q) : c.length = n ∧ ∀ v : Nat, 0 ≤ rd c v ∧ rd c v ≤ 8 := by
 rw [h.confs_eq] at hc
 have h1 := (List.mem_filter.1 hc).1
 have hl := stabB_len _ _ _ h1
 have key : ∀ (m : Nat) (l : List Int), l ∈ stabB (mostOf E n q) m → ∀ v : Nat, 0 ≤ rd l v ∧ rd l v ≤ 8 := by
  intro m
  induction m with
  | zero => intro l hl v; simp [stabB] at hl; subst hl; simp [rd]
  | succ m ih =>
   intro l hl v
   simp only [stabB, stepB, List.mem_flatMap, List.mem_map, List.mem_range] at hl
   obtain ⟨p, hp, x, hx, rfl⟩ := hl
   have h2 := ih p hp v
   have hm := h.most_le m
   have hpl := stabB_len _ _ _ hp
   simp only [rd, Int.toNat_natCast, List.getD_eq_getElem?_getD] at h2 ⊢
   rcases Nat.lt_trichotomy v p.length with h3 | h3 | h3
   ·rw [List.getElem?_append_left h3]; exact h2
   ·rw [h3, List.getElem?_append_right (Nat.le_refl _), Nat.sub_self]; simp; omega
   ·rw [List.getElem?_eq_none (by simp; omega)]; simp
 exact ⟨hl, key n c h1⟩
theorem nonempty (h : Small n q E) : confs n E q ≠ [] := by
 rw [h.confs_eq]
 have hz : ∀ m, List.replicate m (0 : Int) ∈ stabB (mostOf E n q) m := fun m => by
  induction m with
  | zero => simp [stabB]
  | succ m ih =>
   simp only [stabB, stepB, List.mem_flatMap, List.mem_map, List.mem_range]
   exact ⟨_, ih, 0, by omega, by rw [List.replicate_succ']; rfl⟩
 have hi : isB E n q (List.replicate n 0) = true := by
  rw [is_iff h.right h.conn h.q]
  rintro S ⟨v, hv, hs⟩ hSq
  obtain ⟨x, hx, hne⟩ := h.conn S ⟨v, hv, hs⟩ ⟨q, h.q, hSq⟩
  have hb := btw_edge h.right hx
  have hok := h.right.ok x hx
  simp [edgeOk] at hok
  have e0 : ((x.f0.toNat : Nat) : Int) = x.f0 := by omega
  have e1 : ((x.f1.toNat : Nat) : Int) = x.f1 := by omega
  have ht := (edgesIn_of h.right.inB).times
  have key : ∀ a b : Nat, a < n → b < n → S a = true → S b = false → btw E a b > 0 → ∃ v, v < n ∧ S v = true ∧ rd (List.replicate n 0) v < flamesTo (timesOf E) (fun u => !S u) v n := fun a b ha hb2 hSa hSb hbt => by
   refine ⟨a, ha, hSa, ?_⟩
   have hab : a ≠ b := fun e => by subst e; rw [hSa] at hSb; cases hSb
   have hk : ∀ u, b < u → 0 < flamesTo (timesOf E) (fun u => !S u) a u := fun u => by
    induction u with
    | zero => omega
    | succ u ih =>
     intro hu
     have hbd := flamesTo_bound (burnt := fun u => !S u) ht a u
     have hb3 := ht a u
     rw [flamesTo]
     by_cases e : b = u
     ·subst e
      rw [if_pos (by simp [hSb]), times_btw h.right a b hab]; omega
     ·have := ih (by omega)
      split <;> omega
   have := hk n hb2
   rw [show rd (List.replicate n 0) a = 0 from by simp [rd, List.getD_eq_getElem?_getD, List.getElem?_replicate]; split <;> rfl]
   exact this
  cases hs0 : S x.f0.toNat with
  | true =>
   refine key x.f0.toNat x.f1.toNat (by omega) (by omega) hs0 ?_ (by rw [e0, e1]; exact hb)
   cases hs1 : S x.f1.toNat with
   | false => rfl
   | true => rw [hs0, hs1] at hne; exact absurd rfl hne
  | false =>
   refine key x.f1.toNat x.f0.toNat (by omega) (by omega) ?_ hs0 (by rw [e0, e1, btw_comm]; exact hb)
   cases hs1 : S x.f1.toNat with
   | true => rfl
   | false => rw [hs0, hs1] at hne; exact absurd rfl hne
 exact List.ne_nil_of_mem (List.mem_filter.2 ⟨hz n, hi⟩)
end Small
end
def sumE (f : S66 → Int) : List S66 → Int
 | [] => 0
 | x :: E => f x + sumE f E
theorem sumE_congr {f g : S66 → Int} : ∀ {E : List S66}, (∀ x ∈ E, f x = g x) → sumE f E = sumE g E
 | [], _ => rfl
 | x :: E, h => by rw [sumE, sumE, h x (List.mem_cons_self ..), sumE_congr fun y hy => h y (List.mem_cons_of_mem _ hy)]
theorem sumE_add (f g : S66 → Int) : ∀ E, sumE (fun x => f x + g x) E = sumE f E + sumE g E
 | [] => rfl
 | x :: E => by rw [sumE, sumE, sumE, sumE_add f g E]; omega
theorem sumE_zero {f : S66 → Int} : ∀ {E : List S66}, (∀ x ∈ E, f x = 0) → sumE f E = 0
 | [], _ => rfl
 | x :: E, h => by rw [sumE, h x (List.mem_cons_self ..), sumE_zero fun y hy => h y (List.mem_cons_of_mem _ hy)]; rfl
theorem btw_sum (a b : Int) : ∀ {E : List S66}, E.Pairwise Before → btw E a b = sumE (fun x => if x.f0 = min a b ∧ x.f1 = max a b then x.f2 else 0) E
 | [], _ => rfl
 | x :: E, h => by
  obtain ⟨h1, h2⟩ := List.pairwise_cons.1 h
  rw [btw_cons, sumE]
  by_cases hx : x.f0 = min a b ∧ x.f1 = max a b
  ·rw [if_pos hx, if_pos hx, sumE_zero]
   ·omega
   ·intro y hy
    rw [if_neg]
    have := h1 y hy
    unfold Before at this
    omega
  ·rw [if_neg hx, if_neg hx, btw_sum a b h2]; omega
def c1 (v : Nat) (x : Nat × Int × Int) : Int := if x.2.1 = x.2.2 then 0 else (if x.2.1.toNat = v then 1 else 0) + (if x.2.2.toNat = v then 1 else 0)
def sandpileref17_In.f (a0 : Int) : Option (Bool) := if a0 ≥ (-1048576) then (some (decide (a0 ≤ 1048576))) else (some false)
mutual
def sandpileref17_Check.j0 : Nat → List Int → Int → Bool → Option (Int)
 | 0, _, _, _ => none
 | k + 1, x0, x1, x11 => if x11 = true then (some 2) else (if (x0.length : Int) = x1 then (sandpileref17_Check.l0 k x0 x1 0) else (some 8))
def sandpileref17_Check.l0 : Nat → List Int → Int → Int → Option (Int)
 | 0, _, _, _ => none
 | k + 1, x0, x1, x5 => if x5 < x1 then (if 0 ≤ x5 then (if x5 < (x0.length : Int) then ((sandpileref17_In.f (rd x0 x5)).bind fun t307 => (if t307 = true then (sandpileref17_Check.l0 k x0 x1 (wrap64 (x5 + 1))) else (some 2))) else (none)) else (none)) else (some 0)
end
def chipB (x : Int) : Bool := decide (-1048576 ≤ x) && decide (x ≤ 1048576)
def rngF : List Int → Int
 | [] => 0
 | x :: l => if chipB x = true then rngF l else 2
def negF (q : Int) : Nat → List Int → Int
 | _, [] => 0
 | i, x :: l => if (i : Int) = q then negF q (i + 1) l else if x < 0 then 2 else negF q (i + 1) l
def errC (N : Int) (E : List S66) (q : Int) (c : List Int) : Int :=
 if rootG N E q = 0 then (if (c.length : Int) = N then (if rngF c = 0 then negF q 0 c else rngF c) else 8) else rootG N E q
def err23 (N : Int) (E : List S66) (q : Int) (c : List Int) : Int := if errC N E q c = 0 then (if rd c q = 0 then 0 else 3) else errC N E q c
theorem within_eq (x : Int) : chips_within.f x = some (chipB x) := by
 unfold chips_within.f chipB
 by_cases h : x ≥ -1048576
 ·rw [if_pos h, decide_eq_true (show -1048576 ≤ x from h), Bool.true_and]
 ·rw [if_neg h, decide_eq_false (show ¬ -1048576 ≤ x from h), Bool.false_and]
theorem chk_l0 (c : List Int) (hc : c.length ≤ 1000) : ∀ (m i : Nat), i + m = c.length → Ev (fun k => chips_Check.l0 k c c.length i) (rngF (c.drop i))
 | 0, i, hi => by
  refine Ev.of_succ ?_
  simp only [chips_Check.l0, if_neg (show ¬ (i : Int) < c.length by omega), List.drop_eq_nil_of_le (show c.length ≤ i by omega), rngF]
  exact Ev.const _
 | m + 1, i, hi => by
  refine Ev.of_succ ?_
  simp only [chips_Check.l0, if_pos (show (i : Int) < c.length by omega), if_pos (show (0 : Int) ≤ i by omega), within_eq, Option.bind_some, wrap_succ (show i ≤ 1000000 by omega)]
  rw [rd_drop (by omega), rngF]
  by_cases h : chipB (rd c i) = true
  ·simp only [if_pos h]; exact chk_l0 c hc m (i + 1) (by omega)
  ·simp only [if_neg h]; exact Ev.const _
theorem neg_l0 (q : Int) (c : List Int) (hc : c.length ≤ 1000) : ∀ (m i : Nat), i + m = c.length → Ev (fun k => stabilize_Check.l0 k q c c.length i) (negF q i (c.drop i))
 | 0, i, hi => by
  refine Ev.of_succ ?_
  simp only [stabilize_Check.l0, if_neg (show ¬ (i : Int) < c.length by omega), List.drop_eq_nil_of_le (show c.length ≤ i by omega), negF]
  exact Ev.const _
 | m + 1, i, hi => by
  refine Ev.of_succ ?_
  have ih := neg_l0 q c hc m (i + 1) (by omega)
  simp only [stabilize_Check.l0, if_pos (show (i : Int) < c.length by omega), if_pos (show (0 : Int) ≤ i by omega), wrap_succ (show i ≤ 1000000 by omega)]
  rw [rd_drop (by omega), negF]
  by_cases h : (i : Int) = q
  ·simp only [if_pos h]; exact ih
  ·simp only [if_neg h]
   by_cases h2 : rd c i < 0
   ·simp only [if_pos h2]; exact Ev.const _
   ·simp only [if_neg h2]; exact ih
theorem root_range {N : Int} {E : List S66} {q : Int} (h : rootG N E q = 0) : 1 ≤ N ∧ N ≤ 12 ∧ 0 ≤ q ∧ q < N := by
 unfold rootG at h
 by_cases hc : checkG N E = 0
 ·rw [if_pos hc] at h
  obtain ⟨h1, h2, _⟩ := checkG_zero hc
  by_cases hp : partsOf E N.toNat = 1
  ·rw [if_pos hp] at h
   by_cases hq : 0 ≤ q ∧ q < N
   ·exact ⟨h1, h2, hq⟩
   ·rw [if_neg hq] at h; exact absurd h (by decide)
  ·rw [if_neg hp] at h; exact absurd h (by decide)
 ·rw [if_neg hc] at h; exact absurd h hc
theorem chips_ev (c : List Int) (N : Int) (hN : 1 ≤ N ∧ N ≤ 12) : Ev (fun k => chips_Check.f k c N) (if (c.length : Int) = N then rngF c else 8) := by
 unfold chips_Check.f chips_vertices.f
 simp only [if_neg (show ¬ N < 1 by omega), if_neg (show ¬ N > 12 by omega), Option.bind_some, if_true]
 by_cases h : (c.length : Int) = N
 ·simp only [if_pos h]
  exact chk_l0 c (by omega) c.length 0 (by omega)
 ·simp only [if_neg h]; exact Ev.const _
theorem stCheck_ev (N : Int) (E : List S66) (q : Int) (c : List Int) (hE : E.length ≤ 1000) : Ev (fun k => stabilize_Check.f k N E q c) (errC N E q c) := by
 unfold stabilize_Check.f errC
 refine Ev.bind (rooted_ev N E q hE) ?_
 by_cases hr : rootG N E q = 0
 ·have hN := root_range hr
  simp only [if_pos hr]
  refine Ev.bind (chips_ev c N ⟨hN.1, hN.2.1⟩) ?_
  by_cases h : (c.length : Int) = N
  ·simp only [if_pos h]
   by_cases h2 : rngF c = 0
   ·simp only [if_pos h2]
    exact neg_l0 q c (by omega) c.length 0 (by omega)
   ·simp only [if_neg h2]; exact Ev.const _
  ·simp only [if_neg h]; exact Ev.const _
 ·simp only [if_neg hr]; exact Ev.const _
theorem errC_zero {N : Int} {E : List S66} {q : Int} {c : List Int} (h : errC N E q c = 0) : rootG N E q = 0 ∧ (c.length : Int) = N ∧ rngF c = 0 ∧ negF q 0 c = 0 := by
 unfold errC at h
 by_cases hr : rootG N E q = 0
 ·rw [if_pos hr] at h
  by_cases hl : (c.length : Int) = N
  ·rw [if_pos hl] at h
   by_cases h2 : rngF c = 0
   ·rw [if_pos h2] at h; exact ⟨hr, hl, h2, h⟩
   ·rw [if_neg h2] at h; exact absurd h h2
  ·rw [if_neg hl] at h; exact absurd h (by decide)
 ·rw [if_neg hr] at h; exact absurd h hr
theorem burnCheck_ev (N : Int) (E : List S66) (q : Int) (c : List Int) (hE : E.length ≤ 1000) : Ev (fun k => burning_check.f k N E q c) (err23 N E q c) := by
 unfold burning_check.f err23
 refine Ev.bind (stCheck_ev N E q c hE) ?_
 by_cases h : errC N E q c = 0
 ·obtain ⟨hr, hl, _, _⟩ := errC_zero h
  have hN := root_range hr
  simp only [if_pos h, if_pos hN.2.2.1, if_pos (show q < c.length by omega)]
  by_cases h2 : rd c q = 0
  ·simp only [if_pos h2]; exact Ev.const _
  ·simp only [if_neg h2]; exact Ev.const _
 ·simp only [if_neg h]; exact Ev.const _
theorem rngF_zero : ∀ {c : List Int}, rngF c = 0 → ∀ x ∈ c, -1048576 ≤ x ∧ x ≤ 1048576
 | [], _, x, hx => absurd hx (by simp)
 | y :: c, h, x, hx => by
  rw [rngF] at h
  by_cases hy : chipB y = true
  ·rw [if_pos hy] at h
   simp [chipB] at hy
   rcases List.mem_cons.1 hx with rfl | hx
   ·exact hy
   ·exact rngF_zero h x hx
  ·rw [if_neg hy] at h; exact absurd h (by decide)
theorem negF_zero (q : Int) : ∀ {c : List Int} {i : Nat}, negF q i c = 0 → ∀ j : Nat, j < c.length → ((i + j : Nat) : Int) ≠ q → 0 ≤ rd c j
 | [], i, _, j, hj, _ => absurd hj (by simp)
 | y :: c, i, h, j, hj, hjq => by
  rw [negF] at h
  by_cases hi : (i : Int) = q
  ·rw [if_pos hi] at h
   cases j with
   | zero => exact absurd hi hjq
   | succ j =>
    have := negF_zero q h j (by simpa using hj) (by rw [show i + 1 + j = i + (j + 1) by omega]; exact hjq)
    simpa [rd, List.getD_eq_getElem?_getD] using this
  ·rw [if_neg hi] at h
   by_cases hy : y < 0
   ·rw [if_pos hy] at h; exact absurd h (by decide)
   ·rw [if_neg hy] at h
    cases j with
    | zero => simp [rd, List.getD_eq_getElem?_getD]; omega
    | succ j =>
     have := negF_zero q h j (by simpa using hj) (by rw [show i + 1 + j = i + (j + 1) by omega]; exact hjq)
     simpa [rd, List.getD_eq_getElem?_getD] using this
structure GoodC (n q : Nat) (c : List Int) : Prop where
 len : c.length = n
 pos : ∀ v : Nat, 0 ≤ rd c v
 up : ∀ v : Nat, rd c v ≤ 1048576
 sink : rd c q = 0
theorem rd_out {c : List Int} {v : Nat} (h : c.length ≤ v) : rd c v = 0 := by simp [rd, List.getD_eq_getElem?_getD, List.getElem?_eq_none h]
theorem err23_good {n q : Nat} {E : List S66} {c : List Int} (h : err23 n E q c = 0) : rootG n E q = 0 ∧ GoodC n q c := by
 unfold err23 at h
 by_cases he : errC n E q c = 0
 ·rw [if_pos he] at h
  by_cases hq : rd c q = 0
  ·obtain ⟨h1, h2, h3, h4⟩ := errC_zero he
   refine ⟨h1, ⟨by omega, fun v => ?_, fun v => ?_, hq⟩⟩
   ·by_cases hv : v < c.length
    ·by_cases e : v = q
     ·subst e; omega
     ·exact negF_zero q h4 v hv (by omega)
    ·rw [rd_out (by omega)]; exact Int.le_refl _
   ·by_cases hv : v < c.length
    ·have := rngF_zero h3 c[v] (List.getElem_mem _)
     simp only [rd, Int.toNat_natCast, List.getD_eq_getElem?_getD, List.getElem?_eq_getElem hv, Option.getD_some]; omega
    ·rw [rd_out (by omega)]; decide
  ·rw [if_neg hq] at h; exact absurd h (by decide)
 ·rw [if_neg he] at h; exact absurd h he
theorem burn_ev {n q : Nat} {E : List S66} {c : List Int} (hE : E.length ≤ 1000) (hn : n ≤ 12) (hin : edgesInB n E = true) (h : err23 n E q c = 0) : Ev (fun k => burning_Superstable.f k n E q c) (superB n (timesOf E) q c, (0 : Int)) := by
 obtain ⟨hr, hg⟩ := err23_good h
 have hl := hg.len
 have hq := root_range hr
 unfold burning_Superstable.f burning_Burn.f
 have hb := burnCheck_ev n E q c hE
 rw [h] at hb
 have hw : rightConf n E q c = true := by simp only [rightConf, Bool.and_eq_true, decide_eq_true_eq]; exact ⟨by omega, hin⟩
 refine Ev.bind (a := ((q : Int) :: (fireOf n E q c).map Int.ofNat, unbTo (burnAll (sinkOnly q) (fireOf n E q c)) n, (0 : Int))) ?_ ?_
 ·refine Ev.bind hb ?_
  simp only [if_true, hw, Int.toNat_natCast]
  exact Ev.const _
 ·simp only [if_true]
  have hx := burnt_all (burnAll (sinkOnly q) (fireOf n E q c)) n
  have e : (((unbTo (burnAll (sinkOnly q) (fireOf n E q c)) n).length : Int) == 0) = superB n (timesOf E) q c := by
   rw [Bool.eq_iff_iff]
   unfold superB
   rw [show fireList n (catchB n (timesOf E) c) (sinkOnly q) = fireOf n E q c from rfl, ← hx]
   simp
  rw [e]
  exact Ev.const _
mutual
def sandpileref28_Raised.l0 : Nat → Int → List Int → List Int → List Int → Int → Int → List (S66) → Option (List Int)
 | 0, _, _, _, _, _, _, _ => none
 | k + 1, x1, x2, x7, x8, x9, x316000, x316001 => if x9 < x316000 then (if x9 = x1 then (sandpileref28_Raised.l0 k x1 x2 x7 x8 (wrap64 (x9 + 1)) x316000 x316001) else (if 0 ≤ x9 then (if x9 < (x2.length : Int) then (sandpileref28_Raised.l1 k x1 x2 x7 x8 x9 (wrap64 ((rd x2 x9) + 1)) x316000 x316001) else (none)) else (none))) else (some x7)
def sandpileref28_Raised.l1 : Nat → Int → List Int → List Int → List Int → Int → Int → Int → List (S66) → Option (List Int)
 | 0, _, _, _, _, _, _, _, _ => none
 | k + 1, x1, x2, x7, x8, x9, x10, x316000, x316001 => if 0 ≤ x9 then (if x9 < (x8.length : Int) then (if x10 ≤ (rd x8 x9) then ((some (([] : List Int) : List Int)).bind fun y327 => (if y327.length + x7.length < 17592186044416 then ((some (y327 ++ x7 : List Int)).bind fun y330 => (if x9 < (y330.length : Int) then ((some (y330.set (x9 : Int).toNat x10 : List Int)).bind fun y333 => ((sandpileref23_Is.f k x316000 x316001 x1 y333).bind fun t334 => (if t334 = true then (sandpileref28_Raised.l1 k x1 x2 y333 x8 x9 (wrap64 (x10 + 1)) x316000 x316001) else (sandpileref28_Raised.l1 k x1 x2 x7 x8 x9 (wrap64 (x10 + 1)) x316000 x316001)))) else (none))) else (none))) else (sandpileref28_Raised.l0 k x1 x2 x7 x8 (wrap64 (x9 + 1)) x316000 x316001)) else (none)) else (none)
end
section
theorem clone_ev {l : List Int} (h : l.length ≤ 1000) : api_Divisor_int_36.f l = some l := if_pos (by omega)
theorem rd_set_self {l : List Int} {v : Nat} (h : v < l.length) (x : Int) : rd (l.set v x) v = x := by simp [rd, List.getD_eq_getElem?_getD, List.getElem?_set, h]
theorem rd_set_ne {l : List Int} {v u : Nat} (h : v ≠ u) (x : Int) : rd (l.set v x) u = rd l u := by simp [rd, List.getD_eq_getElem?_getD, List.getElem?_set, h]
theorem map_set {n : Nat} {f g : Nat → Int} {v : Nat} {x : Int} (h : ∀ u, u < n → u ≠ v → f u = g u) (hx : x = g v) : ((List.range n).map f).set v x = (List.range n).map g := by
 apply List.ext_getElem
 ·simp
 ·intro i h1 h2
  rw [List.getElem_set]
  have hi : i < n := by simpa using h2
  split
  ·rename_i e; subst e; simp [hx]
  ·rename_i e; simp only [List.getElem_map, List.getElem_range]; exact h i hi (fun e' => e e'.symm)
theorem rd_map {n : Nat} (f : Nat → Int) {v : Nat} (h : v < n) : rd ((List.range n).map f) v = f v := by simp [rd, List.getD_eq_getElem?_getD, List.getElem?_map, List.getElem?_range h]
theorem set_set_same (l : List Int) (v : Nat) (x y : Int) : (l.set v x).set v y = l.set v y := by simp
theorem set_rd {l : List Int} {v : Nat} (h : v < l.length) : l.set v (rd l v) = l := by
 apply List.ext_getElem
 ·simp
 ·intro i h1 h2
  rw [List.getElem_set]
  split
  ·rename_i e; subst e; simp [rd, List.getD_eq_getElem?_getD, List.getElem?_eq_getElem h]
  ·rfl
namespace Small
variable {n q : Nat} {E : List S66}
theorem sup_down (h : Small n q E) {a b : List Int} (hab : ∀ v : Nat, v < n → rd a v ≤ rd b v) (hb : superB n (timesOf E) q b = true) : superB n (timesOf E) q a = true := by
 have ht : ∀ i j, 0 ≤ timesOf E i j := fun i j => ((edgesIn_of h.right.inB).times i j).1
 exact (superB_iff ht q a).2 (((superB_iff ht q b).1 hb).down hab)
theorem sup_lt (h : Small n q E) {a : List Int} {v : Nat} (hv : v < n) (hq : v ≠ q) (ha : superB n (timesOf E) q a = true) : rd a v < valN E v n := by
 have := (superB_small h.right.inB (by have := h.n5; omega) hv hq ha).1
 unfold valOf at this
 rwa [valOf_valN h.right v n] at this
theorem rise (h : Small n q E) {c : List Int} (hc : c.length = n) {v : Nat} (hv : v < n) (hq : v ≠ q) (hs : superB n (timesOf E) q c = true) (h0 : 0 ≤ rd c v) :
  ∃ M : Nat, rd c v ≤ M ∧ (M : Int) < valN E v n ∧ ∀ x : Int, superB n (timesOf E) q (c.set v x) = true ↔ x ≤ M := by
 have hval := h.val_le v
 have hlt := h.sup_lt hv hq hs
 have down : ∀ x y : Int, x ≤ y → superB n (timesOf E) q (c.set v y) = true → superB n (timesOf E) q (c.set v x) = true := fun x y hxy hy => by
  refine h.sup_down (fun u hu => ?_) hy
  by_cases e : v = u
  ·subst e; rw [rd_set_self (by omega), rd_set_self (by omega)]; exact hxy
  ·rw [rd_set_ne e, rd_set_ne e]; exact Int.le_refl _
 have key : ∀ d : Nat, ∀ x : Nat, rd c v ≤ x → valN E v n ≤ x + d → superB n (timesOf E) q (c.set v x) = true → ∃ M : Nat, x ≤ M ∧ (M : Int) < valN E v n ∧ superB n (timesOf E) q (c.set v M) = true ∧ superB n (timesOf E) q (c.set v ((M : Int) + 1)) = false := by
  intro d
  induction d with
  | zero =>
   intro x _ h2 h3
   have := h.sup_lt hv hq h3
   rw [rd_set_self (by omega)] at this
   omega
  | succ d ih =>
   intro x h1 h2 h3
   have h4 := h.sup_lt hv hq h3
   rw [rd_set_self (by omega)] at h4
   cases h5 : superB n (timesOf E) q (c.set v ((x : Int) + 1)) with
   | false => exact ⟨x, Nat.le_refl _, h4, h3, h5⟩
   | true =>
    obtain ⟨M, m1, m2, m3, m4⟩ := ih (x + 1) (by omega) (by omega) (by rw [Int.natCast_add, Int.natCast_one]; exact h5)
    exact ⟨M, by omega, m2, m3, m4⟩
 obtain ⟨M, m1, m2, m3, m4⟩ := key 9 (rd c v).toNat (by omega) (by omega) (by rw [show ((rd c v).toNat : Int) = rd c v by omega, set_rd (by omega)]; exact hs)
 refine ⟨M, by omega, m2, fun x => ⟨fun hx => ?_, fun hx => down x M hx m3⟩⟩
 by_cases hle : x ≤ M
 ·exact hle
 ·have := down ((M : Int) + 1) x (by omega) hx
  rw [m4] at this; cases this
theorem calm_set (h : Small n q E) (hr : rootG n E q = 0) {c : List Int} (hg : GoodC n q c) {v : Nat} (hv : v < n) (hq : v ≠ q) {x : Int} (hx : 0 ≤ x ∧ x ≤ 1048576) : Ev (fun k => superstable_calm.f k n E q (c.set v x)) (superB n (timesOf E) q (c.set v x)) := by
 have hl := hg.len
 have hp : ∀ u : Nat, 0 ≤ rd (c.set v x) u ∧ rd (c.set v x) u ≤ 1048576 := fun u => by
  by_cases e : v = u
  ·subst e; rw [rd_set_self (by omega)]; exact hx
  ·rw [rd_set_ne e]; exact ⟨hg.pos u, hg.up u⟩
 have he : err23 n E q (c.set v x) = 0 := by
  have h1 : ∀ l : List Int, (∀ y ∈ l, 0 ≤ y ∧ y ≤ 1048576) → rngF l = 0 := fun l => by
   induction l with
   | nil => intro _; rfl
   | cons y l ih =>
    intro hl
    have := hl y (List.mem_cons_self ..)
    rw [rngF, if_pos (by simp [chipB]; omega)]
    exact ih fun z hz => hl z (List.mem_cons_of_mem _ hz)
  have h2 : ∀ (l : List Int) (i : Nat), (∀ y ∈ l, 0 ≤ y ∧ y ≤ 1048576) → negF q i l = 0 := fun l => by
   induction l with
   | nil => intro i _; rfl
   | cons y l ih =>
    intro i hl
    have := hl y (List.mem_cons_self ..)
    rw [negF, if_neg (show ¬ y < 0 by omega), ih (i + 1) fun z hz => hl z (List.mem_cons_of_mem _ hz)]
    split <;> rfl
  have hm : ∀ y ∈ c.set v x, 0 ≤ y ∧ y ≤ 1048576 := fun y hy => by
   obtain ⟨i, hi, rfl⟩ := List.getElem_of_mem hy
   have := hp i
   simp only [rd, Int.toNat_natCast, List.getD_eq_getElem?_getD, List.getElem?_eq_getElem hi, Option.getD_some] at this
   exact this
  have e0 : errC n E q (c.set v x) = 0 := by
   unfold errC
   rw [if_pos hr, if_pos (by simp [hl]), h1 _ hm, if_pos rfl, h2 _ 0 hm]
  unfold err23
  rw [if_pos e0, if_pos (by rw [rd_set_ne hq]; exact hg.sink)]
 unfold superstable_calm.f
 refine Ev.bind (burn_ev (by have := h.len; omega) (by have := h.n5; omega) h.right.inB he) ?_
 cases superB n (timesOf E) q (c.set v x) <;> exact Ev.const _
theorem raised_ev (h : Small n q E) (hr : rootG n E q = 0) {c : List Int} (hg : GoodC n q c) {v : Nat} (hv : v < n) (hq : v ≠ q) {M : Nat} (h1 : rd c v ≤ M) (h2 : (M : Int) < valN E v n) (hM : ∀ x : Int, superB n (timesOf E) q (c.set v x) = true ↔ x ≤ M) :
  Ev (fun k => superstable_raised.f k n E q c v) (c.set v M) := by
 have hl := hg.len
 have hval := h.val_le v
 have h0 := hg.pos v
 have loop : ∀ (m : Nat) (x : Int), rd c v + 1 ≤ x → x + m = M + 1 → Ev (fun k => superstable_raised.l0 k q (c.set v x) v n E) (c.set v M) := by
  intro m
  induction m with
  | zero =>
   intro x hx1 hx2
   refine Ev.of_succ ?_
   simp only [superstable_raised.l0]
   refine Ev.bind (h.calm_set hr hg hv hq (by omega)) ?_
   have : superB n (timesOf E) q (c.set v x) = false := by
    cases e : superB n (timesOf E) q (c.set v x) with
    | false => rfl
    | true => have := (hM x).1 e; omega
   simp only [this, Bool.false_eq_true, if_false, if_pos (show (0 : Int) ≤ v by omega), if_pos (show (v : Int) < (c.set v x).length by simp; omega), Int.toNat_natCast, set_set_same, rd_set_self (show v < c.length by omega), wrap_id (show -1000000000 ≤ x - 1 ∧ x - 1 ≤ 1000000000 by omega), show x - 1 = (M : Int) by omega, wrap_id (show -1000000000 ≤ (M : Int) ∧ (M : Int) ≤ 1000000000 by omega)]
   exact Ev.const _
  | succ m ih =>
   intro x hx1 hx2
   refine Ev.of_succ ?_
   simp only [superstable_raised.l0]
   refine Ev.bind (h.calm_set hr hg hv hq (by omega)) ?_
   simp only [(hM x).2 (by omega), if_true, if_pos (show (0 : Int) ≤ v by omega), if_pos (show (v : Int) < (c.set v x).length by simp; omega), Int.toNat_natCast, set_set_same, rd_set_self (show v < c.length by omega), wrap_id (show -1000000000 ≤ x + 1 ∧ x + 1 ≤ 1000000000 by omega)]
   exact ih (x + 1) (by omega) (by omega)
 unfold superstable_raised.f
 simp only [clone_ev (show c.length ≤ 1000 by have := h.n5; omega), Option.bind_some, if_pos (show (0 : Int) ≤ v by omega), if_pos (show (v : Int) < c.length by omega), Int.toNat_natCast, wrap_id (show -1000000000 ≤ rd c v + 1 ∧ rd c v + 1 ≤ 1000000000 by omega)]
 exact loop (M - (rd c v).toNat) (rd c v + 1) (by omega) (by omega)
end Small
end
section
theorem rd_append_left {p l : List Int} {v : Nat} (h : v < p.length) : rd (p ++ l) v = rd p v := by simp [rd, List.getD_eq_getElem?_getD, List.getElem?_append_left h]
theorem rd_append_last (p : List Int) (x : Int) : rd (p ++ [x]) p.length = x := by simp [rd, List.getD_eq_getElem?_getD]
theorem rd_take {l : List Int} {m v : Nat} (h : v < m) : rd (l.take m) v = rd l v := by simp [rd, List.getD_eq_getElem?_getD, List.getElem?_take, h]
theorem mem_stabB (most : Nat → Nat) : ∀ (m : Nat) (l : List Int), l ∈ stabB most m ↔ l.length = m ∧ ∀ v : Nat, v < m → 0 ≤ rd l v ∧ rd l v ≤ most v
 | 0, l => by
  simp only [stabB, List.mem_singleton]
  constructor
  ·rintro rfl; exact ⟨rfl, fun v hv => by omega⟩
  ·rintro ⟨h, _⟩; exact List.length_eq_zero_iff.1 h
 | m + 1, l => by
  simp only [stabB, stepB, List.mem_flatMap, List.mem_map, List.mem_range]
  constructor
  ·rintro ⟨p, hp, x, hx, rfl⟩
   obtain ⟨h1, h2⟩ := (mem_stabB most m p).1 hp
   refine ⟨by simp [h1], fun v hv => ?_⟩
   by_cases e : v < m
   ·rw [rd_append_left (by omega)]; exact h2 v e
   ·rw [show v = p.length by omega, rd_append_last]; rw [h1]; omega
  ·rintro ⟨h1, h2⟩
   refine ⟨l.take m, (mem_stabB most m _).2 ⟨by simp; omega, fun v hv => by rw [rd_take hv]; exact h2 v (by omega)⟩, (rd l m).toNat, by have := h2 m (by omega); omega, ?_⟩
   have h3 := h2 m (by omega)
   have h4 : l.take (m + 1) = l.take m ++ [l[m]] := List.take_succ_eq_append_getElem (by omega)
   rw [List.take_of_length_le (by omega)] at h4
   rw [show ((rd l m).toNat : Int) = l[m] by
    have : rd l m = l[m] := by simp [rd, List.getD_eq_getElem?_getD, List.getElem?_eq_getElem (show m < l.length by omega)]
    omega]
   exact h4.symm
theorem rd_ext {a b : List Int} (hl : a.length = b.length) (h : ∀ v : Nat, v < a.length → rd a v = rd b v) : a = b := by
 apply List.ext_getElem hl
 intro i h1 h2
 have := h i h1
 simpa [rd, List.getD_eq_getElem?_getD, List.getElem?_eq_getElem h1, List.getElem?_eq_getElem h2] using this
namespace Small
variable {n q : Nat} {E : List S66}
theorem mem_confs (h : Small n q E) (c : List Int) : c ∈ confs n E q ↔ c.length = n ∧ (∀ v : Nat, 0 ≤ rd c v) ∧ rd c q = 0 ∧ superB n (timesOf E) q c = true := by
 rw [h.confs_eq, List.mem_filter, mem_stabB, ← h.super_iff]
 constructor
 ·rintro ⟨⟨h1, h2⟩, h3⟩
  refine ⟨h1, fun v => ?_, ?_, h3⟩
  ·by_cases hv : v < n
   ·exact (h2 v hv).1
   ·rw [rd_out (by omega)]; exact Int.le_refl _
  ·have := h2 q h.q
   rw [most_q] at this
   omega
 ·rintro ⟨h1, h2, h3, h4⟩
  refine ⟨⟨h1, fun v hv => ⟨h2 v, ?_⟩⟩, h4⟩
  by_cases hq : v = q
  ·subst hq; rw [most_q, h3]; exact Int.le_refl _
  ·have := h.sup_lt hv hq h4
   unfold mostOf
   rw [if_neg hq]; omega
theorem good_conf (h : Small n q E) {c : List Int} (hc : c ∈ confs n E q) : GoodC n q c := by
 obtain ⟨h1, h2, h3, h4⟩ := (h.mem_confs c).1 hc
 exact ⟨h1, h2, fun v => by have := ((h.conf_mem hc).2 v).2; omega, h3⟩
end Small
end
section
def sumN (f : Nat → Int) : Nat → Int
 | 0 => 0
 | u + 1 => sumN f u + f u
theorem sumN_congr {f g : Nat → Int} : ∀ {n : Nat}, (∀ u, u < n → f u = g u) → sumN f n = sumN g n
 | 0, _ => rfl
 | n + 1, h => by rw [sumN, sumN, sumN_congr fun u hu => h u (by omega), h n (by omega)]
theorem sumN_le {f g : Nat → Int} : ∀ {n : Nat}, (∀ u, u < n → f u ≤ g u) → sumN f n ≤ sumN g n
 | 0, _ => Int.le_refl _
 | n + 1, h => by
  have := sumN_le (n := n) fun u hu => h u (by omega)
  have := h n (by omega)
  rw [sumN, sumN]; omega
theorem sumN_eq {f g : Nat → Int} : ∀ {n : Nat}, (∀ u, u < n → f u ≤ g u) → sumN f n = sumN g n → ∀ u, u < n → f u = g u
 | 0, _, _, u, hu => by omega
 | n + 1, h, he, u, hu => by
  have h1 := sumN_le (n := n) fun u hu => h u (by omega)
  have h2 := h n (by omega)
  rw [sumN, sumN] at he
  by_cases e : u = n
  ·subst e; omega
  ·exact sumN_eq (n := n) (fun u hu => h u (by omega)) (by omega) u (by omega)
theorem sumN_set {f g : Nat → Int} {v : Nat} (h : ∀ u, u ≠ v → f u = g u) : ∀ {n : Nat}, v < n → sumN g n = sumN f n + (g v - f v)
 | 0, hv => by omega
 | n + 1, hv => by
  rw [sumN, sumN]
  by_cases e : v = n
  ·subst e
   rw [sumN_congr (f := g) (g := f) fun u hu => (h u (by omega)).symm]; omega
  ·have := sumN_set h (n := n) (by omega)
   rw [h n (by omega)]; omega
theorem sumN_zero {f : Nat → Int} : ∀ {n : Nat}, (∀ u, u < n → f u = 0) → sumN f n = 0
 | 0, _ => rfl
 | n + 1, h => by rw [sumN, sumN_zero fun u hu => h u (by omega), h n (by omega)]; rfl
def inE (B : Nat → Bool) (x : S66) : Int := if x.f0 ≠ x.f1 ∧ B x.f0.toNat = true ∧ B x.f1.toNat = true then x.f2 else 0
def conB (B : Nat → Bool) (v u : Int) (x : S66) : Int := if x.f0 ≠ x.f1 ∧ (x.f0 = v ∧ x.f1 < u ∧ B x.f1.toNat = true ∨ x.f1 = v ∧ x.f0 < u ∧ B x.f0.toNat = true) then x.f2 else 0
theorem flames_sum {N : Int} {E : List S66} (hR : RightE N E) (B : Nat → Bool) (v : Nat) (hv : B v = false) : ∀ u : Nat, flamesTo (timesOf E) B v u = sumE (conB B v u) E
 | 0 => by
  rw [sumE_zero]
  ·rfl
  ·intro x hx
   have := hR.ok x hx
   simp [edgeOk] at this
   rw [conB, if_neg (by omega)]
 | u + 1 => by
  rw [flamesTo, flames_sum hR B v hv u]
  cases hb : B u with
  | false =>
   rw [if_neg (by decide), sumE_congr (f := conB B v (u + 1 : Nat)) (g := conB B v u)]
   ·omega
   ·intro x hx
    have ho := hR.ok x hx
    simp [edgeOk] at ho
    unfold conB
    by_cases h : x.f0 ≠ x.f1 ∧ (x.f0 = (v : Int) ∧ x.f1 < (u : Int) ∧ B x.f1.toNat = true ∨ x.f1 = (v : Int) ∧ x.f0 < (u : Int) ∧ B x.f0.toNat = true)
    ·rw [if_pos h, if_pos ⟨h.1, by rcases h.2 with h | h; exact Or.inl ⟨h.1, by omega, h.2.2⟩; exact Or.inr ⟨h.1, by omega, h.2.2⟩⟩]
    ·rw [if_neg h, if_neg]
     rintro ⟨h1, h2 | h2⟩
     ·refine h ⟨h1, Or.inl ⟨h2.1, ?_, h2.2.2⟩⟩
      by_cases e : x.f1 = u
      ·have := h2.2.2; rw [show x.f1.toNat = u by omega, hb] at this; cases this
      ·omega
     ·refine h ⟨h1, Or.inr ⟨h2.1, ?_, h2.2.2⟩⟩
      by_cases e : x.f0 = u
      ·have := h2.2.2; rw [show x.f0.toNat = u by omega, hb] at this; cases this
      ·omega
  | true =>
   have huv : u ≠ v := fun e => by subst e; rw [hv] at hb; cases hb
   rw [if_pos rfl, times_btw hR v u (fun e => huv e.symm), btw_sum _ _ hR.order, ← sumE_add]
   refine (sumE_congr fun x hx => ?_).symm
   have hl := hR.le x hx
   have ho := hR.ok x hx
   simp [edgeOk] at ho
   show conB B v (u + 1 : Nat) x = conB B v u x + _
   by_cases h2 : x.f0 = min (v : Int) u ∧ x.f1 = max (v : Int) u
   ·have hA : conB B v (u + 1 : Nat) x = x.f2 := if_pos ⟨by omega, by
     by_cases e : v < u
     ·exact Or.inl ⟨by omega, by omega, by rw [show x.f1.toNat = u by omega]; exact hb⟩
     ·exact Or.inr ⟨by omega, by omega, by rw [show x.f0.toNat = u by omega]; exact hb⟩⟩
    have hB : conB B v u x = 0 := if_neg (by omega)
    rw [hA, hB, if_pos h2]
    omega
   ·unfold conB
    rw [if_neg h2]
    by_cases h : x.f0 ≠ x.f1 ∧ (x.f0 = (v : Int) ∧ x.f1 < (u : Int) ∧ B x.f1.toNat = true ∨ x.f1 = (v : Int) ∧ x.f0 < (u : Int) ∧ B x.f0.toNat = true)
    ·rw [if_pos h, if_pos ⟨h.1, by rcases h.2 with h | h; exact Or.inl ⟨h.1, by omega, h.2.2⟩; exact Or.inr ⟨h.1, by omega, h.2.2⟩⟩]; omega
    ·rw [if_neg h, if_neg]
     ·rfl
     ·rintro ⟨h1, h3 | h3⟩
      ·exact h ⟨h1, Or.inl ⟨h3.1, by omega, h3.2.2⟩⟩
      ·exact h ⟨h1, Or.inr ⟨h3.1, by omega, h3.2.2⟩⟩
theorem flamesTo_up {t : Nat → Nat → Int} (ht : ∀ i j, 0 ≤ t i j) {b b' : Nat → Bool} {v : Nat} : ∀ n, (∀ u, u < n → b u = true → b' u = true) → flamesTo t b v n ≤ flamesTo t b' v n
 | 0, _ => Int.le_refl _
 | n + 1, h => by
  have ih := flamesTo_up ht (v := v) n fun u hu => h u (by omega)
  have h0 := ht v n
  rw [flamesTo, flamesTo]
  cases hb : b n with
  | false => rw [if_neg (by decide)]; split <;> omega
  | true => rw [if_pos rfl, h n (by omega) hb, if_pos rfl]; omega
def left (n : Nat) (B : Nat → Bool) : Nat := (List.range n).countP fun v => !B v
theorem left_zero {n : Nat} {B : Nat → Bool} (h : left n B = 0) : ∀ v, v < n → B v = true := by
 unfold left at h
 rw [List.countP_eq_zero] at h
 intro v hv
 have := h v (List.mem_range.2 hv)
 simpa using this
theorem left_lt {B : Nat → Bool} {v : Nat} (hb : B v = false) : ∀ {n : Nat}, v < n → left n (fun u => decide (u = v) || B u) < left n B
 | 0, hv => by omega
 | n + 1, hv => by
  unfold left at *
  rw [List.range_succ, List.countP_append, List.countP_append]
  by_cases e : v = n
  ·subst e
   have h1 : (List.range v).countP (fun u => !(decide (u = v) || B u)) = (List.range v).countP fun u => !B u := List.countP_congr fun u hu => by
    have := List.mem_range.1 hu
    simp [show u ≠ v by omega]
   rw [h1]
   simp [hb]
  ·have ih := left_lt hb (n := n) (by omega)
   unfold left at ih
   have h2 : ([n] : List Nat).countP (fun u => !(decide (u = v) || B u)) = ([n] : List Nat).countP fun u => !B u := List.countP_congr fun u hu => by
    have := List.mem_singleton.1 hu
    simp [show u ≠ v by omega]
   dsimp only at ih ⊢
   omega
theorem in_step {B : Nat → Bool} {v : Nat} {n : Int} {x : S66} (hb : B v = false) (h0 : 0 ≤ x.f0 ∧ x.f0 < n) (h1 : 0 ≤ x.f1 ∧ x.f1 < n) : inE B x + conB B v n x = inE (fun u => decide (u = v) || B u) x := by
 by_cases hl : x.f0 = x.f1
 ·have e1 : inE B x = 0 := if_neg fun h => h.1 hl
  have e2 : conB B v n x = 0 := if_neg fun h => h.1 hl
  have e3 : inE (fun u => decide (u = v) || B u) x = 0 := if_neg fun h => h.1 hl
  rw [e1, e2, e3]; rfl
 ·by_cases ha : x.f0 = v
  ·have ha1 : x.f0.toNat = v := by omega
   have hb1 : x.f1.toNat ≠ v := by omega
   have e1 : inE B x = 0 := if_neg fun h => by have := h.2.1; rw [ha1, hb] at this; cases this
   cases e : B x.f1.toNat with
   | true =>
    have e2 : conB B v n x = x.f2 := if_pos ⟨hl, Or.inl ⟨ha, h1.2, e⟩⟩
    have e3 : inE (fun u => decide (u = v) || B u) x = x.f2 := if_pos ⟨hl, by simp [ha1], by simp [e]⟩
    rw [e1, e2, e3]; omega
   | false =>
    have e2 : conB B v n x = 0 := if_neg fun h => by
     rcases h.2 with h | h
     ·have := h.2.2; rw [e] at this; cases this
     ·omega
    have e3 : inE (fun u => decide (u = v) || B u) x = 0 := if_neg fun h => by have := h.2.2; simp [hb1, e] at this
    rw [e1, e2, e3]; rfl
  ·have ha1 : x.f0.toNat ≠ v := by omega
   by_cases hc : x.f1 = v
   ·have hb1 : x.f1.toNat = v := by omega
    have e1 : inE B x = 0 := if_neg fun h => by have := h.2.2; rw [hb1, hb] at this; cases this
    cases e : B x.f0.toNat with
    | true =>
     have e2 : conB B v n x = x.f2 := if_pos ⟨hl, Or.inr ⟨hc, h0.2, e⟩⟩
     have e3 : inE (fun u => decide (u = v) || B u) x = x.f2 := if_pos ⟨hl, by simp [e], by simp [hb1]⟩
     rw [e1, e2, e3]; omega
    | false =>
     have e2 : conB B v n x = 0 := if_neg fun h => by
      rcases h.2 with h | h
      ·omega
      ·have := h.2.2; rw [e] at this; cases this
     have e3 : inE (fun u => decide (u = v) || B u) x = 0 := if_neg fun h => by have := h.2.1; simp [ha1, e] at this
     rw [e1, e2, e3]; rfl
   ·have hb1 : x.f1.toNat ≠ v := by omega
    have e2 : conB B v n x = 0 := if_neg fun h => by omega
    have e3 : inE (fun u => decide (u = v) || B u) x = inE B x := by unfold inE; simp [ha1, hb1]
    rw [e2, e3]; omega
theorem fullify {n q : Nat} {E : List S66} (hR : RightE n E) (hq : q < n) {c : Nat → Int} (hc : NoBlock n (timesOf E) q c) : ∀ (m : Nat) (B : Nat → Bool) (r : Nat → Int), left n B ≤ m → B q = true →
  (∀ v, v < n → B v = true → v ≠ q → c v ≤ r v) → sumN (fun v => if B v = true ∧ v ≠ q then r v + 1 else 0) n = sumE (inE B) E →
  (∀ S : Nat → Bool, S q = false → (∃ v, v < n ∧ S v = true ∧ B v = true) → ∃ v, v < n ∧ S v = true ∧ B v = true ∧ r v < flamesTo (timesOf E) (fun u => !S u) v n) →
  ∃ r' : Nat → Int, (∀ v, v < n → v ≠ q → c v ≤ r' v) ∧ sumN (fun v => if v ≠ q then r' v + 1 else 0) n = sumE (inE fun _ => true) E ∧ NoBlock n (timesOf E) q r' := by
 have ht : ∀ i j, 0 ≤ timesOf E i j := fun i j => ((edgesIn_of hR.inB).times i j).1
 have done : ∀ (B : Nat → Bool) (r : Nat → Int), left n B = 0 → (∀ v, v < n → B v = true → v ≠ q → c v ≤ r v) → sumN (fun v => if B v = true ∧ v ≠ q then r v + 1 else 0) n = sumE (inE B) E →
  (∀ S : Nat → Bool, S q = false → (∃ v, v < n ∧ S v = true ∧ B v = true) → ∃ v, v < n ∧ S v = true ∧ B v = true ∧ r v < flamesTo (timesOf E) (fun u => !S u) v n) →
  ∃ r' : Nat → Int, (∀ v, v < n → v ≠ q → c v ≤ r' v) ∧ sumN (fun v => if v ≠ q then r' v + 1 else 0) n = sumE (inE fun _ => true) E ∧ NoBlock n (timesOf E) q r' := by
  intro B r h0 h1 h2 h3
  have hall := left_zero h0
  refine ⟨r, fun v hv hvq => h1 v hv (hall v hv) hvq, ?_, ?_⟩
  ·rw [sumN_congr (g := fun v => if B v = true ∧ v ≠ q then r v + 1 else 0) fun u hu => by simp [hall u hu], h2]
   refine sumE_congr fun x hx => ?_
   have ho := hR.ok x hx
   simp [edgeOk] at ho
   unfold inE
   rw [hall x.f0.toNat (by omega), hall x.f1.toNat (by omega)]
  ·rintro S ⟨v, hv, hs⟩ hSq
   obtain ⟨u, h4, h5, _, h6⟩ := h3 S hSq ⟨v, hv, hs, hall v hv⟩
   exact ⟨u, h4, h5, h6⟩
 intro m
 induction m with
 | zero => exact fun B r h0 _ h1 h2 h3 => done B r (by omega) h1 h2 h3
 | succ m ih =>
  intro B r h0 hBq h1 h2 h3
  by_cases hz : left n B = 0
  ·exact done B r hz h1 h2 h3
  ·have hex : ∃ v, v < n ∧ (fun u => !B u) v = true := by
    refine Classical.byContradiction fun hno => hz ?_
    unfold left
    rw [List.countP_eq_zero]
    intro v hv hb
    exact hno ⟨v, List.mem_range.1 hv, hb⟩
   obtain ⟨v, hv, hbv, hlt⟩ := hc (fun u => !B u) hex (by simp [hBq])
   have hbv' : B v = false := by simpa using hbv
   have hvq : v ≠ q := fun e => by subst e; rw [hBq] at hbv'; cases hbv'
   have e0 : (fun u => !(fun u => !B u) u) = B := by funext u; simp
   rw [e0] at hlt
   refine ih (fun u => decide (u = v) || B u) (fun u => if u = v then flamesTo (timesOf E) B v n - 1 else r u) (by have := left_lt hbv' hv; omega) (by simp [hBq]) ?_ ?_ ?_
   ·intro u hu hbu huq
    by_cases e : u = v
    ·subst e; simp only [if_true]; omega
    ·simp only [if_neg e]
     simp [e] at hbu
     exact h1 u hu hbu huq
   ·have hs := sumN_set (f := fun u => if B u = true ∧ u ≠ q then r u + 1 else 0) (g := fun u => if (decide (u = v) || B u) = true ∧ u ≠ q then (if u = v then flamesTo (timesOf E) B v n - 1 else r u) + 1 else 0) (v := v) (fun u hu => by simp [hu]) hv
    rw [hs, h2]
    simp only [decide_true, Bool.true_or, if_true, hbv', Bool.false_eq_true, false_and, if_false, ne_eq, hvq, not_false_eq_true, and_self]
    rw [flames_sum hR B v hbv' n]
    rw [show sumE (inE B) E + (sumE (conB B v n) E - 1 + 1 - 0) = sumE (inE B) E + sumE (conB B v n) E by omega, ← sumE_add]
    refine sumE_congr fun x hx => ?_
    have ho := hR.ok x hx
    simp [edgeOk] at ho
    exact in_step hbv' (by omega) (by omega)
   ·intro S hSq hex'
    by_cases hold : ∃ u, u < n ∧ S u = true ∧ B u = true
    ·obtain ⟨u, u1, u2, u3, u4⟩ := h3 S hSq hold
     refine ⟨u, u1, u2, by simp [u3], ?_⟩
     have : u ≠ v := fun e => by subst e; rw [u3] at hbv'; cases hbv'
     simp only [if_neg this]; exact u4
    ·obtain ⟨u, u1, u2, u3⟩ := hex'
     have huv : u = v := by
      refine Classical.byContradiction fun e => hold ⟨u, u1, u2, ?_⟩
      simpa [e] using u3
     subst huv
     refine ⟨u, u1, u2, by simp, ?_⟩
     simp only [if_true]
     have := flamesTo_up ht (b := B) (b' := fun w => !S w) (v := u) n (fun w hw hbw => by
      cases hs : S w with
      | false => rfl
      | true => exact absurd ⟨w, hw, hs, hbw⟩ hold)
     omega
def genE (n : Nat) (E : List S66) : Int := sumE (inE fun _ => true) E - n + 1
theorem sumN_const (n q : Nat) (hq : q < n) (f : Nat → Int) : sumN (fun v => if v ≠ q then f v + 1 else 0) n = sumN (fun v => if v ≠ q then f v else 0) n + n - 1 := by
 have key : ∀ m : Nat, sumN (fun v => if v ≠ q then f v + 1 else 0) m = sumN (fun v => if v ≠ q then f v else 0) m + m - (if q < m then 1 else 0) := fun m => by
  induction m with
  | zero => simp [sumN]
  | succ m ih =>
   rw [sumN, sumN, ih]
   by_cases e : m = q
   ·subst e; simp; omega
   ·rw [if_pos e, if_pos e]
    by_cases h : q < m
    ·rw [if_pos h, if_pos (by omega)]; omega
    ·rw [if_neg h, if_neg (by omega)]; omega
 rw [key n, if_pos hq]
theorem sumTo_sumN (l : List Int) : ∀ m : Nat, sumTo l m = sumN (fun v => rd l v) m
 | 0 => rfl
 | m + 1 => by rw [sumTo, sumN, sumTo_sumN l m]
theorem NoBlock.congr {n : Nat} {t : Nat → Nat → Int} {q : Nat} {c c' : Nat → Int} (h : NoBlock n t q c) (hc : ∀ v, v < n → v ≠ q → c' v ≤ c v) : NoBlock n t q c' := by
 rintro S hS hq
 obtain ⟨v, h1, h2, h3⟩ := h S hS hq
 have : v ≠ q := fun e => by subst e; rw [hq] at h2; cases h2
 exact ⟨v, h1, h2, by have := hc v h1 this; omega⟩
namespace Small
variable {n q : Nat} {E : List S66}
theorem full (h : Small n q E) {c : List Int} (hc : c ∈ confs n E q) : ∃ d : List Int, d ∈ confs n E q ∧ (∀ v : Nat, v < n → rd c v ≤ rd d v) ∧ sumOf d = genE n E := by
 obtain ⟨h1, h2, h3, h4⟩ := (h.mem_confs c).1 hc
 have ht : ∀ i j, 0 ≤ timesOf E i j := fun i j => ((edgesIn_of h.right.inB).times i j).1
 have hnb := (superB_iff ht q c).1 h4
 obtain ⟨r, r1, r2, r3⟩ := fullify h.right h.q hnb (left n fun u => decide (u = q)) (fun u => decide (u = q)) (fun _ => 0) (Nat.le_refl _) (by simp) (fun v hv hb hvq => by simp at hb; exact absurd hb hvq)
  (by
   rw [sumN_zero (fun u hu => by rw [if_neg]; simp), sumE_zero]
   intro x hx
   have ho := h.right.ok x hx
   simp [edgeOk] at ho
   unfold inE
   rw [if_neg]
   rintro ⟨e, e1, e2⟩
   simp at e1 e2
   omega)
  (fun S hS ⟨v, hv, hs, hb⟩ => by simp at hb; subst hb; rw [hS] at hs; cases hs)
 refine ⟨(List.range n).map fun (v : Nat) => if v = q then 0 else r v, ?_, ?_, ?_⟩
 ·refine (h.mem_confs _).2 ⟨by simp, fun v => ?_, ?_, ?_⟩
  ·by_cases hv : v < n
   ·rw [rd_map _ hv]
    by_cases e : v = q
    ·rw [if_pos e]; exact Int.le_refl _
    ·rw [if_neg e]; have := r1 v hv e; have := h2 v; omega
   ·rw [rd_out (by simp; omega)]; exact Int.le_refl _
  ·rw [rd_map _ h.q, if_pos rfl]
  ·refine (superB_iff ht q _).2 (r3.congr fun v hv hvq => ?_)
   rw [rd_map _ hv, if_neg hvq]; exact Int.le_refl _
 ·intro v hv
  rw [rd_map _ hv]
  by_cases e : v = q
  ·rw [if_pos e, e, h3]; exact Int.le_refl _
  ·rw [if_neg e]; exact r1 v hv e
 ·unfold sumOf genE
  rw [← r2, sumN_const n q h.q, sumTo_sumN]
  simp only [List.length_map, List.length_range]
  rw [sumN_congr (g := fun v => if v ≠ q then r v else 0) fun u hu => by
   rw [rd_map _ hu]
   by_cases e : u = q
   ·rw [if_pos e, if_neg (by simp [e])]
   ·rw [if_neg e, if_pos e]]
  omega
theorem sum_le (h : Small n q E) {c : List Int} (hc : c ∈ confs n E q) : 0 ≤ sumOf c ∧ sumOf c ≤ genE n E := by
 obtain ⟨d, hd, h1, h2⟩ := h.full hc
 have lc := (h.conf_mem hc).1
 have ld := (h.conf_mem hd).1
 have hp := ((h.mem_confs c).1 hc).2.1
 rw [← h2]
 unfold sumOf
 rw [sumTo_sumN, sumTo_sumN, lc, ld]
 have h0 := sumN_le (f := fun _ => 0) (g := fun (v : Nat) => rd c v) (n := n) fun u _ => hp u
 rw [sumN_zero (f := fun _ => 0) fun _ _ => rfl] at h0
 exact ⟨h0, sumN_le h1⟩
theorem top_iff (h : Small n q E) {c : List Int} (hc : c ∈ confs n E q) : sumOf c = genE n E ↔ ∀ v : Nat, v < n → v ≠ q → superB n (timesOf E) q (c.set v (rd c v + 1)) = false := by
 obtain ⟨h1, h2, h3, h4⟩ := (h.mem_confs c).1 hc
 constructor
 ·intro hs v hv hvq
  cases e : superB n (timesOf E) q (c.set v (rd c v + 1)) with
  | false => rfl
  | true =>
   have hm : c.set v (rd c v + 1) ∈ confs n E q := (h.mem_confs _).2 ⟨by simp [h1], fun u => by
    by_cases e : v = u
    ·subst e; rw [rd_set_self (by omega)]; have := h2 v; omega
    ·rw [rd_set_ne e]; exact h2 u, by rw [rd_set_ne hvq]; exact h3, e⟩
   have := (h.sum_le hm).2
   have hx : sumOf (c.set v (rd c v + 1)) = sumOf c + 1 := by
    unfold sumOf
    rw [sumTo_sumN, sumTo_sumN, List.length_set, sumN_set (f := fun (u : Nat) => rd c u) (v := v) (fun u hu => (rd_set_ne (fun e => hu e.symm) _).symm) (by omega), rd_set_self (by omega)]
    omega
   omega
 ·intro hall
  obtain ⟨d, hd, hle, hsum⟩ := h.full hc
  obtain ⟨d1, d2, d3, d4⟩ := (h.mem_confs d).1 hd
  have : c = d := rd_ext (by omega) fun v hv => by
   refine Classical.byContradiction fun hne => ?_
   have hl := hle v (by omega)
   have hvq : v ≠ q := fun e => by subst e; rw [h3, d3] at hne; exact hne rfl
   have hb := hall v (by omega) hvq
   have : superB n (timesOf E) q (c.set v (rd c v + 1)) = true := h.sup_down (fun u hu => by
    by_cases e : v = u
    ·subst e; rw [rd_set_self (by omega)]; omega
    ·rw [rd_set_ne e]; exact hle u hu) d4
   rw [hb] at this; cases this
  rw [this]; exact hsum
end Small
end
mutual
def sandpilelaw28_SuperstableGenus.l0 : Nat → List Int → Int → List (List Int) → Int → Int → List Int → Int → Int → Option (Bool)
 | 0, _, _, _, _, _, _, _, _ => none
 | k + 1, x5, x7, x9, x11, x12, x49, x50, x51 => if x51 < x50 then (if 0 ≤ x51 then (if x51 < (x49.length : Int) then (sandpilelaw28_SuperstableGenus.l0 k x5 x7 x9 x11 (wrap64 (x12 + (rd x49 x51))) x49 x50 (wrap64 (x51 + 1))) else (none)) else (none)) else (sandpilelaw28_SuperstableGenus.l1 k x5 x7 x9 x11 x12 x9 (x9.length : Int) 0)
def sandpilelaw28_SuperstableGenus.l1 : Nat → List Int → Int → List (List Int) → Int → Int → List (List Int) → Int → Int → Option (Bool)
 | 0, _, _, _, _, _, _, _, _ => none
 | k + 1, x5, x7, x9, x11, x12, x59, x60, x61 => if x61 < x60 then (if 0 ≤ x61 then (if x61 < (x59.length : Int) then ((sandpileref17_Total.f k (rd_L2 x59 x61)).bind fun t561 => (if t561 = x11 then (sandpilelaw28_SuperstableGenus.l1 k x5 x7 x9 x11 x12 x59 x60 (wrap64 (x61 + 1))) else (some false))) else (none)) else (none)) else (if x12 = x7 then (if (x5.length : Int) = (wrap64 (x11 + 1)) then (if 0 < (x5.length : Int) then (if (rd x5 0) = 1 then (if 0 ≤ x11 then (if x11 < (x5.length : Int) then (if (rd x5 x11) = (x9.length : Int) then ((sandpilelaw28_awake.f).bind fun t564 => (some t564)) else (some false)) else (none)) else (none)) else (some false)) else (none)) else (some false)) else (some false))
end
section
theorem ev_all {ι : Type} {P : ι → Nat → Prop} : ∀ (l : List ι), (∀ x ∈ l, ∃ B, ∀ K, B ≤ K → P x K) → ∃ B, ∀ K, B ≤ K → ∀ x ∈ l, P x K
 | [], _ => ⟨0, fun _ _ x hx => absurd hx (by simp)⟩
 | y :: l, h => by
  obtain ⟨B, hB⟩ := ev_all l fun x hx => h x (List.mem_cons_of_mem _ hx)
  obtain ⟨C, hC⟩ := h y (List.mem_cons_self ..)
  refine ⟨max B C, fun K hK x hx => ?_⟩
  rcases List.mem_cons.1 hx with rfl | hx
  ·exact hC K (by omega)
  ·exact hB K (by omega) x hx
namespace Small
variable {n q : Nat} {E : List S66}
theorem raised_all (h : Small n q E) (hr : rootG n E q = 0) : ∃ B, ∀ K, B ≤ K → ∀ c ∈ confs n E q, ∀ v ∈ List.range n, v ≠ q → ∃ r, superstable_raised.f K n E q c v = some r ∧ v < r.length ∧ (rd c v < rd r v ↔ superB n (timesOf E) q (c.set v (rd c v + 1)) = true) := by
 refine ev_all _ fun c hc => ev_all _ fun v hv => ?_
 have hvn := List.mem_range.1 hv
 by_cases hq : v = q
 ·exact ⟨0, fun _ _ e => absurd hq e⟩
 ·have hg := h.good_conf hc
  obtain ⟨M, m1, m2, m3⟩ := h.rise hg.len hvn hq ((h.mem_confs c).1 hc).2.2.2 (hg.pos v)
  obtain ⟨B, hB⟩ := h.raised_ev hr hg hvn hq m1 m2 m3
  refine ⟨B, fun K hK _ => ⟨_, hB K hK, by rw [List.length_set, hg.len]; exact hvn, ?_⟩⟩
  rw [rd_set_self (by rw [hg.len]; exact hvn), m3]
  omega
def topsOf (n q : Nat) (E : List S66) : List (List Int) := (confs n E q).filter fun c => decide (sumOf c = genE n E)
theorem maximal_ev (h : Small n q E) (hr : rootG n E q = 0) : Ev (fun k => superstable_Maximal.f k n E q) (topsOf n q E, (0 : Int)) := by
 unfold superstable_Maximal.f
 refine Ev.bind (h.superAll_ev hr) ?_
 simp only [if_true]
 obtain ⟨B, hB⟩ := h.raised_all hr
 refine ⟨B, fun K hK => ?_⟩
 have hK := hB K hK
 have h1 : okRaised K n E q (confs n E q) = true := by
  unfold okRaised
  refine List.all_eq_true.2 fun c hc => List.all_eq_true.2 fun v hv => ?_
  have hl := (h.conf_mem hc).1
  by_cases hq : v = q
  ·simp [hq]
  ·obtain ⟨r, r1, r2, _⟩ := hK c hc v (List.mem_range.2 (by have := List.mem_range.1 hv; omega)) hq
   rw [r1]
   simp [r2]
 show (if okRaised K n E q (confs n E q) = true then some (List.filter (fun x => !risesTo x q (raisedAt K n E q x) x.length) (confs n E q), (0 : Int)) else none) = _
 rw [if_pos h1]
 congr 2
 refine List.filter_congr fun c hc => ?_
 have hl := (h.conf_mem hc).1
 rw [Bool.eq_iff_iff, decide_eq_true_iff, h.top_iff hc]
 unfold risesTo
 rw [Bool.not_eq_true', List.any_eq_false]
 constructor
 ·intro h2 v hv hq
  obtain ⟨r, r1, r2, r3⟩ := hK c hc v (List.mem_range.2 hv) hq
  have h3 := h2 v (List.mem_range.2 (by omega))
  rw [show raisedAt K n E q c v = r by unfold raisedAt; rw [r1]; rfl] at h3
  cases e : superB n (timesOf E) q (c.set v (rd c v + 1)) with
  | false => rfl
  | true =>
   have := r3.2 e
   rw [decide_eq_true (show (v : Int) ≠ q by omega), decide_eq_true this] at h3
   exact absurd rfl h3
 ·intro h2 v hv hx
  have hvn : v < n := by have := List.mem_range.1 hv; omega
  rw [Bool.and_eq_true, decide_eq_true_iff, decide_eq_true_iff] at hx
  have hq : v ≠ q := fun e => hx.1 (by omega)
  obtain ⟨r, r1, r2, r3⟩ := hK c hc v (List.mem_range.2 hvn) hq
  rw [show raisedAt K n E q c v = r by unfold raisedAt; rw [r1]; rfl] at hx
  have := r3.1 hx.2
  rw [h2 v hvn hq] at this; cases this
end Small
namespace Small
variable {n q : Nat} {E : List S66}
end Small
end
section
namespace Small
variable {n q : Nat} {E : List S66}
theorem sum_conf (h : Small n q E) {c : List Int} (hc : c ∈ confs n E q) : sumOf c = sumN (fun v => rd c v) n := by
 have := ((h.mem_confs c).1 hc).1
 unfold sumOf; rw [sumTo_sumN, this]
theorem greatest_iff (h : Small n q E) {c : List Int} (hc : c ∈ confs n E q) : (∀ x ∈ confs n E q, (∀ v : Nat, v < n → rd c v ≤ rd x v) → x = c) ↔ sumOf c = genE n E := by
 constructor
 ·intro H
  obtain ⟨d, h1, h2, h3⟩ := h.full hc
  rw [← H d h1 h2]; exact h3
 ·intro hs x hx hle
  have h1 := (h.sum_le hx).2
  rw [← hs, h.sum_conf hx, h.sum_conf hc] at h1
  have h2 : sumN (fun v => rd c v) n = sumN (fun v => rd x v) n := Int.le_antisymm (sumN_le hle) h1
  have h3 := sumN_eq hle h2
  have l1 := ((h.mem_confs x).1 hx).1
  have l2 := ((h.mem_confs c).1 hc).1
  exact (rd_ext (by omega) (fun v hv => h3 v (by omega))).symm
theorem raise_top (h : Small n q E) (hr : rootG n E q = 0) :
  ∀ (m v : Nat) (out : List Int), v + m = n → GoodC n q out → superB n (timesOf E) q out = true →
   ∃ r : List Int, r.length = n ∧ GoodC n q r ∧ superB n (timesOf E) q r = true ∧ (∀ u : Nat, rd out u ≤ rd r u) ∧ (∀ u : Nat, v ≤ u → u < n → u ≠ q → superB n (timesOf E) q (r.set u (rd r u + 1)) = false) ∧ Ev (fun k => superstable_Raise.l0 k q out n v n E) (r, (0 : Int))
 | 0, v, out, hv, hg, hs => by
  refine ⟨out, hg.len, hg, hs, fun u => Int.le_refl _, fun u h1 h2 => by omega, ?_⟩
  refine Ev.of_succ ?_
  simp only [superstable_Raise.l0, if_neg (show ¬ (v : Int) < n by omega)]
  exact Ev.const _
 | m + 1, v, out, hv, hg, hs => by
  have h5 := h.n5
  have hl := hg.len
  by_cases hq : v = q
  ·obtain ⟨r, h1, h2, h3, h4, h6, h7⟩ := raise_top h hr m (v + 1) out (by omega) hg hs
   refine ⟨r, h1, h2, h3, h4, fun u hu1 hu2 hu3 => h6 u (by omega) hu2 hu3, ?_⟩
   refine Ev.of_succ ?_
   simp only [superstable_Raise.l0, if_pos (show (v : Int) < n by omega), if_pos (show (v : Int) = q by omega), wrap_succ (show v ≤ 1000000 by omega)]
   exact h7
  ·have hvn : v < n := by omega
   have hval := h.val_le v
   obtain ⟨M, m1, m2, m3⟩ := h.rise hg.len hvn hq hs (hg.pos v)
   have hg' : GoodC n q (out.set v M) := by
    refine ⟨by simp [hl], fun u => ?_, fun u => ?_, by rw [rd_set_ne hq]; exact hg.sink⟩
    ·by_cases e : v = u
     ·subst e; rw [rd_set_self (by omega)]; omega
     ·rw [rd_set_ne e]; exact hg.pos u
    ·by_cases e : v = u
     ·subst e; rw [rd_set_self (by omega)]; omega
     ·rw [rd_set_ne e]; exact hg.up u
   obtain ⟨r, h1, h2, h3, h4, h6, h7⟩ := raise_top h hr m (v + 1) (out.set v M) (by omega) hg' ((m3 M).2 (Int.le_refl _))
   have hrv := h4 v
   rw [rd_set_self (by omega)] at hrv
   have hor : ∀ u : Nat, rd out u ≤ rd r u := fun u => by
    refine Int.le_trans ?_ (h4 u)
    by_cases e : v = u
    ·subst e; rw [rd_set_self (by omega)]; exact m1
    ·rw [rd_set_ne e]; exact Int.le_refl _
   refine ⟨r, h1, h2, h3, hor, fun u hu1 hu2 hu3 => ?_, ?_⟩
   ·by_cases e : u = v
    ·subst e
     cases hb : superB n (timesOf E) q (r.set u (rd r u + 1)) with
     | false => rfl
     | true =>
      have hd := h.sup_down (a := out.set u ((M : Int) + 1)) (fun w hw => by
       by_cases e : u = w
       ·subst e; rw [rd_set_self (by omega), rd_set_self (by omega)]; omega
       ·rw [rd_set_ne e, rd_set_ne e]; exact hor w) hb
      have := (m3 _).1 hd
      omega
    ·exact h6 u (by omega) hu2 hu3
   ·refine Ev.of_succ ?_
    simp only [superstable_Raise.l0, if_pos (show (v : Int) < n by omega), if_neg (show ¬ (v : Int) = q by omega), wrap_succ (show v ≤ 1000000 by omega)]
    exact Ev.bind (h.raised_ev hr hg hvn hq m1 m2 m3) h7
theorem err_good (h : Small n q E) (hr : rootG n E q = 0) {c : List Int} (hg : GoodC n q c) : err23 n E q c = 0 := by
 have hl := hg.len
 have h1 : ∀ l : List Int, (∀ y ∈ l, 0 ≤ y ∧ y ≤ 1048576) → rngF l = 0 := fun l => by
  induction l with
  | nil => intro _; rfl
  | cons y l ih =>
   intro hl
   have := hl y (List.mem_cons_self ..)
   rw [rngF, if_pos (by simp [chipB]; omega)]
   exact ih fun z hz => hl z (List.mem_cons_of_mem _ hz)
 have h2 : ∀ (l : List Int) (i : Nat), (∀ y ∈ l, 0 ≤ y ∧ y ≤ 1048576) → negF q i l = 0 := fun l => by
  induction l with
  | nil => intro i _; rfl
  | cons y l ih =>
   intro i hl
   have := hl y (List.mem_cons_self ..)
   rw [negF, if_neg (show ¬ y < 0 by omega), ih (i + 1) fun z hz => hl z (List.mem_cons_of_mem _ hz)]
   split <;> rfl
 have hm : ∀ y ∈ c, 0 ≤ y ∧ y ≤ 1048576 := fun y hy => by
  obtain ⟨i, hi, rfl⟩ := List.getElem_of_mem hy
  have := And.intro (hg.pos i) (hg.up i)
  simp only [rd, Int.toNat_natCast, List.getD_eq_getElem?_getD, List.getElem?_eq_getElem hi, Option.getD_some] at this
  exact this
 have e0 : errC n E q c = 0 := by
  unfold errC
  rw [if_pos hr, if_pos (by simp [hl]), h1 _ hm, if_pos rfl, h2 _ 0 hm]
 unfold err23
 rw [if_pos e0, if_pos hg.sink]
theorem raise_law (h : Small n q E) (hr : rootG n E q = 0) {c : List Int} (hc : c ∈ confs n E q) : ∃ d : List Int, d ∈ topsOf n q E ∧ d.length = c.length ∧ (∀ v : Nat, rd c v ≤ rd d v) ∧ Ev (fun k => superstable_Raise.f k n E q c) (d, (0 : Int)) ∧ Ev (fun k => superstable_Raise.f k n E q d) (d, (0 : Int)) := by
 have hE : E.length ≤ 1000 := by have := h.len; omega
 have h12 : n ≤ 12 := by have := h.n5; omega
 have key : ∀ c : List Int, c ∈ confs n E q → ∃ d : List Int, d ∈ confs n E q ∧ sumOf d = genE n E ∧ (∀ v : Nat, rd c v ≤ rd d v) ∧ Ev (fun k => superstable_Raise.f k n E q c) (d, (0 : Int)) := fun c hc => by
  have hg := h.good_conf hc
  have hs := ((h.mem_confs c).1 hc).2.2.2
  have he := h.err_good hr hg
  obtain ⟨r, r1, r2, r3, r4, r5, r6⟩ := h.raise_top hr n 0 c (by omega) hg hs
  have hrc : r ∈ confs n E q := (h.mem_confs r).2 ⟨r1, r2.pos, r2.sink, r3⟩
  refine ⟨r, hrc, (h.top_iff hrc).2 fun v hv hq => r5 v (by omega) hv hq, r4, ?_⟩
  unfold superstable_Raise.f
  refine Ev.bind (burn_ev hE h12 h.right.inB he) ?_
  simp only [if_true, hs, clone_ev (show c.length ≤ 1000 by have := hg.len; omega), Option.bind_some, hg.len]
  exact r6
 obtain ⟨d, d1, d2, d3, d4⟩ := key c hc
 obtain ⟨d', e1, e2, e3, e4⟩ := key d d1
 have := (h.greatest_iff d1).2 d2 d' e1 (fun v _ => e3 v)
 subst this
 refine ⟨d', List.mem_filter.2 ⟨d1, by simpa using d2⟩, by rw [((h.mem_confs d').1 d1).1, ((h.mem_confs c).1 hc).1], d3, d4, e4⟩
end Small
end
mutual
def sandpileref28_Greatest.l0 : Nat → List (List Int) → List Int → Int → Option (Bool)
 | 0, _, _, _ => none
 | k + 1, x0, x1, x5 => if x5 < (x0.length : Int) then (sandpileref28_Greatest.l1 k x0 x1 x5 true 0) else (some true)
def sandpileref28_Greatest.l1 : Nat → List (List Int) → List Int → Int → Bool → Int → Option (Bool)
 | 0, _, _, _, _, _ => none
 | k + 1, x0, x1, x5, x6, x7 => if x7 < (x1.length : Int) then (if x6 = true then (if 0 ≤ x5 then (if x5 < (x0.length : Int) then (if 0 ≤ x7 then (if x7 < ((rd_L2 x0 x5).length : Int) then (sandpileref28_Greatest.l1 k x0 x1 x5 (decide ((rd (rd_L2 x0 x5) x7) ≥ (rd x1 x7))) (wrap64 (x7 + 1))) else (none)) else (none)) else (none)) else (none)) else (sandpileref28_Greatest.l1 k x0 x1 x5 false (wrap64 (x7 + 1)))) else (if x6 = true then (if 0 ≤ x5 then (if x5 < (x0.length : Int) then ((sandpileref17_Same.f k (rd_L2 x0 x5) x1).bind fun t286 => (if t286 = true then (sandpileref28_Greatest.l0 k x0 x1 (wrap64 (x5 + 1))) else (some false))) else (none)) else (none)) else (sandpileref28_Greatest.l0 k x0 x1 (wrap64 (x5 + 1))))
end
section
theorem rd_L2_in {l : List (List Int)} {i : Nat} (h : i < l.length) : rd_L2 l i ∈ l := by
 have e : rd_L2 l i = l[i] := by simp [rd_L2, List.getD_eq_getElem?_getD, List.getElem?_eq_getElem h]
 rw [e]; exact List.getElem_mem h
namespace Small
variable {n q : Nat} {E : List S66}
end Small
end
section
namespace Small
variable {n q : Nat} {E : List S66}
end Small
end
def graph_at.l0 : Nat → List Int → Int → Int → Int → List (S66) → Option (Int)
 | 0, _, _, _, _, _ => none
 | k + 1, x13, x14, x15, x421000, x421001 => if x15 < x14 then (if 0 ≤ x15 then (if x15 < (x13.length : Int) then ((graph_vertex.f x421000 (rd x13 x15)).bind fun t423 => (if t423 = true then (graph_at.l0 k x13 x14 (wrap64 (x15 + 1)) x421000 x421001) else (some 2))) else (none)) else (none)) else (some 0)
def graph_at.f (k : Nat) (a0_0 : Int) (l0_1 : List (S66)) (l1 : List Int) : Option (Int) := (graph_Check.f k a0_0 l0_1).bind fun t421 => (if t421 = 0 then (graph_at.l0 k l1 (l1.length : Int) 0 a0_0 l0_1) else (some t421))
def graph_Valence.l0 : Nat → Int → Int → List (S66) → Int → Int → Option (Int × Int)
 | 0, _, _, _, _, _ => none
 | k + 1, x1, x7, x18, x19, x20 => if x20 < x19 then (if 0 ≤ x20 then (if x20 < (x18.length : Int) then (if ((rd_T66 x18 x20).f0) = ((rd_T66 x18 x20).f1) then (graph_Valence.l0 k x1 x7 x18 x19 (wrap64 (x20 + 1))) else (if ((rd_T66 x18 x20).f0) = x1 then (graph_Valence.l0 k x1 (wrap64 (x7 + ((rd_T66 x18 x20).f2))) x18 x19 (wrap64 (x20 + 1))) else (if ((rd_T66 x18 x20).f1) = x1 then (graph_Valence.l0 k x1 (wrap64 (x7 + ((rd_T66 x18 x20).f2))) x18 x19 (wrap64 (x20 + 1))) else (graph_Valence.l0 k x1 x7 x18 x19 (wrap64 (x20 + 1)))))) else (none)) else (none)) else (some (x7, 0))
def graph_Valence.f (k : Nat) (a0_0 : Int) (l0_1 : List (S66)) (a1 : Int) : Option (Int × Int) := (graph_at.f k a0_0 l0_1 (([a1] : List Int))).bind fun t428 => (if t428 = 0 then (graph_Valence.l0 k a1 0 l0_1 (l0_1.length : Int) 0) else (some (0, t428)))
def recurrent_pile_valence.f (k : Nat) (a0_0 : Int) (l0_1 : List (S66)) (a0_2 : Int) (l0_3 : List Int) (a1 : Int) : Option (Int) := (graph_Valence.f k a0_0 l0_1 a1).bind fun bt432 => (some bt432.1)
def recurrent_pile_joins.l0 : Nat → Int → List Bool → Int → List (S66) → Int → Int → Option (Int)
 | 0, _, _, _, _, _, _ => none
 | k + 1, x1, x2, x7, x12, x13, x14 => if x14 < x13 then (if 0 ≤ x14 then (if x14 < (x12.length : Int) then (if ((rd_T66 x12 x14).f0) = ((rd_T66 x12 x14).f1) then (recurrent_pile_joins.l0 k x1 x2 x7 x12 x13 (wrap64 (x14 + 1))) else (if ((rd_T66 x12 x14).f0) = x1 then (if 0 ≤ ((rd_T66 x12 x14).f1) then (if ((rd_T66 x12 x14).f1) < (x2.length : Int) then (if rdOf false x2 ((rd_T66 x12 x14).f1) = true then (recurrent_pile_joins.l0 k x1 x2 (wrap64 (x7 + ((rd_T66 x12 x14).f2))) x12 x13 (wrap64 (x14 + 1))) else (if ((rd_T66 x12 x14).f1) = x1 then (if 0 ≤ ((rd_T66 x12 x14).f0) then (if ((rd_T66 x12 x14).f0) < (x2.length : Int) then (if rdOf false x2 ((rd_T66 x12 x14).f0) = true then (recurrent_pile_joins.l0 k x1 x2 (wrap64 (x7 + ((rd_T66 x12 x14).f2))) x12 x13 (wrap64 (x14 + 1))) else (recurrent_pile_joins.l0 k x1 x2 x7 x12 x13 (wrap64 (x14 + 1)))) else (none)) else (none)) else (recurrent_pile_joins.l0 k x1 x2 x7 x12 x13 (wrap64 (x14 + 1))))) else (none)) else (none)) else (if ((rd_T66 x12 x14).f1) = x1 then (if 0 ≤ ((rd_T66 x12 x14).f0) then (if ((rd_T66 x12 x14).f0) < (x2.length : Int) then (if rdOf false x2 ((rd_T66 x12 x14).f0) = true then (recurrent_pile_joins.l0 k x1 x2 (wrap64 (x7 + ((rd_T66 x12 x14).f2))) x12 x13 (wrap64 (x14 + 1))) else (recurrent_pile_joins.l0 k x1 x2 x7 x12 x13 (wrap64 (x14 + 1)))) else (none)) else (none)) else (recurrent_pile_joins.l0 k x1 x2 x7 x12 x13 (wrap64 (x14 + 1)))))) else (none)) else (none)) else (some x7)
def recurrent_pile_joins.f (k : Nat) (a0_0 : Int) (l0_1 : List (S66)) (a0_2 : Int) (l0_3 : List Int) (a1 : Int) (l2 : List Bool) : Option (Int) := recurrent_pile_joins.l0 k a1 l2 0 l0_1 (l0_1.length : Int) 0
def recurrent_pile_catches.f (k : Nat) (a0_0 : Int) (l0_1 : List (S66)) (a0_2 : Int) (l0_3 : List Int) (a1 : Int) (l2 : List Bool) : Option (Bool) := if 0 ≤ a1 then (if a1 < (l0_3.length : Int) then ((recurrent_pile_joins.f k a0_0 l0_1 a0_2 l0_3 a1 l2).bind fun t442 => ((recurrent_pile_valence.f k a0_0 l0_1 a0_2 l0_3 a1).bind fun t443 => (some (decide ((wrap64 ((rd l0_3 a1) + t442)) ≥ t443))))) else (none)) else (none)
mutual
def recurrent_pile_fire.l0 : Nat → List Bool → List Int → Int → List (S66) → Int → List Int → Option (List Int)
 | 0, _, _, _, _, _, _ => none
 | k + 1, x3, x4, x445000, x445001, x445002, x445003 => if (x4.length : Int) < x445000 then (recurrent_pile_fire.l1 k x3 x4 (-1) x445000 0 x445000 x445001 x445002 x445003) else (some x4)
def recurrent_pile_fire.l1 : Nat → List Bool → List Int → Int → Int → Int → Int → List (S66) → Int → List Int → Option (List Int)
 | 0, _, _, _, _, _, _, _, _, _ => none
 | k + 1, x3, x4, x5, x26, x27, x445000, x445001, x445002, x445003 => if x27 < x26 then (if 0 ≤ x27 then (if x27 < (x3.length : Int) then (if rdOf false x3 x27 = true then (recurrent_pile_fire.l1 k x3 x4 x5 x26 (wrap64 (x27 + 1)) x445000 x445001 x445002 x445003) else ((recurrent_pile_catches.f k x445000 x445001 x445002 x445003 x27 x3).bind fun t453 => (if t453 = true then (if x27 < 0 then (some x4) else (if x4.length < 17592186044416 then (recurrent_pile_fire.l0 k (x3.set (x27 : Int).toNat true) (x4 ++ [x27]) x445000 x445001 x445002 x445003) else (none))) else (recurrent_pile_fire.l1 k x3 x4 x5 x26 (wrap64 (x27 + 1)) x445000 x445001 x445002 x445003)))) else (none)) else (none)) else (if x5 < 0 then (some x4) else (if 0 ≤ x5 then (if x5 < (x3.length : Int) then (if x4.length < 17592186044416 then (recurrent_pile_fire.l0 k (x3.set (x5 : Int).toNat true) (x4 ++ [x5]) x445000 x445001 x445002 x445003) else (none)) else (none)) else (none)))
end
section
theorem equalD_l0 (c : List Int) (hc : c.length ≤ 100000) : ∀ (m i : Nat), i + m = c.length → Ev (fun k => api_Divisor_int_31.l0 k c c c.length i) true
 | 0, i, hi => by
  refine Ev.of_succ ?_
  simp only [api_Divisor_int_31.l0, if_neg (show ¬ ((i : Int) < (c.length : Int)) by omega)]
  exact Ev.const _
 | m + 1, i, hi => by
  have ih := equalD_l0 c hc m (i + 1) (by omega)
  refine Ev.of_succ ?_
  simp only [api_Divisor_int_31.l0, if_pos (show (i : Int) < (c.length : Int) by omega), if_pos (show (0 : Int) ≤ (i : Int) by omega), if_true, wrap_succ (show i ≤ 1000000 by omega)]
  exact ih
theorem equalD_ev (c : List Int) (hc : c.length ≤ 100000) : Ev (fun k => api_Divisor_int_31.f k c c) true := by
 unfold api_Divisor_int_31.f
 simp only [if_true]
 exact equalD_l0 c hc c.length 0 (by omega)
theorem right_ev (N : Int) (E : List S66) (q : Int) : Ev (fun k => sandpilelaw28_right.f k N E q) (fewB N E && (rootG N E q == 0)) := by
 unfold sandpilelaw28_right.f
 refine Ev.bind (few_ev N E) ?_
 by_cases hf : fewB N E = true
 ·have hl := few_len hf
  simp only [hf, if_true, Bool.true_and]
  exact Ev.bind (rooted19_ev N E q (by omega)) (Ev.const _)
 ·simp only [if_neg hf]
  have : fewB N E = false := by simpa using hf
  rw [this]
  exact Ev.const _
namespace Small
variable {n q : Nat} {E : List S66}
end Small
end
theorem equalD_l0' (a b : List Int) (hl : a.length = b.length) (hc : a.length ≤ 100000) : ∀ (m i : Nat), i + m = a.length → (∀ j : Nat, j < i → rd a j = rd b j) → Ev (fun k => api_Divisor_int_31.l0 k a b a.length i) (decide (a = b))
 | 0, i, hi, he => by
  refine Ev.of_succ ?_
  have e : a = b := rd_ext hl (fun v hv => he v (by omega))
  simp only [api_Divisor_int_31.l0, if_neg (show ¬ ((i : Int) < (a.length : Int)) by omega), decide_eq_true e]
  exact Ev.const _
 | m + 1, i, hi, he => by
  refine Ev.of_succ ?_
  simp only [api_Divisor_int_31.l0, if_pos (show (i : Int) < (a.length : Int) by omega), if_pos (show (i : Int) < (b.length : Int) by omega), if_pos (show (0 : Int) ≤ (i : Int) by omega), wrap_succ (show i ≤ 1000000 by omega)]
  by_cases e : rd a i = rd b i
  ·simp only [if_pos e]
   exact equalD_l0' a b hl hc m (i + 1) (by omega) (fun j hj => by
    by_cases e2 : j = i
    ·subst e2; exact e
    ·exact he j (by omega))
  ·have hne : a ≠ b := fun h => e (by rw [h])
   simp only [if_neg e, decide_eq_false hne]
   exact Ev.const _
theorem equalD_any (a b : List Int) (hl : a.length = b.length) (hc : a.length ≤ 100000) : Ev (fun k => api_Divisor_int_31.f k a b) (decide (a = b)) := by
 unfold api_Divisor_int_31.f
 simp only [if_pos (show (a.length : Int) = (b.length : Int) by omega)]
 exact equalD_l0' a b hl hc a.length 0 (by omega) (fun j hj => by omega)
theorem reaches_calls (N : Int) (A0 : Option Addr) (c0 : Nat) (E : List S66) (q m : Int) (w : World) (hr0 : Kd.C k66 w A0 E.length E) (hc0 : E.length ≤ c0) (hm : 0 ≤ m ∧ m < 65536) :
  Calls Try.prog 7 #[.agg #[.int .i64 N, .slice A0 E.length c0], .int .i64 q, .int .u16 m] w fun e w' => e = .returned (.bool true) ∧ Below w.heap.size w w' := by
 have hrt := right_ev N E q
 by_cases hf : fewB N E = true
 ·by_cases hr : rootG N E q = 0
  ·obtain ⟨n, q', rfl, rfl, h⟩ := root_small hf hr
   obtain ⟨m, rfl⟩ := Int.eq_ofNat_of_zero_le hm.1
   simp only [hf, hr, beq_self_eq_true, Bool.and_self] at hrt
   have hn5 := h.n5
   have hcl := h.confs_le
   have hne : 0 < (confs n E q').length := List.length_pos_iff.2 h.nonempty
   have hi : m % (confs n E q').length < (confs n E q').length := Nat.mod_lt _ hne
   obtain ⟨d, d1, d2, d3, d4, d5⟩ := h.raise_law hr (rd_L2_in hi)
   have hdl : d.length = n := by rw [d2]; exact ((h.mem_confs _).1 (rd_L2_in hi)).1
   obtain ⟨B1, h1⟩ := hrt
   obtain ⟨B2, h2⟩ := h.superAll_ev hr
   obtain ⟨B3, h3⟩ := h.maximal_ev hr
   obtain ⟨B4, h4⟩ := d4
   obtain ⟨B5, h5⟩ := d5
   obtain ⟨B6, h6⟩ := equalD_ev d (by omega)
   obtain ⟨B7, h7⟩ := ev_all (P := fun (x : List Int) K => api_Divisor_int_31.f K x d = some (decide (x = d))) (Small.topsOf n q' E) (fun x hx => by
    have hx1 : x ∈ confs n E q' := (List.mem_filter.1 hx).1
    have hxl := ((h.mem_confs x).1 hx1).1
    exact equalD_any x d (by omega) (by omega))
   obtain ⟨K, hK⟩ : ∃ K, K = B1 + B2 + B3 + B4 + B5 + B6 + B7 := ⟨_, rfl⟩
   exact reaches_good K n A0 c0 E q' m _ _ _ _ d w hr0 hc0 (h1 K (by omega)) (h2 K (by omega)) (h3 K (by omega)) (by omega) rfl hne rfl (h4 K (by omega)) (h5 K (by omega)) (h6 K (by omega)) d2 d3 (h7 K (by omega)) d1
  ·have e : (rootG N E q == 0) = false := by simpa using hr
   simp only [e, Bool.and_false] at hrt
   obtain ⟨k, hk⟩ := hrt.get
   exact reaches_bad k N A0 c0 E q m w hr0 hc0 hk
 ·have e : fewB N E = false := by simpa using hf
  simp only [e, Bool.false_and] at hrt
  obtain ⟨k, hk⟩ := hrt.get
  exact reaches_bad k N A0 c0 E q m w hr0 hc0 hk
end Go.Proofs.Ytffdiakgjakngaa.P
