/- A part of the proof that SuperstableBelow answers true (text 11 of 12): own walks and plain laws; no conditions. -/
import Derived.Test.YtffdiakgjakngaaBelow10
namespace Go.Proofs.Ytffdiakgjakngaa.P
open Go.RowKit Go.Proofs.YtffdiakgjakngaaW.PrintWords Go.Proofs.YtffdiakgjakngaaW.PrintLast Go.Proofs.YtffdiakgjakngaaW.PrintMore
set_option linter.unusedVariables false
set_option linter.unusedSimpArgs false
set_option maxHeartbeats 8000000
set_option maxRecDepth 100000
def at1 (o : List Bool) (i : Nat) : Bool := o.getD i false
theorem rdOf_at (o : List Bool) (i : Nat) : rdOf false o (i : Int) = at1 o i := by simp [rdOf, at1]
theorem at1_set (o : List Bool) (i j : Nat) (b : Bool) : at1 (o.set i b) j = if i = j ∧ j < o.length then b else at1 o j := by
 unfold at1
 rw [List.getD_eq_getElem?_getD, List.getD_eq_getElem?_getD, List.getElem?_set]
 by_cases h : i = j
 ·subst h
  by_cases h2 : i < o.length
  ·simp [h2]
  ·simp [h2]
 ·simp [h]
def rstep (E : List S66) (a : Nat) (o : List Bool) (b : Nat) : List Bool := if at1 o a = true ∧ btw E a b > 0 then o.set b true else o
def rrow (E : List S66) (n : Nat) (o : List Bool) (a : Nat) : List Bool := (List.range' 0 n).foldl (rstep E a) o
def rround (E : List S66) (n : Nat) (o : List Bool) : List Bool := (List.range' 0 n).foldl (rrow E n) o
def rrounds (E : List S66) (n : Nat) : Nat → List Bool → List Bool
 | 0, o => o
 | m + 1, o => rrounds E n m (rround E n o)
def reachOf (E : List S66) (n v : Nat) : List Bool := rrounds E n n ((List.replicate n false).set v true)
theorem rstep_length (E : List S66) (a b : Nat) (o : List Bool) : (rstep E a o b).length = o.length := by unfold rstep; split <;> simp
theorem foldl_length {f : List Bool → Nat → List Bool} (h : ∀ o b, (f o b).length = o.length) : ∀ (l : List Nat) (o : List Bool), (l.foldl f o).length = o.length
 | [], _ => rfl
 | x :: l, o => by rw [List.foldl_cons, foldl_length h l, h]
theorem rrow_length (E : List S66) (n a : Nat) (o : List Bool) : (rrow E n o a).length = o.length := foldl_length (fun o b => rstep_length E a b o) _ _
theorem rround_length (E : List S66) (n : Nat) (o : List Bool) : (rround E n o).length = o.length := foldl_length (fun o a => rrow_length E n a o) _ _
theorem rrounds_length (E : List S66) (n : Nat) : ∀ m o, (rrounds E n m o).length = o.length
 | 0, _ => rfl
 | m + 1, o => by rw [rrounds, rrounds_length E n m, rround_length]
theorem reach_l2 (E : List S66) (hE : E.length ≤ 1000) (n a x6 : Nat) (hn : n ≤ 1000) (ha : a < n) (r : List Bool) : ∀ (m j : Nat) (o : List Bool), j + m = n → o.length = n → Ev (fun k => sandpileref08_Reached.l1 k ((List.range' j m).foldl (rstep E a) o) x6 ((a + 1 : Nat) : Int) n E) r → Ev (fun k => sandpileref08_Reached.l2 k o x6 a j n E) r
 | 0, j, o, hj, ho, h => by
  refine Ev.of_succ ?_
  simp only [sandpileref08_Reached.l2, if_neg (show ¬ ((j : Int) < (n : Int)) by omega), wrap_succ (show a ≤ 1000000 by omega)]
  exact h
 | m + 1, j, o, hj, ho, h => by
  rw [List.range'_succ, List.foldl_cons] at h
  have ih := reach_l2 E hE n a x6 hn ha r m (j + 1) (rstep E a o j) (by omega) (by rw [rstep_length]; exact ho) h
  refine Ev.of_succ ?_
  simp only [sandpileref08_Reached.l2, if_pos (show (j : Int) < (n : Int) by omega), if_pos (show (0 : Int) ≤ (a : Int) by omega), if_pos (show (a : Int) < (o.length : Int) by omega), if_pos (show (0 : Int) ≤ (j : Int) by omega), if_pos (show (j : Int) < (o.length : Int) by omega), wrap_succ (show j ≤ 1000000 by omega), rdOf_at, Int.toNat_natCast]
  unfold rstep at ih
  by_cases h1 : at1 o a = true
  ·simp only [if_pos h1]
   refine Ev.bind (between_ev n E a j hE) ?_
   by_cases h2 : btw E a j > 0
   ·simp only [if_pos h2]; rw [if_pos ⟨h1, h2⟩] at ih; exact ih
   ·simp only [if_neg h2]; rw [if_neg (fun h => h2 h.2)] at ih; exact ih
  ·simp only [if_neg h1]; rw [if_neg (fun h => h1 h.1)] at ih; exact ih
theorem reach_l1 (E : List S66) (hE : E.length ≤ 1000) (n x6 : Nat) (hn : n ≤ 1000) (hx : x6 ≤ 1000) (r : List Bool) : ∀ (m a : Nat) (o : List Bool), a + m = n → o.length = n → Ev (fun k => sandpileref08_Reached.l0 k ((List.range' a m).foldl (rrow E n) o) ((x6 + 1 : Nat) : Int) n E) r → Ev (fun k => sandpileref08_Reached.l1 k o x6 a n E) r
 | 0, a, o, ha, ho, h => by
  refine Ev.of_succ ?_
  simp only [sandpileref08_Reached.l1, if_neg (show ¬ ((a : Int) < (n : Int)) by omega), wrap_succ (show x6 ≤ 1000000 by omega)]
  exact h
 | m + 1, a, o, ha, ho, h => by
  rw [List.range'_succ, List.foldl_cons] at h
  have ih := reach_l1 E hE n x6 hn hx r m (a + 1) (rrow E n o a) (by omega) (by rw [rrow_length]; exact ho) h
  refine Ev.of_succ ?_
  simp only [sandpileref08_Reached.l1, if_pos (show (a : Int) < (n : Int) by omega)]
  exact reach_l2 E hE n a x6 hn (by omega) r n 0 o (by omega) ho ih
theorem reach_l0 (E : List S66) (hE : E.length ≤ 1000) (n : Nat) (hn : n ≤ 1000) : ∀ (m i : Nat) (o : List Bool), i + m = n → o.length = n → Ev (fun k => sandpileref08_Reached.l0 k o i n E) (rrounds E n m o)
 | 0, i, o, hi, ho => by
  refine Ev.of_succ ?_
  simp only [sandpileref08_Reached.l0, if_neg (show ¬ ((i : Int) < (n : Int)) by omega)]
  exact Ev.const _
 | m + 1, i, o, hi, ho => by
  have ih := reach_l0 E hE n hn m (i + 1) (rround E n o) (by omega) (by rw [rround_length]; exact ho)
  refine Ev.of_succ ?_
  simp only [sandpileref08_Reached.l0, if_pos (show (i : Int) < (n : Int) by omega)]
  exact reach_l1 E hE n i hn (by omega) _ n 0 o (by omega) ho ih
theorem reached_ev (E : List S66) (hE : E.length ≤ 1000) (n v : Nat) (hn : n ≤ 1000) (hv : v < n) : Ev (fun k => sandpileref08_Reached.f k n E v) (reachOf E n v) := by
 unfold sandpileref08_Reached.f
 simp only [if_pos (show (0 : Int) ≤ (n : Int) by omega), Int.toNat_natCast, if_pos (show n ≤ 281474976710656 by omega), Option.bind_some, if_pos (show (0 : Int) ≤ (v : Int) by omega), List.length_replicate, if_pos (show (v : Int) < (n : Int) by omega)]
 exact reach_l0 E hE n hn n 0 _ (by omega) (by simp)
def orAll (s r : List Bool) : List Bool := (List.range' 0 s.length).foldl (fun s u => s.set u (at1 s u || at1 r u)) s
def partsFrom (E : List S66) (n : Nat) : Nat → Nat → Nat → List Bool → Nat
 | 0, _, c, _ => c
 | m + 1, v, c, s => if at1 s v = true then partsFrom E n m (v + 1) c s else partsFrom E n m (v + 1) (c + 1) (orAll s (reachOf E n v))
theorem orStep_length (r : List Bool) (o : List Bool) (u : Nat) : (o.set u (at1 o u || at1 r u)).length = o.length := by simp
theorem parts_l1 (E : List S66) (n : Nat) (hn : n ≤ 1000) (c v : Nat) (hv : v ≤ 1000) (q : List Bool) (hq : q.length = n) (r : Int) : ∀ (m j : Nat) (s : List Bool), j + m = n → s.length = n → Ev (fun k => sandpileref08_Parts.l0 k c ((List.range' j m).foldl (fun s u => s.set u (at1 s u || at1 q u)) s) ((v + 1 : Nat) : Int) n E) r → Ev (fun k => sandpileref08_Parts.l1 k c s v q j n E) r
 | 0, j, s, hj, hs, h => by
  refine Ev.of_succ ?_
  simp only [sandpileref08_Parts.l1, if_neg (show ¬ ((j : Int) < (n : Int)) by omega), wrap_succ (show v ≤ 1000000 by omega)]
  exact h
 | m + 1, j, s, hj, hs, h => by
  rw [List.range'_succ, List.foldl_cons] at h
  have ih := parts_l1 E n hn c v hv q hq r m (j + 1) _ (by omega) (by rw [List.length_set]; exact hs) h
  refine Ev.of_succ ?_
  simp only [sandpileref08_Parts.l1, if_pos (show (j : Int) < (n : Int) by omega), if_pos (show (0 : Int) ≤ (j : Int) by omega), if_pos (show (j : Int) < (s.length : Int) by omega), if_pos (show (j : Int) < (q.length : Int) by omega), wrap_succ (show j ≤ 1000000 by omega), rdOf_at, Int.toNat_natCast]
  by_cases h1 : at1 s j = true
  ·simp only [if_pos h1]; rw [h1, Bool.true_or] at ih; exact ih
  ·simp only [if_neg h1]; rw [Bool.eq_false_iff.2 h1, Bool.false_or] at ih; exact ih
theorem parts_l0 (E : List S66) (hE : E.length ≤ 1000) (n : Nat) (hn : n ≤ 1000) : ∀ (m v c : Nat) (s : List Bool), v + m = n → c ≤ v → s.length = n → Ev (fun k => sandpileref08_Parts.l0 k c s v n E) ((partsFrom E n m v c s : Nat) : Int)
 | 0, v, c, s, hv, hc, hs => by
  refine Ev.of_succ ?_
  simp only [sandpileref08_Parts.l0, if_neg (show ¬ ((v : Int) < (n : Int)) by omega)]
  exact Ev.const _
 | m + 1, v, c, s, hv, hc, hs => by
  refine Ev.of_succ ?_
  simp only [sandpileref08_Parts.l0, if_pos (show (v : Int) < (n : Int) by omega), if_pos (show (0 : Int) ≤ (v : Int) by omega), if_pos (show (v : Int) < (s.length : Int) by omega), wrap_succ (show v ≤ 1000000 by omega), rdOf_at, partsFrom]
  by_cases h1 : at1 s v = true
  ·simp only [if_pos h1]
   exact parts_l0 E hE n hn m (v + 1) c s (by omega) (by omega) hs
  ·simp only [if_neg h1]
   refine Ev.bind (reached_ev E hE n v hn (by omega)) ?_
   have hrl : (reachOf E n v).length = n := by unfold reachOf; rw [rrounds_length]; simp
   have ih := parts_l0 E hE n hn m (v + 1) (c + 1) (orAll s (reachOf E n v)) (by omega) (by omega) (by unfold orAll; rw [foldl_length (fun o b => orStep_length _ o b)]; exact hs)
   rw [wrap_succ (show c ≤ 1000000 by omega)]
   refine parts_l1 E n hn (c + 1) v (by omega) _ hrl _ n 0 s (by omega) hs ?_
   rw [show (List.range' 0 n).foldl (fun s u => s.set u (at1 s u || at1 (reachOf E n v) u)) s = orAll s (reachOf E n v) from by unfold orAll; rw [hs]]
   exact ih
def partsOf (E : List S66) (n : Nat) : Nat := partsFrom E n n 0 0 (List.replicate n false)
theorem parts_ev (E : List S66) (hE : E.length ≤ 1000) (n : Nat) (hn : n ≤ 1000) : Ev (fun k => sandpileref08_Parts.f k n E) ((partsOf E n : Nat) : Int) := by
 unfold sandpileref08_Parts.f
 simp only [if_pos (show (0 : Int) ≤ (n : Int) by omega), Int.toNat_natCast, if_pos (show n ≤ 281474976710656 by omega)]
 exact parts_l0 E hE n hn n 0 0 _ (by omega) (by omega) (by simp)
theorem rstep_mono {E : List S66} {a b : Nat} {o : List Bool} {i : Nat} (h : at1 o i = true) : at1 (rstep E a o b) i = true := by
 unfold rstep
 split
 ·rw [at1_set]; split <;> simp_all
 ·exact h
theorem fold_mono {f : List Bool → Nat → List Bool} (hf : ∀ o b i, at1 o i = true → at1 (f o b) i = true) : ∀ (l : List Nat) (o : List Bool) (i : Nat), at1 o i = true → at1 (l.foldl f o) i = true
 | [], _, _, h => h
 | x :: l, o, i, h => by rw [List.foldl_cons]; exact fold_mono hf l _ i (hf _ _ _ h)
theorem rrow_mono {E : List S66} {n a : Nat} {o : List Bool} {i : Nat} (h : at1 o i = true) : at1 (rrow E n o a) i = true := fold_mono (fun o b i h => rstep_mono h) _ _ _ h
theorem rround_mono {E : List S66} {n : Nat} {o : List Bool} {i : Nat} (h : at1 o i = true) : at1 (rround E n o) i = true := fold_mono (fun o b i h => rrow_mono h) _ _ _ h
theorem rrounds_mono {E : List S66} {n : Nat} : ∀ {m : Nat} {o : List Bool} {i : Nat}, at1 o i = true → at1 (rrounds E n m o) i = true
 | 0, _, _, h => h
 | m + 1, o, i, h => rrounds_mono (m := m) (rround_mono h)
def Closed (E : List S66) (n : Nat) (S : Nat → Bool) : Prop := ∀ a b : Nat, a < n → b < n → S a = true → btw E a b > 0 → S b = true
theorem fold_keeps {P : List Bool → Prop} {f : List Bool → Nat → List Bool} {n : Nat} (hf : ∀ o b, b < n → P o → P (f o b)) : ∀ (m j : Nat) (o : List Bool), j + m ≤ n → P o → P ((List.range' j m).foldl f o)
 | 0, _, _, _, h => h
 | m + 1, j, o, hj, h => by rw [List.range'_succ, List.foldl_cons]; exact fold_keeps hf m (j + 1) _ (by omega) (hf _ _ (by omega) h)
theorem rround_sound {E : List S66} {n : Nat} {S : Nat → Bool} (hS : Closed E n S) {o : List Bool} (h : ∀ i, at1 o i = true → S i = true) : ∀ i, at1 (rround E n o) i = true → S i = true := by
 refine fold_keeps (P := fun o => ∀ i, at1 o i = true → S i = true) (n := n) (fun o a ha h => ?_) n 0 o (by omega) h
 refine fold_keeps (P := fun o => ∀ i, at1 o i = true → S i = true) (n := n) (fun o b hb h => ?_) n 0 o (by omega) h
 intro i hi
 unfold rstep at hi
 split at hi
 ·rename_i hc
  rw [at1_set] at hi
  split at hi
  ·rename_i h2
   obtain ⟨rfl, _⟩ := h2
   exact hS a b ha hb (h a hc.1) hc.2
  ·exact h i hi
 ·exact h i hi
theorem rrounds_sound {E : List S66} {n : Nat} {S : Nat → Bool} (hS : Closed E n S) : ∀ (m : Nat) {o : List Bool}, (∀ i, at1 o i = true → S i = true) → ∀ i, at1 (rrounds E n m o) i = true → S i = true
 | 0, _, h => h
 | m + 1, o, h => rrounds_sound hS m (rround_sound hS h)
theorem set_same {o : List Bool} {b : Nat} (h : at1 o b = true) : o.set b true = o := by
 refine List.ext_getElem (by simp) fun i h1 h2 => ?_
 rw [List.getElem_set]
 by_cases e : b = i
 ·subst e
  rw [if_pos rfl]
  simp only [at1, List.getD_eq_getElem?_getD, List.getElem?_eq_getElem h2, Option.getD_some] at h
  exact h.symm
 ·rw [if_neg e]
theorem rround_same {E : List S66} {n : Nat} {o : List Bool} (h : Closed E n (at1 o)) : rround E n o = o := by
 refine fold_keeps (P := fun x => x = o) (n := n) (fun x a ha hx => ?_) n 0 o (by omega) rfl
 subst hx
 refine fold_keeps (P := fun y => y = x) (n := n) (fun y b hb hy => ?_) n 0 x (by omega) rfl
 subst hy
 unfold rstep
 split
 ·rename_i hc
  exact set_same (h a b ha hb hc.1 hc.2)
 ·rfl
theorem rrounds_same {E : List S66} {n : Nat} : ∀ (m : Nat) {o : List Bool}, Closed E n (at1 o) → rrounds E n m o = o
 | 0, _, _ => rfl
 | m + 1, o, h => by rw [rrounds, rround_same h, rrounds_same m h]
def trues (o : List Bool) (n : Nat) : Nat := (List.range n).countP (at1 o)
theorem trues_le (o : List Bool) (n : Nat) : trues o n ≤ n := by
 unfold trues
 exact Nat.le_trans List.countP_le_length (by simp)
theorem trues_lt {o p : List Bool} {b : Nat} : ∀ {n : Nat}, (∀ i, at1 o i = true → at1 p i = true) → b < n → at1 o b = false → at1 p b = true → trues o n < trues p n
 | 0, _, hb, _, _ => by omega
 | n + 1, h, hb, h1, h2 => by
  have mono : ∀ m, trues o m ≤ trues p m := fun m => List.countP_mono_left (fun x _ hx => h x hx)
  unfold trues at *
  rw [List.range_succ, List.countP_append, List.countP_append]
  by_cases e : b = n
  ·subst e
   have := mono b
   simp [h1, h2]; omega
  ·have := trues_lt (n := n) h (by omega) h1 h2
   unfold trues at this
   have h3 : (if at1 o n = true then 1 else 0) ≤ (if at1 p n = true then 1 else 0) := by
    by_cases h4 : at1 o n = true
    ·rw [if_pos h4, if_pos (h n h4)]; exact Nat.le_refl _
    ·rw [if_neg h4]; exact Nat.zero_le _
   simp only [List.countP_cons, List.countP_nil, Nat.zero_add]
   omega
theorem rround_more {E : List S66} {n : Nat} {o : List Bool} (ho : o.length = n) {a b : Nat} (ha : a < n) (hb : b < n) (h1 : at1 o a = true) (h2 : btw E a b > 0) : at1 (rround E n o) b = true := by
 unfold rround
 have hs : List.range' 0 n = List.range' 0 a ++ a :: List.range' (a + 1) (n - a - 1) := by
  rw [← List.range'_succ, show n - a - 1 + 1 = n - a by omega]
  rw [show List.range' 0 a ++ List.range' a (n - a) = List.range' 0 a ++ List.range' (0 + a) (n - a) by rw [Nat.zero_add], List.range'_append_1]
  rw [show a + (n - a) = n by omega]
 have hs2 : List.range' 0 n = List.range' 0 b ++ b :: List.range' (b + 1) (n - b - 1) := by
  rw [← List.range'_succ, show n - b - 1 + 1 = n - b by omega]
  rw [show List.range' 0 b ++ List.range' b (n - b) = List.range' 0 b ++ List.range' (0 + b) (n - b) by rw [Nat.zero_add], List.range'_append_1]
  rw [show b + (n - b) = n by omega]
 rw [hs, List.foldl_append, List.foldl_cons]
 refine fold_mono (fun o b i h => rrow_mono h) _ _ _ ?_
 have h3 := fold_mono (f := rrow E n) (fun o b i h => rrow_mono h) (List.range' 0 a) o a h1
 have hl := foldl_length (f := rrow E n) (fun o a => rrow_length E n a o) (List.range' 0 a) o
 generalize (List.range' 0 a).foldl (rrow E n) o = o1 at h3 hl ⊢
 unfold rrow
 rw [hs2, List.foldl_append, List.foldl_cons]
 refine fold_mono (fun o b i h => rstep_mono h) _ _ _ ?_
 have h4 := fold_mono (f := rstep E a) (fun o b i h => rstep_mono h) (List.range' 0 b) o1 a h3
 have hl2 := foldl_length (f := rstep E a) (fun o b => rstep_length E a b o) (List.range' 0 b) o1
 generalize (List.range' 0 b).foldl (rstep E a) o1 = o2 at h4 hl2 ⊢
 unfold rstep
 rw [if_pos ⟨h4, h2⟩, at1_set, if_pos ⟨rfl, by omega⟩]
theorem rrounds_closed {E : List S66} {n : Nat} : ∀ (m : Nat) (o : List Bool), o.length = n → n < trues o n + m → Closed E n (at1 (rrounds E n m o))
 | 0, o, ho, h => by have := trues_le o n; omega
 | m + 1, o, ho, h => by
  by_cases hc : Closed E n (at1 o)
  ·rw [rrounds_same (m + 1) hc]; exact hc
  ·rw [rrounds]
   refine rrounds_closed m _ (by rw [rround_length]; exact ho) ?_
   unfold Closed at hc
   simp only [Classical.not_forall] at hc
   obtain ⟨a, b, ha, hb, h1, h2, h3⟩ := hc
   have := trues_lt (o := o) (p := rround E n o) (b := b) (n := n) (fun i hi => rround_mono hi) hb (Bool.eq_false_iff.2 h3) (rround_more ho ha hb h1 h2)
   omega
theorem reachOf_facts {E : List S66} {n v : Nat} (hv : v < n) : at1 (reachOf E n v) v = true ∧ Closed E n (at1 (reachOf E n v)) ∧ ∀ S : Nat → Bool, Closed E n S → S v = true → ∀ i, at1 (reachOf E n v) i = true → S i = true := by
 have h0 : at1 ((List.replicate n false).set v true) v = true := by rw [at1_set, if_pos ⟨rfl, by simpa using hv⟩]
 have hz : ∀ i, at1 (List.replicate n false) i = false := fun i => by simp [at1, List.getD_eq_getElem?_getD, List.getElem?_replicate]; split <;> rfl
 refine ⟨rrounds_mono h0, rrounds_closed n _ (by simp) ?_, fun S hS hSv => rrounds_sound hS n (fun i hi => ?_)⟩
 ·have := trues_lt (o := List.replicate n false) (p := (List.replicate n false).set v true) (b := v) (n := n) (fun i hi => by rw [hz] at hi; cases hi) hv (hz v) h0
  omega
 ·rw [at1_set] at hi
  split at hi
  ·rename_i h; rw [← h.1]; exact hSv
  ·rw [hz] at hi; cases hi
theorem btw_hit {E : List S66} {a b : Int} (h : btw E a b > 0) : ∃ x ∈ E, x.f0 = min a b ∧ x.f1 = max a b := by
 unfold btw at h
 split at h
 ·rename_i x hx
  refine ⟨x, List.mem_of_find?_eq_some hx, ?_⟩
  have := List.find?_some hx
  simpa [hitB] using this
 ·omega
theorem btw_edge {N : Int} {E : List S66} (h : RightE N E) {x : S66} (hx : x ∈ E) : btw E x.f0 x.f1 > 0 := by
 unfold btw
 split
 ·rename_i y hy
  have := h.ok y (List.mem_of_find?_eq_some hy)
  simp [edgeOk] at this; omega
 ·rename_i hn
  rw [List.find?_eq_none] at hn
  have := hn x hx
  have hle := h.le x hx
  simp [hitB] at this; omega
theorem closed_of_edges {E : List S66} {n : Nat} {S : Nat → Bool} (h : ∀ x ∈ E, S x.f0.toNat = S x.f1.toNat) : Closed E n S := by
 intro a b ha hb hSa hbt
 obtain ⟨x, hx, h0, h1⟩ := btw_hit hbt
 have := h x hx
 rcases Nat.le_total a b with hab | hab
 ·rw [show x.f0.toNat = a by omega, show x.f1.toNat = b by omega] at this
  rw [← this]; exact hSa
 ·rw [show x.f0.toNat = b by omega, show x.f1.toNat = a by omega] at this
  rw [this]; exact hSa
theorem edges_of_closed {n : Nat} {E : List S66} (hR : RightE n E) {S : Nat → Bool} (h : Closed E n S) : ∀ x ∈ E, S x.f0.toNat = S x.f1.toNat := by
 intro x hx
 have hb := btw_edge hR hx
 have hok := hR.ok x hx
 simp [edgeOk] at hok
 have e0 : ((x.f0.toNat : Nat) : Int) = x.f0 := by omega
 have e1 : ((x.f1.toNat : Nat) : Int) = x.f1 := by omega
 have h1 := h x.f0.toNat x.f1.toNat (by omega) (by omega)
 have h2 := h x.f1.toNat x.f0.toNat (by omega) (by omega)
 rw [e0, e1] at h1
 rw [e0, e1, btw_comm] at h2
 cases hs0 : S x.f0.toNat with
 | true => exact (h1 hs0 hb).symm
 | false =>
  cases hs1 : S x.f1.toNat with
  | false => rfl
  | true => rw [h2 hs1 hb] at hs0; cases hs0
theorem orAll_at (s r : List Bool) (i : Nat) (hi : i < s.length) : at1 (orAll s r) i = (at1 s i || at1 r i) := by
 unfold orAll
 have key : ∀ (m j : Nat) (o : List Bool), o.length = s.length → at1 ((List.range' j m).foldl (fun s u => s.set u (at1 s u || at1 r u)) o) i = if j ≤ i ∧ i < j + m then (at1 o i || at1 r i) else at1 o i := by
  intro m
  induction m with
  | zero => intro j o _; rw [if_neg (by omega)]; rfl
  | succ m ih =>
   intro j o ho
   rw [List.range'_succ, List.foldl_cons, ih _ _ (by rw [List.length_set]; exact ho), at1_set]
   by_cases h1 : j = i
   ·subst h1
    rw [if_neg (by omega), if_pos ⟨rfl, by omega⟩, if_pos (by omega)]
   ·rw [if_neg (show ¬ (j = i ∧ i < o.length) from fun h => h1 h.1)]
    by_cases h2 : j + 1 ≤ i ∧ i < j + 1 + m
    ·rw [if_pos h2, if_pos (by omega)]
    ·rw [if_neg h2, if_neg (by omega)]
 rw [key s.length 0 s rfl, if_pos (by omega)]
theorem partsFrom_all (E : List S66) (n : Nat) : ∀ (m v c : Nat) (s : List Bool), (∀ i, v ≤ i → i < v + m → at1 s i = true) → partsFrom E n m v c s = c
 | 0, _, _, _, _ => rfl
 | m + 1, v, c, s, h => by
  rw [partsFrom, if_pos (h v (Nat.le_refl _) (by omega))]
  exact partsFrom_all E n m (v + 1) c s (fun i h1 h2 => h i (by omega) (by omega))
theorem partsFrom_ge (E : List S66) (n : Nat) : ∀ (m v c : Nat) (s : List Bool), c ≤ partsFrom E n m v c s
 | 0, _, _, _ => Nat.le_refl _
 | m + 1, v, c, s => by
  rw [partsFrom]
  split
  ·exact partsFrom_ge E n m _ _ _
  ·exact Nat.le_trans (Nat.le_succ c) (partsFrom_ge E n m _ _ _)
theorem partsFrom_gt (E : List S66) (n : Nat) : ∀ (m v c : Nat) (s : List Bool) (u : Nat), v ≤ u → u < v + m → at1 s u = false → c + 1 ≤ partsFrom E n m v c s
 | 0, _, _, _, _, _, h, _ => by omega
 | m + 1, v, c, s, u, h1, h2, h3 => by
  rw [partsFrom]
  split
  ·rename_i hv
   exact partsFrom_gt E n m (v + 1) c s u (by rcases Nat.lt_or_ge v u with h | h; exact h; exfalso; have : v = u := (by omega); subst this; rw [h3] at hv; cases hv) (by omega) h3
  ·exact partsFrom_ge E n m _ _ _
theorem parts_conn {n : Nat} {E : List S66} (hn : 1 ≤ n) (hR : RightE n E) : partsOf E n = 1 ↔ EConn n E := by
 obtain ⟨m, rfl⟩ : ∃ m, n = m + 1 := ⟨n - 1, by omega⟩
 obtain ⟨r1, r2, r3⟩ := reachOf_facts (E := E) (n := m + 1) (v := 0) (by omega)
 have hz : ∀ i, at1 (List.replicate (m + 1) false) i = false := fun i => by simp [at1, List.getD_eq_getElem?_getD, List.getElem?_replicate]; split <;> rfl
 have e : partsOf E (m + 1) = partsFrom E (m + 1) m 1 1 (orAll (List.replicate (m + 1) false) (reachOf E (m + 1) 0)) := by
  unfold partsOf
  rw [partsFrom, if_neg (by rw [hz]; decide)]
 have hor : ∀ i, i < m + 1 → at1 (orAll (List.replicate (m + 1) false) (reachOf E (m + 1) 0)) i = at1 (reachOf E (m + 1) 0) i := fun i hi => by
  rw [orAll_at _ _ _ (by simpa using hi), hz, Bool.false_or]
 rw [e]
 constructor
 ·intro h S hS1 hS0
  refine Classical.byContradiction fun hx => ?_
  have hS : ∀ x ∈ E, S x.f0.toNat = S x.f1.toNat := fun x hxE => Classical.byContradiction fun hne => hx ⟨x, hxE, hne⟩
  have main : ∀ T : Nat → Bool, (∀ x ∈ E, T x.f0.toNat = T x.f1.toNat) → T 0 = true → (∃ u, u < m + 1 ∧ T u = false) → False := by
   rintro T hT hT0 ⟨u, hu, hTu⟩
   have h1 : at1 (reachOf E (m + 1) 0) u = false := by
    cases h2 : at1 (reachOf E (m + 1) 0) u with
    | false => rfl
    | true => have := r3 T (closed_of_edges hT) hT0 u h2; rw [hTu] at this; cases this
   have hu0 : u ≠ 0 := fun e => by subst e; rw [hT0] at hTu; cases hTu
   have := partsFrom_gt E (m + 1) m 1 1 _ u (by omega) (by omega) (by rw [hor u hu]; exact h1)
   omega
  cases h0 : S 0 with
  | true => exact main S hS h0 hS0
  | false =>
   refine main (fun u => !S u) (fun x hx => by simp [hS x hx]) (by simp [h0]) ?_
   obtain ⟨u, hu, hSu⟩ := hS1
   exact ⟨u, hu, by simp [hSu]⟩
 ·intro h
  refine partsFrom_all E _ m 1 1 _ fun i h1 h2 => ?_
  rw [hor i (by omega)]
  cases hi : at1 (reachOf E (m + 1) 0) i with
  | true => rfl
  | false =>
   obtain ⟨x, hx, hne⟩ := h (at1 (reachOf E (m + 1) 0)) ⟨0, by omega, r1⟩ ⟨i, by omega, hi⟩
   exact absurd (edges_of_closed hR r2 x hx) hne
def rootG (N : Int) (E : List S66) (q : Int) : Int := if checkG N E = 0 then (if partsOf E N.toNat = 1 then (if 0 ≤ q ∧ q < N then 0 else 2) else 13) else checkG N E
theorem rooted19_ev (N : Int) (E : List S66) (q : Int) (hE : E.length ≤ 1000) : Ev (fun k => sandpileref19_Rooted.f k N E q) (rootG N E q) := by
 unfold sandpileref19_Rooted.f rootG
 refine Ev.bind (check08_ev N E hE) ?_
 by_cases h0 : checkG N E = 0
 ·simp only [if_pos h0]
  obtain ⟨h1, h12, hR⟩ := checkG_zero h0
  obtain ⟨n, rfl⟩ := Int.eq_ofNat_of_zero_le (show 0 ≤ N by omega)
  refine Ev.bind (a := decide (partsOf E n = 1)) ?_ ?_
  ·unfold sandpileref08_Connected.f
   refine Ev.bind (parts_ev E hE n (by omega)) ?_
   rw [show (((partsOf E n : Nat) : Int) == 1) = decide (partsOf E n = 1) by rw [Bool.eq_iff_iff]; simp; omega]
   exact Ev.const _
  ·rw [Int.toNat_natCast]
   by_cases hp : partsOf E n = 1
   ·simp only [decide_eq_true hp, if_true, if_pos hp, vertex08_ok, Option.bind_some]
    by_cases hq : 0 ≤ q ∧ q < (n : Int)
    ·simp only [decide_eq_true hq, if_true, if_pos hq]; exact Ev.const _
    ·simp only [decide_eq_false hq, Bool.false_eq_true, if_false, if_neg hq]; exact Ev.const _
   ·simp only [decide_eq_false hp, Bool.false_eq_true, if_false, if_neg hp]; exact Ev.const _
 ·simp only [if_neg h0]; exact Ev.const _
theorem rooted_ev (N : Int) (E : List S66) (q : Int) (hE : E.length ≤ 1000) : Ev (fun k => stabilize_rooted.f k N E q) (rootG N E q) := by
 unfold stabilize_rooted.f rootG
 by_cases h0 : checkG N E = 0
 ·obtain ⟨h1, h12, hR⟩ := checkG_zero h0
  obtain ⟨n, rfl⟩ := Int.eq_ofNat_of_zero_le (show 0 ≤ N by omega)
  refine Ev.bind (a := (decide (partsOf E n = 1), (0 : Int))) ?_ ?_
  ·unfold connect_Connected.f
   have hg := graph_check_ev (n : Int) E hE
   rw [h0] at hg
   refine Ev.bind hg ?_
   have hok : okConn (n : Int) E = true := by
    unfold okConn
    rw [decide_eq_true (by omega), Bool.true_and]
    refine List.all_eq_true.2 fun x hx => ?_
    have := hR.ok x hx
    simp [edgeOk] at this ⊢; omega
   simp only [if_true, if_pos hok, Int.toNat_natCast]
   rw [show decide (rootsTo (forestOf E) n = 1) = decide (partsOf E n = 1) by
    congr 1; exact propext ((conn_iff (by omega) (edgesIn_of hR.inB)).trans (parts_conn (by omega) hR).symm)]
   exact Ev.const _
  ·simp only [if_pos h0, if_true, Int.toNat_natCast]
   by_cases hp : partsOf E n = 1
   ·simp only [decide_eq_true hp, if_true, if_pos hp]
    by_cases hq : 0 ≤ q ∧ q < (n : Int)
    ·simp only [if_neg (show ¬ q < 0 by omega), if_neg (show ¬ q ≥ (n : Int) by omega), if_pos hq]; exact Ev.const _
    ·simp only [if_neg hq]
     by_cases h1 : q < 0
     ·simp only [if_pos h1]; exact Ev.const _
     ·simp only [if_neg h1, if_pos (show q ≥ (n : Int) by omega)]; exact Ev.const _
   ·simp only [decide_eq_false hp, Bool.false_eq_true, if_false, if_neg hp]; exact Ev.const _
 ·refine Ev.bind (a := (false, checkG N E)) ?_ ?_
  ·unfold connect_Connected.f
   refine Ev.bind (graph_check_ev N E hE) ?_
   simp only [if_neg h0]; exact Ev.const _
  ·simp only [if_neg h0]; exact Ev.const _
def sandpileref23_members.l0 : Nat → Int → Int → List Int → Int → Option (List Int)
 | 0, _, _, _, _ => none
 | k + 1, x0, x1, x5, x6 => if x6 < x0 then (if (Int.tmod x1 2) = 1 then (if x5.length < 17592186044416 then (sandpileref23_members.l0 k x0 (wrap64 (Int.tdiv x1 2)) (x5 ++ [x6]) (wrap64 (x6 + 1))) else (none)) else (sandpileref23_members.l0 k x0 (wrap64 (Int.tdiv x1 2)) x5 (wrap64 (x6 + 1)))) else (some x5)
def sandpileref23_members.f (k : Nat) (a0 : Int) (a1 : Int) : Option (List Int) := sandpileref23_members.l0 k a0 a1 ([] : List Int) 0
mutual
def sandpileref23_Subsets.l0 : Nat → Int → Int → Int → List (S66) → Option ((List (List Int)))
 | 0, _, _, _, _ => none
 | k + 1, x3, x4, x215000, x215001 => if x4 < x215000 then (sandpileref23_Subsets.l0 k (wrap64 (2 * x3)) (wrap64 (x4 + 1)) x215000 x215001) else (sandpileref23_Subsets.l1 k x3 ([] : List (List Int)) 0 x215000 x215001)
def sandpileref23_Subsets.l1 : Nat → Int → List (List Int) → Int → Int → List (S66) → Option ((List (List Int)))
 | 0, _, _, _, _, _ => none
 | k + 1, x3, x5, x6, x215000, x215001 => if x6 < x3 then ((sandpileref23_members.f k x215000 x6).bind fun t215 => (if x5.length < 5864062014805 then (sandpileref23_Subsets.l1 k x3 (x5 ++ [t215]) (wrap64 (x6 + 1)) x215000 x215001) else (none))) else (some x5)
end
def sandpileref23_Subsets.f (k : Nat) (a0_0 : Int) (l0_1 : List (S66)) : Option ((List (List Int))) := sandpileref23_Subsets.l0 k 1 0 a0_0 l0_1
def sandpileref08_Holds.l0 : Nat → List Int → Int → Int → Option (Bool)
 | 0, _, _, _ => none
 | k + 1, x0, x1, x5 => if x5 < (x0.length : Int) then (if 0 ≤ x5 then (if (rd x0 x5) = x1 then (some true) else (sandpileref08_Holds.l0 k x0 x1 (wrap64 (x5 + 1)))) else (none)) else (some false)
def sandpileref08_Holds.f (k : Nat) (l0 : List Int) (a1 : Int) : Option (Bool) := sandpileref08_Holds.l0 k l0 a1 0
def sandpileref18_Out.l0 : Nat → List Int → Int → Int → Int → Int → List (S66) → Option (Int)
 | 0, _, _, _, _, _, _ => none
 | k + 1, x1, x2, x7, x8, x223000, x223001 => if x8 < x223000 then ((sandpileref08_Holds.f k x1 x8).bind fun t223 => (if t223 = true then (sandpileref18_Out.l0 k x1 x2 x7 (wrap64 (x8 + 1)) x223000 x223001) else ((sandpileref08_Between.f k x223000 x223001 x2 x8).bind fun t224 => (sandpileref18_Out.l0 k x1 x2 (wrap64 (x7 + t224)) (wrap64 (x8 + 1)) x223000 x223001)))) else (some x7)
def sandpileref18_Out.f (k : Nat) (a0_0 : Int) (l0_1 : List (S66)) (l1 : List Int) (a2 : Int) : Option (Int) := sandpileref18_Out.l0 k l1 a2 0 0 a0_0 l0_1
def sandpileref18_MaySet.l0 : Nat → List Int → List Int → Int → Int → Int → List (S66) → Option (Bool)
 | 0, _, _, _, _, _, _ => none
 | k + 1, x1, x2, x7, x8, x226000, x226001 => if x8 < (x2.length : Int) then (if 0 ≤ x8 then ((sandpileref18_Out.f k x226000 x226001 x2 (rd x2 x8)).bind fun t227 => (if 0 ≤ (rd x2 x8) then (if (rd x2 x8) < (x1.length : Int) then (if (rd x1 (rd x2 x8)) < t227 then (some false) else (sandpileref18_MaySet.l0 k x1 x2 (wrap64 (x7 + t227)) (wrap64 (x8 + 1)) x226000 x226001)) else (none)) else (none))) else (none)) else (some (decide (x7 > 0)))
def sandpileref18_MaySet.f (k : Nat) (a0_0 : Int) (l0_1 : List (S66)) (l1 : List Int) (l2 : List Int) : Option (Bool) := sandpileref18_MaySet.l0 k l1 l2 0 0 a0_0 l0_1
def sandpileref23_Blocking.f (k : Nat) (a0_0 : Int) (l0_1 : List (S66)) (a1 : Int) (l2 : List Int) (l3 : List Int) : Option (Bool) := if (l3.length : Int) > 0 then ((sandpileref08_Holds.f k l3 a1).bind fun t231 => (if t231 = true then (some false) else ((sandpileref18_MaySet.f k a0_0 l0_1 l2 l3).bind fun t232 => (some t232)))) else (some false)
def sandpileref23_Is.l0 : Nat → Int → List Int → List (List Int) → Int → Int → List (S66) → Option (Bool)
 | 0, _, _, _, _, _, _ => none
 | k + 1, x1, x2, x7, x8, x234000, x234001 => if x8 < (x7.length : Int) then (if 0 ≤ x8 then ((sandpileref23_Blocking.f k x234000 x234001 x1 x2 (rd_L2 x7 x8)).bind fun t238 => (if t238 = true then (some false) else (sandpileref23_Is.l0 k x1 x2 x7 (wrap64 (x8 + 1)) x234000 x234001))) else (none)) else (some true)
def sandpileref23_Is.f (k : Nat) (a0_0 : Int) (l0_1 : List (S66)) (a1 : Int) (l2 : List Int) : Option (Bool) := (sandpileref23_Subsets.f k a0_0 l0_1).bind fun t234 => (sandpileref23_Is.l0 k a1 l2 t234 0 a0_0 l0_1)
theorem rd_drop {l : List Int} {i : Nat} (h : i < l.length) : l.drop i = rd l i :: l.drop (i + 1) := by
 rw [List.drop_eq_getElem_cons h]
 simp [rd, List.getD_eq_getElem?_getD, List.getElem?_eq_getElem h]
def memF : Nat → Nat → Nat → List Int
 | 0, _, _ => []
 | m + 1, i, d => (if d % 2 = 1 then [(i : Int)] else []) ++ memF m (i + 1) (d / 2)
def subsetsOf (n : Nat) : List (List Int) := (List.range (2 ^ n)).map (memF n 0)
def outN (E : List S66) (s : List Int) (v : Int) : Nat → Int
 | 0 => 0
 | u + 1 => outN E s v u + (if (u : Int) ∈ s then 0 else btw E v u)
theorem outN_bound {N : Int} {E : List S66} (h : RightE N E) (s : List Int) (v : Int) : ∀ u : Nat, 0 ≤ outN E s v u ∧ outN E s v u ≤ 50 * u
 | 0 => by simp [outN]
 | u + 1 => by
  have h1 := outN_bound h s v u
  have h2 := btw_nonneg h v u
  simp only [outN]
  split <;> omega
def mayFrom (E : List S66) (n : Nat) (c s : List Int) : Int → List Int → Bool
 | a, [] => decide (a > 0)
 | a, v :: l => if rd c v < outN E s v n then false else mayFrom E n c s (a + outN E s v n) l
def blockB (E : List S66) (n : Nat) (q : Int) (c s : List Int) : Bool := decide (0 < s.length) && !decide (q ∈ s) && mayFrom E n c s 0 s
theorem memF_mem : ∀ {m i d : Nat} {x : Int}, x ∈ memF m i d ↔ ∃ j : Nat, j < m ∧ x = ((i + j : Nat) : Int) ∧ d.testBit j = true
 | 0, i, d, x => by simp [memF]
 | m + 1, i, d, x => by
  rw [memF, List.mem_append, memF_mem (m := m)]
  constructor
  ·rintro (h | ⟨j, hj, h1, h2⟩)
   ·split at h
    ·rename_i h1
     simp at h
     exact ⟨0, by omega, by simpa using h, by rw [Nat.testBit_zero]; simpa using h1⟩
    ·simp at h
   ·exact ⟨j + 1, by omega, by rw [h1]; congr 1; omega, by rw [Nat.testBit_succ]; exact h2⟩
  ·rintro ⟨j, hj, h1, h2⟩
   cases j with
   | zero =>
    left
    rw [Nat.testBit_zero] at h2
    rw [if_pos (by simpa using h2)]
    simpa using h1
   | succ j => exact .inr ⟨j, by omega, by rw [h1]; congr 1; omega, by rw [Nat.testBit_succ] at h2; exact h2⟩
def isB (E : List S66) (n : Nat) (q : Int) (c : List Int) : Bool := (subsetsOf n).all fun s => !blockB E n q c s
theorem bits_of (S : Nat → Bool) : ∀ n, ∃ d, d < 2 ^ n ∧ ∀ j, j < n → d.testBit j = S j
 | 0 => ⟨0, by simp, fun j hj => by omega⟩
 | n + 1 => by
  obtain ⟨d, hd, h⟩ := bits_of (fun j => S (j + 1)) n
  refine ⟨(if S 0 then 1 else 0) + 2 * d, ?_, fun j hj => ?_⟩
  ·rw [Nat.pow_succ]; split <;> omega
  ·cases j with
   | zero =>
    rw [Nat.testBit_zero]
    cases hs : S 0 <;> simp <;> omega
   | succ j =>
    rw [Nat.testBit_succ, show ((if S 0 then 1 else 0) + 2 * d) / 2 = d by split <;> omega]
    exact h j (by omega)
theorem outN_flames {n : Nat} {E : List S66} (hR : RightE n E) (s : List Int) (v : Nat) (hv : (v : Int) ∈ s) : ∀ u, outN E s v u = flamesTo (timesOf E) (fun u => !decide ((u : Int) ∈ s)) v u
 | 0 => rfl
 | u + 1 => by
  rw [outN, flamesTo, outN_flames hR s v hv u]
  congr 1
  by_cases h : (u : Int) ∈ s
  ·simp [h]
  ·have hne : v ≠ u := fun e => by subst e; exact h hv
   simp only [if_neg h, h, decide_false, Bool.not_false, if_true]
   exact (times_btw hR v u hne).symm
theorem mayFrom_iff (E : List S66) (n : Nat) (c s : List Int) : ∀ (l : List Int) (a : Int), mayFrom E n c s a l = true ↔ (∀ v ∈ l, outN E s v n ≤ rd c v) ∧ 0 < a + (l.map fun v => outN E s v n).sum
 | [], a => by simp [mayFrom]
 | v :: l, a => by
  rw [mayFrom]
  by_cases h : rd c v < outN E s v n
  ·rw [if_pos h]
   simp; intro h2; omega
  ·rw [if_neg h, mayFrom_iff E n c s l]
   simp only [List.mem_cons, forall_eq_or_imp, List.map_cons, List.sum_cons]
   constructor
   ·rintro ⟨h1, h2⟩; exact ⟨⟨by omega, h1⟩, by omega⟩
   ·rintro ⟨⟨_, h1⟩, h2⟩; exact ⟨h1, by omega⟩
theorem sum_pos {f : Int → Int} : ∀ {l : List Int}, (∀ v ∈ l, 0 ≤ f v) → (∃ v ∈ l, 0 < f v) → 0 < (l.map f).sum
 | [], _, ⟨v, hv, _⟩ => by simp at hv
 | x :: l, h0, ⟨v, hv, h1⟩ => by
  have hx := h0 x (List.mem_cons_self ..)
  have hl : ∀ v ∈ l, 0 ≤ f v := fun v hv => h0 v (List.mem_cons_of_mem _ hv)
  have hs : 0 ≤ (l.map f).sum := by
   clear h1 hv h0 hx
   induction l with
   | nil => simp
   | cons y l ih =>
    have := ih (fun v hv => hl v (List.mem_cons_of_mem _ hv))
    have := hl y (List.mem_cons_self ..)
    simp only [List.map_cons, List.sum_cons]; omega
  simp only [List.map_cons, List.sum_cons]
  rcases List.mem_cons.1 hv with rfl | hv
  ·omega
  ·have := sum_pos hl ⟨v, hv, h1⟩
   omega
theorem is_iff {n q : Nat} {E : List S66} (hR : RightE n E) (hC : EConn n E) (hq : q < n) (c : List Int) : isB E n q c = true ↔ NoBlock n (timesOf E) q (fun v => rd c v) := by
 unfold isB
 rw [List.all_eq_true]
 constructor
 ·intro h S hS hSq
  obtain ⟨d, hd, hb⟩ := bits_of S n
  have hmem : ∀ v : Nat, v < n → ((v : Int) ∈ memF n 0 d ↔ S v = true) := fun v hv => by
   rw [memF_mem]
   constructor
   ·rintro ⟨j, hj, h1, h2⟩
    rw [hb j hj] at h2
    rw [show v = j by omega]; exact h2
   ·intro h1; exact ⟨v, hv, by simp, by rw [hb v hv]; exact h1⟩
  have h1 := h (memF n 0 d) (List.mem_map.2 ⟨d, List.mem_range.2 hd, rfl⟩)
  generalize hs : memF n 0 d = s at h1 hmem
  have hsn : ∀ v ∈ s, ∃ j : Nat, j < n ∧ v = (j : Int) := fun v hv => by
   rw [← hs] at hv
   obtain ⟨j, hj, h2, _⟩ := memF_mem.1 hv
   exact ⟨j, hj, by simpa using h2⟩
  obtain ⟨v0, hv0, hS0⟩ := hS
  have hne : 0 < s.length := List.length_pos_of_mem ((hmem v0 hv0).2 hS0)
  have hqs : ¬ ((q : Int) ∈ s) := fun h2 => by rw [(hmem q hq).1 h2] at hSq; cases hSq
  have hfl : ∀ v : Nat, v < n → (v : Int) ∈ s → outN E s v n = flamesTo (timesOf E) (fun u => !S u) v n := fun v hv hvs => by
   rw [outN_flames hR s v hvs n]
   refine flamesTo_congr v n fun u hu => ?_
   have := hmem u hu
   cases hSu : S u with
   | true => simp [this.2 hSu]
   | false => simp [show ¬ ((u : Int) ∈ s) from fun h2 => by rw [this.1 h2] at hSu; cases hSu]
  unfold blockB at h1
  rw [decide_eq_true hne, decide_eq_false hqs, Bool.true_and, Bool.not_false, Bool.true_and, Bool.not_eq_true'] at h1
  have h2 := mt (mayFrom_iff E n c s s 0).2 (by rw [h1]; decide)
  by_cases h3 : ∀ v ∈ s, outN E s v n ≤ rd c v
  ·exfalso
   refine h2 ⟨h3, ?_⟩
   rw [Int.zero_add]
   refine sum_pos (fun v hv => (outN_bound hR s v n).1) ?_
   obtain ⟨x, hx, hxe⟩ := hC S ⟨v0, hv0, hS0⟩ ⟨q, hq, hSq⟩
   have hbx := btw_edge hR hx
   have hok := hR.ok x hx
   simp [edgeOk] at hok
   have hbig : ∀ (a b : Nat), a < n → b < n → S a = true → S b = false → btw E a b > 0 → ∃ v ∈ s, 0 < outN E s v n := fun a b ha hb2 hSa hSb hbt => by
    refine ⟨a, (hmem a ha).2 hSa, ?_⟩
    have hbs : ¬ ((b : Int) ∈ s) := fun h4 => by rw [(hmem b hb2).1 h4] at hSb; cases hSb
    have key : ∀ u, b < u → 0 < outN E s a u := fun u => by
     induction u with
     | zero => omega
     | succ u ih =>
      intro hu
      have hbd := outN_bound hR s a u
      have hb3 := btw_nonneg hR a u
      rw [outN]
      by_cases e : b = u
      ·subst e; rw [if_neg hbs]; omega
      ·have := ih (by omega)
       split <;> omega
    exact key n hb2
   have e0 : ((x.f0.toNat : Nat) : Int) = x.f0 := by omega
   have e1 : ((x.f1.toNat : Nat) : Int) = x.f1 := by omega
   cases hs0 : S x.f0.toNat with
   | true =>
    refine hbig x.f0.toNat x.f1.toNat (by omega) (by omega) hs0 ?_ (by rw [e0, e1]; exact hbx)
    cases hs1 : S x.f1.toNat with
    | false => rfl
    | true => rw [hs0, hs1] at hxe; exact absurd rfl hxe
   | false =>
    refine hbig x.f1.toNat x.f0.toNat (by omega) (by omega) ?_ hs0 (by rw [e0, e1, btw_comm]; exact hbx)
    cases hs1 : S x.f1.toNat with
    | true => rfl
    | false => rw [hs0, hs1] at hxe; exact absurd rfl hxe
  ·simp only [Classical.not_forall] at h3
   obtain ⟨v, hv, h4⟩ := h3
   obtain ⟨j, hj, rfl⟩ := hsn v hv
   refine ⟨j, hj, (hmem j hj).1 hv, ?_⟩
   rw [← hfl j hj hv]
   show rd c j < _
   omega
 ·intro h s hs
  obtain ⟨d, hd, rfl⟩ := List.mem_map.1 hs
  generalize hs2 : memF n 0 d = s
  have hsn : ∀ v ∈ s, ∃ j : Nat, j < n ∧ v = (j : Int) := fun v hv => by
   rw [← hs2] at hv
   obtain ⟨j, hj, h2, _⟩ := memF_mem.1 hv
   exact ⟨j, hj, by simpa using h2⟩
  unfold blockB
  by_cases hne : 0 < s.length
  ·by_cases hqs : (q : Int) ∈ s
   ·simp [hqs]
   ·rw [decide_eq_true hne, decide_eq_false hqs, Bool.true_and, Bool.not_false, Bool.true_and, Bool.not_eq_true', Bool.eq_false_iff]
    intro hm
    have h1 := ((mayFrom_iff E n c s s 0).1 hm).1
    obtain ⟨v0, hv0⟩ := List.exists_mem_of_length_pos hne
    obtain ⟨j0, hj0, rfl⟩ := hsn v0 hv0
    obtain ⟨v, hv, hSv, hlt⟩ := h (fun u => decide ((u : Int) ∈ s)) ⟨j0, hj0, by simpa using hv0⟩ (by simpa using hqs)
    have hvs : (v : Int) ∈ s := by simpa using hSv
    have h2 := h1 v hvs
    rw [outN_flames hR s v hvs n] at h2
    have hlt2 : rd c v < flamesTo (timesOf E) (fun u => !decide ((u : Int) ∈ s)) v n := hlt
    omega
  ·simp [show s.length = 0 by omega]
mutual
def sandpileref28_Stables.l0 : Nat → Int → List Int → List (List Int) → Int → Int → List (S66) → Option ((List (List Int)))
 | 0, _, _, _, _, _, _ => none
 | k + 1, x1, x5, x6, x7, x188000, x188001 => if x7 < x188000 then (if 0 ≤ x7 then (if x7 < (x5.length : Int) then (if x7 = x1 then (sandpileref28_Stables.j1 k x1 x5 x6 x7 0 x188000 x188001) else (sandpileref28_Stables.j1 k x1 x5 x6 x7 (rd x5 x7) x188000 x188001)) else (none)) else (none)) else (some x6)
def sandpileref28_Stables.j1 : Nat → Int → List Int → List (List Int) → Int → Int → Int → List (S66) → Option ((List (List Int)))
 | 0, _, _, _, _, _, _, _ => none
 | k + 1, x1, x5, x6, x7, x8, x188000, x188001 => sandpileref28_Stables.l1 k x1 x5 x6 x7 x8 ([] : List (List Int)) 0 x188000 x188001
def sandpileref28_Stables.l1 : Nat → Int → List Int → List (List Int) → Int → Int → List (List Int) → Int → Int → List (S66) → Option ((List (List Int)))
 | 0, _, _, _, _, _, _, _, _, _ => none
 | k + 1, x1, x5, x6, x7, x8, x9, x10, x188000, x188001 => if x10 < (x6.length : Int) then (sandpileref28_Stables.l2 k x1 x5 x6 x7 x8 x9 x10 0 x188000 x188001) else (sandpileref28_Stables.l0 k x1 x5 x9 (wrap64 (x7 + 1)) x188000 x188001)
def sandpileref28_Stables.l2 : Nat → Int → List Int → List (List Int) → Int → Int → List (List Int) → Int → Int → Int → List (S66) → Option ((List (List Int)))
 | 0, _, _, _, _, _, _, _, _, _, _ => none
 | k + 1, x1, x5, x6, x7, x8, x9, x10, x11, x188000, x188001 => if x11 ≤ x8 then ((some (([] : List Int) : List Int)).bind fun y198 => (if 0 ≤ x10 then (if x10 < (x6.length : Int) then (if y198.length + (rd_L2 x6 x10).length < 17592186044416 then ((some (y198 ++ (rd_L2 x6 x10) : List Int)).bind fun y202 => (if y202.length < 17592186044416 then (if x9.length < 5864062014805 then (sandpileref28_Stables.l2 k x1 x5 x6 x7 x8 (x9 ++ [(y202 ++ [x11])]) x10 (wrap64 (x11 + 1)) x188000 x188001) else (none)) else (none))) else (none)) else (none)) else (none))) else (sandpileref28_Stables.l1 k x1 x5 x6 x7 x8 x9 (wrap64 (x10 + 1)) x188000 x188001)
end
section
def valN (E : List S66) (v : Nat) : Nat → Int
 | 0 => 0
 | u + 1 => valN E v u + (if u = v then 0 else btw E u v)
def mostOf (E : List S66) (n q : Nat) (v : Nat) : Nat := if v = q then 0 else (valN E v n - 1).toNat
theorem sum_const {α : Type} (l : List α) (c : Nat) : (l.map fun _ => c).sum = l.length * c := by
 induction l with
 | nil => simp
 | cons x l ih => simp only [List.map_cons, List.sum_cons, ih, List.length_cons, Nat.succ_mul]; omega
def sumM : List S66 → Int
 | [] => 0
 | x :: E => x.f2 + sumM E
theorem sumM_append : ∀ (A B : List S66), sumM (A ++ B) = sumM A + sumM B
 | [], B => by simp [sumM]
 | x :: A, B => by rw [List.cons_append, sumM, sumM, sumM_append A B]; omega
theorem sizeTo_sum {N : Int} {E : List S66} (hR : RightE N E) : ∀ k, k ≤ E.length → ((sizeTo E k : Nat) : Int) = sumM (E.take k)
 | 0, _ => rfl
 | k + 1, hk => by
  have e : rd_T66 E k = E[k] := by simp [rd_T66, List.getD_eq_getElem?_getD, List.getElem?_eq_getElem (by omega : k < E.length)]
  have := hR.ok E[k] (List.getElem_mem _)
  simp [edgeOk] at this
  rw [List.take_succ_eq_append_getElem (by omega), sumM_append, ← sizeTo_sum hR k (by omega), sizeTo, e]
  simp only [sumM]
  omega
theorem btw_ge {E : List S66} (h : ∀ x ∈ E, 1 ≤ x.f2) (a b : Int) : 0 ≤ btw E a b := by
 unfold btw
 split
 ·rename_i x hx; have := h x (List.mem_of_find?_eq_some hx); omega
 ·omega
theorem valN_cons {x : S66} {E : List S66} (h : ∀ y ∈ x :: E, 1 ≤ y.f2) (v : Nat) : ∀ u : Nat, valN (x :: E) v u ≤ valN E v u + (if (∃ w : Nat, w < u ∧ w ≠ v ∧ x.f0 = min (w : Int) v ∧ x.f1 = max (w : Int) v) then x.f2 else 0)
 | 0 => by simp [valN]
 | u + 1 => by
  have ih := valN_cons h v u
  have hx := h x (List.mem_cons_self ..)
  have hg := btw_ge (fun y hy => h y (List.mem_cons_of_mem _ hy)) (u : Int) v
  have hsub : (if (∃ w : Nat, w < u ∧ w ≠ v ∧ x.f0 = min (w : Int) v ∧ x.f1 = max (w : Int) v) then x.f2 else 0) ≤ (if (∃ w : Nat, w < u + 1 ∧ w ≠ v ∧ x.f0 = min (w : Int) v ∧ x.f1 = max (w : Int) v) then x.f2 else 0) := by
   by_cases h1 : ∃ w : Nat, w < u ∧ w ≠ v ∧ x.f0 = min (w : Int) v ∧ x.f1 = max (w : Int) v
   ·obtain ⟨w, hw, h2⟩ := h1
    rw [if_pos ⟨w, hw, h2⟩, if_pos ⟨w, by omega, h2⟩]; exact Int.le_refl _
   ·rw [if_neg h1]; split <;> omega
  simp only [valN]
  by_cases e : u = v
  ·rw [if_pos e, if_pos e]; omega
  ·rw [if_neg e, if_neg e, btw_cons]
   by_cases hh : x.f0 = min (u : Int) v ∧ x.f1 = max (u : Int) v
   ·rw [if_pos hh, if_pos (show ∃ w : Nat, w < u + 1 ∧ w ≠ v ∧ x.f0 = min (w : Int) v ∧ x.f1 = max (w : Int) v from ⟨u, by omega, e, hh⟩)]
    rw [if_neg (show ¬ ∃ w : Nat, w < u ∧ w ≠ v ∧ x.f0 = min (w : Int) v ∧ x.f1 = max (w : Int) v from by rintro ⟨w, hw, hwv, h1, h2⟩; omega)] at ih
    omega
   ·rw [if_neg hh]; omega
theorem valN_le : ∀ {E : List S66}, (∀ y ∈ E, 1 ≤ y.f2) → ∀ v u : Nat, valN E v u ≤ sumM E
 | [], _, v, u => by
  have : ∀ u, valN [] v u = 0 := fun u => by
   induction u with
   | zero => rfl
   | succ u ih => simp [valN, ih, btw]
  simp [this, sumM]
 | x :: E, h, v, u => by
  have h1 := valN_cons h v u
  have h2 := valN_le (fun y hy => h y (List.mem_cons_of_mem _ hy)) v u
  have hx := h x (List.mem_cons_self ..)
  simp only [sumM]
  split at h1 <;> omega
theorem valOf_valN {n : Nat} {E : List S66} (hR : RightE n E) (v : Nat) : ∀ u, flamesTo (timesOf E) (fun u => !decide (u = v)) v u = valN E v u
 | 0 => rfl
 | u + 1 => by
  rw [flamesTo, valN, valOf_valN hR v u]
  congr 1
  by_cases h : u = v
  ·simp [h]
  ·simp only [h, decide_false, Bool.not_false, if_true, if_neg h]
   rw [times_btw hR v u (fun e => h e.symm), btw_comm]; simp
theorem leq_rd : ∀ {a b : List Int} (v : Nat), Leq a b → rd a v ≤ rd b v
 | [], [], v, _ => Int.le_refl _
 | x :: a, y :: b, 0, h => by simpa [rd] using h.1
 | x :: a, y :: b, v + 1, h => by
  have := leq_rd v h.2
  simpa [rd] using this
 | [], y :: b, v, h => h.elim
 | x :: a, [], v, h => h.elim
theorem stabB_bound {most : Nat → Nat} {q : Nat} (hq : most q = 0) (hm : ∀ v, most v ≤ 7) : ∀ v : Nat, (stabB most v).length ≤ 8 ^ (v - (if q < v then 1 else 0))
 | 0 => by simp [stabB]
 | v + 1 => by
  have ih := stabB_bound hq hm v
  have hlen : (stabB most (v + 1)).length = (stabB most v).length * (most v + 1) := by
   show (stepB most v (stabB most v)).length = _
   unfold stepB
   rw [List.length_flatMap]
   simp only [List.length_map, List.length_range]
   exact sum_const _ _
  rw [hlen]
  by_cases e : q = v
  ·subst e
   rw [hq, if_pos (by omega)]
   rw [if_neg (by omega)] at ih
   simpa using ih
  ·by_cases h : q < v
   ·rw [if_pos h] at ih
    rw [if_pos (by omega), show v + 1 - 1 = (v - 1) + 1 by omega, Nat.pow_succ]
    exact Nat.mul_le_mul ih (by have := hm v; omega)
   ·rw [if_neg h] at ih
    rw [if_neg (by omega), show v + 1 - 0 = (v - 0) + 1 by omega, Nat.pow_succ]
    exact Nat.mul_le_mul ih (by have := hm v; omega)
structure Small (n q : Nat) (E : List S66) : Prop where
 right : RightE n E
 conn : EConn n E
 len : E.length ≤ 40
 n1 : 1 ≤ n
 n5 : n ≤ 5
 q : q < n
 size : sizeTo E E.length ≤ 8
namespace Small
variable {n q : Nat} {E : List S66}
theorem val_le (h : Small n q E) (v : Nat) : valN E v n ≤ 8 := by
 have h1 := valN_le (E := E) (fun y hy => by have := h.right.ok y hy; simp [edgeOk] at this; omega) v n
 have h2 := sizeTo_sum h.right E.length (Nat.le_refl _)
 rw [List.take_length] at h2
 have := h.size
 omega
theorem most_le (h : Small n q E) (v : Nat) : mostOf E n q v ≤ 7 := by
 unfold mostOf
 split
 ·omega
 ·have := h.val_le v; omega
theorem most_q (E : List S66) (n q : Nat) : mostOf E n q q = 0 := by simp [mostOf]
theorem stab_le (h : Small n q E) {v : Nat} (hv : v ≤ n) : (stabB (mostOf E n q) v).length ≤ 4096 := by
 have h1 := stabB_bound (most_q E n q) h.most_le v
 have h2 : 8 ^ (v - (if q < v then 1 else 0)) ≤ 8 ^ 4 := Nat.pow_le_pow_right (by omega) (by have := h.n5; have := h.q; split <;> omega)
 omega
theorem super_iff (h : Small n q E) (c : List Int) : superB n (timesOf E) q c = isB E n q c := by
 rw [Bool.eq_iff_iff, superB_iff (fun i j => ((edgesIn_of h.right.inB).times i j).1), is_iff h.right h.conn h.q]
theorem confs_eq (h : Small n q E) : confs n E q = (stabB (mostOf E n q) n).filter (isB E n q) := by
 unfold confs
 have ht := (edgesIn_of h.right.inB).times
 have hdown : ∀ a b : List Int, a.length = n → Leq a b → superB n (timesOf E) q b = true → superB n (timesOf E) q a = true := fun a b _ hab hb => by
  rw [superB_iff (fun i j => (ht i j).1)] at hb ⊢
  exact hb.down (fun v _ => leq_rd v hab)
 rw [outB_eq q confB (superB n (timesOf E) q) (mostOf E n q) n hdown (fun l v hl hv hvq hc => by
   have h1 := (superB_small h.right.inB (by have := h.n5; omega) hv hvq hc).1
   unfold valOf at h1
   rw [valOf_valN h.right] at h1
   unfold mostOf
   rw [if_neg hvq]
   omega) (most_q E n q) (fun v _ => by have := h.most_le v; show _ ≤ 1000; omega) n [] (by simp) ?_]
 ·rw [← stabB_eq]
  refine List.filter_congr fun c _ => h.super_iff c
 ·by_cases h2 : n = 1
  ·left
   rw [superB_iff (fun i j => (ht i j).1)]
   rintro S ⟨v, hv, hs⟩ hSq
   have := h.q
   rw [show v = q by omega, hSq] at hs; cases hs
  ·right
   have := h.q
   have := h.n1
   by_cases h3 : q = 0
   ·exact ⟨1, by simp, by omega, by omega⟩
   ·exact ⟨0, by simp, by omega, by omega⟩
theorem confs_le (h : Small n q E) : (confs n E q).length ≤ 4096 := by
 rw [h.confs_eq]
 exact Nat.le_trans (List.length_filter_le _ _) (h.stab_le (Nat.le_refl n))
end Small
end
def sandpileref17_Total.l0 : Nat → List Int → Int → Int → Option (Int)
 | 0, _, _, _ => none
 | k + 1, x0, x3, x4 => if x4 < (x0.length : Int) then (if 0 ≤ x4 then (sandpileref17_Total.l0 k x0 (wrap64 (x3 + (rd x0 x4))) (wrap64 (x4 + 1))) else (none)) else (some x3)
def sandpileref17_Total.f (k : Nat) (l0 : List Int) : Option (Int) := sandpileref17_Total.l0 k l0 0 0
mutual
def sandpileref28_Levels.l0 : Nat → List (List Int) → List Int → Int → Option (List Int)
 | 0, _, _, _ => none
 | k + 1, x5, x6, x7 => if x7 < (x5.length : Int) then (if 0 ≤ x7 then ((sandpileref17_Total.f k (rd_L2 x5 x7)).bind fun t265 => (sandpileref28_Levels.l1 k x5 x6 x7 t265)) else (none)) else (some x6)
def sandpileref28_Levels.l1 : Nat → List (List Int) → List Int → Int → Int → Option (List Int)
 | 0, _, _, _, _ => none
 | k + 1, x5, x6, x7, x8 => if (x6.length : Int) ≤ x8 then (if x6.length < 17592186044416 then (sandpileref28_Levels.l1 k x5 (x6 ++ [0]) x7 x8) else (none)) else (if 0 ≤ x8 then (if x8 < (x6.length : Int) then (sandpileref28_Levels.l0 k x5 (x6.set (x8 : Int).toNat (wrap64 ((rd x6 x8) + 1))) (wrap64 (x7 + 1))) else (none)) else (none))
end
section
theorem root_small {N : Int} {E : List S66} {q : Int} (hf : fewB N E = true) (h : rootG N E q = 0) : ∃ n q' : Nat, N = n ∧ q = q' ∧ Small n q' E := by
 unfold rootG at h
 by_cases h0 : checkG N E = 0
 ·rw [if_pos h0] at h
  obtain ⟨h1, h12, hR⟩ := checkG_zero h0
  obtain ⟨n, rfl⟩ := Int.eq_ofNat_of_zero_le (show 0 ≤ N by omega)
  rw [Int.toNat_natCast] at h
  by_cases hp : partsOf E n = 1
  ·rw [if_pos hp] at h
   by_cases hq : 0 ≤ q ∧ q < (n : Int)
   ·obtain ⟨q', rfl⟩ := Int.eq_ofNat_of_zero_le hq.1
    unfold fewB at hf
    by_cases hl : E.length > 40
    ·rw [if_pos hl] at hf; cases hf
    ·rw [if_neg hl, if_pos h0] at hf
     by_cases h5 : (n : Int) ≤ 5
     ·rw [if_pos h5] at hf
      exact ⟨n, q', rfl, rfl, hR, (parts_conn (by omega) hR).1 hp, by omega, by omega, by omega, by omega, by simpa using hf⟩
     ·rw [if_neg h5] at hf; cases hf
   ·rw [if_neg hq] at h; exact absurd h (by decide)
  ·rw [if_neg hp] at h; exact absurd h (by decide)
 ·rw [if_neg h0] at h; exact absurd h h0
theorem few_len {N : Int} {E : List S66} (hf : fewB N E = true) : E.length ≤ 40 := by
 unfold fewB at hf
 by_cases hl : E.length > 40
 ·rw [if_pos hl] at hf; cases hf
 ·omega
namespace Small
variable {n q : Nat} {E : List S66}
theorem list_ok (h : Small n q E) : okList n E = true := by
 unfold okList
 rw [h.right.mults h.len, h.right.inB]; rfl
theorem first_ev (h : Small n q E) (hr : rootG n E q = 0) : Ev (fun k => superstable_first.f k n E q) (topTo (pileVal n E) q n n, (0 : Int)) := by
 unfold superstable_first.f stabilize_Maximal.f
 refine Ev.bind (a := (topTo (pileVal n E) q n n, (0 : Int))) ?_ (Ev.const _)
 have := rooted_ev n E q (by have := h.len; omega)
 rw [hr] at this
 refine Ev.bind this ?_
 simp only [if_true, h.list_ok, Int.toNat_natCast]; exact Ev.const _
theorem superAll_ev (h : Small n q E) (hr : rootG n E q = 0) : Ev (fun k => superstable_All.f k n E q) (confs n E q, (0 : Int)) := by
 unfold superstable_All.f
 refine Ev.bind (h.first_ev hr) ?_
 simp only [if_true, Int.toNat_natCast, if_pos (show (confs n E q).length ≤ 16384 by have := h.confs_le; omega)]; exact Ev.const _
theorem conf_mem (h : Small n q E) {c : List Int} (hc : c ∈ confs n E q) : c.length = n ∧ ∀ v : Nat, 0 ≤ rd c v ∧ rd c v ≤ 8 := by
 rw [h.confs_eq] at hc
 have h1 := (List.mem_filter.1 hc).1
 have hl := stabB_len _ _ _ h1
 have key : ∀ (m : Nat) (l : List Int), l ∈ stabB (mostOf E n q) m → ∀ v : Nat, 0 ≤ rd l v ∧ rd l v ≤ 8 := by
  intro m
  induction m with
  | zero => intro l hl v; simp [stabB] at hl; subst hl; simp [rd]
  | succ m ih =>
   intro l hl v
   simp only [stabB, stepB, List.mem_flatMap, List.mem_map, List.mem_range] at hl
   obtain ⟨p, hp, x, hx, rfl⟩ := hl
   have h2 := ih p hp v
   have hm := h.most_le m
   have hpl := stabB_len _ _ _ hp
   simp only [rd, Int.toNat_natCast, List.getD_eq_getElem?_getD] at h2 ⊢
   rcases Nat.lt_trichotomy v p.length with h3 | h3 | h3
   ·rw [List.getElem?_append_left h3]; exact h2
   ·rw [h3, List.getElem?_append_right (Nat.le_refl _), Nat.sub_self]; simp; omega
   ·rw [List.getElem?_eq_none (by simp; omega)]; simp
 exact ⟨hl, key n c h1⟩
theorem nonempty (h : Small n q E) : confs n E q ≠ [] := by
 rw [h.confs_eq]
 have hz : ∀ m, List.replicate m (0 : Int) ∈ stabB (mostOf E n q) m := fun m => by
  induction m with
  | zero => simp [stabB]
  | succ m ih =>
   simp only [stabB, stepB, List.mem_flatMap, List.mem_map, List.mem_range]
   exact ⟨_, ih, 0, by omega, by rw [List.replicate_succ']; rfl⟩
 have hi : isB E n q (List.replicate n 0) = true := by
  rw [is_iff h.right h.conn h.q]
  rintro S ⟨v, hv, hs⟩ hSq
  obtain ⟨x, hx, hne⟩ := h.conn S ⟨v, hv, hs⟩ ⟨q, h.q, hSq⟩
  have hb := btw_edge h.right hx
  have hok := h.right.ok x hx
  simp [edgeOk] at hok
  have e0 : ((x.f0.toNat : Nat) : Int) = x.f0 := by omega
  have e1 : ((x.f1.toNat : Nat) : Int) = x.f1 := by omega
  have ht := (edgesIn_of h.right.inB).times
  have key : ∀ a b : Nat, a < n → b < n → S a = true → S b = false → btw E a b > 0 → ∃ v, v < n ∧ S v = true ∧ rd (List.replicate n 0) v < flamesTo (timesOf E) (fun u => !S u) v n := fun a b ha hb2 hSa hSb hbt => by
   refine ⟨a, ha, hSa, ?_⟩
   have hab : a ≠ b := fun e => by subst e; rw [hSa] at hSb; cases hSb
   have hk : ∀ u, b < u → 0 < flamesTo (timesOf E) (fun u => !S u) a u := fun u => by
    induction u with
    | zero => omega
    | succ u ih =>
     intro hu
     have hbd := flamesTo_bound (burnt := fun u => !S u) ht a u
     have hb3 := ht a u
     rw [flamesTo]
     by_cases e : b = u
     ·subst e
      rw [if_pos (by simp [hSb]), times_btw h.right a b hab]; omega
     ·have := ih (by omega)
      split <;> omega
   have := hk n hb2
   rw [show rd (List.replicate n 0) a = 0 from by simp [rd, List.getD_eq_getElem?_getD, List.getElem?_replicate]; split <;> rfl]
   exact this
  cases hs0 : S x.f0.toNat with
  | true =>
   refine key x.f0.toNat x.f1.toNat (by omega) (by omega) hs0 ?_ (by rw [e0, e1]; exact hb)
   cases hs1 : S x.f1.toNat with
   | false => rfl
   | true => rw [hs0, hs1] at hne; exact absurd rfl hne
  | false =>
   refine key x.f1.toNat x.f0.toNat (by omega) (by omega) ?_ hs0 (by rw [e0, e1, btw_comm]; exact hb)
   cases hs1 : S x.f1.toNat with
   | true => rfl
   | false => rw [hs0, hs1] at hne; exact absurd rfl hne
 exact List.ne_nil_of_mem (List.mem_filter.2 ⟨hz n, hi⟩)
end Small
end
def c1 (v : Nat) (x : Nat × Int × Int) : Int := if x.2.1 = x.2.2 then 0 else (if x.2.1.toNat = v then 1 else 0) + (if x.2.2.toNat = v then 1 else 0)
def sandpileref17_In.f (a0 : Int) : Option (Bool) := if a0 ≥ (-1048576) then (some (decide (a0 ≤ 1048576))) else (some false)
mutual
def sandpileref17_Check.j0 : Nat → List Int → Int → Bool → Option (Int)
 | 0, _, _, _ => none
 | k + 1, x0, x1, x11 => if x11 = true then (some 2) else (if (x0.length : Int) = x1 then (sandpileref17_Check.l0 k x0 x1 0) else (some 8))
def sandpileref17_Check.l0 : Nat → List Int → Int → Int → Option (Int)
 | 0, _, _, _ => none
 | k + 1, x0, x1, x5 => if x5 < x1 then (if 0 ≤ x5 then (if x5 < (x0.length : Int) then ((sandpileref17_In.f (rd x0 x5)).bind fun t307 => (if t307 = true then (sandpileref17_Check.l0 k x0 x1 (wrap64 (x5 + 1))) else (some 2))) else (none)) else (none)) else (some 0)
end
def chipB (x : Int) : Bool := decide (-1048576 ≤ x) && decide (x ≤ 1048576)
def rngF : List Int → Int
 | [] => 0
 | x :: l => if chipB x = true then rngF l else 2
def negF (q : Int) : Nat → List Int → Int
 | _, [] => 0
 | i, x :: l => if (i : Int) = q then negF q (i + 1) l else if x < 0 then 2 else negF q (i + 1) l
def errC (N : Int) (E : List S66) (q : Int) (c : List Int) : Int :=
 if rootG N E q = 0 then (if (c.length : Int) = N then (if rngF c = 0 then negF q 0 c else rngF c) else 8) else rootG N E q
def err23 (N : Int) (E : List S66) (q : Int) (c : List Int) : Int := if errC N E q c = 0 then (if rd c q = 0 then 0 else 3) else errC N E q c
theorem within_eq (x : Int) : chips_within.f x = some (chipB x) := by
 unfold chips_within.f chipB
 by_cases h : x ≥ -1048576
 ·rw [if_pos h, decide_eq_true (show -1048576 ≤ x from h), Bool.true_and]
 ·rw [if_neg h, decide_eq_false (show ¬ -1048576 ≤ x from h), Bool.false_and]
theorem chk_l0 (c : List Int) (hc : c.length ≤ 1000) : ∀ (m i : Nat), i + m = c.length → Ev (fun k => chips_Check.l0 k c c.length i) (rngF (c.drop i))
 | 0, i, hi => by
  refine Ev.of_succ ?_
  simp only [chips_Check.l0, if_neg (show ¬ (i : Int) < c.length by omega), List.drop_eq_nil_of_le (show c.length ≤ i by omega), rngF]
  exact Ev.const _
 | m + 1, i, hi => by
  refine Ev.of_succ ?_
  simp only [chips_Check.l0, if_pos (show (i : Int) < c.length by omega), if_pos (show (0 : Int) ≤ i by omega), within_eq, Option.bind_some, wrap_succ (show i ≤ 1000000 by omega)]
  rw [rd_drop (by omega), rngF]
  by_cases h : chipB (rd c i) = true
  ·simp only [if_pos h]; exact chk_l0 c hc m (i + 1) (by omega)
  ·simp only [if_neg h]; exact Ev.const _
theorem neg_l0 (q : Int) (c : List Int) (hc : c.length ≤ 1000) : ∀ (m i : Nat), i + m = c.length → Ev (fun k => stabilize_Check.l0 k q c c.length i) (negF q i (c.drop i))
 | 0, i, hi => by
  refine Ev.of_succ ?_
  simp only [stabilize_Check.l0, if_neg (show ¬ (i : Int) < c.length by omega), List.drop_eq_nil_of_le (show c.length ≤ i by omega), negF]
  exact Ev.const _
 | m + 1, i, hi => by
  refine Ev.of_succ ?_
  have ih := neg_l0 q c hc m (i + 1) (by omega)
  simp only [stabilize_Check.l0, if_pos (show (i : Int) < c.length by omega), if_pos (show (0 : Int) ≤ i by omega), wrap_succ (show i ≤ 1000000 by omega)]
  rw [rd_drop (by omega), negF]
  by_cases h : (i : Int) = q
  ·simp only [if_pos h]; exact ih
  ·simp only [if_neg h]
   by_cases h2 : rd c i < 0
   ·simp only [if_pos h2]; exact Ev.const _
   ·simp only [if_neg h2]; exact ih
theorem root_range {N : Int} {E : List S66} {q : Int} (h : rootG N E q = 0) : 1 ≤ N ∧ N ≤ 12 ∧ 0 ≤ q ∧ q < N := by
 unfold rootG at h
 by_cases hc : checkG N E = 0
 ·rw [if_pos hc] at h
  obtain ⟨h1, h2, _⟩ := checkG_zero hc
  by_cases hp : partsOf E N.toNat = 1
  ·rw [if_pos hp] at h
   by_cases hq : 0 ≤ q ∧ q < N
   ·exact ⟨h1, h2, hq⟩
   ·rw [if_neg hq] at h; exact absurd h (by decide)
  ·rw [if_neg hp] at h; exact absurd h (by decide)
 ·rw [if_neg hc] at h; exact absurd h hc
theorem chips_ev (c : List Int) (N : Int) (hN : 1 ≤ N ∧ N ≤ 12) : Ev (fun k => chips_Check.f k c N) (if (c.length : Int) = N then rngF c else 8) := by
 unfold chips_Check.f chips_vertices.f
 simp only [if_neg (show ¬ N < 1 by omega), if_neg (show ¬ N > 12 by omega), Option.bind_some, if_true]
 by_cases h : (c.length : Int) = N
 ·simp only [if_pos h]
  exact chk_l0 c (by omega) c.length 0 (by omega)
 ·simp only [if_neg h]; exact Ev.const _
theorem stCheck_ev (N : Int) (E : List S66) (q : Int) (c : List Int) (hE : E.length ≤ 1000) : Ev (fun k => stabilize_Check.f k N E q c) (errC N E q c) := by
 unfold stabilize_Check.f errC
 refine Ev.bind (rooted_ev N E q hE) ?_
 by_cases hr : rootG N E q = 0
 ·have hN := root_range hr
  simp only [if_pos hr]
  refine Ev.bind (chips_ev c N ⟨hN.1, hN.2.1⟩) ?_
  by_cases h : (c.length : Int) = N
  ·simp only [if_pos h]
   by_cases h2 : rngF c = 0
   ·simp only [if_pos h2]
    exact neg_l0 q c (by omega) c.length 0 (by omega)
   ·simp only [if_neg h2]; exact Ev.const _
  ·simp only [if_neg h]; exact Ev.const _
 ·simp only [if_neg hr]; exact Ev.const _
theorem errC_zero {N : Int} {E : List S66} {q : Int} {c : List Int} (h : errC N E q c = 0) : rootG N E q = 0 ∧ (c.length : Int) = N ∧ rngF c = 0 ∧ negF q 0 c = 0 := by
 unfold errC at h
 by_cases hr : rootG N E q = 0
 ·rw [if_pos hr] at h
  by_cases hl : (c.length : Int) = N
  ·rw [if_pos hl] at h
   by_cases h2 : rngF c = 0
   ·rw [if_pos h2] at h; exact ⟨hr, hl, h2, h⟩
   ·rw [if_neg h2] at h; exact absurd h h2
  ·rw [if_neg hl] at h; exact absurd h (by decide)
 ·rw [if_neg hr] at h; exact absurd h hr
theorem burnCheck_ev (N : Int) (E : List S66) (q : Int) (c : List Int) (hE : E.length ≤ 1000) : Ev (fun k => burning_check.f k N E q c) (err23 N E q c) := by
 unfold burning_check.f err23
 refine Ev.bind (stCheck_ev N E q c hE) ?_
 by_cases h : errC N E q c = 0
 ·obtain ⟨hr, hl, _, _⟩ := errC_zero h
  have hN := root_range hr
  simp only [if_pos h, if_pos hN.2.2.1, if_pos (show q < c.length by omega)]
  by_cases h2 : rd c q = 0
  ·simp only [if_pos h2]; exact Ev.const _
  ·simp only [if_neg h2]; exact Ev.const _
 ·simp only [if_neg h]; exact Ev.const _
theorem rngF_zero : ∀ {c : List Int}, rngF c = 0 → ∀ x ∈ c, -1048576 ≤ x ∧ x ≤ 1048576
 | [], _, x, hx => absurd hx (by simp)
 | y :: c, h, x, hx => by
  rw [rngF] at h
  by_cases hy : chipB y = true
  ·rw [if_pos hy] at h
   simp [chipB] at hy
   rcases List.mem_cons.1 hx with rfl | hx
   ·exact hy
   ·exact rngF_zero h x hx
  ·rw [if_neg hy] at h; exact absurd h (by decide)
theorem negF_zero (q : Int) : ∀ {c : List Int} {i : Nat}, negF q i c = 0 → ∀ j : Nat, j < c.length → ((i + j : Nat) : Int) ≠ q → 0 ≤ rd c j
 | [], i, _, j, hj, _ => absurd hj (by simp)
 | y :: c, i, h, j, hj, hjq => by
  rw [negF] at h
  by_cases hi : (i : Int) = q
  ·rw [if_pos hi] at h
   cases j with
   | zero => exact absurd hi hjq
   | succ j =>
    have := negF_zero q h j (by simpa using hj) (by rw [show i + 1 + j = i + (j + 1) by omega]; exact hjq)
    simpa [rd, List.getD_eq_getElem?_getD] using this
  ·rw [if_neg hi] at h
   by_cases hy : y < 0
   ·rw [if_pos hy] at h; exact absurd h (by decide)
   ·rw [if_neg hy] at h
    cases j with
    | zero => simp [rd, List.getD_eq_getElem?_getD]; omega
    | succ j =>
     have := negF_zero q h j (by simpa using hj) (by rw [show i + 1 + j = i + (j + 1) by omega]; exact hjq)
     simpa [rd, List.getD_eq_getElem?_getD] using this
structure GoodC (n q : Nat) (c : List Int) : Prop where
 len : c.length = n
 pos : ∀ v : Nat, 0 ≤ rd c v
 up : ∀ v : Nat, rd c v ≤ 1048576
 sink : rd c q = 0
theorem rd_out {c : List Int} {v : Nat} (h : c.length ≤ v) : rd c v = 0 := by simp [rd, List.getD_eq_getElem?_getD, List.getElem?_eq_none h]
theorem err23_good {n q : Nat} {E : List S66} {c : List Int} (h : err23 n E q c = 0) : rootG n E q = 0 ∧ GoodC n q c := by
 unfold err23 at h
 by_cases he : errC n E q c = 0
 ·rw [if_pos he] at h
  by_cases hq : rd c q = 0
  ·obtain ⟨h1, h2, h3, h4⟩ := errC_zero he
   refine ⟨h1, ⟨by omega, fun v => ?_, fun v => ?_, hq⟩⟩
   ·by_cases hv : v < c.length
    ·by_cases e : v = q
     ·subst e; omega
     ·exact negF_zero q h4 v hv (by omega)
    ·rw [rd_out (by omega)]; exact Int.le_refl _
   ·by_cases hv : v < c.length
    ·have := rngF_zero h3 c[v] (List.getElem_mem _)
     simp only [rd, Int.toNat_natCast, List.getD_eq_getElem?_getD, List.getElem?_eq_getElem hv, Option.getD_some]; omega
    ·rw [rd_out (by omega)]; decide
  ·rw [if_neg hq] at h; exact absurd h (by decide)
 ·rw [if_neg he] at h; exact absurd h he
theorem burn_ev {n q : Nat} {E : List S66} {c : List Int} (hE : E.length ≤ 1000) (hn : n ≤ 12) (hin : edgesInB n E = true) (h : err23 n E q c = 0) : Ev (fun k => burning_Superstable.f k n E q c) (superB n (timesOf E) q c, (0 : Int)) := by
 obtain ⟨hr, hg⟩ := err23_good h
 have hl := hg.len
 have hq := root_range hr
 unfold burning_Superstable.f burning_Burn.f
 have hb := burnCheck_ev n E q c hE
 rw [h] at hb
 have hw : rightConf n E q c = true := by simp only [rightConf, Bool.and_eq_true, decide_eq_true_eq]; exact ⟨by omega, hin⟩
 refine Ev.bind (a := ((q : Int) :: (fireOf n E q c).map Int.ofNat, unbTo (burnAll (sinkOnly q) (fireOf n E q c)) n, (0 : Int))) ?_ ?_
 ·refine Ev.bind hb ?_
  simp only [if_true, hw, Int.toNat_natCast]
  exact Ev.const _
 ·simp only [if_true]
  have hx := burnt_all (burnAll (sinkOnly q) (fireOf n E q c)) n
  have e : (((unbTo (burnAll (sinkOnly q) (fireOf n E q c)) n).length : Int) == 0) = superB n (timesOf E) q c := by
   rw [Bool.eq_iff_iff]
   unfold superB
   rw [show fireList n (catchB n (timesOf E) c) (sinkOnly q) = fireOf n E q c from rfl, ← hx]
   simp
  rw [e]
  exact Ev.const _
mutual
def sandpileref28_Raised.l0 : Nat → Int → List Int → List Int → List Int → Int → Int → List (S66) → Option (List Int)
 | 0, _, _, _, _, _, _, _ => none
 | k + 1, x1, x2, x7, x8, x9, x316000, x316001 => if x9 < x316000 then (if x9 = x1 then (sandpileref28_Raised.l0 k x1 x2 x7 x8 (wrap64 (x9 + 1)) x316000 x316001) else (if 0 ≤ x9 then (if x9 < (x2.length : Int) then (sandpileref28_Raised.l1 k x1 x2 x7 x8 x9 (wrap64 ((rd x2 x9) + 1)) x316000 x316001) else (none)) else (none))) else (some x7)
def sandpileref28_Raised.l1 : Nat → Int → List Int → List Int → List Int → Int → Int → Int → List (S66) → Option (List Int)
 | 0, _, _, _, _, _, _, _, _ => none
 | k + 1, x1, x2, x7, x8, x9, x10, x316000, x316001 => if 0 ≤ x9 then (if x9 < (x8.length : Int) then (if x10 ≤ (rd x8 x9) then ((some (([] : List Int) : List Int)).bind fun y327 => (if y327.length + x7.length < 17592186044416 then ((some (y327 ++ x7 : List Int)).bind fun y330 => (if x9 < (y330.length : Int) then ((some (y330.set (x9 : Int).toNat x10 : List Int)).bind fun y333 => ((sandpileref23_Is.f k x316000 x316001 x1 y333).bind fun t334 => (if t334 = true then (sandpileref28_Raised.l1 k x1 x2 y333 x8 x9 (wrap64 (x10 + 1)) x316000 x316001) else (sandpileref28_Raised.l1 k x1 x2 x7 x8 x9 (wrap64 (x10 + 1)) x316000 x316001)))) else (none))) else (none))) else (sandpileref28_Raised.l0 k x1 x2 x7 x8 (wrap64 (x9 + 1)) x316000 x316001)) else (none)) else (none)
end
section
theorem rd_set_self {l : List Int} {v : Nat} (h : v < l.length) (x : Int) : rd (l.set v x) v = x := by simp [rd, List.getD_eq_getElem?_getD, List.getElem?_set, h]
theorem rd_set_ne {l : List Int} {v u : Nat} (h : v ≠ u) (x : Int) : rd (l.set v x) u = rd l u := by simp [rd, List.getD_eq_getElem?_getD, List.getElem?_set, h]
theorem map_set {n : Nat} {f g : Nat → Int} {v : Nat} {x : Int} (h : ∀ u, u < n → u ≠ v → f u = g u) (hx : x = g v) : ((List.range n).map f).set v x = (List.range n).map g := by
 apply List.ext_getElem
 ·simp
 ·intro i h1 h2
  rw [List.getElem_set]
  have hi : i < n := by simpa using h2
  split
  ·rename_i e; subst e; simp [hx]
  ·rename_i e; simp only [List.getElem_map, List.getElem_range]; exact h i hi (fun e' => e e'.symm)
namespace Small
variable {n q : Nat} {E : List S66}
theorem sup_down (h : Small n q E) {a b : List Int} (hab : ∀ v : Nat, v < n → rd a v ≤ rd b v) (hb : superB n (timesOf E) q b = true) : superB n (timesOf E) q a = true := by
 have ht : ∀ i j, 0 ≤ timesOf E i j := fun i j => ((edgesIn_of h.right.inB).times i j).1
 exact (superB_iff ht q a).2 (((superB_iff ht q b).1 hb).down hab)
theorem sup_lt (h : Small n q E) {a : List Int} {v : Nat} (hv : v < n) (hq : v ≠ q) (ha : superB n (timesOf E) q a = true) : rd a v < valN E v n := by
 have := (superB_small h.right.inB (by have := h.n5; omega) hv hq ha).1
 unfold valOf at this
 rwa [valOf_valN h.right v n] at this
end Small
end
section
theorem rd_append_left {p l : List Int} {v : Nat} (h : v < p.length) : rd (p ++ l) v = rd p v := by simp [rd, List.getD_eq_getElem?_getD, List.getElem?_append_left h]
theorem rd_append_last (p : List Int) (x : Int) : rd (p ++ [x]) p.length = x := by simp [rd, List.getD_eq_getElem?_getD]
theorem rd_take {l : List Int} {m v : Nat} (h : v < m) : rd (l.take m) v = rd l v := by simp [rd, List.getD_eq_getElem?_getD, List.getElem?_take, h]
theorem mem_stabB (most : Nat → Nat) : ∀ (m : Nat) (l : List Int), l ∈ stabB most m ↔ l.length = m ∧ ∀ v : Nat, v < m → 0 ≤ rd l v ∧ rd l v ≤ most v
 | 0, l => by
  simp only [stabB, List.mem_singleton]
  constructor
  ·rintro rfl; exact ⟨rfl, fun v hv => by omega⟩
  ·rintro ⟨h, _⟩; exact List.length_eq_zero_iff.1 h
 | m + 1, l => by
  simp only [stabB, stepB, List.mem_flatMap, List.mem_map, List.mem_range]
  constructor
  ·rintro ⟨p, hp, x, hx, rfl⟩
   obtain ⟨h1, h2⟩ := (mem_stabB most m p).1 hp
   refine ⟨by simp [h1], fun v hv => ?_⟩
   by_cases e : v < m
   ·rw [rd_append_left (by omega)]; exact h2 v e
   ·rw [show v = p.length by omega, rd_append_last]; rw [h1]; omega
  ·rintro ⟨h1, h2⟩
   refine ⟨l.take m, (mem_stabB most m _).2 ⟨by simp; omega, fun v hv => by rw [rd_take hv]; exact h2 v (by omega)⟩, (rd l m).toNat, by have := h2 m (by omega); omega, ?_⟩
   have h3 := h2 m (by omega)
   have h4 : l.take (m + 1) = l.take m ++ [l[m]] := List.take_succ_eq_append_getElem (by omega)
   rw [List.take_of_length_le (by omega)] at h4
   rw [show ((rd l m).toNat : Int) = l[m] by
    have : rd l m = l[m] := by simp [rd, List.getD_eq_getElem?_getD, List.getElem?_eq_getElem (show m < l.length by omega)]
    omega]
   exact h4.symm
def LexLt (a b : List Int) : Prop := ∃ i : Nat, i < a.length ∧ (∀ j : Nat, j < i → rd a j = rd b j) ∧ rd a i < rd b i
theorem stabB_order (most : Nat → Nat) : ∀ m, (stabB most m).Pairwise LexLt
 | 0 => List.pairwise_singleton _ _
 | m + 1 => by
  have ih := stabB_order most m
  simp only [stabB, stepB]
  rw [List.pairwise_flatMap]
  constructor
  ·intro p hp
   rw [List.pairwise_map]
   refine List.Pairwise.imp ?_ (List.pairwise_lt_range (n := most m + 1))
   intro x y hxy
   refine ⟨p.length, by simp, fun j hj => by rw [rd_append_left hj, rd_append_left hj], ?_⟩
   rw [rd_append_last, rd_append_last]; omega
  ·refine List.Pairwise.imp_of_mem ?_ ih
   intro p r hp hr hpr x hx y hy
   obtain ⟨a, _, rfl⟩ := List.mem_map.1 hx
   obtain ⟨b, _, rfl⟩ := List.mem_map.1 hy
   have l1 := stabB_len _ _ _ hp
   have l2 := stabB_len _ _ _ hr
   obtain ⟨i, h1, h2, h3⟩ := hpr
   refine ⟨i, by simp; omega, fun j hj => ?_, ?_⟩
   ·rw [rd_append_left (by omega), rd_append_left (by omega)]; exact h2 j hj
   ·rw [rd_append_left (by omega), rd_append_left (by omega)]; exact h3
theorem rd_ext {a b : List Int} (hl : a.length = b.length) (h : ∀ v : Nat, v < a.length → rd a v = rd b v) : a = b := by
 apply List.ext_getElem hl
 intro i h1 h2
 have := h i h1
 simpa [rd, List.getD_eq_getElem?_getD, List.getElem?_eq_getElem h1, List.getElem?_eq_getElem h2] using this
namespace Small
variable {n q : Nat} {E : List S66}
theorem mem_confs (h : Small n q E) (c : List Int) : c ∈ confs n E q ↔ c.length = n ∧ (∀ v : Nat, 0 ≤ rd c v) ∧ rd c q = 0 ∧ superB n (timesOf E) q c = true := by
 rw [h.confs_eq, List.mem_filter, mem_stabB, ← h.super_iff]
 constructor
 ·rintro ⟨⟨h1, h2⟩, h3⟩
  refine ⟨h1, fun v => ?_, ?_, h3⟩
  ·by_cases hv : v < n
   ·exact (h2 v hv).1
   ·rw [rd_out (by omega)]; exact Int.le_refl _
  ·have := h2 q h.q
   rw [most_q] at this
   omega
 ·rintro ⟨h1, h2, h3, h4⟩
  refine ⟨⟨h1, fun v hv => ⟨h2 v, ?_⟩⟩, h4⟩
  by_cases hq : v = q
  ·subst hq; rw [most_q, h3]; exact Int.le_refl _
  ·have := h.sup_lt hv hq h4
   unfold mostOf
   rw [if_neg hq]; omega
theorem confs_order (h : Small n q E) : (confs n E q).Pairwise LexLt := by
 rw [h.confs_eq]
 exact (stabB_order _ _).filter _
theorem good_conf (h : Small n q E) {c : List Int} (hc : c ∈ confs n E q) : GoodC n q c := by
 obtain ⟨h1, h2, h3, h4⟩ := (h.mem_confs c).1 hc
 exact ⟨h1, h2, fun v => by have := ((h.conf_mem hc).2 v).2; omega, h3⟩
end Small
end
section
def left (n : Nat) (B : Nat → Bool) : Nat := (List.range n).countP fun v => !B v
theorem NoBlock.congr {n : Nat} {t : Nat → Nat → Int} {q : Nat} {c c' : Nat → Int} (h : NoBlock n t q c) (hc : ∀ v, v < n → v ≠ q → c' v ≤ c v) : NoBlock n t q c' := by
 rintro S hS hq
 obtain ⟨v, h1, h2, h3⟩ := h S hS hq
 have : v ≠ q := fun e => by subst e; rw [hq] at h2; cases h2
 exact ⟨v, h1, h2, by have := hc v h1 this; omega⟩
namespace Small
variable {n q : Nat} {E : List S66}
end Small
end
mutual
def sandpilelaw28_SuperstableGenus.l0 : Nat → List Int → Int → List (List Int) → Int → Int → List Int → Int → Int → Option (Bool)
 | 0, _, _, _, _, _, _, _, _ => none
 | k + 1, x5, x7, x9, x11, x12, x49, x50, x51 => if x51 < x50 then (if 0 ≤ x51 then (if x51 < (x49.length : Int) then (sandpilelaw28_SuperstableGenus.l0 k x5 x7 x9 x11 (wrap64 (x12 + (rd x49 x51))) x49 x50 (wrap64 (x51 + 1))) else (none)) else (none)) else (sandpilelaw28_SuperstableGenus.l1 k x5 x7 x9 x11 x12 x9 (x9.length : Int) 0)
def sandpilelaw28_SuperstableGenus.l1 : Nat → List Int → Int → List (List Int) → Int → Int → List (List Int) → Int → Int → Option (Bool)
 | 0, _, _, _, _, _, _, _, _ => none
 | k + 1, x5, x7, x9, x11, x12, x59, x60, x61 => if x61 < x60 then (if 0 ≤ x61 then (if x61 < (x59.length : Int) then ((sandpileref17_Total.f k (rd_L2 x59 x61)).bind fun t561 => (if t561 = x11 then (sandpilelaw28_SuperstableGenus.l1 k x5 x7 x9 x11 x12 x59 x60 (wrap64 (x61 + 1))) else (some false))) else (none)) else (none)) else (if x12 = x7 then (if (x5.length : Int) = (wrap64 (x11 + 1)) then (if 0 < (x5.length : Int) then (if (rd x5 0) = 1 then (if 0 ≤ x11 then (if x11 < (x5.length : Int) then (if (rd x5 x11) = (x9.length : Int) then ((sandpilelaw28_awake.f).bind fun t564 => (some t564)) else (some false)) else (none)) else (none)) else (some false)) else (none)) else (some false)) else (some false))
end
section
theorem ev_all {ι : Type} {P : ι → Nat → Prop} : ∀ (l : List ι), (∀ x ∈ l, ∃ B, ∀ K, B ≤ K → P x K) → ∃ B, ∀ K, B ≤ K → ∀ x ∈ l, P x K
 | [], _ => ⟨0, fun _ _ x hx => absurd hx (by simp)⟩
 | y :: l, h => by
  obtain ⟨B, hB⟩ := ev_all l fun x hx => h x (List.mem_cons_of_mem _ hx)
  obtain ⟨C, hC⟩ := h y (List.mem_cons_self ..)
  refine ⟨max B C, fun K hK x hx => ?_⟩
  rcases List.mem_cons.1 hx with rfl | hx
  ·exact hC K (by omega)
  ·exact hB K (by omega) x hx
namespace Small
variable {n q : Nat} {E : List S66}
end Small
namespace Small
variable {n q : Nat} {E : List S66}
end Small
end
section
namespace Small
variable {n q : Nat} {E : List S66}
theorem err_good (h : Small n q E) (hr : rootG n E q = 0) {c : List Int} (hg : GoodC n q c) : err23 n E q c = 0 := by
 have hl := hg.len
 have h1 : ∀ l : List Int, (∀ y ∈ l, 0 ≤ y ∧ y ≤ 1048576) → rngF l = 0 := fun l => by
  induction l with
  | nil => intro _; rfl
  | cons y l ih =>
   intro hl
   have := hl y (List.mem_cons_self ..)
   rw [rngF, if_pos (by simp [chipB]; omega)]
   exact ih fun z hz => hl z (List.mem_cons_of_mem _ hz)
 have h2 : ∀ (l : List Int) (i : Nat), (∀ y ∈ l, 0 ≤ y ∧ y ≤ 1048576) → negF q i l = 0 := fun l => by
  induction l with
  | nil => intro i _; rfl
  | cons y l ih =>
   intro i hl
   have := hl y (List.mem_cons_self ..)
   rw [negF, if_neg (show ¬ y < 0 by omega), ih (i + 1) fun z hz => hl z (List.mem_cons_of_mem _ hz)]
   split <;> rfl
 have hm : ∀ y ∈ c, 0 ≤ y ∧ y ≤ 1048576 := fun y hy => by
  obtain ⟨i, hi, rfl⟩ := List.getElem_of_mem hy
  have := And.intro (hg.pos i) (hg.up i)
  simp only [rd, Int.toNat_natCast, List.getD_eq_getElem?_getD, List.getElem?_eq_getElem hi, Option.getD_some] at this
  exact this
 have e0 : errC n E q c = 0 := by
  unfold errC
  rw [if_pos hr, if_pos (by simp [hl]), h1 _ hm, if_pos rfl, h2 _ 0 hm]
 unfold err23
 rw [if_pos e0, if_pos hg.sink]
theorem less_conf (h : Small n q E) {c : List Int} (hc : c ∈ confs n E q) {v : Nat} (hv : v < n) (h0 : rd c v ≠ 0) : c.set v (rd c v - 1) ∈ confs n E q := by
 obtain ⟨h1, h2, h3, h4⟩ := (h.mem_confs c).1 hc
 have hq : v ≠ q := fun e => h0 (by rw [e]; exact h3)
 have hp := h2 v
 refine (h.mem_confs _).2 ⟨by simp [h1], fun u => ?_, by rw [rd_set_ne hq]; exact h3, h.sup_down (fun u hu => ?_) h4⟩
 ·by_cases e : v = u
  ·subst e; rw [rd_set_self (by omega)]; omega
  ·rw [rd_set_ne e]; exact h2 u
 ·by_cases e : v = u
  ·subst e; rw [rd_set_self (by omega)]; omega
  ·rw [rd_set_ne e]; exact Int.le_refl _
end Small
end
mutual
def sandpileref28_Greatest.l0 : Nat → List (List Int) → List Int → Int → Option (Bool)
 | 0, _, _, _ => none
 | k + 1, x0, x1, x5 => if x5 < (x0.length : Int) then (sandpileref28_Greatest.l1 k x0 x1 x5 true 0) else (some true)
def sandpileref28_Greatest.l1 : Nat → List (List Int) → List Int → Int → Bool → Int → Option (Bool)
 | 0, _, _, _, _, _ => none
 | k + 1, x0, x1, x5, x6, x7 => if x7 < (x1.length : Int) then (if x6 = true then (if 0 ≤ x5 then (if x5 < (x0.length : Int) then (if 0 ≤ x7 then (if x7 < ((rd_L2 x0 x5).length : Int) then (sandpileref28_Greatest.l1 k x0 x1 x5 (decide ((rd (rd_L2 x0 x5) x7) ≥ (rd x1 x7))) (wrap64 (x7 + 1))) else (none)) else (none)) else (none)) else (none)) else (sandpileref28_Greatest.l1 k x0 x1 x5 false (wrap64 (x7 + 1)))) else (if x6 = true then (if 0 ≤ x5 then (if x5 < (x0.length : Int) then ((sandpileref17_Same.f k (rd_L2 x0 x5) x1).bind fun t286 => (if t286 = true then (sandpileref28_Greatest.l0 k x0 x1 (wrap64 (x5 + 1))) else (some false))) else (none)) else (none)) else (sandpileref28_Greatest.l0 k x0 x1 (wrap64 (x5 + 1))))
end
section
theorem rd_L2_in {l : List (List Int)} {i : Nat} (h : i < l.length) : rd_L2 l i ∈ l := by
 have e : rd_L2 l i = l[i] := by simp [rd_L2, List.getD_eq_getElem?_getD, List.getElem?_eq_getElem h]
 rw [e]; exact List.getElem_mem h
namespace Small
variable {n q : Nat} {E : List S66}
end Small
end
section
namespace Small
variable {n q : Nat} {E : List S66}
end Small
end
def graph_at.l0 : Nat → List Int → Int → Int → Int → List (S66) → Option (Int)
 | 0, _, _, _, _, _ => none
 | k + 1, x13, x14, x15, x421000, x421001 => if x15 < x14 then (if 0 ≤ x15 then (if x15 < (x13.length : Int) then ((graph_vertex.f x421000 (rd x13 x15)).bind fun t423 => (if t423 = true then (graph_at.l0 k x13 x14 (wrap64 (x15 + 1)) x421000 x421001) else (some 2))) else (none)) else (none)) else (some 0)
def graph_at.f (k : Nat) (a0_0 : Int) (l0_1 : List (S66)) (l1 : List Int) : Option (Int) := (graph_Check.f k a0_0 l0_1).bind fun t421 => (if t421 = 0 then (graph_at.l0 k l1 (l1.length : Int) 0 a0_0 l0_1) else (some t421))
def graph_Valence.l0 : Nat → Int → Int → List (S66) → Int → Int → Option (Int × Int)
 | 0, _, _, _, _, _ => none
 | k + 1, x1, x7, x18, x19, x20 => if x20 < x19 then (if 0 ≤ x20 then (if x20 < (x18.length : Int) then (if ((rd_T66 x18 x20).f0) = ((rd_T66 x18 x20).f1) then (graph_Valence.l0 k x1 x7 x18 x19 (wrap64 (x20 + 1))) else (if ((rd_T66 x18 x20).f0) = x1 then (graph_Valence.l0 k x1 (wrap64 (x7 + ((rd_T66 x18 x20).f2))) x18 x19 (wrap64 (x20 + 1))) else (if ((rd_T66 x18 x20).f1) = x1 then (graph_Valence.l0 k x1 (wrap64 (x7 + ((rd_T66 x18 x20).f2))) x18 x19 (wrap64 (x20 + 1))) else (graph_Valence.l0 k x1 x7 x18 x19 (wrap64 (x20 + 1)))))) else (none)) else (none)) else (some (x7, 0))
def graph_Valence.f (k : Nat) (a0_0 : Int) (l0_1 : List (S66)) (a1 : Int) : Option (Int × Int) := (graph_at.f k a0_0 l0_1 (([a1] : List Int))).bind fun t428 => (if t428 = 0 then (graph_Valence.l0 k a1 0 l0_1 (l0_1.length : Int) 0) else (some (0, t428)))
def recurrent_pile_valence.f (k : Nat) (a0_0 : Int) (l0_1 : List (S66)) (a0_2 : Int) (l0_3 : List Int) (a1 : Int) : Option (Int) := (graph_Valence.f k a0_0 l0_1 a1).bind fun bt432 => (some bt432.1)
def recurrent_pile_joins.l0 : Nat → Int → List Bool → Int → List (S66) → Int → Int → Option (Int)
 | 0, _, _, _, _, _, _ => none
 | k + 1, x1, x2, x7, x12, x13, x14 => if x14 < x13 then (if 0 ≤ x14 then (if x14 < (x12.length : Int) then (if ((rd_T66 x12 x14).f0) = ((rd_T66 x12 x14).f1) then (recurrent_pile_joins.l0 k x1 x2 x7 x12 x13 (wrap64 (x14 + 1))) else (if ((rd_T66 x12 x14).f0) = x1 then (if 0 ≤ ((rd_T66 x12 x14).f1) then (if ((rd_T66 x12 x14).f1) < (x2.length : Int) then (if rdOf false x2 ((rd_T66 x12 x14).f1) = true then (recurrent_pile_joins.l0 k x1 x2 (wrap64 (x7 + ((rd_T66 x12 x14).f2))) x12 x13 (wrap64 (x14 + 1))) else (if ((rd_T66 x12 x14).f1) = x1 then (if 0 ≤ ((rd_T66 x12 x14).f0) then (if ((rd_T66 x12 x14).f0) < (x2.length : Int) then (if rdOf false x2 ((rd_T66 x12 x14).f0) = true then (recurrent_pile_joins.l0 k x1 x2 (wrap64 (x7 + ((rd_T66 x12 x14).f2))) x12 x13 (wrap64 (x14 + 1))) else (recurrent_pile_joins.l0 k x1 x2 x7 x12 x13 (wrap64 (x14 + 1)))) else (none)) else (none)) else (recurrent_pile_joins.l0 k x1 x2 x7 x12 x13 (wrap64 (x14 + 1))))) else (none)) else (none)) else (if ((rd_T66 x12 x14).f1) = x1 then (if 0 ≤ ((rd_T66 x12 x14).f0) then (if ((rd_T66 x12 x14).f0) < (x2.length : Int) then (if rdOf false x2 ((rd_T66 x12 x14).f0) = true then (recurrent_pile_joins.l0 k x1 x2 (wrap64 (x7 + ((rd_T66 x12 x14).f2))) x12 x13 (wrap64 (x14 + 1))) else (recurrent_pile_joins.l0 k x1 x2 x7 x12 x13 (wrap64 (x14 + 1)))) else (none)) else (none)) else (recurrent_pile_joins.l0 k x1 x2 x7 x12 x13 (wrap64 (x14 + 1)))))) else (none)) else (none)) else (some x7)
def recurrent_pile_joins.f (k : Nat) (a0_0 : Int) (l0_1 : List (S66)) (a0_2 : Int) (l0_3 : List Int) (a1 : Int) (l2 : List Bool) : Option (Int) := recurrent_pile_joins.l0 k a1 l2 0 l0_1 (l0_1.length : Int) 0
def recurrent_pile_catches.f (k : Nat) (a0_0 : Int) (l0_1 : List (S66)) (a0_2 : Int) (l0_3 : List Int) (a1 : Int) (l2 : List Bool) : Option (Bool) := if 0 ≤ a1 then (if a1 < (l0_3.length : Int) then ((recurrent_pile_joins.f k a0_0 l0_1 a0_2 l0_3 a1 l2).bind fun t442 => ((recurrent_pile_valence.f k a0_0 l0_1 a0_2 l0_3 a1).bind fun t443 => (some (decide ((wrap64 ((rd l0_3 a1) + t442)) ≥ t443))))) else (none)) else (none)
mutual
def recurrent_pile_fire.l0 : Nat → List Bool → List Int → Int → List (S66) → Int → List Int → Option (List Int)
 | 0, _, _, _, _, _, _ => none
 | k + 1, x3, x4, x445000, x445001, x445002, x445003 => if (x4.length : Int) < x445000 then (recurrent_pile_fire.l1 k x3 x4 (-1) x445000 0 x445000 x445001 x445002 x445003) else (some x4)
def recurrent_pile_fire.l1 : Nat → List Bool → List Int → Int → Int → Int → Int → List (S66) → Int → List Int → Option (List Int)
 | 0, _, _, _, _, _, _, _, _, _ => none
 | k + 1, x3, x4, x5, x26, x27, x445000, x445001, x445002, x445003 => if x27 < x26 then (if 0 ≤ x27 then (if x27 < (x3.length : Int) then (if rdOf false x3 x27 = true then (recurrent_pile_fire.l1 k x3 x4 x5 x26 (wrap64 (x27 + 1)) x445000 x445001 x445002 x445003) else ((recurrent_pile_catches.f k x445000 x445001 x445002 x445003 x27 x3).bind fun t453 => (if t453 = true then (if x27 < 0 then (some x4) else (if x4.length < 17592186044416 then (recurrent_pile_fire.l0 k (x3.set (x27 : Int).toNat true) (x4 ++ [x27]) x445000 x445001 x445002 x445003) else (none))) else (recurrent_pile_fire.l1 k x3 x4 x5 x26 (wrap64 (x27 + 1)) x445000 x445001 x445002 x445003)))) else (none)) else (none)) else (if x5 < 0 then (some x4) else (if 0 ≤ x5 then (if x5 < (x3.length : Int) then (if x4.length < 17592186044416 then (recurrent_pile_fire.l0 k (x3.set (x5 : Int).toNat true) (x4 ++ [x5]) x445000 x445001 x445002 x445003) else (none)) else (none)) else (none)))
end
section
theorem right_ev (N : Int) (E : List S66) (q : Int) : Ev (fun k => sandpilelaw28_right.f k N E q) (fewB N E && (rootG N E q == 0)) := by
 unfold sandpilelaw28_right.f
 refine Ev.bind (few_ev N E) ?_
 by_cases hf : fewB N E = true
 ·have hl := few_len hf
  simp only [hf, if_true, Bool.true_and]
  exact Ev.bind (rooted19_ev N E q (by omega)) (Ev.const _)
 ·simp only [if_neg hf]
  have : fewB N E = false := by simpa using hf
  rw [this]
  exact Ev.const _
namespace Small
variable {n q : Nat} {E : List S66}
end Small
end
theorem equalD_l0' (a b : List Int) (hl : a.length = b.length) (hc : a.length ≤ 100000) : ∀ (m i : Nat), i + m = a.length → (∀ j : Nat, j < i → rd a j = rd b j) → Ev (fun k => api_Divisor_int_31.l0 k a b a.length i) (decide (a = b))
 | 0, i, hi, he => by
  refine Ev.of_succ ?_
  have e : a = b := rd_ext hl (fun v hv => he v (by omega))
  simp only [api_Divisor_int_31.l0, if_neg (show ¬ ((i : Int) < (a.length : Int)) by omega), decide_eq_true e]
  exact Ev.const _
 | m + 1, i, hi, he => by
  refine Ev.of_succ ?_
  simp only [api_Divisor_int_31.l0, if_pos (show (i : Int) < (a.length : Int) by omega), if_pos (show (i : Int) < (b.length : Int) by omega), if_pos (show (0 : Int) ≤ (i : Int) by omega), wrap_succ (show i ≤ 1000000 by omega)]
  by_cases e : rd a i = rd b i
  ·simp only [if_pos e]
   exact equalD_l0' a b hl hc m (i + 1) (by omega) (fun j hj => by
    by_cases e2 : j = i
    ·subst e2; exact e
    ·exact he j (by omega))
  ·have hne : a ≠ b := fun h => e (by rw [h])
   simp only [if_neg e, decide_eq_false hne]
   exact Ev.const _
theorem equalD_any (a b : List Int) (hl : a.length = b.length) (hc : a.length ≤ 100000) : Ev (fun k => api_Divisor_int_31.f k a b) (decide (a = b)) := by
 unfold api_Divisor_int_31.f
 simp only [if_pos (show (a.length : Int) = (b.length : Int) by omega)]
 exact equalD_l0' a b hl hc a.length 0 (by omega) (fun j hj => by omega)
theorem compareD_less (a b : List Int) (hl : a.length = b.length) (hc : a.length ≤ 100000) (h : LexLt a b) : Ev (fun k => api_Divisor_int_34.f k a b) (-1) := by
 obtain ⟨i, hi, he, hlt⟩ := h
 have loop : ∀ (m j : Nat), j + m = i → Ev (fun k => api_Divisor_int_34.l0 k a b a a.length j) (-1) := by
  intro m
  induction m with
  | zero =>
   intro j hj
   obtain rfl : j = i := by omega
   refine Ev.of_succ ?_
   simp only [api_Divisor_int_34.l0, if_pos (show (j : Int) < (a.length : Int) by omega), if_pos (show (j : Int) < (b.length : Int) by omega), if_pos (show (0 : Int) ≤ (j : Int) by omega), if_neg (show ¬ (j : Int) ≥ (b.length : Int) by omega), cmp_ok, if_pos hlt, Option.bind_some]
   exact Ev.const _
  | succ m ih =>
   intro j hj
   refine Ev.of_succ ?_
   have := he j (by omega)
   simp only [api_Divisor_int_34.l0, if_pos (show (j : Int) < (a.length : Int) by omega), if_pos (show (j : Int) < (b.length : Int) by omega), if_pos (show (0 : Int) ≤ (j : Int) by omega), if_neg (show ¬ (j : Int) ≥ (b.length : Int) by omega), cmp_ok, if_neg (show ¬ rd a j < rd b j by omega), if_neg (show ¬ rd a j > rd b j by omega), Option.bind_some, if_true, wrap_succ (show j ≤ 1000000 by omega)]
   exact ih (j + 1) (by omega)
 unfold api_Divisor_int_34.f
 exact loop i 0 (by omega)
theorem below_calls (N : Int) (A0 : Option Addr) (c0 : Nat) (E : List S66) (q : Int) (w : World) (hr0 : Kd.C k66 w A0 E.length E) (hc0 : E.length ≤ c0) :
  Calls Try.prog 8 #[.agg #[.int .i64 N, .slice A0 E.length c0], .int .i64 q] w fun e w' => e = .returned (.bool true) ∧ Below w.heap.size w w' := by
 have hrt := right_ev N E q
 by_cases hf : fewB N E = true
 ·by_cases hr : rootG N E q = 0
  ·obtain ⟨n, q', rfl, rfl, h⟩ := root_small hf hr
   simp only [hf, hr, beq_self_eq_true, Bool.and_self] at hrt
   have hn5 := h.n5
   have hcl := h.confs_le
   have hne : 0 < (confs n E q').length := List.length_pos_iff.2 h.nonempty
   have hlen : ∀ i : Nat, i < (confs n E q').length → (rd_L2 (confs n E q') i).length = n := fun i hi => ((h.mem_confs _).1 (rd_L2_in hi)).1
   obtain ⟨B1, h1⟩ := hrt
   obtain ⟨B2, h2⟩ := h.superAll_ev hr
   obtain ⟨B3, h3⟩ := ev_all (P := fun (i : Nat) K => i + 1 < (confs n E q').length → api_Divisor_int_34.f K (rd_L2 (confs n E q') i) (rd_L2 (confs n E q') (i + 1 : Nat)) = some (-1)) (List.range (confs n E q').length) (fun i hi => by
    by_cases hi2 : i + 1 < (confs n E q').length
    ·have hp := List.pairwise_iff_getElem.1 h.confs_order i (i + 1) (by omega) hi2 (by omega)
     have e1 : rd_L2 (confs n E q') i = (confs n E q')[i]'(by omega) := by simp [rd_L2, List.getD_eq_getElem?_getD, List.getElem?_eq_getElem (show i < (confs n E q').length by omega)]
     have e2 : rd_L2 (confs n E q') (i + 1 : Nat) = (confs n E q')[i + 1] := by simp [rd_L2, List.getD_eq_getElem?_getD, List.getElem?_eq_getElem hi2]
     rw [← e1, ← e2] at hp
     obtain ⟨B, hB⟩ := compareD_less _ _ (by rw [hlen i (by omega), hlen (i + 1) hi2]) (by rw [hlen i (by omega)]; omega) hp
     exact ⟨B, fun K hK _ => hB K hK⟩
    ·exact ⟨0, fun K _ h => absurd h hi2⟩)
   obtain ⟨B4, h4⟩ := ev_all (P := fun (x : List Int) K => burning_Superstable.f K n E q' x = some (true, 0)) (confs n E q') (fun x hx => by
    have := burn_ev (by have := h.len; omega) (by omega) h.right.inB (h.err_good hr (h.good_conf hx))
    rw [((h.mem_confs x).1 hx).2.2.2] at this
    exact this)
   obtain ⟨B5, h5⟩ := ev_all (P := fun (x : List Int) K => ∀ y ∈ confs n E q', api_Divisor_int_31.f K x y = some (decide (x = y))) (confs n E q') (fun x hx => ev_all (P := fun (y : List Int) K => api_Divisor_int_31.f K x y = some (decide (x = y))) (confs n E q') (fun y hy => by
    have hxl := ((h.mem_confs x).1 hx).1
    have hyl := ((h.mem_confs y).1 hy).1
    exact equalD_any x y (by omega) (by omega)))
   obtain ⟨K, hK⟩ : ∃ K, K = B1 + B2 + B3 + B4 + B5 := ⟨_, rfl⟩
   exact below_good K n A0 c0 E q' _ w hr0 hc0 (h1 K (by omega)) (h2 K (by omega)) hne hlen (fun i hi => h3 K (by omega) i (List.mem_range.2 (by omega)) hi) (fun i hi => h4 K (by omega) _ (rd_L2_in hi))
    (fun i v hi => ⟨(h.good_conf (rd_L2_in hi)).pos v, (h.good_conf (rd_L2_in hi)).up v⟩) (fun i v hi hv h0 => h.less_conf (rd_L2_in hi) hv h0) (fun x hx y hy => h5 K (by omega) x hx y hy) (by omega)
  ·have e : (rootG N E q == 0) = false := by simpa using hr
   simp only [e, Bool.and_false] at hrt
   obtain ⟨k, hk⟩ := hrt.get
   exact below_bad k N A0 c0 E q w hr0 hc0 hk
 ·have e : fewB N E = false := by simpa using hf
  simp only [e, Bool.false_and] at hrt
  obtain ⟨k, hk⟩ := hrt.get
  exact below_bad k N A0 c0 E q w hr0 hc0 hk
end Go.Proofs.Ytffdiakgjakngaa.P
