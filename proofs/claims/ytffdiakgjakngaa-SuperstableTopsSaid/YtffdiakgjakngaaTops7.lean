/- A part of the proof that SuperstableTops answers true (text 7 of 15): own walks and plain laws; no conditions. -/
import Derived.BigRegion
import Derived.Deep.RegionHeld3
import Derived.RegionIn
import Derived.RegionTactic
import Derived.Test.YtffdiakgjakngaaTops6
namespace Go.Proofs.Ytffdiakgjakngaa.P
open Go.RowKit Go.Proofs.YtffdiakgjakngaaW.PrintWords Go.Proofs.YtffdiakgjakngaaW.PrintLast Go.Proofs.YtffdiakgjakngaaW.PrintMore
set_option linter.unusedVariables false
set_option linter.unusedSimpArgs false
set_option maxHeartbeats 8000000
set_option maxRecDepth 100000
def sandpileref19_Rooted.f (k : Nat) (a0_0 : Int) (l0_1 : List (S66)) (a1 : Int) : Option (Int) := (sandpileref08_Check.f k a0_0 l0_1).bind fun t176 => (if t176 = 0 then ((sandpileref08_Connected.f k a0_0 l0_1).bind fun t177 => (if t177 = true then ((sandpileref08_Vertex.f a0_0 l0_1 a1).bind fun t178 => (if t178 = true then (some 0) else (some 2))) else (some 13))) else (some t176))
theorem sandpileref19_Rooted.calls (k : Nat) (a0_0 : Int) (A0_1 : Option Addr) (c0_1 : Nat) (l0_1 : List (S66)) (a1 : Int) (r : Int) (w : World) (hr0_1 : Kd.C k66 w A0_1 l0_1.length l0_1) (hc0_1 : l0_1.length ≤ c0_1) (h : sandpileref19_Rooted.f k a0_0 l0_1 a1 = some r) :
  Calls Try.prog 15 #[.agg #[.int .i64 a0_0, .slice A0_1 l0_1.length c0_1], .int .i64 a1] w fun e w' => e = .returned (.int .i64 r) ∧ Below w.heap.size w w' := by
 have hu24 := Try.underlying24
 have HR0_1 := Aside0.mk hr0_1
 have HC0_1 := Aside0.mk hc0_1
 clear hr0_1 hc0_1
 have HB := Aside0.mk (Below.refl w.heap.size w)
 have H : ((sandpileref08_Check.f k a0_0 l0_1).bind fun t176 => (if t176 = 0 then ((sandpileref08_Connected.f k a0_0 l0_1).bind fun t177 => (if t177 = true then ((sandpileref08_Vertex.f a0_0 l0_1 a1).bind fun t178 => (if t178 = true then (some 0) else (some 2))) else (some 13))) else (some t176))) = some r := h
 clear h
 replace H := Option.bind_eq_some_iff.mp H
 obtain ⟨t176, A30, H⟩ := H
 replace H : (if t176 = 0 then ((sandpileref08_Connected.f k a0_0 l0_1).bind fun t177 => (if t177 = true then ((sandpileref08_Vertex.f a0_0 l0_1 a1).bind fun t178 => (if t178 = true then (some 0) else (some 2))) else (some 13))) else (some t176)) = some r := H
 have A3 := Aside0.mk A30
 clear A30
 by_cases c4 : t176 = 0
 ·rw [if_pos c4] at H
  have c4b0 : (t176 == 0) = true := beq_iff_eq.mpr c4
  have c4b1 : (t176 != 0) = false := bne_eq_false_iff_eq.mpr c4
  clear c4
  replace H := Option.bind_eq_some_iff.mp H
  obtain ⟨t177, A50, H⟩ := H
  replace H : (if t177 = true then ((sandpileref08_Vertex.f a0_0 l0_1 a1).bind fun t178 => (if t178 = true then (some 0) else (some 2))) else (some 13)) = some r := H
  have A5 := Aside0.mk A50
  clear A50
  by_cases c6 : t177 = true
  ·subst c6
   have H1 : ((sandpileref08_Vertex.f a0_0 l0_1 a1).bind fun t178 => (if t178 = true then (some 0) else (some 2))) = some r := by rw [if_pos rfl] at H; exact H
   clear H
   have H := H1
   clear H1
   replace H := Option.bind_eq_some_iff.mp H
   obtain ⟨t178, A70, H⟩ := H
   replace H : (if t178 = true then (some 0) else (some 2)) = some r := H
   have A7 := Aside0.mk A70
   clear A70
   by_cases c8 : t178 = true
   ·subst c8
    have H1 : (some 0) = some r := by rw [if_pos rfl] at H; exact H
    clear H
    have H := H1
    clear H1
    obtain rfl := Option.some.inj H
    go_enter Try.func15, Try.ntmps15
    go_wp2_with (first | ((with_reducible refine gate_dst (N := 2) rfl ?_); refine zX 2 #[.int .i64 a0_0, .slice A0_1 l0_1.length c0_1] 24 ?_; intro gb175 hg w9 hbox hb; have BK175 := Aside0.mk (hbox); have GW175 := zG HB hg; have GE175 := zG HB hg; replace HB := zS HB hb; clear hb hbox hg; obtain ⟨hcz10_0, hcz10_1, hfz10_0, hfz10_1⟩ := zD2 BK175) | ((with_reducible refine gate_callee (f := 46) rfl ?_); refine zL (some 7) Try.func46 #[.agg #[.int .i64 a0_0, .slice A0_1 l0_1.length c0_1]] ?_; (with_reducible refine (sandpileref08_Check.calls k a0_0 _ _ l0_1 t176 _ ?side1 ?side2 A3.out).mono ?_); (case side1 => exact Kd.C_below HR0_1.out zB); (case side2 => exact HC0_1.out); rintro e w11 ⟨rfl, hb⟩; refine ⟨_, rfl, ?_⟩; replace BK175 := zb BK175 hb; replace HB := zS HB hb; (try clear hb); obtain ⟨hcz12_0, hcz12_1, hfz12_0, hfz12_1⟩ := zD2 BK175) | ((with_reducible refine gate_callee (f := 47) rfl ?_); refine zL (some 12) Try.func47 #[.agg #[.int .i64 a0_0, .slice A0_1 l0_1.length c0_1]] ?_; (with_reducible refine (sandpileref08_Connected.calls k a0_0 _ _ l0_1 true _ ?side1 ?side2 A5.out).mono ?_); (case side1 => exact Kd.C_below HR0_1.out zB); (case side2 => exact HC0_1.out); rintro e w13 ⟨rfl, hb⟩; refine ⟨_, rfl, ?_⟩; replace BK175 := zb BK175 hb; replace HB := zS HB hb; (try clear hb); obtain ⟨hcz14_0, hcz14_1, hfz14_0, hfz14_1⟩ := zD2 BK175) | ((with_reducible refine gate_callee (f := 48) rfl ?_); refine zL (some 16) Try.func48 #[.agg #[.int .i64 a0_0, .slice A0_1 l0_1.length c0_1], .int .i64 a1] ?_; (with_reducible refine (sandpileref08_Vertex.calls a0_0 _ _ l0_1 a1 true _ ?side1 ?side2 A7.out).mono ?_); (case side1 => exact Kd.C_below HR0_1.out zB); (case side2 => exact HC0_1.out); rintro e w15 ⟨rfl, hb⟩; refine ⟨_, rfl, ?_⟩; replace BK175 := zb BK175 hb; replace HB := zS HB hb; (try clear hb)))
    go_ret
    exact ⟨zE, zB⟩
   ·replace c8 := Bool.eq_false_iff.mpr c8
    subst c8
    have H1 : (some 2) = some r := by rw [if_neg (show ¬ (false = true) by decide)] at H; exact H
    clear H
    have H := H1
    clear H1
    obtain rfl := Option.some.inj H
    go_enter Try.func15, Try.ntmps15
    go_wp2_with (first | ((with_reducible refine gate_dst (N := 2) rfl ?_); refine zX 2 #[.int .i64 a0_0, .slice A0_1 l0_1.length c0_1] 24 ?_; intro gb175 hg w16 hbox hb; have BK175 := Aside0.mk (hbox); have GW175 := zG HB hg; have GE175 := zG HB hg; replace HB := zS HB hb; clear hb hbox hg; obtain ⟨hcz17_0, hcz17_1, hfz17_0, hfz17_1⟩ := zD2 BK175) | ((with_reducible refine gate_callee (f := 46) rfl ?_); refine zL (some 7) Try.func46 #[.agg #[.int .i64 a0_0, .slice A0_1 l0_1.length c0_1]] ?_; (with_reducible refine (sandpileref08_Check.calls k a0_0 _ _ l0_1 t176 _ ?side1 ?side2 A3.out).mono ?_); (case side1 => exact Kd.C_below HR0_1.out zB); (case side2 => exact HC0_1.out); rintro e w18 ⟨rfl, hb⟩; refine ⟨_, rfl, ?_⟩; replace BK175 := zb BK175 hb; replace HB := zS HB hb; (try clear hb); obtain ⟨hcz19_0, hcz19_1, hfz19_0, hfz19_1⟩ := zD2 BK175) | ((with_reducible refine gate_callee (f := 47) rfl ?_); refine zL (some 12) Try.func47 #[.agg #[.int .i64 a0_0, .slice A0_1 l0_1.length c0_1]] ?_; (with_reducible refine (sandpileref08_Connected.calls k a0_0 _ _ l0_1 true _ ?side1 ?side2 A5.out).mono ?_); (case side1 => exact Kd.C_below HR0_1.out zB); (case side2 => exact HC0_1.out); rintro e w20 ⟨rfl, hb⟩; refine ⟨_, rfl, ?_⟩; replace BK175 := zb BK175 hb; replace HB := zS HB hb; (try clear hb); obtain ⟨hcz21_0, hcz21_1, hfz21_0, hfz21_1⟩ := zD2 BK175) | ((with_reducible refine gate_callee (f := 48) rfl ?_); refine zL (some 16) Try.func48 #[.agg #[.int .i64 a0_0, .slice A0_1 l0_1.length c0_1], .int .i64 a1] ?_; (with_reducible refine (sandpileref08_Vertex.calls a0_0 _ _ l0_1 a1 false _ ?side1 ?side2 A7.out).mono ?_); (case side1 => exact Kd.C_below HR0_1.out zB); (case side2 => exact HC0_1.out); rintro e w22 ⟨rfl, hb⟩; refine ⟨_, rfl, ?_⟩; replace BK175 := zb BK175 hb; replace HB := zS HB hb; (try clear hb)))
    go_ret
    exact ⟨zE, zB⟩
  ·replace c6 := Bool.eq_false_iff.mpr c6
   subst c6
   have H1 : (some 13) = some r := by rw [if_neg (show ¬ (false = true) by decide)] at H; exact H
   clear H
   have H := H1
   clear H1
   obtain rfl := Option.some.inj H
   go_enter Try.func15, Try.ntmps15
   go_wp2_with (first | ((with_reducible refine gate_dst (N := 2) rfl ?_); refine zX 2 #[.int .i64 a0_0, .slice A0_1 l0_1.length c0_1] 24 ?_; intro gb175 hg w23 hbox hb; have BK175 := Aside0.mk (hbox); have GW175 := zG HB hg; have GE175 := zG HB hg; replace HB := zS HB hb; clear hb hbox hg; obtain ⟨hcz24_0, hcz24_1, hfz24_0, hfz24_1⟩ := zD2 BK175) | ((with_reducible refine gate_callee (f := 46) rfl ?_); refine zL (some 7) Try.func46 #[.agg #[.int .i64 a0_0, .slice A0_1 l0_1.length c0_1]] ?_; (with_reducible refine (sandpileref08_Check.calls k a0_0 _ _ l0_1 t176 _ ?side1 ?side2 A3.out).mono ?_); (case side1 => exact Kd.C_below HR0_1.out zB); (case side2 => exact HC0_1.out); rintro e w25 ⟨rfl, hb⟩; refine ⟨_, rfl, ?_⟩; replace BK175 := zb BK175 hb; replace HB := zS HB hb; (try clear hb); obtain ⟨hcz26_0, hcz26_1, hfz26_0, hfz26_1⟩ := zD2 BK175) | ((with_reducible refine gate_callee (f := 47) rfl ?_); refine zL (some 12) Try.func47 #[.agg #[.int .i64 a0_0, .slice A0_1 l0_1.length c0_1]] ?_; (with_reducible refine (sandpileref08_Connected.calls k a0_0 _ _ l0_1 false _ ?side1 ?side2 A5.out).mono ?_); (case side1 => exact Kd.C_below HR0_1.out zB); (case side2 => exact HC0_1.out); rintro e w27 ⟨rfl, hb⟩; refine ⟨_, rfl, ?_⟩; replace BK175 := zb BK175 hb; replace HB := zS HB hb; (try clear hb)))
   go_ret
   exact ⟨zE, zB⟩
 ·rw [if_neg c4] at H
  have c4b0 : (t176 == 0) = false := beq_eq_false_iff_ne.mpr c4
  have c4b1 : (t176 != 0) = true := bne_iff_ne.mpr c4
  obtain rfl := Option.some.inj H
  go_enter Try.func15, Try.ntmps15
  go_wp2_with (first | ((with_reducible refine gate_dst (N := 2) rfl ?_); refine zX 2 #[.int .i64 a0_0, .slice A0_1 l0_1.length c0_1] 24 ?_; intro gb175 hg w28 hbox hb; have BK175 := Aside0.mk (hbox); have GW175 := zG HB hg; have GE175 := zG HB hg; replace HB := zS HB hb; clear hb hbox hg; obtain ⟨hcz29_0, hcz29_1, hfz29_0, hfz29_1⟩ := zD2 BK175) | ((with_reducible refine gate_callee (f := 46) rfl ?_); refine zL (some 7) Try.func46 #[.agg #[.int .i64 a0_0, .slice A0_1 l0_1.length c0_1]] ?_; (with_reducible refine (sandpileref08_Check.calls k a0_0 _ _ l0_1 t176 _ ?side1 ?side2 A3.out).mono ?_); (case side1 => exact Kd.C_below HR0_1.out zB); (case side2 => exact HC0_1.out); rintro e w30 ⟨rfl, hb⟩; refine ⟨_, rfl, ?_⟩; replace BK175 := zb BK175 hb; replace HB := zS HB hb; (try clear hb)))
  go_ret
  exact ⟨zE, zB⟩
theorem btw_hit {E : List S66} {a b : Int} (h : btw E a b > 0) : ∃ x ∈ E, x.f0 = min a b ∧ x.f1 = max a b := by
 unfold btw at h
 split at h
 ·rename_i x hx
  refine ⟨x, List.mem_of_find?_eq_some hx, ?_⟩
  have := List.find?_some hx
  simpa [hitB] using this
 ·omega
theorem btw_edge {N : Int} {E : List S66} (h : RightE N E) {x : S66} (hx : x ∈ E) : btw E x.f0 x.f1 > 0 := by
 unfold btw
 split
 ·rename_i y hy
  have := h.ok y (List.mem_of_find?_eq_some hy)
  simp [edgeOk] at this; omega
 ·rename_i hn
  rw [List.find?_eq_none] at hn
  have := hn x hx
  have hle := h.le x hx
  simp [hitB] at this; omega
theorem closed_of_edges {E : List S66} {n : Nat} {S : Nat → Bool} (h : ∀ x ∈ E, S x.f0.toNat = S x.f1.toNat) : Closed E n S := by
 intro a b ha hb hSa hbt
 obtain ⟨x, hx, h0, h1⟩ := btw_hit hbt
 have := h x hx
 rcases Nat.le_total a b with hab | hab
 ·rw [show x.f0.toNat = a by omega, show x.f1.toNat = b by omega] at this
  rw [← this]; exact hSa
 ·rw [show x.f0.toNat = b by omega, show x.f1.toNat = a by omega] at this
  rw [this]; exact hSa
theorem edges_of_closed {n : Nat} {E : List S66} (hR : RightE n E) {S : Nat → Bool} (h : Closed E n S) : ∀ x ∈ E, S x.f0.toNat = S x.f1.toNat := by
 intro x hx
 have hb := btw_edge hR hx
 have hok := hR.ok x hx
 simp [edgeOk] at hok
 have e0 : ((x.f0.toNat : Nat) : Int) = x.f0 := by omega
 have e1 : ((x.f1.toNat : Nat) : Int) = x.f1 := by omega
 have h1 := h x.f0.toNat x.f1.toNat (by omega) (by omega)
 have h2 := h x.f1.toNat x.f0.toNat (by omega) (by omega)
 rw [e0, e1] at h1
 rw [e0, e1, btw_comm] at h2
 cases hs0 : S x.f0.toNat with
 | true => exact (h1 hs0 hb).symm
 | false =>
  cases hs1 : S x.f1.toNat with
  | false => rfl
  | true => rw [h2 hs1 hb] at hs0; cases hs0
theorem orAll_at (s r : List Bool) (i : Nat) (hi : i < s.length) : at1 (orAll s r) i = (at1 s i || at1 r i) := by
 unfold orAll
 have key : ∀ (m j : Nat) (o : List Bool), o.length = s.length → at1 ((List.range' j m).foldl (fun s u => s.set u (at1 s u || at1 r u)) o) i = if j ≤ i ∧ i < j + m then (at1 o i || at1 r i) else at1 o i := by
  intro m
  induction m with
  | zero => intro j o _; rw [if_neg (by omega)]; rfl
  | succ m ih =>
   intro j o ho
   rw [List.range'_succ, List.foldl_cons, ih _ _ (by rw [List.length_set]; exact ho), at1_set]
   by_cases h1 : j = i
   ·subst h1
    rw [if_neg (by omega), if_pos ⟨rfl, by omega⟩, if_pos (by omega)]
   ·rw [if_neg (show ¬ (j = i ∧ i < o.length) from fun h => h1 h.1)]
    by_cases h2 : j + 1 ≤ i ∧ i < j + 1 + m
    ·rw [if_pos h2, if_pos (by omega)]
    ·rw [if_neg h2, if_neg (by omega)]
 rw [key s.length 0 s rfl, if_pos (by omega)]
theorem partsFrom_all (E : List S66) (n : Nat) : ∀ (m v c : Nat) (s : List Bool), (∀ i, v ≤ i → i < v + m → at1 s i = true) → partsFrom E n m v c s = c
 | 0, _, _, _, _ => rfl
 | m + 1, v, c, s, h => by
  rw [partsFrom, if_pos (h v (Nat.le_refl _) (by omega))]
  exact partsFrom_all E n m (v + 1) c s (fun i h1 h2 => h i (by omega) (by omega))
theorem partsFrom_ge (E : List S66) (n : Nat) : ∀ (m v c : Nat) (s : List Bool), c ≤ partsFrom E n m v c s
 | 0, _, _, _ => Nat.le_refl _
 | m + 1, v, c, s => by
  rw [partsFrom]
  split
  ·exact partsFrom_ge E n m _ _ _
  ·exact Nat.le_trans (Nat.le_succ c) (partsFrom_ge E n m _ _ _)
theorem partsFrom_gt (E : List S66) (n : Nat) : ∀ (m v c : Nat) (s : List Bool) (u : Nat), v ≤ u → u < v + m → at1 s u = false → c + 1 ≤ partsFrom E n m v c s
 | 0, _, _, _, _, _, h, _ => by omega
 | m + 1, v, c, s, u, h1, h2, h3 => by
  rw [partsFrom]
  split
  ·rename_i hv
   exact partsFrom_gt E n m (v + 1) c s u (by rcases Nat.lt_or_ge v u with h | h; exact h; exfalso; have : v = u := (by omega); subst this; rw [h3] at hv; cases hv) (by omega) h3
  ·exact partsFrom_ge E n m _ _ _
theorem parts_conn {n : Nat} {E : List S66} (hn : 1 ≤ n) (hR : RightE n E) : partsOf E n = 1 ↔ EConn n E := by
 obtain ⟨m, rfl⟩ : ∃ m, n = m + 1 := ⟨n - 1, by omega⟩
 obtain ⟨r1, r2, r3⟩ := reachOf_facts (E := E) (n := m + 1) (v := 0) (by omega)
 have hz : ∀ i, at1 (List.replicate (m + 1) false) i = false := fun i => by simp [at1, List.getD_eq_getElem?_getD, List.getElem?_replicate]; split <;> rfl
 have e : partsOf E (m + 1) = partsFrom E (m + 1) m 1 1 (orAll (List.replicate (m + 1) false) (reachOf E (m + 1) 0)) := by
  unfold partsOf
  rw [partsFrom, if_neg (by rw [hz]; decide)]
 have hor : ∀ i, i < m + 1 → at1 (orAll (List.replicate (m + 1) false) (reachOf E (m + 1) 0)) i = at1 (reachOf E (m + 1) 0) i := fun i hi => by
  rw [orAll_at _ _ _ (by simpa using hi), hz, Bool.false_or]
 rw [e]
 constructor
 ·intro h S hS1 hS0
  refine Classical.byContradiction fun hx => ?_
  have hS : ∀ x ∈ E, S x.f0.toNat = S x.f1.toNat := fun x hxE => Classical.byContradiction fun hne => hx ⟨x, hxE, hne⟩
  have main : ∀ T : Nat → Bool, (∀ x ∈ E, T x.f0.toNat = T x.f1.toNat) → T 0 = true → (∃ u, u < m + 1 ∧ T u = false) → False := by
   rintro T hT hT0 ⟨u, hu, hTu⟩
   have h1 : at1 (reachOf E (m + 1) 0) u = false := by
    cases h2 : at1 (reachOf E (m + 1) 0) u with
    | false => rfl
    | true => have := r3 T (closed_of_edges hT) hT0 u h2; rw [hTu] at this; cases this
   have hu0 : u ≠ 0 := fun e => by subst e; rw [hT0] at hTu; cases hTu
   have := partsFrom_gt E (m + 1) m 1 1 _ u (by omega) (by omega) (by rw [hor u hu]; exact h1)
   omega
  cases h0 : S 0 with
  | true => exact main S hS h0 hS0
  | false =>
   refine main (fun u => !S u) (fun x hx => by simp [hS x hx]) (by simp [h0]) ?_
   obtain ⟨u, hu, hSu⟩ := hS1
   exact ⟨u, hu, by simp [hSu]⟩
 ·intro h
  refine partsFrom_all E _ m 1 1 _ fun i h1 h2 => ?_
  rw [hor i (by omega)]
  cases hi : at1 (reachOf E (m + 1) 0) i with
  | true => rfl
  | false =>
   obtain ⟨x, hx, hne⟩ := h (at1 (reachOf E (m + 1) 0)) ⟨0, by omega, r1⟩ ⟨i, by omega, hi⟩
   exact absurd (edges_of_closed hR r2 x hx) hne
def rootG (N : Int) (E : List S66) (q : Int) : Int := if checkG N E = 0 then (if partsOf E N.toNat = 1 then (if 0 ≤ q ∧ q < N then 0 else 2) else 13) else checkG N E
theorem rooted19_ev (N : Int) (E : List S66) (q : Int) (hE : E.length ≤ 1000) : Ev (fun k => sandpileref19_Rooted.f k N E q) (rootG N E q) := by
 unfold sandpileref19_Rooted.f rootG
 refine Ev.bind (check08_ev N E hE) ?_
 by_cases h0 : checkG N E = 0
 ·simp only [if_pos h0]
  obtain ⟨h1, h12, hR⟩ := checkG_zero h0
  obtain ⟨n, rfl⟩ := Int.eq_ofNat_of_zero_le (show 0 ≤ N by omega)
  refine Ev.bind (a := decide (partsOf E n = 1)) ?_ ?_
  ·unfold sandpileref08_Connected.f
   refine Ev.bind (parts_ev E hE n (by omega)) ?_
   rw [show (((partsOf E n : Nat) : Int) == 1) = decide (partsOf E n = 1) by rw [Bool.eq_iff_iff]; simp; omega]
   exact Ev.const _
  ·rw [Int.toNat_natCast]
   by_cases hp : partsOf E n = 1
   ·simp only [decide_eq_true hp, if_true, if_pos hp, vertex08_ok, Option.bind_some]
    by_cases hq : 0 ≤ q ∧ q < (n : Int)
    ·simp only [decide_eq_true hq, if_true, if_pos hq]; exact Ev.const _
    ·simp only [decide_eq_false hq, Bool.false_eq_true, if_false, if_neg hq]; exact Ev.const _
   ·simp only [decide_eq_false hp, Bool.false_eq_true, if_false, if_neg hp]; exact Ev.const _
 ·simp only [if_neg h0]; exact Ev.const _
theorem rooted_ev (N : Int) (E : List S66) (q : Int) (hE : E.length ≤ 1000) : Ev (fun k => stabilize_rooted.f k N E q) (rootG N E q) := by
 unfold stabilize_rooted.f rootG
 by_cases h0 : checkG N E = 0
 ·obtain ⟨h1, h12, hR⟩ := checkG_zero h0
  obtain ⟨n, rfl⟩ := Int.eq_ofNat_of_zero_le (show 0 ≤ N by omega)
  refine Ev.bind (a := (decide (partsOf E n = 1), (0 : Int))) ?_ ?_
  ·unfold connect_Connected.f
   have hg := graph_check_ev (n : Int) E hE
   rw [h0] at hg
   refine Ev.bind hg ?_
   have hok : okConn (n : Int) E = true := by
    unfold okConn
    rw [decide_eq_true (by omega), Bool.true_and]
    refine List.all_eq_true.2 fun x hx => ?_
    have := hR.ok x hx
    simp [edgeOk] at this ⊢; omega
   simp only [if_true, if_pos hok, Int.toNat_natCast]
   rw [show decide (rootsTo (forestOf E) n = 1) = decide (partsOf E n = 1) by
    congr 1; exact propext ((conn_iff (by omega) (edgesIn_of hR.inB)).trans (parts_conn (by omega) hR).symm)]
   exact Ev.const _
  ·simp only [if_pos h0, if_true, Int.toNat_natCast]
   by_cases hp : partsOf E n = 1
   ·simp only [decide_eq_true hp, if_true, if_pos hp]
    by_cases hq : 0 ≤ q ∧ q < (n : Int)
    ·simp only [if_neg (show ¬ q < 0 by omega), if_neg (show ¬ q ≥ (n : Int) by omega), if_pos hq]; exact Ev.const _
    ·simp only [if_neg hq]
     by_cases h1 : q < 0
     ·simp only [if_pos h1]; exact Ev.const _
     ·simp only [if_neg h1, if_pos (show q ≥ (n : Int) by omega)]; exact Ev.const _
   ·simp only [decide_eq_false hp, Bool.false_eq_true, if_false, if_neg hp]; exact Ev.const _
 ·refine Ev.bind (a := (false, checkG N E)) ?_ ?_
  ·unfold connect_Connected.f
   refine Ev.bind (graph_check_ev N E hE) ?_
   simp only [if_neg h0]; exact Ev.const _
  ·simp only [if_neg h0]; exact Ev.const _
theorem zero_wood : Try.zeroCells120 = ((List.replicate 145 (Value.int .i64 0)) ++ [Value.slice none 0 0] ++ List.replicate 12 (Value.bool false)).toArray := by kernel_rfl
theorem WoodCells.new (n : Int) (chips : Value) : WoodCells ((Try.zeroCells120.setIfInBounds 0 (.int .i64 n)).setIfInBounds 145 chips) n (fun _ _ => 0) chips (fun _ => false) := by
 have hs : Try.zeroCells120.size = 158 := by rw [zero_wood]; simp
 refine ⟨by simp [hs], ?_, ?_, ?_, ?_⟩
 ·rw [Array.getElem?_setIfInBounds_ne (by omega), Array.getElem?_setIfInBounds_self_of_lt (by omega)]
 ·intro i j hi hj
  rw [Array.getElem?_setIfInBounds_ne (by omega), Array.getElem?_setIfInBounds_ne (by omega), zero_wood]
  rw [List.getElem?_toArray, List.getElem?_append_left (by simp; omega), List.getElem?_append_left (by simp; omega), List.getElem?_replicate, if_pos (by omega)]
 ·rw [Array.getElem?_setIfInBounds_self_of_lt (by simp [hs])]
 ·intro i hi
  rw [Array.getElem?_setIfInBounds_ne (by omega), Array.getElem?_setIfInBounds_ne (by omega), zero_wood]
  rw [List.getElem?_toArray, List.getElem?_append_right (by simp), List.getElem?_replicate, if_pos (by simp; omega)]
theorem kindled_calls (n q : Nat) (A0 : Option Addr) (c0 : Nat) (E : List S66) (A2 : Option Addr) (c2 : Nat) (l : List Int) (w : World) (hr0 : Kd.C k66 w A0 E.length E) (hc0 : E.length ≤ c0) (hr2 : Kd.C (Kd.int .i64) w A2 l.length l) (hc2 : l.length ≤ c2) (hn : n ≤ 12) (hq : q < n) (hE : EdgesIn n E) (hl1 : l.length ≤ n) (hl2 : n ≤ l.length) :
  Calls Try.prog 83 #[.agg #[.int .i64 n, .slice A0 E.length c0], .int .i64 q, .slice A2 l.length c2] w (fun e w' => ∃ g Av cv, e = .returned (.pointer (some ⟨g, 0, none⟩)) ∧ WoodAt w' g n (timesOf E) (.slice Av l.length cv) (fun i => if i = q then true else false) ∧ Kd.R (Kd.int .i64) 3 w' w.heap.size (fun _ => True) (.slice Av l.length cv) l ∧ Below w.heap.size w w' ∧ w.heap.size ≤ g) := by
 have hu := Try.underlying24
 go_enter Try.func83, Try.ntmps83
 go_wp2_with fail
 go_region_held3 (fun w' => w'.cell? ⟨w.heap.size, 0, none⟩ = some (.int .i64 n) ∧ w'.cell? ⟨w.heap.size, 1, none⟩ = some (.slice A0 E.length c0)) (first | go_keep | (go_split_ands; exact ⟨(hB.cell (p := ⟨w.heap.size, 0, none⟩) (by simp)).trans (by go_simp), (hB.cell (p := ⟨w.heap.size, 1, none⟩) (by simp)).trans (by go_simp)⟩))
  (first | (go_at_call 36; refine (api_Divisor_int_36.calls A2 c2 l l _ (Kd.C_below hr2 (below_drew (below_alloc (Below.refl _ _) _))) hc2 (by unfold api_Divisor_int_36.f clone.f; rw [if_pos (by omega)])).mono ?_; rintro e w1 ⟨v0, rfl, hR, hB⟩; obtain ⟨Av, cv, rfl⟩ := Kd.R_slice hR))
 rename_i hHeld
 have hW0 : WoodAt (w1.alloc (.cells ((Try.zeroCells120.setIfInBounds 0 (.int .i64 n)).setIfInBounds 145 (.slice Av l.length cv)) 120)) w1.heap.size n (fun _ _ => 0) (.slice Av l.length cv) (fun _ => false) := ⟨_, by simpa using heap_alloc_new w1 _, WoodCells.new _ _⟩
 have hB0 : Below w.heap.size w (w1.alloc (.cells ((Try.zeroCells120.setIfInBounds 0 (.int .i64 n)).setIfInBounds 145 (.slice Av l.length cv)) 120)) := below_alloc (below_then (below_drew (below_alloc (Below.refl _ _) _)) (by simp) hB) _
 have hR0 : Kd.R (Kd.int .i64) 3 (w1.alloc (.cells ((Try.zeroCells120.setIfInBounds 0 (.int .i64 n)).setIfInBounds 145 (.slice Av l.length cv)) 120)) w.heap.size (fun _ => True) (.slice Av l.length cv) l := Kd.R_lower (Kd.R_alloc hR _) (by simp)
 have hg : w.heap.size < w1.heap.size := by have := hB.size; simp at this; omega
 clear hB hR
 generalize hgg : w1.heap.size = g at hW0 hg ⊢
 generalize (w1.alloc (.cells ((Try.zeroCells120.setIfInBounds 0 (.int .i64 n)).setIfInBounds 145 (.slice Av l.length cv)) 120)) = W0 at hW0 hHeld hB0 hR0 ⊢
 clear hgg
 obtain ⟨hs0, hs1⟩ := hHeld
 go_wp2
 go_loopw [19] (fun u wr => ∃ k : Nat, k ≤ E.length ∧ u = .int .i64 k ∧ Aside0 (WoodAt wr g n (timesOf (E.take k)) (.slice Av l.length cv) (fun _ => false)) ∧ Aside0 (Kd.R (Kd.int .i64) 3 wr w.heap.size (fun _ => True) (.slice Av l.length cv) l) ∧ Aside0 (Below w.heap.size w wr)) (fun u _ => E.length - (intOf u).toNat)
 case atStart => exact ⟨0, Nat.zero_le _, rfl, ⟨by simpa [timesOf] using hW0⟩, ⟨hR0⟩, ⟨hB0⟩⟩
 case round =>
  obtain ⟨k, hk, rfl, HW, HR, HB⟩ := hrel
  have hlE := hr0.2.1
  by_cases hlt : k < E.length
  ·obtain ⟨e0, e1, e2, e3, e4, e5⟩ := hE.get k hlt
   have hst := timesOf_snoc E k hlt
   have Hst := Lib.hid hst
   clear hst
   obtain ⟨ad, rfl, hx0, hx1, hx2⟩ := at_T66 hr0 k (by omega) (by omega)
   rw [Int.toNat_natCast] at hx0 hx1 hx2
   replace hx0 := (HB.out.cell (World.block_lt_of_cell? w _ hx0)).trans hx0
   replace hx1 := (HB.out.cell (World.block_lt_of_cell? w _ hx1)).trans hx1
   replace hx2 := (HB.out.cell (World.block_lt_of_cell? w _ hx2)).trans hx2
   generalize rd_T66 E k = x at e0 e1 e2 e3 e4 e5 hx0 hx1 hx2 Hst
   obtain ⟨a, b, m⟩ := x
   simp only at e0 e1 e2 e3 e4 e5 hx0 hx1 hx2
   obtain ⟨a, rfl⟩ := Int.eq_ofNat_of_zero_le e0
   obtain ⟨b, rfl⟩ := Int.eq_ofNat_of_zero_le e2
   have a12 : a < 12 := by omega
   have b12 : b < 12 := by omega
   by_cases hab : a = b
   ·have hb0 : ((a : Int) != (b : Int)) = false := by rw [hab]; simp
    have Hab := Lib.hid hab
    clear hab
    go_wp2
    go_roundw
    case rel => exact ⟨k + 1, by omega, by go_num, ⟨by rw [Hst.out]; simp only [timesStep]; rw [if_pos (by rw [Hab.out])]; exact HW.out.below (below_alloc (Below.refl _ _) _)⟩, ⟨Kd.R_alloc HR.out _⟩, ⟨below_alloc HB.out _⟩⟩
    case measure => simp [intOf]; omega
   ·have hb0 : ((a : Int) != (b : Int)) = true := by rw [bne_iff_ne]; omega
    have hne : 1 + a * 12 + b ≠ 1 + b * 12 + a := by omega
    have hne' : 1 + b * 12 + a ≠ 1 + a * 12 + b := by omega
    have Hab := Lib.hid hab
    clear hab
    have hgl := HW.out.lt
    have HW2 := Aside0.mk (HW.out.below (below_alloc (Below.refl _ _) (.cells #[.int .i64 a, .int .i64 b, .int .i64 m] 66)))
    have f1 := HW2.out.frozen (1 + a * 12 + b)
    have f2 := HW2.out.frozen (1 + b * 12 + a)
    have c1 := HW2.out.cell_times a b a12 b12
    have c2 := HW2.out.cell_times b a b12 a12
    go_wp2
    have s0 : (wr.alloc (.cells #[.int .i64 a, .int .i64 b, .int .i64 m] 66)).cell? ⟨wr.heap.size, 0, none⟩ = some (.int .i64 a) := by go_simp
    have s1 : (wr.alloc (.cells #[.int .i64 a, .int .i64 b, .int .i64 m] 66)).cell? ⟨wr.heap.size, 1, none⟩ = some (.int .i64 b) := by go_simp
    have s2 : (wr.alloc (.cells #[.int .i64 a, .int .i64 b, .int .i64 m] 66)).cell? ⟨wr.heap.size, 2, none⟩ = some (.int .i64 m) := by go_simp
    have HR2 := Aside0.mk (Kd.R_alloc HR.out (.cells #[.int .i64 a, .int .i64 b, .int .i64 m] 66))
    have HB2 := Aside0.mk (below_alloc HB.out (.cells #[.int .i64 a, .int .i64 b, .int .i64 m] 66))
    have hge : g ≠ wr.heap.size := by omega
    have hge' : wr.heap.size ≠ g := by omega
    generalize (wr.alloc (.cells #[.int .i64 a, .int .i64 b, .int .i64 m] 66)) = W2 at s0 s1 s2 HW2 HR2 HB2 f1 f2 c1 c2 ⊢
    generalize wr.heap.size = eb at hge hge' s0 s1 s2 ⊢
    have d1 := (HW2.out.set_times b a b12 a12 m).cell_times a b a12 b12
    have d2 := (HW2.out.set_times a b a12 b12 m).cell_times b a b12 a12
    go_region
    have HW3 := (HW2.out.set_times a b a12 b12 m).set_times b a b12 a12 m
    have HR3 := (HW2.out.set_times a b a12 b12 m).R_set (HW2.out.R_set HR2.out (by decide) (1 + a * 12 + b) (.int .i64 m)) (by decide) (1 + b * 12 + a) (.int .i64 m)
    have HB3 := below_set (below_set HB2.out (g := g) (j := 1 + a * 12 + b) (v := .int .i64 m) (by omega)) (g := g) (j := 1 + b * 12 + a) (v := .int .i64 m) (by omega)
    generalize ((W2.setCell ⟨g, 1 + a * 12 + b, none⟩ (.int .i64 m)).setCell ⟨g, 1 + b * 12 + a, none⟩ (.int .i64 m)) = W3 at HW3 HR3 HB3 ⊢
    replace HW3 := Aside0.mk HW3
    replace HR3 := Aside0.mk HR3
    replace HB3 := Aside0.mk HB3
    go_wp2
    go_roundw
    case rel => exact ⟨k + 1, by omega, by go_num, ⟨by rw [Hst.out]; simp only [timesStep]; rw [if_neg (by have := Hab.out; omega)]; exact HW3.out.drew⟩, ⟨Kd.R_drew HR3.out⟩, ⟨below_drew HB3.out⟩⟩
    case measure => simp [intOf]; omega
  ·obtain rfl : k = E.length := by omega
   have fq := HW.out.frozen (146 + q)
   have cq := HW.out.cell_burnt q (by omega)
   have HW4 := Aside0.mk (HW.out.set_burnt q (by omega) true)
   have HR4 := Aside0.mk (HW.out.R_set HR.out (by decide) (146 + q) (.bool true))
   have HB4 := Aside0.mk (below_set HB.out (g := g) (j := 146 + q) (v := .bool true) (by omega))
   go_wp2
   go_ret
   exact ⟨g, Av, cv, rfl, by simpa using HW4.out, HR4.out, HB4.out, by omega⟩
def burning_check.f (k : Nat) (a0_0 : Int) (l0_1 : List (S66)) (a1 : Int) (l2 : List Int) : Option (Int) := (stabilize_Check.f k a0_0 l0_1 a1 l2).bind fun t132 => (if t132 = 0 then (if 0 ≤ a1 then (if a1 < (l2.length : Int) then (if (rd l2 a1) = 0 then (some 0) else (some 3)) else (none)) else (none)) else (some t132))
theorem burning_check.calls (k : Nat) (a0_0 : Int) (A0_1 : Option Addr) (c0_1 : Nat) (l0_1 : List (S66)) (a1 : Int) (A2 : Option Addr) (c2 : Nat) (l2 : List Int) (r : Int) (w : World) (hr0_1 : Kd.C k66 w A0_1 l0_1.length l0_1) (hc0_1 : l0_1.length ≤ c0_1) (hr2 : Kd.C (Kd.int .i64) w A2 l2.length l2) (hc2 : l2.length ≤ c2) (h : burning_check.f k a0_0 l0_1 a1 l2 = some r) :
  Calls Try.prog 82 #[.agg #[.int .i64 a0_0, .slice A0_1 l0_1.length c0_1], .int .i64 a1, .slice A2 l2.length c2] w fun e w' => e = .returned (.int .i64 r) ∧ Below w.heap.size w w' := by
 have hu24 := Try.underlying24
 have HR0_1 := Aside0.mk hr0_1
 have HC0_1 := Aside0.mk hc0_1
 clear hr0_1 hc0_1
 have HR2 := Aside0.mk hr2
 have HC2 := Aside0.mk hc2
 clear hr2 hc2
 have HB := Aside0.mk (Below.refl w.heap.size w)
 have H : ((stabilize_Check.f k a0_0 l0_1 a1 l2).bind fun t132 => (if t132 = 0 then (if 0 ≤ a1 then (if a1 < (l2.length : Int) then (if (rd l2 a1) = 0 then (some 0) else (some 3)) else (none)) else (none)) else (some t132))) = some r := h
 clear h
 replace H := Option.bind_eq_some_iff.mp H
 obtain ⟨t132, A40, H⟩ := H
 replace H : (if t132 = 0 then (if 0 ≤ a1 then (if a1 < (l2.length : Int) then (if (rd l2 a1) = 0 then (some 0) else (some 3)) else (none)) else (none)) else (some t132)) = some r := H
 have A4 := Aside0.mk A40
 clear A40
 by_cases c5 : t132 = 0
 ·rw [if_pos c5] at H
  have c5b0 : (t132 == 0) = true := beq_iff_eq.mpr c5
  have c5b1 : (t132 != 0) = false := bne_eq_false_iff_eq.mpr c5
  clear c5
  by_cases c6 : 0 ≤ a1
  ·rw [if_pos c6] at H
   have c6b0 : decide (0 ≤ a1) = true := decide_eq_true c6
   clear c6
   by_cases c7 : a1 < (l2.length : Int)
   ·rw [if_pos c7] at H
    have c7b0 : decide (a1 < (l2.length : Int)) = true := decide_eq_true c7
    clear c7
    by_cases c8 : (rd l2 a1) = 0
    ·rw [if_pos c8] at H
     have c8b0 : ((rd l2 a1) == 0) = true := beq_iff_eq.mpr c8
     have c8b1 : ((rd l2 a1) != 0) = false := bne_eq_false_iff_eq.mpr c8
     clear c8
     obtain rfl := Option.some.inj H
     go_enter Try.func82, Try.ntmps82
     go_wp2_with (first | ((with_reducible refine gate_dst (N := 3) rfl ?_); refine zX 3 #[.int .i64 a0_0, .slice A0_1 l0_1.length c0_1] 24 ?_; intro gb131 hg w9 hbox hb; have BK131 := Aside0.mk (hbox); have GW131 := zG HB hg; have GE131 := zG HB hg; replace HB := zS HB hb; clear hb hbox hg; obtain ⟨hcz10_0, hcz10_1, hfz10_0, hfz10_1⟩ := zD2 BK131) | ((with_reducible refine gate_callee (f := 88) rfl ?_); refine zL (some 11) Try.func88 #[.agg #[.int .i64 a0_0, .slice A0_1 l0_1.length c0_1], .int .i64 a1, .slice A2 l2.length c2] ?_; (with_reducible refine (stabilize_Check.calls k a0_0 _ _ l0_1 a1 _ _ l2 t132 _ ?side1 ?side2 ?side3 ?side4 A4.out).mono ?_); (case side1 => exact Kd.C_below HR0_1.out zB); (case side2 => exact HC0_1.out); (case side3 => exact Kd.C_below HR2.out zB); (case side4 => exact HC2.out); rintro e w11 ⟨rfl, hb⟩; refine ⟨_, rfl, ?_⟩; replace BK131 := zb BK131 hb; replace HB := zS HB hb; (try clear hb); have p133 : 0 ≤ (a1 : Int) := of_decide_eq_true ‹_›; have q133 : a1 < (l2.length : Int) := of_decide_eq_true ‹_›; obtain ⟨ad133, e133, hx133_0⟩ := Kd.at_int HR2.out a1 p133 q133; cases e133; replace hx133_0 := (HB.out.cell (World.block_lt_of_cell? w _ hx133_0)).trans hx133_0; replace p133 := eq_true p133; replace q133 := eq_true q133))
     go_ret
     exact ⟨zE, zB⟩
    ·rw [if_neg c8] at H
     have c8b0 : ((rd l2 a1) == 0) = false := beq_eq_false_iff_ne.mpr c8
     have c8b1 : ((rd l2 a1) != 0) = true := bne_iff_ne.mpr c8
     obtain rfl := Option.some.inj H
     go_enter Try.func82, Try.ntmps82
     go_wp2_with (first | ((with_reducible refine gate_dst (N := 3) rfl ?_); refine zX 3 #[.int .i64 a0_0, .slice A0_1 l0_1.length c0_1] 24 ?_; intro gb131 hg w12 hbox hb; have BK131 := Aside0.mk (hbox); have GW131 := zG HB hg; have GE131 := zG HB hg; replace HB := zS HB hb; clear hb hbox hg; obtain ⟨hcz13_0, hcz13_1, hfz13_0, hfz13_1⟩ := zD2 BK131) | ((with_reducible refine gate_callee (f := 88) rfl ?_); refine zL (some 11) Try.func88 #[.agg #[.int .i64 a0_0, .slice A0_1 l0_1.length c0_1], .int .i64 a1, .slice A2 l2.length c2] ?_; (with_reducible refine (stabilize_Check.calls k a0_0 _ _ l0_1 a1 _ _ l2 t132 _ ?side1 ?side2 ?side3 ?side4 A4.out).mono ?_); (case side1 => exact Kd.C_below HR0_1.out zB); (case side2 => exact HC0_1.out); (case side3 => exact Kd.C_below HR2.out zB); (case side4 => exact HC2.out); rintro e w14 ⟨rfl, hb⟩; refine ⟨_, rfl, ?_⟩; replace BK131 := zb BK131 hb; replace HB := zS HB hb; (try clear hb); have p133 : 0 ≤ (a1 : Int) := of_decide_eq_true ‹_›; have q133 : a1 < (l2.length : Int) := of_decide_eq_true ‹_›; obtain ⟨ad133, e133, hx133_0⟩ := Kd.at_int HR2.out a1 p133 q133; cases e133; replace hx133_0 := (HB.out.cell (World.block_lt_of_cell? w _ hx133_0)).trans hx133_0; replace p133 := eq_true p133; replace q133 := eq_true q133))
     go_ret
     exact ⟨zE, zB⟩
   ·rw [if_neg c7] at H
    exact absurd H (by simp)
  ·rw [if_neg c6] at H
   exact absurd H (by simp)
 ·rw [if_neg c5] at H
  have c5b0 : (t132 == 0) = false := beq_eq_false_iff_ne.mpr c5
  have c5b1 : (t132 != 0) = true := bne_iff_ne.mpr c5
  obtain rfl := Option.some.inj H
  go_enter Try.func82, Try.ntmps82
  go_wp2_with (first | ((with_reducible refine gate_dst (N := 3) rfl ?_); refine zX 3 #[.int .i64 a0_0, .slice A0_1 l0_1.length c0_1] 24 ?_; intro gb131 hg w15 hbox hb; have BK131 := Aside0.mk (hbox); have GW131 := zG HB hg; have GE131 := zG HB hg; replace HB := zS HB hb; clear hb hbox hg; obtain ⟨hcz16_0, hcz16_1, hfz16_0, hfz16_1⟩ := zD2 BK131) | ((with_reducible refine gate_callee (f := 88) rfl ?_); refine zL (some 11) Try.func88 #[.agg #[.int .i64 a0_0, .slice A0_1 l0_1.length c0_1], .int .i64 a1, .slice A2 l2.length c2] ?_; (with_reducible refine (stabilize_Check.calls k a0_0 _ _ l0_1 a1 _ _ l2 t132 _ ?side1 ?side2 ?side3 ?side4 A4.out).mono ?_); (case side1 => exact Kd.C_below HR0_1.out zB); (case side2 => exact HC0_1.out); (case side3 => exact Kd.C_below HR2.out zB); (case side4 => exact HC2.out); rintro e w17 ⟨rfl, hb⟩; refine ⟨_, rfl, ?_⟩; replace BK131 := zb BK131 hb; replace HB := zS HB hb; (try clear hb)))
  go_ret
  exact ⟨zE, zB⟩
section
theorem WoodAt.bk {l : Nat} {A B : World} {g : Nat} {n : Int} {times : Nat → Nat → Int} {chips : Value} {burnt : Nat → Bool} (h : WoodAt A g n times chips burnt) (hb : Bk l A B) : WoodAt B g n times chips burnt := by
 obtain ⟨cs, hh, hc⟩ := h
 exact ⟨cs, hb.cells hh, hc⟩
attribute [local go_sem] Oper.semAt_some
theorem fire_calls (g : Nat) (w : World) : Calls Try.prog 84 #[.pointer (some ⟨g, 0, none⟩)] w fun e w' => e = .returned (.func (.func 98) #[] #[.pointer (some ⟨w.heap.size, 0, none⟩)]) ∧ w' = w.alloc (.cells #[.pointer (some ⟨g, 0, none⟩)] 99) := by
 go_enter Try.func84, Try.ntmps84
 go_wp2
 go_ret
 exact ⟨rfl, rfl⟩
def rightConf (N : Int) (E : List S66) (q : Int) (c : List Int) : Bool := decide (0 ≤ q ∧ q < N ∧ N ≤ 12 ∧ (c.length : Int) = N) && edgesInB N E
def sinkOnly (q : Nat) : Nat → Bool := fun i => if i = q then true else false
def fireOf (n : Nat) (E : List S66) (q : Nat) (c : List Int) : List Nat := fireList n (catchB n (timesOf E) c) (sinkOnly q)
def burning_Burn.f (k : Nat) (N : Int) (E : List S66) (q : Int) (c : List Int) : Option (List Int × List Int × Int) :=
 (burning_check.f k N E q c).bind fun t => if t = 0 then (if rightConf N E q c = true then
  some (q :: (fireOf N.toNat E q.toNat c).map Int.ofNat, unbTo (burnAll (sinkOnly q.toNat) (fireOf N.toNat E q.toNat c)) N.toNat, 0) else none) else some ([], [], t)
theorem burning_Burn.calls (k : Nat) (a0_0 : Int) (A0_1 : Option Addr) (c0_1 : Nat) (l0_1 : List (S66)) (a1 : Int) (A2 : Option Addr) (c2 : Nat) (l2 : List Int) (r1 : List Int) (r2 : List Int) (r3 : Int) (w : World) (hr0_1 : Kd.C k66 w A0_1 l0_1.length l0_1) (hc0_1 : l0_1.length ≤ c0_1) (hr2 : Kd.C (Kd.int .i64) w A2 l2.length l2) (hc2 : l2.length ≤ c2) (h : burning_Burn.f k a0_0 l0_1 a1 l2 = some (r1, r2, r3)) :
  Calls Try.prog 63 #[.agg #[.int .i64 a0_0, .slice A0_1 l0_1.length c0_1], .int .i64 a1, .slice A2 l2.length c2] w fun e w' => ∃ v0_ v1_ : Value, e = .returned (.tuple #[v0_, v1_, .int .i64 r3]) ∧ Kd.R (Kd.int .i64) 3 w' w.heap.size (fun k_ => some k_ ≠ (v1_ : Value).ownBlock) v0_ r1 ∧ Kd.R (Kd.int .i64) 3 w' w.heap.size (fun k_ => some k_ ≠ (v0_ : Value).ownBlock) v1_ r2 ∧ Below w.heap.size w w' := by
 have hu := Try.underlying24
 obtain ⟨t, ht, H⟩ := Option.bind_eq_some_iff.mp h
 clear h
 by_cases h0 : t = 0
 ·subst h0
  rw [if_pos rfl] at H
  by_cases hv : rightConf a0_0 l0_1 a1 l2 = true
  ·rw [if_pos hv] at H
   simp only [Option.some.injEq, Prod.mk.injEq] at H
   obtain ⟨rfl, rfl, rfl⟩ := H
   simp only [rightConf, Bool.and_eq_true, decide_eq_true_eq] at hv
   obtain ⟨⟨q0, qn, n12, hlen⟩, hE⟩ := hv
   obtain ⟨n, rfl⟩ := Int.eq_ofNat_of_zero_le (show 0 ≤ a0_0 by omega)
   obtain ⟨q, rfl⟩ := Int.eq_ofNat_of_zero_le q0
   simp only [Int.toNat_natCast]
   have hEI := Aside0.mk (edgesIn_of hE)
   have hl1 : l2.length ≤ n := by omega
   have hl2 : n ≤ l2.length := by omega
   have Ht := Aside0.mk ht
   clear hlen hE ht
   refine (callsIn_wide (n := 10)).1 ?_
   refine callsIn_of_wp_marks Try.func63 rfl trivial ?_ rfl
   simp only [Try.ntmps63, List.size_toArray, List.length_cons, List.length_nil, Nat.reduceAdd, Nat.reduceSub, Array.replicate_succ, Array.replicate_zero, List.push_toArray, List.append_toArray, List.nil_append, List.cons_append]
   gi_wp2_with (first | (refine ⟨trivial, ?_⟩; gi_at_call 82; refine (callsIn_wide.2 (burning_check.calls k _ _ c0_1 l0_1 _ _ c2 l2 0 _ (Kd.C_alloc hr0_1 _) hc0_1 (Kd.C_alloc hr2 _) hc2 Ht.out)).mono ?_; rintro e w1 ⟨rfl, hb⟩; have hx := (hb.cell (p := ⟨w.heap.size, 0, none⟩) (by simp)); have hy := (hb.cell (p := ⟨w.heap.size, 1, none⟩) (by simp)); have HB := Aside0.mk (below_then (below_alloc (Below.refl _ _) _) (by simp) hb); clear hb) | (refine ⟨trivial, ?_⟩; gi_at_call 83; refine (callsIn_wide.2 (kindled_calls n q _ c0_1 l0_1 _ c2 l2 _ (Kd.C_below hr0_1 HB.out) hc0_1 (Kd.C_below hr2 HB.out) hc2 (by omega) (by omega) hEI.out hl1 hl2)).mono ?_; rintro e w2 ⟨g, Av, cv, rfl, hW, hR, hB, hg⟩; have HW2 := Aside0.mk hW; have HR2 := Aside0.mk hR; have HB2 := Aside0.mk (below_then HB.out HB.out.size hB); clear hW hR hB) | (refine ⟨trivial, ?_⟩; gi_at_call 84; refine (callsIn_wide.2 (fire_calls g _)).mono ?_; rintro e w3 ⟨rfl, rfl⟩))
   have hgl := HW2.out.lt
   have hwl : w.heap.size ≤ w1.heap.size := HB.out.size
   have hwl2 : w.heap.size ≤ w2.heap.size := HB2.out.size
   have hcl : ∀ k, some k = (Value.slice Av l2.length cv).ownBlock → k < w2.heap.size := fun k hk => Kd.R_lt HR2.out k hk.symm
   have HW3 := Aside0.mk (HW2.out.below (below_alloc (below_alloc (below_alloc (Below.refl _ _) (.cells #[.int .i64 q] 3)) (.cells #[.slice (some ⟨w2.heap.size, 0, none⟩) 1 1] 33)) (.cells #[.pointer (some ⟨g, 0, none⟩)] 99)))
   have HC3 := Aside0.mk (Kd.R_alloc (Kd.R_alloc (Kd.R_alloc (Kd.R_tight rfl HR2.out) (.cells #[.int .i64 q] 3)) (.cells #[.slice (some ⟨w2.heap.size, 0, none⟩) 1 1] 33)) (.cells #[.pointer (some ⟨g, 0, none⟩)] 99))
   have HB3 := Aside0.mk (below_alloc (below_alloc (below_alloc HB2.out (.cells #[.int .i64 q] 3)) (.cells #[.slice (some ⟨w2.heap.size, 0, none⟩) 1 1] 33)) (.cells #[.pointer (some ⟨g, 0, none⟩)] 99))
   have HO3 : Aside0 (Kd.R (Kd.int .i64) 3 (((w2.alloc (.cells #[.int .i64 q] 3)).alloc (.cells #[.slice (some ⟨w2.heap.size, 0, none⟩) 1 1] 33)).alloc (.cells #[.pointer (some ⟨g, 0, none⟩)] 99)) w.heap.size (fun k => k ≠ g ∧ some k ≠ (Value.slice Av l2.length cv).ownBlock) (.slice (some ⟨w2.heap.size, 0, none⟩) 1 1) [(q : Int)]) := by
    refine ⟨Kd.R_alloc (Kd.R_alloc (Kd.R_of_own (enc := Value.int .i64) (h1 := fun _ => rfl) ?_ ?_) _) _⟩
    ·simpa [encs] using World.ownsRow_lit (base := w.heap.size) (e := 3) (size := 1) w2 #[.int .i64 q] 1 hwl2 (by decide) rfl
    ·intro k hk
     have e : w2.heap.size = k := by simpa [Value.ownBlock] using hk
     refine ⟨by omega, fun e2 => ?_⟩
     have := hcl k e2; omega
   have HX3 : Aside0 ((((w2.alloc (.cells #[.int .i64 q] 3)).alloc (.cells #[.slice (some ⟨w2.heap.size, 0, none⟩) 1 1] 33)).alloc (.cells #[.pointer (some ⟨g, 0, none⟩)] 99)).heap[w2.heap.size + 1]? = some (.cells #[.slice (some ⟨w2.heap.size, 0, none⟩) 1 1] 33 (0, 0))) :=
    ⟨by have h := heap_alloc_new (w2.alloc (.cells #[.int .i64 q] 3)) (.cells #[.slice (some ⟨w2.heap.size, 0, none⟩) 1 1] 33); rw [World.size_alloc] at h; exact blk_alloc h _⟩
   have HY3 : Aside0 ((((w2.alloc (.cells #[.int .i64 q] 3)).alloc (.cells #[.slice (some ⟨w2.heap.size, 0, none⟩) 1 1] 33)).alloc (.cells #[.pointer (some ⟨g, 0, none⟩)] 99)).heap[w2.heap.size + 1 + 1]? = some (.cells #[.pointer (some ⟨g, 0, none⟩)] 99 (0, 0))) :=
    ⟨by have h := heap_alloc_new ((w2.alloc (.cells #[.int .i64 q] 3)).alloc (.cells #[.slice (some ⟨w2.heap.size, 0, none⟩) 1 1] 33)) (.cells #[.pointer (some ⟨g, 0, none⟩)] 99); simpa using h⟩
   have hbg : w2.heap.size + 1 ≠ g := by omega
   have hwg : w2.heap.size + 1 + 1 ≠ g := by omega
   have hwb : w2.heap.size + 1 + 1 ≠ w2.heap.size + 1 := by omega
   have hcb : some (w2.heap.size + 1) ≠ (Value.slice Av l2.length cv).ownBlock := fun e => by have := hcl _ e; omega
   have hwsz : w.heap.size ≤ w2.heap.size + 1 := by omega
   have hgw : w.heap.size ≤ g := by omega
   clear hcl HW2 HR2 HB2 HB
   generalize (((w2.alloc (.cells #[.int .i64 q] 3)).alloc (.cells #[.slice (some ⟨w2.heap.size, 0, none⟩) 1 1] 33)).alloc (.cells #[.pointer (some ⟨g, 0, none⟩)] 99)) = W3 at HW3 HC3 HB3 HO3 HX3 HY3 ⊢
   generalize w2.heap.size + 1 + 1 = bw at HY3 hwg hwb ⊢
   generalize w2.heap.size + 1 = bo at HX3 hbg hwb hcb hwsz ⊢
   refine wpIn_rangeFunc_st (σ := Unit) (α := Nat) (F := Fence.wide) (n := 10) rfl (by decide) (gf := 98) (lb := #[.pointer (some ⟨bw, 0, none⟩)]) rfl trivial (enters_of Try.func98 (by kernel_rfl) rfl)
    (fun o => fire1_seq g bw n (timesOf l0_1) Av cv l2 (sinkOnly q) _ w1.heap.size (by omega) hl2 ?ht hwg (HW3.out.below (below_alloc (below_alloc (Below.refl _ _) _) _)) (blk_alloc (blk_alloc HY3.out _) _) (Kd.R_mono (Kd.R_alloc (Kd.R_alloc HC3.out _) _) (fun _ h => h))) (fun _ => rfl)
    (fun _ => True) ?adm ?st ?ar
    (fun _ pre W => W3.heap.size ≤ W.heap.size ∧ ∃ v, W.heap[bw]? = some (.cells #[.pointer (some ⟨g, 0, none⟩)] 99 (0, 0)) ∧ W.heap[bo]? = some (.cells #[v] 33 (0, 0)) ∧ Kd.R (Kd.int .i64) 3 W w.heap.size (fun k => k ≠ g ∧ some k ≠ (Value.slice Av l2.length cv).ownBlock) v ((q : Int) :: pre.map Int.ofNat) ∧ Below w.heap.size w W) (fun _ _ _ _ => False)
    ?is (fun _ _ _ _ _ _ h _ => h) ?ib (fun _ _ _ _ _ h _ => h) ?kt ?h0 ?a1 ?assign ?body ?done (fun _ _ _ _ _ _ _ h => h.elim)
   case assign =>
    intro l x W K hK
    gi_wp2
    exact hK
   case ht => exact hEI.out.times
   case adm =>
    intro o s W1 h
    exact ⟨trivial, by rw [h]; exact KeepLD.refl _ _⟩
   case st => intro s A B _ h k o h1 h2 h3 _; exact (h.block k (Array.getElem?_eq_some_iff.1 h3).1 (fun e => by cases e; have := HW3.out.lt; omega)).trans h3
   case ar => intro s x A B _ h k o h1 h2 h3 _; exact (h.block k (Array.getElem?_eq_some_iff.1 h3).1 (fun e => by cases e; have := HW3.out.lt; omega)).trans h3
   case is =>
    rintro s pre A B _ ⟨hs, v, h0, h1, h2, h3⟩ hst
    exact ⟨Nat.le_trans hs hst.size, v, (hst.block bw (blk_lt h0) (fun e => by cases e; exact hwg rfl)).trans h0, (hst.block bo (blk_lt h1) (fun e => by cases e; exact hbg rfl)).trans h1, Kd.R_grown h2 hst (fun k hk e => hk.1 (by cases e; rfl)), pw_below_grown h3 (some g) h3.size hst (fun k e => by cases e; exact hgw)⟩
   case ib =>
    rintro s pre A B ⟨hs, v, h0, h1, h2, h3⟩ hb
    exact ⟨by rw [hb.size]; exact hs, v, hb.cells h0, hb.cells h1, R_bk h2 hb, h3.trans (hb.below w.heap.size (by have := HB3.out.size; omega))⟩
   case kt =>
    intro s A B C D hab hbc hcd k hk
    have hkl : k ≠ W3.heap.size + 1 := by
     rcases hk with rfl | rfl | hk
     ·have := HW3.out.lt; omega
     ·have := blk_lt HY3.out; omega
     ·have := Kd.R_lt HC3.out k hk.symm; omega
    exact (hcd.heap k hkl).trans ((hbc k hk).trans (hab.heap k hkl))
   case h0 =>
    rintro o s W1 rfl
    exact ⟨by simp; omega, _, blk_alloc (blk_alloc HY3.out _) _, blk_alloc (blk_alloc HX3.out _) _, Kd.R_alloc (Kd.R_alloc HO3.out _) _, below_alloc (below_alloc HB3.out _) _⟩
   case body =>
    rintro l s pre x Wb W1 W _ ⟨hs, v, i0, i1, i2, i3⟩ har hbd hbk
    have b0 := Aside0.mk (hbk.cells ((har.block bw (blk_lt i0) (fun e => by cases e; exact hwg rfl)).trans i0))
    have b1 := Aside0.mk (hbk.cells ((har.block bo (blk_lt i1) (fun e => by cases e; exact hbg rfl)).trans i1))
    have b2 := Aside0.mk (R_bk (Kd.R_grown i2 har (fun k hk e => hk.1 (by cases e; rfl))) hbk)
    have b3 := Aside0.mk ((pw_below_grown i3 (some g) i3.size har (fun k e => by cases e; exact hgw)).trans (hbk.below w.heap.size (by have := HB3.out.size; omega)))
    have hgl : W3.heap.size ≤ W.heap.size := by have := hbk.size; have := har.size; omega
    have hgl2 := HW3.out.lt
    clear i0 i1 i2 i3 har
    obtain ⟨Ar, cr, rfl⟩ := Kd.R_slice b2.out
    replace b2 := Aside0.mk (show Kd.R (Kd.int .i64) 3 W w.heap.size (fun k => k ≠ g ∧ some k ≠ (Value.slice Av l2.length cv).ownBlock) (.slice Ar (pre.length + 1) cr) ((q : Int) :: pre.map Int.ofNat) from by have h := b2.out; rw [show ((q : Int) :: pre.map Int.ofNat).length = pre.length + 1 from by simp] at h; exact h)
    rw [show ((q : Int) :: pre.map Int.ofNat).length = pre.length + 1 from by simp] at b1
    have hc := keeps_box b1.out
    have hf := blk_frozen b1.out 0
    have FR : Aside0 (∀ k, W.heap.size ≤ k → k ≠ g ∧ some k ≠ (Value.slice Av l2.length cv).ownBlock) := ⟨fun k hk => ⟨by omega, fun e => by have := Kd.R_lt HC3.out k e.symm; omega⟩⟩
    have LN : Aside0 ((((q : Int) :: pre.map Int.ofNat).length + 1) * 8 ≤ 140737488355328) := ⟨by simp; omega⟩
    gi_wp2_with (gi_at_builtin; go_loud (refine R_append_in (Kd.int .i64) (w0 := w) w.heap.size rfl (.tmp 29) (.tmp 31) 33 3 (.int .i64 0) 8 rfl Try.underlying33 info3 rfl (by decide) (by omega) _ _ (x : Int) [.int .i64 x] (fun k => k ≠ g ∧ some k ≠ (Value.slice Av l2.length cv).ownBlock) (fun _ => False) rfl rfl rfl (fun _ hk => hk.elim) FR.out b2.out b3.out b3.out.size LN.out ?_; intro v1 w1' hown hb hgr hat; obtain ⟨A1, c1, rfl⟩ := Kd.R_slice hown; have X1 := Aside0.mk ((hgr.block bo (blk_lt b1.out) (Kd.R_ne b2.out b1.out (by decide))).trans b1.out); have X0 := Aside0.mk ((hgr.block bw (blk_lt b0.out) (Kd.R_ne b2.out b0.out (by decide))).trans b0.out); have hc1 := keeps_box X1.out; have hf1 := blk_frozen X1.out 0; have HO1 := Aside0.mk hown; have HB1 := Aside0.mk hb; have HG1 := Aside0.mk hgr; clear hown hb hgr hat))
    refine ⟨(keepLD_append b2.out HG1.out).trans (keepLD_set _ _ (blk_lt HX3.out)), fun k hk => ?_, by have := HG1.out.size; simp; omega, _, blk_far X0.out hwb _, by simpa using blk_set X1.out 0 (.slice A1 (pre.length + 1 + 1) c1), ?_, below_set HB1.out hwsz⟩
    ·have hkb : k ≠ bo := by
      rcases hk with rfl | rfl | hk
      ·exact fun e => hbg e.symm
      ·exact hwb
      ·rintro rfl; exact hcb hk
     rw [Below.heap_setCell _ _ _ _ hkb]
     rcases hk with rfl | rfl | hk
     ·exact HG1.out.block k (by omega) (fun e => (b2.out.1 k e.symm).1 rfl)
     ·exact HG1.out.block k (blk_lt b0.out) (Kd.R_ne b2.out b0.out (by decide))
     ·exact HG1.out.block k (by have := Kd.R_lt HC3.out k hk.symm; omega) (fun e => (b2.out.1 k e.symm).2 hk)
    ·have h := Kd.R_set HO1.out X1.out (by decide) 0 (.slice A1 (pre.length + 1 + 1) c1)
     simpa using h
   case done =>
    rintro s xs W W' _ ⟨rfl, hWd⟩ ⟨hs, v, i0, i1, i2, i3⟩ hbk hdf
    have b1 := Aside0.mk (hbk.cells i1)
    have b2 := Aside0.mk (R_bk i2 hbk)
    have b3 := Aside0.mk (i3.trans (hbk.below w.heap.size (by have := HB3.out.size; omega)))
    have b4 := Aside0.mk (hWd.bk hbk)
    have HDF := Aside0.mk hdf
    clear i0 i1 i2 i3 hWd hdf
    have hc := keeps_box b1.out
    obtain ⟨Ar, cr, rfl⟩ := Kd.R_slice b2.out
    have hbsz := blk_lt b1.out
    gi_wp2_with fail
    refine no_exits ?_
    gi_region_with (refine ⟨trivial, ?_⟩; gi_at_call 85; refine (callsIn_wide.2 (unburnt_calls g n (timesOf l0_1) _ _ _ (by omega) b4.out.drew)).mono ?_; rintro e w5 ⟨v1, rfl, hR5, hB5⟩; have hc5 := (hB5.cell (p := ⟨bo, 0, none⟩) hbsz).trans hc; have HR5 := Aside0.mk hR5; have HB5 := Aside0.mk hB5; clear hR5 hB5)
    all_goals gi_wp2
    all_goals
     have hDF5 : w5.heap[W3.heap.size]? = some (.deferred (some [])) := (HB5.out.block _ (Array.getElem?_eq_some_iff.1 HDF.out).1).trans HDF.out
     have hbk5 : Bk W3.heap.size w5 (w5.putObj W3.heap.size (.deferred none)) := ⟨_, _, hDF5, rfl, rfl⟩
     have hd2 := Kd.R_below (w := W'.drew) b2.out HB5.out
     refine bodyPostM_one (D := W3.heap.size) rfl hDF5 (results_tmp3 rfl _ _ _) ⟨_, _, rfl, R_bk (ok := fun k_ => some k_ ≠ v1.ownBlock) (v := .slice Ar ((fireList n (catchB n (timesOf l0_1) l2) (sinkOnly q)).length + 1) cr) ?_ hbk5, R_bk (ok := fun k_ => some k_ ≠ (Value.slice Ar ((fireList n (catchB n (timesOf l0_1) l2) (sinkOnly q)).length + 1) cr).ownBlock) (v := v1) ?_ hbk5, ?_⟩
     ·refine Kd.R_reok rfl (ok1 := fun k => k ≠ g ∧ some k ≠ (Value.slice Av l2.length cv).ownBlock) ?_ (fun k hk e => ?_)
      ·have h := hd2
       rw [show ((q : Int) :: (fireList n (catchB n (timesOf l0_1) l2) (sinkOnly q)).map Int.ofNat).length = (fireList n (catchB n (timesOf l0_1) l2) (sinkOnly q)).length + 1 from by simp] at h
       exact h
      ·have h1 := Kd.R_lt b2.out k ((own_len _ _ _ _).trans hk)
       have h2 := Kd.R_base HR5.out k e.symm
       exact absurd h1 (Nat.not_lt.2 h2)
     ·refine Kd.R_reok rfl (ok1 := fun _ => True) (Kd.R_lower HR5.out b3.out.size) (fun k hk e => ?_)
      have h1 := Kd.R_lt b2.out k ((own_len _ _ _ _).trans e.symm)
      have h2 := Kd.R_base HR5.out k hk
      exact absurd h1 (Nat.not_lt.2 h2)
     ·exact (below_then (below_drew b3.out) b3.out.size HB5.out).trans (hbk5.below w.heap.size HB3.out.size)
  ·rw [if_neg hv] at H
   cases H
 ·rw [if_neg h0] at H
  simp only [Option.some.injEq, Prod.mk.injEq] at H
  obtain ⟨rfl, rfl, rfl⟩ := H
  have Ht := Aside0.mk ht
  have hne : (t != 0) = true := by simpa using h0
  clear ht h0
  go_enter Try.func63, Try.ntmps63
  go_wp2_with (go_at_call 82; refine (burning_check.calls k a0_0 _ c0_1 l0_1 a1 _ c2 l2 t _ (Kd.C_alloc hr0_1 _) hc0_1 (Kd.C_alloc hr2 _) hc2 Ht.out).mono ?_; rintro e w1 ⟨rfl, hb⟩; have HB := Aside0.mk (below_then (below_alloc (Below.refl _ _) _) (by simp) hb); clear hb)
  go_ret3
  exact ⟨_, _, rfl, Kd.R_nil _ _ _ _ _, Kd.R_nil _ _ _ _ _, HB.out⟩
end
section
theorem burnAll_mono {b : Nat → Bool} {u : Nat} : ∀ (l : List Nat), b u = true → burnAll b l u = true := by
 intro l
 induction l generalizing b with
 | nil => exact id
 | cons v l ih => intro h; exact ih (b := burn1 b v) (by unfold burn1; split <;> simp_all)
theorem burnAll_cons (b : Nat → Bool) (v : Nat) (l : List Nat) : burnAll b (v :: l) = burnAll (burn1 b v) l := rfl
section
variable {n : Nat} {c : (Nat → Bool) → Nat → Bool}
theorem fire_fix (hc : ∀ b v, c b v = true → b v = false) : ∀ (f : Nat) (b : Nat → Bool), unb n b ≤ f → ∀ v, v < n → c (burnAll b (fireRun n c f b)) v = false := by
 intro f
 induction f with
 | zero =>
  intro b h v hv
  show c b v = false
  cases hcv : c b v with
  | false => rfl
  | true =>
   have := unb_burn1 hv (hc b v hcv)
   omega
 | succ f ih =>
  intro b h v hv
  cases hfc : firstCatch n c b with
  | none =>
   simp only [fireRun, hfc]
   unfold firstCatch at hfc
   rw [List.find?_eq_none] at hfc
   have := hfc v (List.mem_range.2 hv)
   simpa [burnAll] using this
  | some v0 =>
   have h1 := List.find?_some hfc
   have h2 := List.mem_of_find?_eq_some hfc
   have h3 := unb_burn1 (List.mem_range.1 h2) (hc b v0 (by simpa using h1))
   simp only [fireRun, hfc, burnAll_cons]
   exact ih (burn1 b v0) (by omega) v hv
theorem fire_hits (hm : ∀ (b b' : Nat → Bool) v, (∀ u, b u = true → b' u = true) → b' v = false → c b v = true → c b' v = true) (S : Nat → Bool) :
  ∀ (f : Nat) (b : Nat → Bool), (∀ v, S v = true → b v = false) → (∃ v, v < n ∧ S v = true ∧ burnAll b (fireRun n c f b) v = true) → ∃ v, v < n ∧ S v = true ∧ c (fun u => !S u) v = true := by
 intro f
 induction f with
 | zero =>
  rintro b hb ⟨v, hv, hs, h⟩
  have := hb v hs
  simp [fireRun, burnAll, this] at h
 | succ f ih =>
  rintro b hb ⟨v, hv, hs, h⟩
  cases hfc : firstCatch n c b with
  | none =>
   simp only [fireRun, hfc] at h
   have := hb v hs
   simp [burnAll, this] at h
  | some v0 =>
   have h1 := List.find?_some hfc
   have h2 := List.mem_of_find?_eq_some hfc
   simp only [fireRun, hfc, burnAll_cons] at h
   cases hs0 : S v0 with
   | true =>
    refine ⟨v0, List.mem_range.1 h2, hs0, hm b _ v0 (fun u hu => ?_) (by simp [hs0]) (by simpa using h1)⟩
    cases hsu : S u with
    | true => exact absurd hu (by simp [hb u hsu])
    | false => rfl
   | false =>
    refine ih (burn1 b v0) (fun u hu => ?_) ⟨v, hv, hs, h⟩
    unfold burn1
    rw [if_neg (fun e => by subst e; rw [hs0] at hu; cases hu)]
    exact hb u hu
theorem dhar (hc : ∀ b v, c b v = true → b v = false) (hm : ∀ (b b' : Nat → Bool) v, (∀ u, b u = true → b' u = true) → b' v = false → c b v = true → c b' v = true) (b : Nat → Bool) :
  (∀ v, v < n → burnAll b (fireList n c b) v = true) ↔ ∀ S : Nat → Bool, (∃ v, v < n ∧ S v = true) → (∀ v, S v = true → b v = false) → ∃ v, v < n ∧ S v = true ∧ c (fun u => !S u) v = true := by
 constructor
 ·rintro h S ⟨v, hv, hs⟩ hb
  exact fire_hits hm S (unb n b) b hb ⟨v, hv, hs, h v hv⟩
 ·intro h v hv
  cases hbv : burnAll b (fireList n c b) v with
  | true => rfl
  | false =>
   obtain ⟨u, hu, hsu, hcu⟩ := h (fun u => !burnAll b (fireList n c b) u) ⟨v, hv, by simp [hbv]⟩ (fun u hu => by
    cases hbu : b u with
    | false => rfl
    | true => simp [burnAll_mono _ hbu] at hu)
   have := fire_fix (n := n) hc (unb n b) b (Nat.le_refl _) u hu
   simp only [Bool.not_not] at hcu
   rw [show fireList n c b = fireRun n c (unb n b) b from rfl] at hcu
   rw [this] at hcu
   cases hcu
end
theorem flamesTo_mono {t : Nat → Nat → Int} (ht : ∀ i j, 0 ≤ t i j) {b b' : Nat → Bool} (h : ∀ u, b u = true → b' u = true) (v : Nat) : ∀ u, flamesTo t b v u ≤ flamesTo t b' v u
 | 0 => Int.le_refl _
 | u + 1 => by
  have h1 := flamesTo_mono ht h v u
  have h2 := h u
  have h3 := ht v u
  simp only [flamesTo]
  by_cases hb : b u = true
  ·rw [if_pos hb, if_pos (h2 hb)]; omega
  ·rw [if_neg hb]
   split <;> omega
theorem flamesTo_congr {t : Nat → Nat → Int} {b b' : Nat → Bool} (v : Nat) : ∀ n, (∀ u, u < n → b u = b' u) → flamesTo t b v n = flamesTo t b' v n
 | 0, _ => rfl
 | n + 1, h => by
  simp only [flamesTo]
  rw [flamesTo_congr v n (fun u hu => h u (by omega)), h n (by omega)]
def NoBlock (n : Nat) (t : Nat → Nat → Int) (q : Nat) (c : Nat → Int) : Prop := ∀ S : Nat → Bool, (∃ v, v < n ∧ S v = true) → S q = false → ∃ v, v < n ∧ S v = true ∧ c v < flamesTo t (fun u => !S u) v n
def superB (n : Nat) (t : Nat → Nat → Int) (q : Nat) (l : List Int) : Bool := (List.range n).all (burnAll (sinkOnly q) (fireList n (catchB n t l) (sinkOnly q)))
theorem superB_iff {n : Nat} {t : Nat → Nat → Int} (ht : ∀ i j, 0 ≤ t i j) (q : Nat) (l : List Int) : superB n t q l = true ↔ NoBlock n t q (fun v => rd l v) := by
 have h := dhar (n := n) (c := catchB n t l) (fun b v h => catchB_unb b v h) (fun b b' v hb hv hcv => by
  unfold catchB at hcv ⊢
  simp only [Bool.and_eq_true, decide_eq_true_eq] at hcv ⊢
  exact ⟨by simp [hv], Int.lt_of_lt_of_le hcv.2 (flamesTo_mono ht hb v n)⟩) (sinkOnly q)
 unfold superB NoBlock
 rw [List.all_eq_true]
 constructor
 ·intro h1 S hS hq
  obtain ⟨v, hv, hs, hcv⟩ := h.1 (fun v hv => h1 v (List.mem_range.2 hv)) S hS (fun v hv => by
   unfold sinkOnly
   rw [if_neg (fun e => by subst e; rw [hq] at hv; cases hv)])
  unfold catchB at hcv
  simp only [Bool.and_eq_true, decide_eq_true_eq] at hcv
  exact ⟨v, hv, hs, hcv.2⟩
 ·intro h1 v hv
  refine h.2 (fun S hS hb => ?_) v (List.mem_range.1 hv)
  obtain ⟨v, hv, hs, hcv⟩ := h1 S hS (by
   cases hSq : S q with
   | false => rfl
   | true => have := hb q hSq; simp [sinkOnly] at this)
  refine ⟨v, hv, hs, ?_⟩
  unfold catchB
  simp [hs, hcv]
theorem NoBlock.down {n : Nat} {t : Nat → Nat → Int} {q : Nat} {c c' : Nat → Int} (h : NoBlock n t q c) (hc : ∀ v, v < n → c' v ≤ c v) : NoBlock n t q c' := by
 intro S hS hq
 obtain ⟨v, hv, hs, hcv⟩ := h S hS hq
 exact ⟨v, hv, hs, Int.lt_of_le_of_lt (hc v hv) hcv⟩
def valOf (n : Nat) (t : Nat → Nat → Int) (v : Nat) : Int := flamesTo t (fun u => !decide (u = v)) v n
theorem NoBlock.lt {n : Nat} {t : Nat → Nat → Int} {q : Nat} {c : Nat → Int} (h : NoBlock n t q c) {v : Nat} (hv : v < n) (hq : v ≠ q) : c v < valOf n t v := by
 obtain ⟨u, hu, hs, hcu⟩ := h (fun u => decide (u = v)) ⟨v, hv, by simp⟩ (by simpa using fun e => hq e.symm)
 have : u = v := by simpa using hs
 subst this
 exact hcu
end
def sandpileref23_members.l0 : Nat → Int → Int → List Int → Int → Option (List Int)
 | 0, _, _, _, _ => none
 | k + 1, x0, x1, x5, x6 => if x6 < x0 then (if (Int.tmod x1 2) = 1 then (if x5.length < 17592186044416 then (sandpileref23_members.l0 k x0 (wrap64 (Int.tdiv x1 2)) (x5 ++ [x6]) (wrap64 (x6 + 1))) else (none)) else (sandpileref23_members.l0 k x0 (wrap64 (Int.tdiv x1 2)) x5 (wrap64 (x6 + 1)))) else (some x5)
def sandpileref23_members.f (k : Nat) (a0 : Int) (a1 : Int) : Option (List Int) := sandpileref23_members.l0 k a0 a1 ([] : List Int) 0
theorem sandpileref23_members.calls (k : Nat) (a0 : Int) (a1 : Int) (r : List Int) (w : World) (h : sandpileref23_members.f k a0 a1 = some r) :
  Calls Try.prog 93 #[.int .i64 a0, .int .i64 a1] w fun e w' => ∃ v0_ : Value, e = .returned (v0_) ∧ Kd.R (Kd.int .i64) 3 w' w.heap.size (fun _ => True) v0_ r ∧ Below w.heap.size w w' := by
 have HB := Aside0.mk (Below.refl w.heap.size w)
 have H : (sandpileref23_members.l0 k a0 a1 ([] : List Int) 0) = some r := h
 clear h
 have H' := Aside0.mk H
 clear H
 go_enter Try.func93, Try.ntmps93
 go_wp2
 go_loopg [1, 5, 6] k (fun kq v1 v5 v6 w' => ∃ (x1_1 : Int) (x5_1 : List Int) (x6_1 : Int), v1 = .int .i64 x1_1 ∧ v6 = .int .i64 x6_1 ∧ Aside0 (sandpileref23_members.l0 kq a0 x1_1 x5_1 x6_1 = some r) ∧ Aside0 (kq ≤ k) ∧ Aside0 (Kd.R (Kd.int .i64) 3 w' w.heap.size (fun _ => True) v5 x5_1) ∧ Aside0 (Below w.heap.size w w'))
 case atStart => exact ⟨(a1), (([] : List Int)), (0), zT, zT, H', ⟨Nat.le_refl _⟩, ⟨by first | exact Kd.R_nil _ _ _ _ _ | exact Kd.N_nil _ _ _ _ _ | exact Kd.V_nil _ _ _ _ _ | exact Kd.Q_nil _ _ _ _ _ | exact Kd.S_nil _ _ _ _ _⟩, ⟨zB⟩⟩
 case round =>
  clear H'
  try clear p2
  obtain ⟨x1_1, x5_1, x6_1, rfl, rfl, HA, HK1, HO_5, HB⟩ := hrel
  cases gk with
  | zero => exact absurd HA.out (by simp [sandpileref23_members.l0])
  | succ k1 =>
   have H := HA.out
   clear HA
   simp only [sandpileref23_members.l0] at H
   by_cases c3 : x6_1 < a0
   ·rw [if_pos c3] at H
    have c3b0 : decide (x6_1 < a0) = true := decide_eq_true c3
    clear c3
    by_cases c4 : (Int.tmod x1_1 2) = 1
    ·rw [if_pos c4] at H
     have c4b0 : ((Int.tmod x1_1 2) == 1) = true := beq_iff_eq.mpr c4
     have c4b1 : ((Int.tmod x1_1 2) != 1) = false := bne_eq_false_iff_eq.mpr c4
     clear c4
     by_cases c5 : x5_1.length < 17592186044416
     ·rw [if_pos c5] at H
      have LMc5 := Aside0.mk c5
      clear c5
      obtain ⟨y211, hy211⟩ : ∃ y_ : List Int, y_ = (x5_1 ++ [x6_1]) := ⟨_, rfl⟩
      replace H : (sandpileref23_members.l0 k1 a0 (wrap64 (Int.tdiv x1_1 2)) y211 (wrap64 (x6_1 + 1))) = some r := by first | (rw [hy211]; with_reducible exact H) | (have H2_ := (Option.bind_some _ _).symm.trans H; rw [hy211]; with_reducible exact H2_) | (have H2_ := (Option.bind_some _ _).symm.trans H; with_reducible exact H2_) | with_reducible exact H | (rw [hy211]; exact H) | exact H
      have Ny211 := Aside0.mk hy211
      clear hy211
      have H' := Aside0.mk H
      clear H
      go_wp2_with (first | ((with_reducible refine gate_builtin (b := .append) (xs := #[.tmp 15, .tmp 17]) rfl ?_); at_builtin; refine Kd.R_append (Kd.int .i64) (w0 := w) w.heap.size rfl (.tmp 15) (.tmp 17) 33 3 (.int .i64 0) 8 rfl Try.underlying33 info3 rfl (by decide) (by omega) u5 x5_1 x6_1 [.int .i64 x6_1] (fun _ => True) (fun _ => False) rfl rfl ?aP (fun _ hk => hk.elim) ?aF ?aO ?aB ?aS ?aL ?_; (case aP => exact rfl); (case aB => exact zB); (case aF => exact (fun _ _ => trivial)); (case aO => exact (zR HO_5)); (case aS => exact (below_size zB)); (case aL => have := LMc5.out; omega); intro v212 w6 ho hb hg hat; rw [← Ny211.out] at ho; replace HB := Aside0.mk (hb); have HO213 := Aside0.mk (ho); clear HO_5; clear ho hb hg hat))
      go_roundg k1
      case measure => have := HK1.out; omega
      case rel => exact ⟨(wrap64 (Int.tdiv x1_1 2)), (y211), (wrap64 (x6_1 + 1)), zT, zT, H', ⟨by have := HK1.out; omega⟩, ⟨zR HO213⟩, ⟨zB⟩⟩
     ·rw [if_neg c5] at H
      exact absurd H (by simp)
    ·rw [if_neg c4] at H
     have c4b0 : ((Int.tmod x1_1 2) == 1) = false := beq_eq_false_iff_ne.mpr c4
     have c4b1 : ((Int.tmod x1_1 2) != 1) = true := bne_iff_ne.mpr c4
     have H' := Aside0.mk H
     clear H
     go_wp2
     go_roundg k1
     case measure => have := HK1.out; omega
     case rel => exact ⟨(wrap64 (Int.tdiv x1_1 2)), (x5_1), (wrap64 (x6_1 + 1)), zT, zT, H', ⟨by have := HK1.out; omega⟩, ⟨zR HO_5⟩, ⟨zB⟩⟩
   ·rw [if_neg c3] at H
    have c3b0 : decide (x6_1 < a0) = false := decide_eq_false c3
    clear c3
    obtain rfl := Option.some.inj H
    go_wp2
    go_ret
    exact ⟨_, zE, by (with_reducible repeat (first | apply Kd.R_alloc | apply Kd.R_drewN | apply Kd.R_drew)); exact HO_5.out, zB⟩
mutual
def sandpileref23_Subsets.l0 : Nat → Int → Int → Int → List (S66) → Option ((List (List Int)))
 | 0, _, _, _, _ => none
 | k + 1, x3, x4, x215000, x215001 => if x4 < x215000 then (sandpileref23_Subsets.l0 k (wrap64 (2 * x3)) (wrap64 (x4 + 1)) x215000 x215001) else (sandpileref23_Subsets.l1 k x3 ([] : List (List Int)) 0 x215000 x215001)
def sandpileref23_Subsets.l1 : Nat → Int → List (List Int) → Int → Int → List (S66) → Option ((List (List Int)))
 | 0, _, _, _, _, _ => none
 | k + 1, x3, x5, x6, x215000, x215001 => if x6 < x3 then ((sandpileref23_members.f k x215000 x6).bind fun t215 => (if x5.length < 5864062014805 then (sandpileref23_Subsets.l1 k x3 (x5 ++ [t215]) (wrap64 (x6 + 1)) x215000 x215001) else (none))) else (some x5)
end
def sandpileref23_Subsets.f (k : Nat) (a0_0 : Int) (l0_1 : List (S66)) : Option ((List (List Int))) := sandpileref23_Subsets.l0 k 1 0 a0_0 l0_1
theorem sandpileref23_Subsets.calls (k : Nat) (a0_0 : Int) (A0_1 : Option Addr) (c0_1 : Nat) (l0_1 : List (S66)) (r : List (List Int)) (w : World) (hr0_1 : Kd.C k66 w A0_1 l0_1.length l0_1) (hc0_1 : l0_1.length ≤ c0_1) (h : sandpileref23_Subsets.f k a0_0 l0_1 = some r) :
  Calls Try.prog 75 #[.agg #[.int .i64 a0_0, .slice A0_1 l0_1.length c0_1]] w fun e w' => ∃ v0_ : Value, e = .returned (v0_) ∧ Kd.S (Kd.slice 3 (Kd.int .i64)) 33 w' w.heap.size (fun _ => True) v0_ r ∧ Below w.heap.size w w' := by
 have hu24 := Try.underlying24
 have HR0_1 := Aside0.mk hr0_1
 have HC0_1 := Aside0.mk hc0_1
 clear hr0_1 hc0_1
 have HB := Aside0.mk (Below.refl w.heap.size w)
 have H : (sandpileref23_Subsets.l0 k 1 0 a0_0 l0_1) = some r := h
 clear h
 have H' := Aside0.mk H
 clear H
 go_enter Try.func75, Try.ntmps75
 go_wp2_with (first | ((with_reducible refine gate_dst (N := 1) rfl ?_); refine zX 1 #[.int .i64 a0_0, .slice A0_1 l0_1.length c0_1] 24 ?_; intro gb214 hg w2 hbox hb; have BK214 := Aside0.mk (hbox); have GW214 := zG HB hg; have GE214 := zG HB hg; replace HB := zS HB hb; clear hb hbox hg))
 go_loopg [3, 4] k (fun kq v3 v4 w' => ∃ (x3_1 : Int) (x4_1 : Int), v3 = .int .i64 x3_1 ∧ v4 = .int .i64 x4_1 ∧ Aside0 (sandpileref23_Subsets.l0 kq x3_1 x4_1 a0_0 l0_1 = some r) ∧ Aside0 (kq ≤ k) ∧ Aside0 (w'.heap[gb214]? = some (.cells #[.int .i64 a0_0, (.slice A0_1 l0_1.length c0_1)] 24 (0, 0))) ∧ Aside0 (Below w.heap.size w w'))
 case atStart => exact ⟨(1), (0), zT, zT, H', ⟨Nat.le_refl _⟩, ⟨zK BK214⟩, ⟨zB⟩⟩
 case round =>
  clear H'
  try clear p2
  obtain ⟨x3_1, x4_1, rfl, rfl, HA, HK1, BK214, HB⟩ := hrel
  cases gk with
  | zero => exact absurd HA.out (by simp [sandpileref23_Subsets.l0])
  | succ k1 =>
   have H := HA.out
   clear HA
   simp only [sandpileref23_Subsets.l0] at H
   by_cases c3 : x4_1 < a0_0
   ·rw [if_pos c3] at H
    have c3b0 : decide (x4_1 < a0_0) = true := decide_eq_true c3
    clear c3
    have H' := Aside0.mk H
    clear H
    obtain ⟨hcz4_0, hcz4_1, hfz4_0, hfz4_1⟩ := zD2 BK214
    go_wp2
    go_roundg k1
    case measure => have := HK1.out; omega
    case rel => exact ⟨(wrap64 (2 * x3_1)), (wrap64 (x4_1 + 1)), zT, zT, H', ⟨by have := HK1.out; omega⟩, ⟨zK BK214⟩, ⟨zB⟩⟩
   ·rw [if_neg c3] at H
    have c3b0 : decide (x4_1 < a0_0) = false := decide_eq_false c3
    clear c3
    have H' := Aside0.mk H
    clear H
    obtain ⟨hcz5_0, hcz5_1, hfz5_0, hfz5_1⟩ := zD2 BK214
    go_wp2
    go_loopg [5, 6] k1 (fun kq v5 v6 w' => ∃ (x5_2 : List (List Int)) (x6_2 : Int), v6 = .int .i64 x6_2 ∧ Aside0 (sandpileref23_Subsets.l1 kq x3_1 x5_2 x6_2 a0_0 l0_1 = some r) ∧ Aside0 (kq ≤ k1) ∧ Aside0 (Kd.S (Kd.slice 3 (Kd.int .i64)) 33 w' w.heap.size (fun _ => True) v5 x5_2) ∧ Aside0 (w'.heap[gb214]? = some (.cells #[.int .i64 a0_0, (.slice A0_1 l0_1.length c0_1)] 24 (0, 0))) ∧ Aside0 (Below w.heap.size w w'))
    case atStart => exact ⟨(([] : List (List Int))), (0), zT, H', ⟨Nat.le_refl _⟩, ⟨by first | exact Kd.S_nil _ _ _ _ _ | exact Kd.N_nil _ _ _ _ _ | exact Kd.V_nil _ _ _ _ _ | exact Kd.Q_nil _ _ _ _ _ | exact Kd.R_nil _ _ _ _ _⟩, ⟨zK BK214⟩, ⟨zB⟩⟩
    case round =>
     clear H'
     try clear p2
     try clear c3
     try clear c3b0
     try clear hcz4_0
     try clear hcz4_1
     try clear hcz5_0
     try clear hcz5_1
     try clear hfz4_0
     try clear hfz4_1
     try clear hfz5_0
     try clear hfz5_1
     try clear p2
     obtain ⟨x5_2, x6_2, rfl, HA, HK2, HO_5, BK214, HB⟩ := hrel
     cases gk with
     | zero => exact absurd HA.out (by simp [sandpileref23_Subsets.l1])
     | succ k2 =>
      have H := HA.out
      clear HA
      simp only [sandpileref23_Subsets.l1] at H
      by_cases c6 : x6_2 < x3_1
      ·rw [if_pos c6] at H
       have c6b0 : decide (x6_2 < x3_1) = true := decide_eq_true c6
       clear c6
       replace H := Option.bind_eq_some_iff.mp H
       obtain ⟨t215, A70, H⟩ := H
       replace H : (if x5_2.length < 5864062014805 then (sandpileref23_Subsets.l1 k2 x3_1 (x5_2 ++ [t215]) (wrap64 (x6_2 + 1)) a0_0 l0_1) else (none)) = some r := H
       have A7 := Aside0.mk A70
       clear A70
       by_cases c8 : x5_2.length < 5864062014805
       ·rw [if_pos c8] at H
        have LMc8 := Aside0.mk c8
        clear c8
        obtain ⟨y218, hy218⟩ : ∃ y_ : List (List Int), y_ = (x5_2 ++ [t215]) := ⟨_, rfl⟩
        replace H : (sandpileref23_Subsets.l1 k2 x3_1 y218 (wrap64 (x6_2 + 1)) a0_0 l0_1) = some r := by first | (rw [hy218]; with_reducible exact H) | (have H2_ := (Option.bind_some _ _).symm.trans H; rw [hy218]; with_reducible exact H2_) | (have H2_ := (Option.bind_some _ _).symm.trans H; with_reducible exact H2_) | with_reducible exact H | (rw [hy218]; exact H) | exact H
        have Ny218 := Aside0.mk hy218
        clear hy218
        have H' := Aside0.mk H
        clear H
        obtain ⟨hcz9_0, hcz9_1, hfz9_0, hfz9_1⟩ := zD2 BK214
        go_wp2_with (first | ((with_reducible refine gate_callee (f := 93) rfl ?_); refine zL (some 24) Try.func93 #[.int .i64 a0_0, .int .i64 x6_2] ?_; (with_reducible refine (sandpileref23_members.calls k2 a0_0 x6_2 t215 _ A7.out).mono ?_); rintro e w10 ⟨v216, rfl, ho0, hb⟩; refine ⟨_, rfl, ?_⟩; replace HO_5 := Aside0.mk (Kd.S_elder' (zSS HO_5) (Kd.R_base ho0) hb); have HO217 := Aside0.mk (Kd.R_lower ho0 (below_size zB)); replace BK214 := zb BK214 hb; replace HB := zS HB hb; (try clear hb); (try clear ho0); obtain ⟨Ao12, co12, eo12⟩ := Kd.R_slice HO217.out; subst eo12) | ((with_reducible refine gate_builtin (b := .append) (xs := #[.tmp 20, .tmp 25]) rfl ?_); at_builtin; refine Kd.S_append (Kd.slice 3 (Kd.int .i64)) (w0 := w) w.heap.size rfl (.tmp 20) (.tmp 25) 88 33 (.slice none 0 0) 24 rfl Try.underlying88 info33 rfl (by decide) (by omega) u5 x5_2 t215 [.slice Ao12 t215.length co12] (fun _ => True) (fun k_ => some k_ = (.slice Ao12 t215.length co12 : Value).ownBlock) rfl rfl ?aP (fun k_ hk_ => ((Kd.R_mono (ok' := fun k_ => ((fun _ => True)) k_ ∧ some k_ ≠ (u5 : Value).ownBlock) (Kd.R_apart' (HO217.out) (Kd.S_typed HO_5.out) (by decide)) (fun k_ hk => ⟨trivial, hk.2⟩))).1 k_ hk_.symm) ?aF ?aO ?aB ?aS ?aL ?_; (case aP => exact Kd.M_row (Kd.R_mono (Kd.R_tight rfl (Kd.R_mono (ok' := fun k_ => ((fun _ => True)) k_ ∧ some k_ ≠ (u5 : Value).ownBlock) (Kd.R_apart' (HO217.out) (Kd.S_typed HO_5.out) (by decide)) (fun k_ hk => ⟨trivial, hk.2⟩))) (fun _ h_ => h_))); (case aB => exact zB); (case aF => exact (fun _ _ => trivial)); (case aO => exact (by (with_reducible repeat (first | apply Kd.S_alloc | apply Kd.S_drewN | apply Kd.S_drew)); exact Kd.S_mono HO_5.out (fun k_ hk => ⟨trivial, fun e_ => hk.2 e_⟩))); (case aS => exact (below_size zB)); (case aL => have := LMc8.out; omega); intro v219 w11 ho hb hg hat; rw [← Ny218.out] at ho; replace BK214 := Aside0.mk (blk_grown (zK BK214) hg (Kd.S_ne HO_5.out BK214.out (by decide))); replace HB := Aside0.mk (hb); have HO220 := Aside0.mk (ho); clear HO_5 HO217; clear ho hb hg hat))
        go_roundg k2
        case measure => have := HK1.out; have := HK2.out; omega
        case rel => exact ⟨(y218), (wrap64 (x6_2 + 1)), zT, H', ⟨by have := HK1.out; have := HK2.out; omega⟩, ⟨zSS HO220⟩, ⟨zK BK214⟩, ⟨zB⟩⟩
       ·rw [if_neg c8] at H
        exact absurd H (by simp)
      ·rw [if_neg c6] at H
       have c6b0 : decide (x6_2 < x3_1) = false := decide_eq_false c6
       clear c6
       obtain rfl := Option.some.inj H
       go_wp2
       go_ret
       exact ⟨_, zE, by (with_reducible repeat (first | apply Kd.S_alloc | apply Kd.S_drewN | apply Kd.S_drew)); exact HO_5.out, zB⟩
def sandpileref08_Holds.l0 : Nat → List Int → Int → Int → Option (Bool)
 | 0, _, _, _ => none
 | k + 1, x0, x1, x5 => if x5 < (x0.length : Int) then (if 0 ≤ x5 then (if (rd x0 x5) = x1 then (some true) else (sandpileref08_Holds.l0 k x0 x1 (wrap64 (x5 + 1)))) else (none)) else (some false)
def sandpileref08_Holds.f (k : Nat) (l0 : List Int) (a1 : Int) : Option (Bool) := sandpileref08_Holds.l0 k l0 a1 0
theorem sandpileref08_Holds.calls (k : Nat) (A0 : Option Addr) (c0 : Nat) (l0 : List Int) (a1 : Int) (r : Bool) (w : World) (hr0 : Kd.C (Kd.int .i64) w A0 l0.length l0) (hc0 : l0.length ≤ c0) (h : sandpileref08_Holds.f k l0 a1 = some r) :
  Calls Try.prog 94 #[.slice A0 l0.length c0, .int .i64 a1] w fun e w' => e = .returned (.bool r) ∧ Drawn0 w w' := by
 have HR0 := Aside0.mk hr0
 have HC0 := Aside0.mk hc0
 clear hr0 hc0
 have H : (sandpileref08_Holds.l0 k l0 a1 0) = some r := h
 clear h
 have H' := Aside0.mk H
 clear H
 go_enter Try.func94, Try.ntmps94
 go_wp2
 go_loopg [5] k (fun kq v5 w' => ∃ (x5_1 : Int), v5 = .int .i64 x5_1 ∧ Aside0 (sandpileref08_Holds.l0 kq l0 a1 x5_1 = some r) ∧ Aside0 (kq ≤ k) ∧ Drawn0 w w')
 case atStart => exact ⟨(0), zT, H', ⟨Nat.le_refl _⟩, by repeat (first | exact Drawn0.refl _ | apply Drawn0.step)⟩
 case round =>
  clear H'
  try clear p2
  obtain ⟨x5_1, rfl, HA, HK1, ⟨m1, rfl⟩⟩ := hrel
  cases gk with
  | zero => exact absurd HA.out (by simp [sandpileref08_Holds.l0])
  | succ k1 =>
   have H := HA.out
   clear HA
   simp only [sandpileref08_Holds.l0] at H
   by_cases c3 : x5_1 < (l0.length : Int)
   ·rw [if_pos c3] at H
    have c3b0 : decide (x5_1 < (l0.length : Int)) = true := decide_eq_true c3
    clear c3
    by_cases c4 : 0 ≤ x5_1
    ·rw [if_pos c4] at H
     have c4b0 : decide (0 ≤ x5_1) = true := decide_eq_true c4
     clear c4
     by_cases c5 : (rd l0 x5_1) = a1
     ·rw [if_pos c5] at H
      have c5b0 : ((rd l0 x5_1) == a1) = true := beq_iff_eq.mpr c5
      have c5b1 : ((rd l0 x5_1) != a1) = false := bne_eq_false_iff_eq.mpr c5
      clear c5
      obtain rfl := Option.some.inj H
      have p221 : 0 ≤ (x5_1 : Int) := of_decide_eq_true ‹_›
      have q221 : x5_1 < (l0.length : Int) := of_decide_eq_true ‹_›
      obtain ⟨ad221, e221, hx221_0⟩ := Kd.at_int HR0.out x5_1 p221 q221
      cases e221
      replace p221 := eq_true p221
      replace q221 := eq_true q221
      go_wp2
      go_ret
      exact ⟨zT, by repeat (first | exact Drawn0.refl _ | apply Drawn0.step)⟩
     ·rw [if_neg c5] at H
      have c5b0 : ((rd l0 x5_1) == a1) = false := beq_eq_false_iff_ne.mpr c5
      have c5b1 : ((rd l0 x5_1) != a1) = true := bne_iff_ne.mpr c5
      have H' := Aside0.mk H
      clear H
      have p221 : 0 ≤ (x5_1 : Int) := of_decide_eq_true ‹_›
      have q221 : x5_1 < (l0.length : Int) := of_decide_eq_true ‹_›
      obtain ⟨ad221, e221, hx221_0⟩ := Kd.at_int HR0.out x5_1 p221 q221
      cases e221
      replace p221 := eq_true p221
      replace q221 := eq_true q221
      go_wp2
      go_roundg k1
      case measure => have := HK1.out; omega
      case rel => exact ⟨(wrap64 (x5_1 + 1)), zT, H', ⟨by have := HK1.out; omega⟩, by repeat (first | exact Drawn0.refl _ | apply Drawn0.step)⟩
    ·rw [if_neg c4] at H
     exact absurd H (by simp)
   ·rw [if_neg c3] at H
    have c3b0 : decide (x5_1 < (l0.length : Int)) = false := decide_eq_false c3
    clear c3
    obtain rfl := Option.some.inj H
    go_wp2
    go_ret
    exact ⟨zT, by repeat (first | exact Drawn0.refl _ | apply Drawn0.step)⟩
def sandpileref18_Out.l0 : Nat → List Int → Int → Int → Int → Int → List (S66) → Option (Int)
 | 0, _, _, _, _, _, _ => none
 | k + 1, x1, x2, x7, x8, x223000, x223001 => if x8 < x223000 then ((sandpileref08_Holds.f k x1 x8).bind fun t223 => (if t223 = true then (sandpileref18_Out.l0 k x1 x2 x7 (wrap64 (x8 + 1)) x223000 x223001) else ((sandpileref08_Between.f k x223000 x223001 x2 x8).bind fun t224 => (sandpileref18_Out.l0 k x1 x2 (wrap64 (x7 + t224)) (wrap64 (x8 + 1)) x223000 x223001)))) else (some x7)
def sandpileref18_Out.f (k : Nat) (a0_0 : Int) (l0_1 : List (S66)) (l1 : List Int) (a2 : Int) : Option (Int) := sandpileref18_Out.l0 k l1 a2 0 0 a0_0 l0_1
theorem sandpileref18_Out.calls (k : Nat) (a0_0 : Int) (A0_1 : Option Addr) (c0_1 : Nat) (l0_1 : List (S66)) (A1 : Option Addr) (c1 : Nat) (l1 : List Int) (a2 : Int) (r : Int) (w : World) (hr0_1 : Kd.C k66 w A0_1 l0_1.length l0_1) (hc0_1 : l0_1.length ≤ c0_1) (hr1 : Kd.C (Kd.int .i64) w A1 l1.length l1) (hc1 : l1.length ≤ c1) (h : sandpileref18_Out.f k a0_0 l0_1 l1 a2 = some r) :
  Calls Try.prog 107 #[.agg #[.int .i64 a0_0, .slice A0_1 l0_1.length c0_1], .slice A1 l1.length c1, .int .i64 a2] w fun e w' => e = .returned (.int .i64 r) ∧ Below w.heap.size w w' := by
 have hu24 := Try.underlying24
 have HR0_1 := Aside0.mk hr0_1
 have HC0_1 := Aside0.mk hc0_1
 clear hr0_1 hc0_1
 have HR1 := Aside0.mk hr1
 have HC1 := Aside0.mk hc1
 clear hr1 hc1
 have HB := Aside0.mk (Below.refl w.heap.size w)
 have H : (sandpileref18_Out.l0 k l1 a2 0 0 a0_0 l0_1) = some r := h
 clear h
 have H' := Aside0.mk H
 clear H
 go_enter Try.func107, Try.ntmps107
 go_wp2_with (first | ((with_reducible refine gate_dst (N := 3) rfl ?_); refine zX 3 #[.int .i64 a0_0, .slice A0_1 l0_1.length c0_1] 24 ?_; intro gb222 hg w4 hbox hb; have BK222 := Aside0.mk (hbox); have GW222 := zG HB hg; have GE222 := zG HB hg; replace HB := zS HB hb; clear hb hbox hg))
 go_loopg [7, 8] k (fun kq v7 v8 w' => ∃ (x7_1 : Int) (x8_1 : Int), v7 = .int .i64 x7_1 ∧ v8 = .int .i64 x8_1 ∧ Aside0 (sandpileref18_Out.l0 kq l1 a2 x7_1 x8_1 a0_0 l0_1 = some r) ∧ Aside0 (kq ≤ k) ∧ Aside0 (w'.heap[gb222]? = some (.cells #[.int .i64 a0_0, (.slice A0_1 l0_1.length c0_1)] 24 (0, 0))) ∧ Aside0 (Below w.heap.size w w'))
 case atStart => exact ⟨(0), (0), zT, zT, H', ⟨Nat.le_refl _⟩, ⟨zK BK222⟩, ⟨zB⟩⟩
 case round =>
  clear H'
  try clear c1
  try clear p2
  obtain ⟨x7_1, x8_1, rfl, rfl, HA, HK1, BK222, HB⟩ := hrel
  cases gk with
  | zero => exact absurd HA.out (by simp [sandpileref18_Out.l0])
  | succ k1 =>
   have H := HA.out
   clear HA
   simp only [sandpileref18_Out.l0] at H
   by_cases c5 : x8_1 < a0_0
   ·rw [if_pos c5] at H
    have c5b0 : decide (x8_1 < a0_0) = true := decide_eq_true c5
    clear c5
    replace H := Option.bind_eq_some_iff.mp H
    obtain ⟨t223, A60, H⟩ := H
    replace H : (if t223 = true then (sandpileref18_Out.l0 k1 l1 a2 x7_1 (wrap64 (x8_1 + 1)) a0_0 l0_1) else ((sandpileref08_Between.f k1 a0_0 l0_1 a2 x8_1).bind fun t224 => (sandpileref18_Out.l0 k1 l1 a2 (wrap64 (x7_1 + t224)) (wrap64 (x8_1 + 1)) a0_0 l0_1))) = some r := H
    have A6 := Aside0.mk A60
    clear A60
    by_cases c7 : t223 = true
    ·subst c7
     have H1 : (sandpileref18_Out.l0 k1 l1 a2 x7_1 (wrap64 (x8_1 + 1)) a0_0 l0_1) = some r := by rw [if_pos rfl] at H; exact H
     clear H
     have H := H1
     clear H1
     have H' := Aside0.mk H
     clear H
     obtain ⟨hcz8_0, hcz8_1, hfz8_0, hfz8_1⟩ := zD2 BK222
     go_wp2_with (first | ((with_reducible refine gate_callee (f := 94) rfl ?_); refine zL (some 17) Try.func94 #[.slice A1 l1.length c1, .int .i64 x8_1] ?_; (with_reducible refine (sandpileref08_Holds.calls k1 _ _ l1 x8_1 true _ ?side1 ?side2 A6.out).mono ?_); (case side1 => exact Kd.C_below HR1.out zB); (case side2 => exact HC1.out); rintro e w' ⟨rfl, ⟨nd, rfl⟩⟩; refine ⟨_, rfl, ?_⟩))
     go_roundg k1
     case measure => have := HK1.out; omega
     case rel => exact ⟨(x7_1), (wrap64 (x8_1 + 1)), zT, zT, H', ⟨by have := HK1.out; omega⟩, ⟨zK BK222⟩, ⟨zB⟩⟩
    ·replace c7 := Bool.eq_false_iff.mpr c7
     subst c7
     have H1 : ((sandpileref08_Between.f k1 a0_0 l0_1 a2 x8_1).bind fun t224 => (sandpileref18_Out.l0 k1 l1 a2 (wrap64 (x7_1 + t224)) (wrap64 (x8_1 + 1)) a0_0 l0_1)) = some r := by rw [if_neg (show ¬ (false = true) by decide)] at H; exact H
     clear H
     have H := H1
     clear H1
     replace H := Option.bind_eq_some_iff.mp H
     obtain ⟨t224, A90, H⟩ := H
     replace H : (sandpileref18_Out.l0 k1 l1 a2 (wrap64 (x7_1 + t224)) (wrap64 (x8_1 + 1)) a0_0 l0_1) = some r := H
     have A9 := Aside0.mk A90
     clear A90
     have H' := Aside0.mk H
     clear H
     obtain ⟨hcz10_0, hcz10_1, hfz10_0, hfz10_1⟩ := zD2 BK222
     go_wp2_with (first | ((with_reducible refine gate_callee (f := 94) rfl ?_); refine zL (some 17) Try.func94 #[.slice A1 l1.length c1, .int .i64 x8_1] ?_; (with_reducible refine (sandpileref08_Holds.calls k1 _ _ l1 x8_1 false _ ?side1 ?side2 A6.out).mono ?_); (case side1 => exact Kd.C_below HR1.out zB); (case side2 => exact HC1.out); rintro e w' ⟨rfl, ⟨nd, rfl⟩⟩; refine ⟨_, rfl, ?_⟩) | ((with_reducible refine gate_callee (f := 97) rfl ?_); refine zL (some 23) Try.func97 #[.agg #[.int .i64 a0_0, .slice A0_1 l0_1.length c0_1], .int .i64 a2, .int .i64 x8_1] ?_; (with_reducible refine (sandpileref08_Between.calls k1 a0_0 _ _ l0_1 a2 x8_1 t224 _ ?side1 ?side2 A9.out).mono ?_); (case side1 => exact Kd.C_below HR0_1.out zB); (case side2 => exact HC0_1.out); rintro e w11 ⟨rfl, hb⟩; refine ⟨_, rfl, ?_⟩; replace BK222 := zb BK222 hb; replace HB := zS HB hb; (try clear hb)))
     go_roundg k1
     case measure => have := HK1.out; omega
     case rel => exact ⟨(wrap64 (x7_1 + t224)), (wrap64 (x8_1 + 1)), zT, zT, H', ⟨by have := HK1.out; omega⟩, ⟨zK BK222⟩, ⟨zB⟩⟩
   ·rw [if_neg c5] at H
    have c5b0 : decide (x8_1 < a0_0) = false := decide_eq_false c5
    clear c5
    obtain rfl := Option.some.inj H
    obtain ⟨hcz12_0, hcz12_1, hfz12_0, hfz12_1⟩ := zD2 BK222
    go_wp2
    go_ret
    exact ⟨zE, zB⟩
def sandpileref18_MaySet.l0 : Nat → List Int → List Int → Int → Int → Int → List (S66) → Option (Bool)
 | 0, _, _, _, _, _, _ => none
 | k + 1, x1, x2, x7, x8, x226000, x226001 => if x8 < (x2.length : Int) then (if 0 ≤ x8 then ((sandpileref18_Out.f k x226000 x226001 x2 (rd x2 x8)).bind fun t227 => (if 0 ≤ (rd x2 x8) then (if (rd x2 x8) < (x1.length : Int) then (if (rd x1 (rd x2 x8)) < t227 then (some false) else (sandpileref18_MaySet.l0 k x1 x2 (wrap64 (x7 + t227)) (wrap64 (x8 + 1)) x226000 x226001)) else (none)) else (none))) else (none)) else (some (decide (x7 > 0)))
def sandpileref18_MaySet.f (k : Nat) (a0_0 : Int) (l0_1 : List (S66)) (l1 : List Int) (l2 : List Int) : Option (Bool) := sandpileref18_MaySet.l0 k l1 l2 0 0 a0_0 l0_1
def sandpileref18_MaySet.T5 : Bool × List (List Nat × List Nat) := (true, [([], []), ([], []), ([], []), ([], []), ([2, 3], [2, 3]), ([4], [4]), ([0, 1, 5], [0, 1, 5]), ([6, 6, 0, 1, 2, 3, 4, 5, 6], [6])])
def sandpileref18_MaySet.B5 : List Nat := [0, 0, 0, 0, 12, 28, 63, 127]
theorem sandpileref18_MaySet.tab5 : rtab .any (opsOf Try.f95 5) = sandpileref18_MaySet.T5 := by kernel_rfl
theorem sandpileref18_MaySet.bits5 : waitsOk sandpileref18_MaySet.T5.2 sandpileref18_MaySet.B5 = true := by kernel_rfl
theorem sandpileref18_MaySet.calls (k : Nat) (a0_0 : Int) (A0_1 : Option Addr) (c0_1 : Nat) (l0_1 : List (S66)) (A1 : Option Addr) (c1 : Nat) (l1 : List Int) (A2 : Option Addr) (c2 : Nat) (l2 : List Int) (r : Bool) (w : World) (hr0_1 : Kd.C k66 w A0_1 l0_1.length l0_1) (hc0_1 : l0_1.length ≤ c0_1) (hr1 : Kd.C (Kd.int .i64) w A1 l1.length l1) (hc1 : l1.length ≤ c1) (hr2 : Kd.C (Kd.int .i64) w A2 l2.length l2) (hc2 : l2.length ≤ c2) (h : sandpileref18_MaySet.f k a0_0 l0_1 l1 l2 = some r) :
  Calls Try.prog 95 #[.agg #[.int .i64 a0_0, .slice A0_1 l0_1.length c0_1], .slice A1 l1.length c1, .slice A2 l2.length c2] w fun e w' => e = .returned (.bool r) ∧ Below w.heap.size w w' := by
 have hu24 := Try.underlying24
 have HR0_1 := Aside0.mk hr0_1
 have HC0_1 := Aside0.mk hc0_1
 clear hr0_1 hc0_1
 have HR1 := Aside0.mk hr1
 have HC1 := Aside0.mk hc1
 clear hr1 hc1
 have HR2 := Aside0.mk hr2
 have HC2 := Aside0.mk hc2
 clear hr2 hc2
 have HB := Aside0.mk (Below.refl w.heap.size w)
 have H : (sandpileref18_MaySet.l0 k l1 l2 0 0 a0_0 l0_1) = some r := h
 clear h
 have H' := Aside0.mk H
 clear H
 go_enter Try.func95, Try.ntmps95
 go_wp2_with (first | ((with_reducible refine gate_dst (N := 3) rfl ?_); refine zX 3 #[.int .i64 a0_0, .slice A0_1 l0_1.length c0_1] 24 ?_; intro gb225 hg w4 hbox hb; have BK225 := Aside0.mk (hbox); have GW225 := zG HB hg; have GE225 := zG HB hg; replace HB := zS HB hb; clear hb hbox hg))
 go_loopg [7, 8] k (fun kq v7 v8 w' => ∃ (x7_1 : Int) (x8_1 : Int), v7 = .int .i64 x7_1 ∧ v8 = .int .i64 x8_1 ∧ Aside0 (sandpileref18_MaySet.l0 kq l1 l2 x7_1 x8_1 a0_0 l0_1 = some r) ∧ Aside0 (kq ≤ k) ∧ Aside0 (w'.heap[gb225]? = some (.cells #[.int .i64 a0_0, (.slice A0_1 l0_1.length c0_1)] 24 (0, 0))) ∧ Aside0 (Below w.heap.size w w'))
 case atStart => exact ⟨(0), (0), zT, zT, H', ⟨Nat.le_refl _⟩, ⟨zK BK225⟩, ⟨zB⟩⟩
 case round =>
  clear H'
  try clear c1
  try clear c2
  try clear p2
  obtain ⟨x7_1, x8_1, rfl, rfl, HA, HK1, BK225, HB⟩ := hrel
  cases gk with
  | zero => exact absurd HA.out (by simp [sandpileref18_MaySet.l0])
  | succ k1 =>
   have H := HA.out
   clear HA
   simp only [sandpileref18_MaySet.l0] at H
   by_cases c5 : x8_1 < (l2.length : Int)
   ·rw [if_pos c5] at H
    have c5b0 : decide (x8_1 < (l2.length : Int)) = true := decide_eq_true c5
    clear c5
    by_cases c6 : 0 ≤ x8_1
    ·rw [if_pos c6] at H
     have c6b0 : decide (0 ≤ x8_1) = true := decide_eq_true c6
     clear c6
     replace H := Option.bind_eq_some_iff.mp H
     obtain ⟨t227, A70, H⟩ := H
     replace H : (if 0 ≤ (rd l2 x8_1) then (if (rd l2 x8_1) < (l1.length : Int) then (if (rd l1 (rd l2 x8_1)) < t227 then (some false) else (sandpileref18_MaySet.l0 k1 l1 l2 (wrap64 (x7_1 + t227)) (wrap64 (x8_1 + 1)) a0_0 l0_1)) else (none)) else (none)) = some r := H
     have A7 := Aside0.mk A70
     clear A70
     by_cases c8 : 0 ≤ (rd l2 x8_1)
     ·rw [if_pos c8] at H
      have c8b0 : decide (0 ≤ (rd l2 x8_1)) = true := decide_eq_true c8
      clear c8
      by_cases c9 : (rd l2 x8_1) < (l1.length : Int)
      ·rw [if_pos c9] at H
       have c9b0 : decide ((rd l2 x8_1) < (l1.length : Int)) = true := decide_eq_true c9
       clear c9
       by_cases c10 : (rd l1 (rd l2 x8_1)) < t227
       ·rw [if_pos c10] at H
        have c10b0 : decide ((rd l1 (rd l2 x8_1)) < t227) = true := decide_eq_true c10
        clear c10
        obtain rfl := Option.some.inj H
        try go_wp2
        have n0_ := Aside0.mk (blk_drew BK225.out)
        have n1_ := Aside0.mk (below_drew1 HB.out)
        clear BK225
        clear HB
        have BK225 := n0_
        have HB := n1_
        clear n0_ n1_
        have p226 : 0 ≤ (x8_1 : Int) := of_decide_eq_true ‹_›
        have q226 : x8_1 < (l2.length : Int) := of_decide_eq_true ‹_›
        obtain ⟨ad226, e226, hx226_0⟩ := Kd.at_int HR2.out x8_1 p226 q226
        have hw226_0 := hx226_0
        cases e226
        replace hx226_0 := (HB.out.cell (World.block_lt_of_cell? w _ hx226_0)).trans hx226_0
        replace p226 := eq_true p226
        replace q226 := eq_true q226
        refine start_ (n := 8) (S := fun w' => w'.cell? ⟨gb225, 0, none⟩ = some (.int .i64 a0_0) ∧ w'.cell? ⟨gb225, 1, none⟩ = some (.slice A0_1 l0_1.length c0_1) ∧ w'.cell? (ad226.add (x8_1).toNat) = some (.int .i64 (rd l2 x8_1))) (ds := []) #[false, false, false, false, false, false, false, false] (by kernel_rfl) rfl rfl ⟨(blk_cell BK225.out 0).trans rfl, (blk_cell BK225.out 1).trans rfl, ((HB.out.cell (World.block_lt_of_cell? w _ hw226_0)).trans hw226_0)⟩ (fun hHeld => ?_); refine with_tabW sandpileref18_MaySet.tab5 sandpileref18_MaySet.bits5 (fun HT_ HW_ => ?_)
        generalize wr.drew = w11 at BK225 HB hx226_0 hHeld ⊢
        refine pure_ (i := 1) (N := some 17) (v := ?_) (a' := ?_) #[false, true, false, false, false, false, false, false] rfl rfl (any_of HT_.out (by kernel_rfl)) (fun _ _ _ h => h) (Or.inl ⟨by rfl, ?_⟩) ?_ ?_
        rotate_left
        ·intro w'
         go_simp
         with_reducible rfl
        rotate_left
        ·simp only [Act.put, List.setIfInBounds_toArray, List.set_cons_zero, List.set_cons_succ, i64_w, i32_w]
         rfl
        refine pure_ (i := 2) (N := some 18) (v := ?_) (a' := ?_) #[false, true, true, false, false, false, false, false] rfl rfl (any_of HT_.out (by kernel_rfl)) (fun _ _ _ h => h) (Or.inl ⟨by rfl, ?_⟩) ?_ ?_
        rotate_left
        ·intro w'
         go_simp
         with_reducible rfl
        rotate_left
        ·simp only [Act.put, List.setIfInBounds_toArray, List.set_cons_zero, List.set_cons_succ, i64_w, i32_w]
         rfl
        refine pure_ (i := 3) (N := some 19) (v := ?_) (a' := ?_) #[false, true, true, true, false, false, false, false] rfl rfl (any_of HT_.out (by kernel_rfl)) (fun _ _ _ h => h) (Or.inl ⟨by rfl, ?_⟩) ?_ ?_
        rotate_left
        ·intro w'
         go_simp
         with_reducible rfl
        rotate_left
        ·simp only [Act.put, List.setIfInBounds_toArray, List.set_cons_zero, List.set_cons_succ, i64_w, i32_w]
         rfl
        refine pure_ (i := 4) (N := some 20) (v := ?_) (a' := ?_) #[false, true, true, true, true, false, false, false] rfl rfl (any_of HT_.out (by kernel_rfl)) (fun _ _ _ h => h) (Or.inl ⟨by rfl, ?_⟩) ?_ ?_
        rotate_left
        ·intro w'
         go_simp
         with_reducible rfl
        rotate_left
        ·simp only [Act.put, List.setIfInBounds_toArray, List.set_cons_zero, List.set_cons_succ, i64_w, i32_w]
         rfl
        refine take_ (i := 0) (N := some 16) (v := ?_) (a' := ?_) #[true, true, true, true, true, false, false, false] rfl rfl (take_ofW HT_.out HW_.out (by kernel_rfl)) (fun _ _ _ h => h) (Or.inl ⟨by rfl, ?_⟩) hHeld ?_ ?_
        rotate_left
        ·rintro w' ⟨s0, s1, s2⟩
         go_simp
         with_reducible rfl
        rotate_left
        ·simp only [Act.put, List.setIfInBounds_toArray, List.set_cons_zero, List.set_cons_succ, i64_w, i32_w]
         rfl
        refine take_ (i := 5) (N := some 21) (v := ?_) (a' := ?_) #[true, true, true, true, true, true, false, false] rfl rfl (take_ofW HT_.out HW_.out (by kernel_rfl)) (fun _ _ _ h => h) (Or.inl ⟨by rfl, ?_⟩) hHeld ?_ ?_
        rotate_left
        ·rintro w' ⟨s0, s1, s2⟩
         go_simp
         with_reducible rfl
        rotate_left
        ·simp only [Act.put, List.setIfInBounds_toArray, List.set_cons_zero, List.set_cons_succ, i64_w, i32_w]
         rfl
        refine one_ (i := 6) (N := some 22) #[true, true, true, true, true, true, true, false] rfl rfl (one_of HT_.out (by kernel_rfl)) (by decide) (fun K hK => ?_)
        refine goes_ Try.func107 (by kernel_rfl) rfl #[.agg #[.int .i64 a0_0, .slice A0_1 l0_1.length c0_1], .slice (some ad226) l2.length c2, .int .i64 (rd l2 x8_1)] (by rfl) rfl rfl (by (try simp only [List.map_toArray, List.map_cons, List.map_nil]); first | done | rfl | (simp only [List.length_drop, List.length_take]; rfl)) ?_
        with_reducible refine (sandpileref18_Out.calls k1 a0_0 _ _ l0_1 _ _ l2 (rd l2 x8_1) t227 _ ?side1 ?side2 ?side3 ?side4 A7.out).mono ?_
        (case side1 => exact Kd.C_below HR0_1.out zB)
        (case side2 => exact HC0_1.out)
        (case side3 => exact Kd.C_below HR2.out zB)
        (case side4 => exact HC2.out)
        rintro e w12 ⟨rfl, hb⟩
        refine ⟨_, rfl, ?_⟩
        have n0_ := zb BK225 hb
        have n1_ := zS HB hb
        clear BK225
        clear HB
        have BK225 := n0_
        have HB := n1_
        clear n0_ n1_
        (try clear hb)
        skip
        skip
        skip
        refine hK.out _ _ ⟨(blk_cell BK225.out 0).trans rfl, (blk_cell BK225.out 1).trans rfl, ((HB.out.cell (World.block_lt_of_cell? w _ hw226_0)).trans hw226_0)⟩ (fun hHeld => ?_)
        clear hK K
        refine norm_ (a' := ?_) ?_ ?_
        rotate_left
        ·show Act.put _ (some 22) _ = _
         simp only [Act.put, List.setIfInBounds_toArray, List.set_cons_zero, List.set_cons_succ, i64_w, i32_w]
         rfl
        refine pure_ (i := 7) (N := some 9) (v := ?_) (a' := ?_) #[true, true, true, true, true, true, true, true] rfl rfl (any_of HT_.out (by kernel_rfl)) (fun _ _ _ h => h) (Or.inl ⟨by rfl, ?_⟩) ?_ ?_
        rotate_left
        ·intro w'
         go_simp
         with_reducible rfl
        rotate_left
        ·simp only [Act.put, List.setIfInBounds_toArray, List.set_cons_zero, List.set_cons_succ, i64_w, i32_w]
         rfl
        refine done_ (done_of HT_.out (by kernel_rfl)) ?_
        have p228 : 0 ≤ (x8_1 : Int) := of_decide_eq_true ‹_›
        have q228 : x8_1 < (l2.length : Int) := of_decide_eq_true ‹_›
        obtain ⟨ad228, e228, hx228_0⟩ := Kd.at_int HR2.out x8_1 p228 q228
        obtain rfl : ad226 = ad228 := (by injection e228)
        replace hx228_0 := (HB.out.cell (World.block_lt_of_cell? w _ hx228_0)).trans hx228_0
        replace p228 := eq_true p228
        replace q228 := eq_true q228
        have p229 : 0 ≤ ((rd l2 x8_1) : Int) := of_decide_eq_true ‹_›
        have q229 : (rd l2 x8_1) < (l1.length : Int) := of_decide_eq_true ‹_›
        obtain ⟨ad229, e229, hx229_0⟩ := Kd.at_int HR1.out (rd l2 x8_1) p229 q229
        cases e229
        replace hx229_0 := (HB.out.cell (World.block_lt_of_cell? w _ hx229_0)).trans hx229_0
        replace p229 := eq_true p229
        replace q229 := eq_true q229
        try go_wp2
        go_ret
        exact ⟨zE, zB⟩
       ·rw [if_neg c10] at H
        have c10b0 : decide ((rd l1 (rd l2 x8_1)) < t227) = false := decide_eq_false c10
        clear c10
        have H' := Aside0.mk H
        clear H
        try go_wp2
        have n0_ := Aside0.mk (blk_drew BK225.out)
        have n1_ := Aside0.mk (below_drew1 HB.out)
        clear BK225
        clear HB
        have BK225 := n0_
        have HB := n1_
        clear n0_ n1_
        have p226 : 0 ≤ (x8_1 : Int) := of_decide_eq_true ‹_›
        have q226 : x8_1 < (l2.length : Int) := of_decide_eq_true ‹_›
        obtain ⟨ad226, e226, hx226_0⟩ := Kd.at_int HR2.out x8_1 p226 q226
        have hw226_0 := hx226_0
        cases e226
        replace hx226_0 := (HB.out.cell (World.block_lt_of_cell? w _ hx226_0)).trans hx226_0
        replace p226 := eq_true p226
        replace q226 := eq_true q226
        refine start_ (n := 8) (S := fun w' => w'.cell? ⟨gb225, 0, none⟩ = some (.int .i64 a0_0) ∧ w'.cell? ⟨gb225, 1, none⟩ = some (.slice A0_1 l0_1.length c0_1) ∧ w'.cell? (ad226.add (x8_1).toNat) = some (.int .i64 (rd l2 x8_1))) (ds := []) #[false, false, false, false, false, false, false, false] (by kernel_rfl) rfl rfl ⟨(blk_cell BK225.out 0).trans rfl, (blk_cell BK225.out 1).trans rfl, ((HB.out.cell (World.block_lt_of_cell? w _ hw226_0)).trans hw226_0)⟩ (fun hHeld => ?_); refine with_tabW sandpileref18_MaySet.tab5 sandpileref18_MaySet.bits5 (fun HT_ HW_ => ?_)
        generalize wr.drew = w13 at BK225 HB hx226_0 hHeld ⊢
        refine pure_ (i := 1) (N := some 17) (v := ?_) (a' := ?_) #[false, true, false, false, false, false, false, false] rfl rfl (any_of HT_.out (by kernel_rfl)) (fun _ _ _ h => h) (Or.inl ⟨by rfl, ?_⟩) ?_ ?_
        rotate_left
        ·intro w'
         go_simp
         with_reducible rfl
        rotate_left
        ·simp only [Act.put, List.setIfInBounds_toArray, List.set_cons_zero, List.set_cons_succ, i64_w, i32_w]
         rfl
        refine pure_ (i := 2) (N := some 18) (v := ?_) (a' := ?_) #[false, true, true, false, false, false, false, false] rfl rfl (any_of HT_.out (by kernel_rfl)) (fun _ _ _ h => h) (Or.inl ⟨by rfl, ?_⟩) ?_ ?_
        rotate_left
        ·intro w'
         go_simp
         with_reducible rfl
        rotate_left
        ·simp only [Act.put, List.setIfInBounds_toArray, List.set_cons_zero, List.set_cons_succ, i64_w, i32_w]
         rfl
        refine pure_ (i := 3) (N := some 19) (v := ?_) (a' := ?_) #[false, true, true, true, false, false, false, false] rfl rfl (any_of HT_.out (by kernel_rfl)) (fun _ _ _ h => h) (Or.inl ⟨by rfl, ?_⟩) ?_ ?_
        rotate_left
        ·intro w'
         go_simp
         with_reducible rfl
        rotate_left
        ·simp only [Act.put, List.setIfInBounds_toArray, List.set_cons_zero, List.set_cons_succ, i64_w, i32_w]
         rfl
        refine pure_ (i := 4) (N := some 20) (v := ?_) (a' := ?_) #[false, true, true, true, true, false, false, false] rfl rfl (any_of HT_.out (by kernel_rfl)) (fun _ _ _ h => h) (Or.inl ⟨by rfl, ?_⟩) ?_ ?_
        rotate_left
        ·intro w'
         go_simp
         with_reducible rfl
        rotate_left
        ·simp only [Act.put, List.setIfInBounds_toArray, List.set_cons_zero, List.set_cons_succ, i64_w, i32_w]
         rfl
        refine take_ (i := 0) (N := some 16) (v := ?_) (a' := ?_) #[true, true, true, true, true, false, false, false] rfl rfl (take_ofW HT_.out HW_.out (by kernel_rfl)) (fun _ _ _ h => h) (Or.inl ⟨by rfl, ?_⟩) hHeld ?_ ?_
        rotate_left
        ·rintro w' ⟨s0, s1, s2⟩
         go_simp
         with_reducible rfl
        rotate_left
        ·simp only [Act.put, List.setIfInBounds_toArray, List.set_cons_zero, List.set_cons_succ, i64_w, i32_w]
         rfl
        refine take_ (i := 5) (N := some 21) (v := ?_) (a' := ?_) #[true, true, true, true, true, true, false, false] rfl rfl (take_ofW HT_.out HW_.out (by kernel_rfl)) (fun _ _ _ h => h) (Or.inl ⟨by rfl, ?_⟩) hHeld ?_ ?_
        rotate_left
        ·rintro w' ⟨s0, s1, s2⟩
         go_simp
         with_reducible rfl
        rotate_left
        ·simp only [Act.put, List.setIfInBounds_toArray, List.set_cons_zero, List.set_cons_succ, i64_w, i32_w]
         rfl
        refine one_ (i := 6) (N := some 22) #[true, true, true, true, true, true, true, false] rfl rfl (one_of HT_.out (by kernel_rfl)) (by decide) (fun K hK => ?_)
        refine goes_ Try.func107 (by kernel_rfl) rfl #[.agg #[.int .i64 a0_0, .slice A0_1 l0_1.length c0_1], .slice (some ad226) l2.length c2, .int .i64 (rd l2 x8_1)] (by rfl) rfl rfl (by (try simp only [List.map_toArray, List.map_cons, List.map_nil]); first | done | rfl | (simp only [List.length_drop, List.length_take]; rfl)) ?_
        with_reducible refine (sandpileref18_Out.calls k1 a0_0 _ _ l0_1 _ _ l2 (rd l2 x8_1) t227 _ ?side1 ?side2 ?side3 ?side4 A7.out).mono ?_
        (case side1 => exact Kd.C_below HR0_1.out zB)
        (case side2 => exact HC0_1.out)
        (case side3 => exact Kd.C_below HR2.out zB)
        (case side4 => exact HC2.out)
        rintro e w14 ⟨rfl, hb⟩
        refine ⟨_, rfl, ?_⟩
        have n0_ := zb BK225 hb
        have n1_ := zS HB hb
        clear BK225
        clear HB
        have BK225 := n0_
        have HB := n1_
        clear n0_ n1_
        (try clear hb)
        skip
        skip
        skip
        refine hK.out _ _ ⟨(blk_cell BK225.out 0).trans rfl, (blk_cell BK225.out 1).trans rfl, ((HB.out.cell (World.block_lt_of_cell? w _ hw226_0)).trans hw226_0)⟩ (fun hHeld => ?_)
        clear hK K
        refine norm_ (a' := ?_) ?_ ?_
        rotate_left
        ·show Act.put _ (some 22) _ = _
         simp only [Act.put, List.setIfInBounds_toArray, List.set_cons_zero, List.set_cons_succ, i64_w, i32_w]
         rfl
        refine pure_ (i := 7) (N := some 9) (v := ?_) (a' := ?_) #[true, true, true, true, true, true, true, true] rfl rfl (any_of HT_.out (by kernel_rfl)) (fun _ _ _ h => h) (Or.inl ⟨by rfl, ?_⟩) ?_ ?_
        rotate_left
        ·intro w'
         go_simp
         with_reducible rfl
        rotate_left
        ·simp only [Act.put, List.setIfInBounds_toArray, List.set_cons_zero, List.set_cons_succ, i64_w, i32_w]
         rfl
        refine done_ (done_of HT_.out (by kernel_rfl)) ?_
        have p228 : 0 ≤ (x8_1 : Int) := of_decide_eq_true ‹_›
        have q228 : x8_1 < (l2.length : Int) := of_decide_eq_true ‹_›
        obtain ⟨ad228, e228, hx228_0⟩ := Kd.at_int HR2.out x8_1 p228 q228
        obtain rfl : ad226 = ad228 := (by injection e228)
        replace hx228_0 := (HB.out.cell (World.block_lt_of_cell? w _ hx228_0)).trans hx228_0
        replace p228 := eq_true p228
        replace q228 := eq_true q228
        have p229 : 0 ≤ ((rd l2 x8_1) : Int) := of_decide_eq_true ‹_›
        have q229 : (rd l2 x8_1) < (l1.length : Int) := of_decide_eq_true ‹_›
        obtain ⟨ad229, e229, hx229_0⟩ := Kd.at_int HR1.out (rd l2 x8_1) p229 q229
        cases e229
        replace hx229_0 := (HB.out.cell (World.block_lt_of_cell? w _ hx229_0)).trans hx229_0
        replace p229 := eq_true p229
        replace q229 := eq_true q229
        try go_wp2
        go_roundg k1
        case measure => have := HK1.out; omega
        case rel => exact ⟨(wrap64 (x7_1 + t227)), (wrap64 (x8_1 + 1)), zT, zT, H', ⟨by have := HK1.out; omega⟩, ⟨zK BK225⟩, ⟨zB⟩⟩
      ·rw [if_neg c9] at H
       exact absurd H (by simp)
     ·rw [if_neg c8] at H
      exact absurd H (by simp)
    ·rw [if_neg c6] at H
     exact absurd H (by simp)
   ·rw [if_neg c5] at H
    have c5b0 : decide (x8_1 < (l2.length : Int)) = false := decide_eq_false c5
    clear c5
    obtain rfl := Option.some.inj H
    go_wp2
    go_ret
    exact ⟨zE, zB⟩
end Go.Proofs.Ytffdiakgjakngaa.P
