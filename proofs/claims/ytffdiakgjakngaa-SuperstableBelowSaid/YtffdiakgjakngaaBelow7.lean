/- A part of the proof that SuperstableBelow answers true (text 7 of 12): own walks and plain laws; no conditions. -/
import Derived.Test.YtffdiakgjakngaaBelow6
namespace Go.Proofs.Ytffdiakgjakngaa.P
open Go.RowKit Go.Proofs.YtffdiakgjakngaaW.PrintWords Go.Proofs.YtffdiakgjakngaaW.PrintLast Go.Proofs.YtffdiakgjakngaaW.PrintMore
set_option linter.unusedVariables false
set_option linter.unusedSimpArgs false
set_option maxHeartbeats 8000000
set_option maxRecDepth 100000
def risesTo (x : List Int) (q : Int) (r : Nat → List Int) (k : Nat) : Bool := (List.range k).any fun v => decide ((v : Int) ≠ q) && decide (rd x v < rd (r v) v)
theorem risesTo_succ (x : List Int) (q : Int) (r : Nat → List Int) (k : Nat) : risesTo x q r (k + 1) = (risesTo x q r k || (decide ((k : Int) ≠ q) && decide (rd x k < rd (r k) k))) := by simp [risesTo, List.range_succ, List.any_append]
theorem risesTo_true {x : List Int} {q : Int} {r : Nat → List Int} {k n : Nat} (hk : k < n) (hq : (k : Int) ≠ q) (h : rd x k < rd (r k) k) : risesTo x q r n = true := by
 unfold risesTo
 rw [List.any_eq_true]
 exact ⟨k, List.mem_range.2 hk, by simp [hq, h]⟩
theorem maximal1_calls (K : Nat) (N : Int) (A0 : Option Addr) (c0 : Nat) (E : List S66) (q : Int) (qx gx : Nat) (A : Option Addr) (c : Nat) (x : List Int) (r : Nat → List Int) (W : World) (hr0 : Kd.C k66 W A0 E.length E) (hc0 : E.length ≤ c0) (hg : W.heap[gx]? = some (.cells #[.int .i64 N, .slice A0 E.length c0] 24 (0, 0))) (hq : W.heap[qx]? = some (.cells #[.int .i64 q] 3 (0, 0)))
  (hx : Kd.C (Kd.int .i64) W A x.length x) (hc : x.length ≤ c) (hr : ∀ v : Nat, v < x.length → (v : Int) ≠ q → superstable_raised.f K N E q x v = some (r v) ∧ v < (r v).length) :
  Calls Try.prog 52 #[.slice A x.length c, .pointer (some ⟨qx, 0, none⟩), .pointer (some ⟨gx, 0, none⟩)] W fun e w' => e = .returned (.bool (risesTo x q r x.length)) ∧ Below W.heap.size W w' := by
 have HR0 := Aside0.mk hr0
 have HG := Aside0.mk hg
 have HQ := Aside0.mk hq
 have HX := Aside0.mk hx
 have HR := Aside0.mk hr
 have hlb : x.length ≤ 9223372036854775807 := Kd.C_max hx
 clear hr0 hg hq hx hr
 go_enter Try.func52, Try.ntmps52
 go_wp2
 go_loopw [10] (fun i wr => ∃ k : Nat, k ≤ x.length ∧ i = .int .i64 k ∧ Aside0 (risesTo x q r k = false) ∧ Aside0 (Below W.heap.size W wr)) (fun i _ => x.length - (intOf i).toNat)
 case atStart => exact ⟨0, by omega, rfl, ⟨rfl⟩, ⟨Below.refl _ _⟩⟩
 case round =>
  obtain ⟨k, hk, rfl, HF, HB⟩ := hrel
  have hq0 : wr.cell? ⟨qx, 0, none⟩ = some (.int .i64 q) := (blk_cell (blk_below HQ.out HB.out) 0).trans rfl
  have hg0 : wr.cell? ⟨gx, 0, none⟩ = some (.int .i64 N) := (blk_cell (blk_below HG.out HB.out) 0).trans rfl
  have hg1 : wr.cell? ⟨gx, 1, none⟩ = some (.slice A0 E.length c0) := (blk_cell (blk_below HG.out HB.out) 1).trans rfl
  have hu := Try.underlying24
  by_cases hkl : k < x.length
  ·have hC := Kd.C_below HX.out HB.out
   have HC := Aside0.mk hC
   obtain ⟨ad, rfl, hx0⟩ := Kd.at_int hC k (by omega) (by omega)
   rw [Int.toNat_natCast] at hx0
   have hk0 : (0 : Int) ≤ (k : Int) := by omega
   have hk1 : (k : Int) < (x.length : Int) := by omega
   clear hC
   by_cases hkq : (k : Int) = q
   ·have HS := Aside0.mk (show risesTo x q r (k + 1) = false from by rw [risesTo_succ, HF.out]; simp [hkq])
    have hqb : ((k : Int) == q) = true := by simpa using hkq
    have HKQ := Aside0.mk hkq
    clear hkq
    go_wp2
    go_roundw
    case rel => exact ⟨k + 1, by omega, by go_num, HS, HB⟩
    case measure => exact (show x.length - ((k : Int) + 1).toNat < x.length - ((k : Int)).toNat by omega)
   ·have hqb : ((k : Int) == q) = false := by simpa using hkq
    obtain ⟨hrf, hrl⟩ := HR.out k hkl hkq
    have HRF := Aside0.mk (superstable_raised.calls K N A0 c0 E q (some ad) c x k (r k) wr (Kd.C_below HR0.out HB.out) hc0 HC.out hc hrf)
    have HKQ := Aside0.mk hkq
    clear hkq hrf
    by_cases hup : rd x k < rd (r k) k
    ·have HT := Aside0.mk (risesTo_true (n := x.length) hkl HKQ.out hup)
     have hk2 : (k : Int) < ((r k).length : Int) := by omega
     go_wp2_with (go_at_call 53; refine HRF.out.mono ?_; rintro e w1 ⟨v1, rfl, hr1, hb1⟩; obtain ⟨Ar, cr, rfl⟩ := Kd.R_slice hr1; obtain ⟨-, -, hC1⟩ := Kd.R_reads' hr1; obtain ⟨ad1, rfl, hy⟩ := Kd.at_int hC1 k (by omega) (by omega); rw [Int.toNat_natCast] at hy; have HB1 := Aside0.mk hb1; clear hr1 hb1 hC1)
     go_ret
     exact ⟨by rw [HT.out]; rfl, HB.out.trans (HB1.out.mono HB.out.size)⟩
    ·have HS := Aside0.mk (show risesTo x q r (k + 1) = false from by rw [risesTo_succ, HF.out]; simp [hup])
     have hup' : ¬ rd (r k) k > rd x k := hup
     have hk2 : (k : Int) < ((r k).length : Int) := by omega
     go_wp2_with (go_at_call 53; refine HRF.out.mono ?_; rintro e w1 ⟨v1, rfl, hr1, hb1⟩; obtain ⟨Ar, cr, rfl⟩ := Kd.R_slice hr1; obtain ⟨-, -, hC1⟩ := Kd.R_reads' hr1; obtain ⟨ad1, rfl, hy⟩ := Kd.at_int hC1 k (by omega) (by omega); rw [Int.toNat_natCast] at hy; have HB1 := Aside0.mk hb1; clear hr1 hb1 hC1)
     go_roundw
     case rel => exact ⟨k + 1, by omega, by go_num, HS, ⟨HB.out.trans (HB1.out.mono HB.out.size)⟩⟩
     case measure => exact (show x.length - ((k : Int) + 1).toNat < x.length - ((k : Int)).toNat by omega)
  ·obtain rfl : k = x.length := by omega
   go_wp2
   go_ret
   exact ⟨by rw [HF.out]; rfl, HB.out⟩
theorem top_bad (k : Nat) (N : Int) (A0 : Option Addr) (c0 : Nat) (E : List S66) (q : Int) (l : List (List Int)) (t : Int) (w : World) (hr0 : Kd.C k66 w A0 E.length E) (hc0 : E.length ≤ c0) (hf : superstable_All.f k N E q = some (l, t)) (ht : t ≠ 0) :
  Calls Try.prog 20 #[.agg #[.int .i64 N, .slice A0 E.length c0], .int .i64 q] w fun e w' => e = .returned (.tuple #[.slice none 0 0, .int .i64 t]) ∧ Below w.heap.size w w' := by
 have hu := Try.underlying24
 have Hf := Aside0.mk hf
 have hne : (t != 0) = true := by simpa using ht
 have HX := Aside0.mk (blk_alloc (heap_alloc_new w (.cells #[.int .i64 N, .slice A0 E.length c0] 24)) (.cells #[.int .i64 q] 3))
 have hg0 : ((w.alloc (.cells #[.int .i64 N, .slice A0 E.length c0] 24)).alloc (.cells #[.int .i64 q] 3)).cell? ⟨w.heap.size, 0, none⟩ = some (.int .i64 N) := (blk_cell HX.out 0).trans rfl
 have hg1 : ((w.alloc (.cells #[.int .i64 N, .slice A0 E.length c0] 24)).alloc (.cells #[.int .i64 q] 3)).cell? ⟨w.heap.size, 1, none⟩ = some (.slice A0 E.length c0) := (blk_cell HX.out 1).trans rfl
 clear hf ht
 go_enter Try.func20, Try.ntmps20
 go_wp2_with (go_at_call 12; refine (superstable_All.calls k N A0 c0 E q l t _ (Kd.C_alloc (Kd.C_alloc hr0 _) _) hc0 Hf.out).mono ?_; rintro e w1 ⟨v, rfl, hN, hb⟩; have HB := Aside0.mk (below_step (below_alloc (below_alloc (Below.refl w.heap.size w) _) _) hb); clear hN hb)
 go_ret2
 exact ⟨rfl, HB.out⟩
theorem top_good (k K : Nat) (N : Int) (A0 : Option Addr) (c0 : Nat) (E : List S66) (q : Int) (l : List (List Int)) (r : List Int → Nat → List Int) (w : World) (hr0 : Kd.C k66 w A0 E.length E) (hc0 : E.length ≤ c0) (hf : superstable_All.f k N E q = some (l, 0)) (hr : ∀ x ∈ l, ∀ v : Nat, v < x.length → (v : Int) ≠ q → superstable_raised.f K N E q x v = some (r x v) ∧ v < (r x v).length) :
  Calls Try.prog 20 #[.agg #[.int .i64 N, .slice A0 E.length c0], .int .i64 q] w fun e w' => ∃ v, e = .returned (.tuple #[v, .int .i64 0]) ∧ Kd.N (Kd.slice 3 (Kd.int .i64)) 42 w' w.heap.size (fun k_ => (w.heap.size ≤ k_)) v (l.filter fun x => !risesTo x q (r x) x.length) ∧ Below w.heap.size w w' := by
 have hu := Try.underlying24
 have Hf := Aside0.mk hf
 have HX := Aside0.mk (blk_alloc (heap_alloc_new w (.cells #[.int .i64 N, .slice A0 E.length c0] 24)) (.cells #[.int .i64 q] 3))
 have HQ := Aside0.mk (heap_alloc2_new w (.cells #[.int .i64 N, .slice A0 E.length c0] 24) (.cells #[.int .i64 q] 3))
 have hg0 : ((w.alloc (.cells #[.int .i64 N, .slice A0 E.length c0] 24)).alloc (.cells #[.int .i64 q] 3)).cell? ⟨w.heap.size, 0, none⟩ = some (.int .i64 N) := (blk_cell HX.out 0).trans rfl
 have hg1 : ((w.alloc (.cells #[.int .i64 N, .slice A0 E.length c0] 24)).alloc (.cells #[.int .i64 q] 3)).cell? ⟨w.heap.size, 1, none⟩ = some (.slice A0 E.length c0) := (blk_cell HX.out 1).trans rfl
 have HR := Aside0.mk hr
 clear hf hr
 go_enter Try.func20, Try.ntmps20
 go_wp2_with (go_at_call 12; refine (superstable_All.calls k N A0 c0 E q l 0 _ (Kd.C_alloc (Kd.C_alloc hr0 _) _) hc0 Hf.out).mono ?_; rintro e w1 ⟨v, rfl, hN, hb⟩; obtain ⟨Av, cv, rfl⟩ := Kd.N_slice hN; have HB := Aside0.mk (below_step (below_alloc (below_alloc (Below.refl w.heap.size w) _) _) hb); have HX1 := Aside0.mk (blk_below HX.out hb); have HQ1 := Aside0.mk (blk_below HQ.out hb); have HN := Aside0.mk hN; clear hN hb)
 have hW0 : w.heap.size + 2 = ((w.alloc (.cells #[.int .i64 N, .slice A0 E.length c0] 24)).alloc (.cells #[.int .i64 q] 3)).heap.size := by simp
 rw [← hW0] at HN
 have HDA : Aside0 (∀ row, (∀ g, row = some g → w.heap.size + 2 ≤ g) → DelAt (w.heap.size + 1) w.heap.size row w1 l (fun x => risesTo x q (r x) x.length)) := ⟨fun row hrow W' A c x hgr hxl hc hx => by
  have hB : Below w.heap.size w W' := pw_below_grown HB.out row HB.out.size hgr (fun g e => by have := hrow g e; omega)
  refine maximal1_calls K N A0 c0 E q (w.heap.size + 1) w.heap.size A c x (r x) W' (Kd.C_below hr0 hB) hc0 ((hgr.block _ (blk_lt HX1.out) (fun e => by have := hrow _ e.symm; omega)).trans HX1.out) ((hgr.block _ (blk_lt HQ1.out) (fun e => by have := hrow _ e.symm; omega)).trans HQ1.out) hx hc (HR.out x hxl)⟩
 have hsz := HB.out.size
 by_cases hex : ∃ j : Nat, j < l.length ∧ (fun x => risesTo x q (r x) x.length) (rd_L2 l j) = true
 ·obtain ⟨g0, cap, hv, hge, -, -⟩ := Kd.N_form HN.out (by obtain ⟨j, hj, _⟩ := hex; omega)
  injection hv with hv1 hv2 hv3
  subst hv1 hv3
  refine (deleteFunc_some (w.heap.size + 1) w.heap.size (w.heap.size + 2) g0 cv (fun k => w.heap.size + 2 ≤ k) l _ w1 w1 HN.out ⟨rfl, rfl, rfl, Nat.le_refl _, fun _ _ _ => rfl⟩ (HDA.out (some g0) (fun g e => by injection e with e; omega)) hex).mono ?_
  rintro e w2 ⟨m, rfl, hm, hN2, hg2⟩
  have HN2 := Aside0.mk (Kd.N_mono (Kd.N_lower (base' := w.heap.size) hN2 (by omega)) (ok' := fun k => w.heap.size ≤ k) (fun k hk => by omega))
  have HB2 := Aside0.mk (pw_below_grown HB.out (some g0) HB.out.size hg2 (fun k e => by injection e with e; omega))
  clear hm hN2 hg2 hex hW0
  go_wp2
  go_ret2
  exact ⟨_, rfl, HN2.out, HB2.out⟩
 ·have hno : ∀ j : Nat, j < l.length → (fun x => risesTo x q (r x) x.length) (rd_L2 l j) = false := fun j hj => by
   cases h : (fun x => risesTo x q (r x) x.length) (rd_L2 l j) with
   | false => rfl
   | true => exact absurd ⟨j, hj, h⟩ hex
  have HFN := Aside0.mk (filter_none (l := l) (del := fun x => risesTo x q (r x) x.length) hno)
  refine (deleteFunc_none (w.heap.size + 1) w.heap.size (w.heap.size + 2) none Av cv (fun k => w.heap.size + 2 ≤ k) l _ w1 w1 HN.out ⟨rfl, rfl, rfl, Nat.le_refl _, fun _ _ _ => rfl⟩ (HDA.out none (fun g e => by cases e)) hno).mono ?_
  rintro e w2 ⟨rfl, hb2⟩
  have HN2 := Aside0.mk (Kd.N_below (Kd.N_mono (Kd.N_lower (base' := w.heap.size) HN.out (by omega)) (ok' := fun k => w.heap.size ≤ k) (fun k hk => by omega)) hb2)
  have HB2 := Aside0.mk (HB.out.trans (hb2.mono HB.out.size))
  clear hb2 hex hno hW0
  go_wp2
  go_ret2
  exact ⟨.slice Av l.length cv, rfl, by rw [HFN.out]; exact HN2.out, HB2.out⟩
def okRaised (k : Nat) (N : Int) (E : List S66) (q : Int) (l : List (List Int)) : Bool := l.all fun c => (List.range c.length).all fun v => decide ((v : Int) = q) || match superstable_raised.f k N E q c v with | some r => decide (v < r.length) | none => false
def raisedAt (k : Nat) (N : Int) (E : List S66) (q : Int) (c : List Int) (v : Nat) : List Int := (superstable_raised.f k N E q c v).getD []
theorem okRaised_get {k : Nat} {N : Int} {E : List S66} {q : Int} {l : List (List Int)} (h : okRaised k N E q l = true) : ∀ x ∈ l, ∀ v : Nat, v < x.length → (v : Int) ≠ q → superstable_raised.f k N E q x v = some (raisedAt k N E q x v) ∧ v < (raisedAt k N E q x v).length := by
 intro x hx v hv hq
 have h1 := List.all_eq_true.1 (List.all_eq_true.1 h x hx) v (List.mem_range.2 hv)
 rw [decide_eq_false hq, Bool.false_or] at h1
 unfold raisedAt
 cases hr : superstable_raised.f k N E q x v with
 | none => rw [hr] at h1; cases h1
 | some r => rw [hr] at h1; exact ⟨rfl, by simpa using h1⟩
def superstable_Maximal.f (k : Nat) (N : Int) (E : List S66) (q : Int) : Option (List (List Int) × Int) :=
 (superstable_All.f k N E q).bind fun t => if t.2 = 0 then (if okRaised k N E q t.1 = true then some (t.1.filter fun x => !risesTo x q (raisedAt k N E q x) x.length, 0) else none) else some ([], t.2)
theorem superstable_Maximal.calls (k : Nat) (a0_0 : Int) (A0_1 : Option Addr) (c0_1 : Nat) (l0_1 : List (S66)) (a1 : Int) (r1 : List (List Int)) (r2 : Int) (w : World) (hr0_1 : Kd.C k66 w A0_1 l0_1.length l0_1) (hc0_1 : l0_1.length ≤ c0_1) (h : superstable_Maximal.f k a0_0 l0_1 a1 = some (r1, r2)) :
  Calls Try.prog 20 #[.agg #[.int .i64 a0_0, .slice A0_1 l0_1.length c0_1], .int .i64 a1] w fun e w' => ∃ v0_ : Value, e = .returned (.tuple #[v0_, .int .i64 r2]) ∧ Kd.N (Kd.slice 3 (Kd.int .i64)) 42 w' w.heap.size (fun k_ => (w.heap.size ≤ k_)) v0_ r1 ∧ Below w.heap.size w w' := by
 unfold superstable_Maximal.f at h
 obtain ⟨⟨l, t⟩, ht, H⟩ := Option.bind_eq_some_iff.mp h
 simp only at H
 by_cases h0 : t = 0
 ·subst h0
  rw [if_pos rfl] at H
  by_cases hv : okRaised k a0_0 l0_1 a1 l = true
  ·rw [if_pos hv] at H
   simp only [Option.some.injEq, Prod.mk.injEq] at H
   obtain ⟨rfl, rfl⟩ := H
   exact top_good k k a0_0 A0_1 c0_1 l0_1 a1 l _ w hr0_1 hc0_1 ht (okRaised_get hv)
  ·rw [if_neg hv] at H; cases H
 ·rw [if_neg h0] at H
  simp only [Option.some.injEq, Prod.mk.injEq] at H
  obtain ⟨rfl, rfl⟩ := H
  refine (top_bad k a0_0 A0_1 c0_1 l0_1 a1 l t w hr0_1 hc0_1 ht h0).mono ?_
  rintro e w' ⟨rfl, hb⟩
  exact ⟨_, rfl, Kd.N_nil _ _ _ _ _, hb⟩
def superstable_Count.f (k : Nat) (a0_0 : Int) (l0_1 : List (S66)) (a1 : Int) : Option (Int × Int) := (superstable_All.f k a0_0 l0_1 a1).bind fun bt146 => (some ((bt146.1.length : Int), bt146.2))
theorem superstable_Count.calls (k : Nat) (a0_0 : Int) (A0_1 : Option Addr) (c0_1 : Nat) (l0_1 : List (S66)) (a1 : Int) (r1 : Int) (r2 : Int) (w : World) (hr0_1 : Kd.C k66 w A0_1 l0_1.length l0_1) (hc0_1 : l0_1.length ≤ c0_1) (h : superstable_Count.f k a0_0 l0_1 a1 = some (r1, r2)) :
  Calls Try.prog 13 #[.agg #[.int .i64 a0_0, .slice A0_1 l0_1.length c0_1], .int .i64 a1] w fun e w' => e = .returned (.tuple #[.int .i64 r1, .int .i64 r2]) ∧ Below w.heap.size w w' := by
 have hu24 := Try.underlying24
 have HR0_1 := Aside0.mk hr0_1
 have HC0_1 := Aside0.mk hc0_1
 clear hr0_1 hc0_1
 have HB := Aside0.mk (Below.refl w.heap.size w)
 have H : ((superstable_All.f k a0_0 l0_1 a1).bind fun bt146 => (some ((bt146.1.length : Int), bt146.2))) = some (r1, r2) := h
 clear h
 replace H := Option.bind_eq_some_iff.mp H
 obtain ⟨⟨t146, t149⟩, A30, H⟩ := H
 replace H : (some ((t146.length : Int), t149)) = some (r1, r2) := H
 have A3 := Aside0.mk A30
 clear A30
 simp only [Option.some.injEq, Prod.mk.injEq] at H
 obtain ⟨rfl, rfl⟩ := H
 go_enter Try.func13, Try.ntmps13
 go_wp2_with (first | ((with_reducible refine gate_dst (N := 2) rfl ?_); refine zX 2 #[.int .i64 a0_0, .slice A0_1 l0_1.length c0_1] 24 ?_; intro gb145 hg w4 hbox hb; have BK145 := Aside0.mk (hbox); have GW145 := zG HB hg; have GE145 := zG HB hg; replace HB := zS HB hb; clear hb hbox hg; obtain ⟨hcz5_0, hcz5_1, hfz5_0, hfz5_1⟩ := zD2 BK145) | ((with_reducible refine gate_callee (f := 12) rfl ?_); refine zL (some 11) Try.func12 #[.agg #[.int .i64 a0_0, .slice A0_1 l0_1.length c0_1], .int .i64 a1] ?_; (with_reducible refine (superstable_All.calls k a0_0 _ _ l0_1 a1 t146 t149 _ ?side1 ?side2 A3.out).mono ?_); (case side1 => exact Kd.C_below HR0_1.out zB); (case side2 => exact HC0_1.out); rintro e w6 ⟨v147, rfl, ho0, hb⟩; refine ⟨_, rfl, ?_⟩; have HO148 := Aside0.mk (Kd.N_lower (Kd.N_mono (ok' := fun k_ => k_ ≠ gb145) ho0 (fun k_ hk_ => (Kd.freshB (zK BK145) k_ hk_))) (below_size zB)); replace BK145 := zb BK145 hb; replace HB := zS HB hb; (try clear hb); (try clear ho0); obtain ⟨Ao7, co7, eo7⟩ := Kd.N_slice HO148.out; subst eo7))
 go_ret2
 exact ⟨zE, zB⟩
def sandpileref17_Order.l0 : Nat → List Int → List Int → Int → Option (Int)
 | 0, _, _, _ => none
 | k + 1, x0, x1, x5 => if x5 < (x0.length : Int) then (if 0 ≤ x5 then (if x5 < (x1.length : Int) then (if (rd x0 x5) < (rd x1 x5) then (some (-1)) else (if (rd x0 x5) > (rd x1 x5) then (some 1) else (sandpileref17_Order.l0 k x0 x1 (wrap64 (x5 + 1))))) else (none)) else (none)) else (some 0)
def sandpileref17_Order.f (k : Nat) (l0 : List Int) (l1 : List Int) : Option (Int) := sandpileref17_Order.l0 k l0 l1 0
theorem sandpileref17_Order.calls (k : Nat) (A0 : Option Addr) (c0 : Nat) (l0 : List Int) (A1 : Option Addr) (c1 : Nat) (l1 : List Int) (r : Int) (w : World) (hr0 : Kd.C (Kd.int .i64) w A0 l0.length l0) (hc0 : l0.length ≤ c0) (hr1 : Kd.C (Kd.int .i64) w A1 l1.length l1) (hc1 : l1.length ≤ c1) (h : sandpileref17_Order.f k l0 l1 = some r) :
  Calls Try.prog 58 #[.slice A0 l0.length c0, .slice A1 l1.length c1] w fun e w' => e = .returned (.int .i64 r) ∧ Drawn0 w w' := by
 have HR0 := Aside0.mk hr0
 have HC0 := Aside0.mk hc0
 clear hr0 hc0
 have HR1 := Aside0.mk hr1
 have HC1 := Aside0.mk hc1
 clear hr1 hc1
 have H : (sandpileref17_Order.l0 k l0 l1 0) = some r := h
 clear h
 have H' := Aside0.mk H
 clear H
 go_enter Try.func58, Try.ntmps58
 go_wp2
 repeat (go_quiet (fail); try go_wp2)
 go_loopg [5] k (fun kq v5 w' => ∃ (x5_1 : Int), v5 = .int .i64 x5_1 ∧ Aside0 (sandpileref17_Order.l0 kq l0 l1 x5_1 = some r) ∧ Aside0 (kq ≤ k) ∧ Drawn0 w w')
 case atStart => exact ⟨(0), zT, H', ⟨Nat.le_refl _⟩, by repeat (first | exact Drawn0.refl _ | apply Drawn0.step)⟩
 case round =>
  clear H'
  try clear c1
  try clear p2
  obtain ⟨x5_1, rfl, HA, HK1, ⟨m1, rfl⟩⟩ := hrel
  cases gk with
  | zero => exact absurd HA.out (by simp [sandpileref17_Order.l0])
  | succ k1 =>
   have H := HA.out
   clear HA
   simp only [sandpileref17_Order.l0] at H
   by_cases c3 : x5_1 < (l0.length : Int)
   ·rw [if_pos c3] at H
    have c3b0 : decide (x5_1 < (l0.length : Int)) = true := decide_eq_true c3
    clear c3
    by_cases c4 : 0 ≤ x5_1
    ·rw [if_pos c4] at H
     have c4b0 : decide (0 ≤ x5_1) = true := decide_eq_true c4
     clear c4
     by_cases c5 : x5_1 < (l1.length : Int)
     ·rw [if_pos c5] at H
      have c5b0 : decide (x5_1 < (l1.length : Int)) = true := decide_eq_true c5
      clear c5
      by_cases c6 : (rd l0 x5_1) < (rd l1 x5_1)
      ·rw [if_pos c6] at H
       have c6b0 : decide ((rd l0 x5_1) < (rd l1 x5_1)) = true := decide_eq_true c6
       clear c6
       obtain rfl := Option.some.inj H
       have p249 : 0 ≤ (x5_1 : Int) := of_decide_eq_true ‹_›
       have q249 : x5_1 < (l0.length : Int) := of_decide_eq_true ‹_›
       obtain ⟨ad249, e249, hx249_0⟩ := Kd.at_int HR0.out x5_1 p249 q249
       cases e249
       replace p249 := eq_true p249
       replace q249 := eq_true q249
       have p250 : 0 ≤ (x5_1 : Int) := of_decide_eq_true ‹_›
       have q250 : x5_1 < (l1.length : Int) := of_decide_eq_true ‹_›
       obtain ⟨ad250, e250, hx250_0⟩ := Kd.at_int HR1.out x5_1 p250 q250
       cases e250
       replace p250 := eq_true p250
       replace q250 := eq_true q250
       go_wp2
       repeat (go_quiet (fail); try go_wp2)
       go_ret
       exact ⟨zT, by repeat (first | exact Drawn0.refl _ | apply Drawn0.step)⟩
      ·rw [if_neg c6] at H
       have c6b0 : decide ((rd l0 x5_1) < (rd l1 x5_1)) = false := decide_eq_false c6
       clear c6
       by_cases c7 : (rd l0 x5_1) > (rd l1 x5_1)
       ·rw [if_pos c7] at H
        have c7b0 : decide ((rd l1 x5_1) < (rd l0 x5_1)) = true := decide_eq_true c7
        clear c7
        obtain rfl := Option.some.inj H
        have p249 : 0 ≤ (x5_1 : Int) := of_decide_eq_true ‹_›
        have q249 : x5_1 < (l0.length : Int) := of_decide_eq_true ‹_›
        obtain ⟨ad249, e249, hx249_0⟩ := Kd.at_int HR0.out x5_1 p249 q249
        cases e249
        replace p249 := eq_true p249
        replace q249 := eq_true q249
        have p250 : 0 ≤ (x5_1 : Int) := of_decide_eq_true ‹_›
        have q250 : x5_1 < (l1.length : Int) := of_decide_eq_true ‹_›
        obtain ⟨ad250, e250, hx250_0⟩ := Kd.at_int HR1.out x5_1 p250 q250
        cases e250
        replace p250 := eq_true p250
        replace q250 := eq_true q250
        have p251 : 0 ≤ (x5_1 : Int) := of_decide_eq_true ‹_›
        have q251 : x5_1 < (l0.length : Int) := of_decide_eq_true ‹_›
        obtain ⟨ad251, e251, hx251_0⟩ := Kd.at_int HR0.out x5_1 p251 q251
        obtain rfl : ad249 = ad251 := (by injection e251)
        replace p251 := eq_true p251
        replace q251 := eq_true q251
        have p252 : 0 ≤ (x5_1 : Int) := of_decide_eq_true ‹_›
        have q252 : x5_1 < (l1.length : Int) := of_decide_eq_true ‹_›
        obtain ⟨ad252, e252, hx252_0⟩ := Kd.at_int HR1.out x5_1 p252 q252
        obtain rfl : ad250 = ad252 := (by injection e252)
        replace p252 := eq_true p252
        replace q252 := eq_true q252
        go_wp2
        repeat (go_quiet (fail); try go_wp2)
        go_ret
        exact ⟨zT, by repeat (first | exact Drawn0.refl _ | apply Drawn0.step)⟩
       ·rw [if_neg c7] at H
        have c7b0 : decide ((rd l1 x5_1) < (rd l0 x5_1)) = false := decide_eq_false c7
        clear c7
        have H' := Aside0.mk H
        clear H
        have p249 : 0 ≤ (x5_1 : Int) := of_decide_eq_true ‹_›
        have q249 : x5_1 < (l0.length : Int) := of_decide_eq_true ‹_›
        obtain ⟨ad249, e249, hx249_0⟩ := Kd.at_int HR0.out x5_1 p249 q249
        cases e249
        replace p249 := eq_true p249
        replace q249 := eq_true q249
        have p250 : 0 ≤ (x5_1 : Int) := of_decide_eq_true ‹_›
        have q250 : x5_1 < (l1.length : Int) := of_decide_eq_true ‹_›
        obtain ⟨ad250, e250, hx250_0⟩ := Kd.at_int HR1.out x5_1 p250 q250
        cases e250
        replace p250 := eq_true p250
        replace q250 := eq_true q250
        have p251 : 0 ≤ (x5_1 : Int) := of_decide_eq_true ‹_›
        have q251 : x5_1 < (l0.length : Int) := of_decide_eq_true ‹_›
        obtain ⟨ad251, e251, hx251_0⟩ := Kd.at_int HR0.out x5_1 p251 q251
        obtain rfl : ad249 = ad251 := (by injection e251)
        replace p251 := eq_true p251
        replace q251 := eq_true q251
        have p252 : 0 ≤ (x5_1 : Int) := of_decide_eq_true ‹_›
        have q252 : x5_1 < (l1.length : Int) := of_decide_eq_true ‹_›
        obtain ⟨ad252, e252, hx252_0⟩ := Kd.at_int HR1.out x5_1 p252 q252
        obtain rfl : ad250 = ad252 := (by injection e252)
        replace p252 := eq_true p252
        replace q252 := eq_true q252
        go_wp2
        repeat (go_quiet (fail); try go_wp2)
        go_roundg k1
        case measure => have := HK1.out; omega
        case rel => exact ⟨(wrap64 (x5_1 + 1)), zT, H', ⟨by have := HK1.out; omega⟩, by repeat (first | exact Drawn0.refl _ | apply Drawn0.step)⟩
     ·rw [if_neg c5] at H
      exact absurd H (by simp)
    ·rw [if_neg c4] at H
     exact absurd H (by simp)
   ·rw [if_neg c3] at H
    have c3b0 : decide (x5_1 < (l0.length : Int)) = false := decide_eq_false c3
    clear c3
    obtain rfl := Option.some.inj H
    go_wp2
    repeat (go_quiet (fail); try go_wp2)
    go_ret
    exact ⟨zT, by repeat (first | exact Drawn0.refl _ | apply Drawn0.step)⟩
def sandpileref17_Same.f (k : Nat) (l0 : List Int) (l1 : List Int) : Option (Bool) := if (l0.length : Int) = (l1.length : Int) then ((sandpileref17_Order.f k l0 l1).bind fun t253 => (some (t253 == 0))) else (some false)
theorem sandpileref17_Same.calls (k : Nat) (A0 : Option Addr) (c0 : Nat) (l0 : List Int) (A1 : Option Addr) (c1 : Nat) (l1 : List Int) (r : Bool) (w : World) (hr0 : Kd.C (Kd.int .i64) w A0 l0.length l0) (hc0 : l0.length ≤ c0) (hr1 : Kd.C (Kd.int .i64) w A1 l1.length l1) (hc1 : l1.length ≤ c1) (h : sandpileref17_Same.f k l0 l1 = some r) :
  Calls Try.prog 26 #[.slice A0 l0.length c0, .slice A1 l1.length c1] w fun e w' => e = .returned (.bool r) ∧ Drawn0 w w' := by
 have HR0 := Aside0.mk hr0
 have HC0 := Aside0.mk hc0
 clear hr0 hc0
 have HR1 := Aside0.mk hr1
 have HC1 := Aside0.mk hc1
 clear hr1 hc1
 have H : (if (l0.length : Int) = (l1.length : Int) then ((sandpileref17_Order.f k l0 l1).bind fun t253 => (some (t253 == 0))) else (some false)) = some r := h
 clear h
 by_cases c3 : (l0.length : Int) = (l1.length : Int)
 ·rw [if_pos c3] at H
  have c3b0 : ((l0.length : Int) == (l1.length : Int)) = true := beq_iff_eq.mpr c3
  have c3b1 : ((l0.length : Int) != (l1.length : Int)) = false := bne_eq_false_iff_eq.mpr c3
  have c3b2 : (l0.length == l1.length) = true := by first | simpa using c3 | (simp at c3 ⊢; omega)
  clear c3
  replace H := Option.bind_eq_some_iff.mp H
  obtain ⟨t253, A40, H⟩ := H
  replace H : (some (t253 == 0)) = some r := H
  have A4 := Aside0.mk A40
  clear A40
  obtain rfl := Option.some.inj H
  go_enter Try.func26, Try.ntmps26
  go_wp2_with (first | ((with_reducible refine gate_callee (f := 58) rfl ?_); refine zL (some 12) Try.func58 #[.slice A0 l0.length c0, .slice A1 l1.length c1] ?_; (with_reducible refine (sandpileref17_Order.calls k _ _ l0 _ _ l1 t253 _ ?side1 ?side2 ?side3 ?side4 A4.out).mono ?_); (case side1 => repeat (first | exact HR0.out | (with_reducible refine Kd.C_alloc ?_ _) | (with_reducible refine Kd.C_drewN ?_ _) | (with_reducible refine Kd.C_drew ?_))); (case side2 => exact HC0.out); (case side3 => repeat (first | exact HR1.out | (with_reducible refine Kd.C_alloc ?_ _) | (with_reducible refine Kd.C_drewN ?_ _) | (with_reducible refine Kd.C_drew ?_))); (case side4 => exact HC1.out); rintro e w' ⟨rfl, ⟨nd, rfl⟩⟩; refine ⟨_, rfl, ?_⟩))
  go_ret
  exact ⟨zT, by repeat (first | exact Drawn0.refl _ | apply Drawn0.step)⟩
 ·rw [if_neg c3] at H
  have c3b0 : ((l0.length : Int) == (l1.length : Int)) = false := beq_eq_false_iff_ne.mpr c3
  have c3b1 : ((l0.length : Int) != (l1.length : Int)) = true := bne_iff_ne.mpr c3
  have c3b2 : (l0.length == l1.length) = false := by first | simpa using c3 | (simp at c3 ⊢; omega)
  obtain rfl := Option.some.inj H
  go_enter Try.func26, Try.ntmps26
  go_wp2
  go_ret
  exact ⟨zT, by repeat (first | exact Drawn0.refl _ | apply Drawn0.step)⟩
def sandpileref17_SameAll.l0 : Nat → List (List Int) → List (List Int) → Int → Option (Bool)
 | 0, _, _, _ => none
 | k + 1, x0, x1, x5 => if x5 < (x0.length : Int) then (if 0 ≤ x5 then (if x5 < (x1.length : Int) then ((sandpileref17_Same.f k (rd_L2 x0 x5) (rd_L2 x1 x5)).bind fun t256 => (if t256 = true then (sandpileref17_SameAll.l0 k x0 x1 (wrap64 (x5 + 1))) else (some false))) else (none)) else (none)) else (some true)
def sandpileref17_SameAll.f (k : Nat) (l0 : List (List Int)) (l1 : List (List Int)) : Option (Bool) := if (l0.length : Int) = (l1.length : Int) then (sandpileref17_SameAll.l0 k l0 l1 0) else (some false)
theorem sandpileref17_SameAll.calls (k : Nat) (A0 : Option Addr) (c0 : Nat) (l0 : List (List Int)) (A1 : Option Addr) (c1 : Nat) (l1 : List (List Int)) (r : Bool) (w : World) (hr0 : Kd.C (Kd.slice 3 (Kd.int .i64)) w A0 l0.length l0) (hc0 : l0.length ≤ c0) (hr1 : Kd.C (Kd.slice 3 (Kd.int .i64)) w A1 l1.length l1) (hc1 : l1.length ≤ c1) (h : sandpileref17_SameAll.f k l0 l1 = some r) :
  Calls Try.prog 17 #[.slice A0 l0.length c0, .slice A1 l1.length c1] w fun e w' => e = .returned (.bool r) ∧ Drawn0 w w' := by
 have HR0 := Aside0.mk hr0
 have HC0 := Aside0.mk hc0
 clear hr0 hc0
 have HR1 := Aside0.mk hr1
 have HC1 := Aside0.mk hc1
 clear hr1 hc1
 have H : (if (l0.length : Int) = (l1.length : Int) then (sandpileref17_SameAll.l0 k l0 l1 0) else (some false)) = some r := h
 clear h
 by_cases c3 : (l0.length : Int) = (l1.length : Int)
 ·rw [if_pos c3] at H
  have c3b0 : ((l0.length : Int) == (l1.length : Int)) = true := beq_iff_eq.mpr c3
  have c3b1 : ((l0.length : Int) != (l1.length : Int)) = false := bne_eq_false_iff_eq.mpr c3
  have c3b2 : (l0.length == l1.length) = true := by first | simpa using c3 | (simp at c3 ⊢; omega)
  clear c3
  have H' := Aside0.mk H
  clear H
  go_enter Try.func17, Try.ntmps17
  go_wp2
  repeat (go_quiet (fail); try go_wp2)
  go_loopg [5] k (fun kq v5 w' => ∃ (x5_1 : Int), v5 = .int .i64 x5_1 ∧ Aside0 (sandpileref17_SameAll.l0 kq l0 l1 x5_1 = some r) ∧ Aside0 (kq ≤ k) ∧ Drawn0 w w')
  case atStart => exact ⟨(0), zT, H', ⟨Nat.le_refl _⟩, by repeat (first | exact Drawn0.refl _ | apply Drawn0.step)⟩
  case round =>
   clear H'
   try clear c1
   try clear p2
   try clear c3
   try clear c3b0
   try clear c3b1
   try clear c3b2
   obtain ⟨x5_1, rfl, HA, HK1, ⟨m1, rfl⟩⟩ := hrel
   cases gk with
   | zero => exact absurd HA.out (by simp [sandpileref17_SameAll.l0])
   | succ k1 =>
    have H := HA.out
    clear HA
    simp only [sandpileref17_SameAll.l0] at H
    by_cases c4 : x5_1 < (l0.length : Int)
    ·rw [if_pos c4] at H
     have c4b0 : decide (x5_1 < (l0.length : Int)) = true := decide_eq_true c4
     clear c4
     by_cases c5 : 0 ≤ x5_1
     ·rw [if_pos c5] at H
      have c5b0 : decide (0 ≤ x5_1) = true := decide_eq_true c5
      clear c5
      by_cases c6 : x5_1 < (l1.length : Int)
      ·rw [if_pos c6] at H
       have c6b0 : decide (x5_1 < (l1.length : Int)) = true := decide_eq_true c6
       clear c6
       replace H := Option.bind_eq_some_iff.mp H
       obtain ⟨t256, A70, H⟩ := H
       replace H : (if t256 = true then (sandpileref17_SameAll.l0 k1 l0 l1 (wrap64 (x5_1 + 1))) else (some false)) = some r := H
       have A7 := Aside0.mk A70
       clear A70
       by_cases c8 : t256 = true
       ·subst c8
        have H1 : (sandpileref17_SameAll.l0 k1 l0 l1 (wrap64 (x5_1 + 1))) = some r := by rw [if_pos rfl] at H; exact H
        clear H
        have H := H1
        clear H1
        have H' := Aside0.mk H
        clear H
        have p254 : 0 ≤ (x5_1 : Int) := of_decide_eq_true ‹_›
        have q254 : x5_1 < (l0.length : Int) := of_decide_eq_true ‹_›
        obtain ⟨ad254, A254_0, c254_0, e254, hx254_0, hl254_0, hi254_0⟩ := at_L2 HR0.out x5_1 p254 q254
        cases e254
        have HR254_0 := Aside0.mk hi254_0
        have HC254_0 := Aside0.mk hl254_0
        clear hi254_0 hl254_0
        replace p254 := eq_true p254
        replace q254 := eq_true q254
        have p255 : 0 ≤ (x5_1 : Int) := of_decide_eq_true ‹_›
        have q255 : x5_1 < (l1.length : Int) := of_decide_eq_true ‹_›
        obtain ⟨ad255, A255_0, c255_0, e255, hx255_0, hl255_0, hi255_0⟩ := at_L2 HR1.out x5_1 p255 q255
        cases e255
        have HR255_0 := Aside0.mk hi255_0
        have HC255_0 := Aside0.mk hl255_0
        clear hi255_0 hl255_0
        replace p255 := eq_true p255
        replace q255 := eq_true q255
        go_wp2_with (first | (go_at_call 26; (with_reducible refine (sandpileref17_Same.calls k1 _ _ (rd_L2 l0 x5_1) _ _ (rd_L2 l1 x5_1) true _ ?side1 ?side2 ?side3 ?side4 A7.out).mono ?_); (case side1 => repeat (first | exact HR254_0.out | (with_reducible refine Kd.C_alloc ?_ _) | (with_reducible refine Kd.C_drewN ?_ _) | (with_reducible refine Kd.C_drew ?_))); (case side2 => exact HC254_0.out); (case side3 => repeat (first | exact HR255_0.out | (with_reducible refine Kd.C_alloc ?_ _) | (with_reducible refine Kd.C_drewN ?_ _) | (with_reducible refine Kd.C_drew ?_))); (case side4 => exact HC255_0.out); rintro e w' ⟨rfl, ⟨nd, rfl⟩⟩; (try first | exact ⟨rfl, _, World.drewN_drewN _ _ _⟩ | exact ⟨rfl, _, Eq.trans (World.drewN_drewN _ _ _) (congrArg (World.drewN _) (Nat.add_assoc _ _ _))⟩)))
        repeat (go_quiet (first | (go_at_call 26; (with_reducible refine (sandpileref17_Same.calls k1 _ _ (rd_L2 l0 x5_1) _ _ (rd_L2 l1 x5_1) true _ ?side1 ?side2 ?side3 ?side4 A7.out).mono ?_); (case side1 => repeat (first | exact HR254_0.out | (with_reducible refine Kd.C_alloc ?_ _) | (with_reducible refine Kd.C_drewN ?_ _) | (with_reducible refine Kd.C_drew ?_))); (case side2 => exact HC254_0.out); (case side3 => repeat (first | exact HR255_0.out | (with_reducible refine Kd.C_alloc ?_ _) | (with_reducible refine Kd.C_drewN ?_ _) | (with_reducible refine Kd.C_drew ?_))); (case side4 => exact HC255_0.out); rintro e w' ⟨rfl, ⟨nd, rfl⟩⟩; (try first | exact ⟨rfl, _, World.drewN_drewN _ _ _⟩ | exact ⟨rfl, _, Eq.trans (World.drewN_drewN _ _ _) (congrArg (World.drewN _) (Nat.add_assoc _ _ _))⟩))); try go_wp2_with (first | (go_at_call 26; (with_reducible refine (sandpileref17_Same.calls k1 _ _ (rd_L2 l0 x5_1) _ _ (rd_L2 l1 x5_1) true _ ?side1 ?side2 ?side3 ?side4 A7.out).mono ?_); (case side1 => repeat (first | exact HR254_0.out | (with_reducible refine Kd.C_alloc ?_ _) | (with_reducible refine Kd.C_drewN ?_ _) | (with_reducible refine Kd.C_drew ?_))); (case side2 => exact HC254_0.out); (case side3 => repeat (first | exact HR255_0.out | (with_reducible refine Kd.C_alloc ?_ _) | (with_reducible refine Kd.C_drewN ?_ _) | (with_reducible refine Kd.C_drew ?_))); (case side4 => exact HC255_0.out); rintro e w' ⟨rfl, ⟨nd, rfl⟩⟩; (try first | exact ⟨rfl, _, World.drewN_drewN _ _ _⟩ | exact ⟨rfl, _, Eq.trans (World.drewN_drewN _ _ _) (congrArg (World.drewN _) (Nat.add_assoc _ _ _))⟩))))
        go_roundg k1
        case measure => have := HK1.out; omega
        case rel => exact ⟨(wrap64 (x5_1 + 1)), zT, H', ⟨by have := HK1.out; omega⟩, by repeat (first | exact Drawn0.refl _ | apply Drawn0.step)⟩
       ·replace c8 := Bool.eq_false_iff.mpr c8
        subst c8
        have H1 : (some false) = some r := by rw [if_neg (show ¬ (false = true) by decide)] at H; exact H
        clear H
        have H := H1
        clear H1
        obtain rfl := Option.some.inj H
        have p254 : 0 ≤ (x5_1 : Int) := of_decide_eq_true ‹_›
        have q254 : x5_1 < (l0.length : Int) := of_decide_eq_true ‹_›
        obtain ⟨ad254, A254_0, c254_0, e254, hx254_0, hl254_0, hi254_0⟩ := at_L2 HR0.out x5_1 p254 q254
        cases e254
        have HR254_0 := Aside0.mk hi254_0
        have HC254_0 := Aside0.mk hl254_0
        clear hi254_0 hl254_0
        replace p254 := eq_true p254
        replace q254 := eq_true q254
        have p255 : 0 ≤ (x5_1 : Int) := of_decide_eq_true ‹_›
        have q255 : x5_1 < (l1.length : Int) := of_decide_eq_true ‹_›
        obtain ⟨ad255, A255_0, c255_0, e255, hx255_0, hl255_0, hi255_0⟩ := at_L2 HR1.out x5_1 p255 q255
        cases e255
        have HR255_0 := Aside0.mk hi255_0
        have HC255_0 := Aside0.mk hl255_0
        clear hi255_0 hl255_0
        replace p255 := eq_true p255
        replace q255 := eq_true q255
        go_wp2_with (first | (go_at_call 26; (with_reducible refine (sandpileref17_Same.calls k1 _ _ (rd_L2 l0 x5_1) _ _ (rd_L2 l1 x5_1) false _ ?side1 ?side2 ?side3 ?side4 A7.out).mono ?_); (case side1 => repeat (first | exact HR254_0.out | (with_reducible refine Kd.C_alloc ?_ _) | (with_reducible refine Kd.C_drewN ?_ _) | (with_reducible refine Kd.C_drew ?_))); (case side2 => exact HC254_0.out); (case side3 => repeat (first | exact HR255_0.out | (with_reducible refine Kd.C_alloc ?_ _) | (with_reducible refine Kd.C_drewN ?_ _) | (with_reducible refine Kd.C_drew ?_))); (case side4 => exact HC255_0.out); rintro e w' ⟨rfl, ⟨nd, rfl⟩⟩; (try first | exact ⟨rfl, _, World.drewN_drewN _ _ _⟩ | exact ⟨rfl, _, Eq.trans (World.drewN_drewN _ _ _) (congrArg (World.drewN _) (Nat.add_assoc _ _ _))⟩)))
        repeat (go_quiet (first | (go_at_call 26; (with_reducible refine (sandpileref17_Same.calls k1 _ _ (rd_L2 l0 x5_1) _ _ (rd_L2 l1 x5_1) false _ ?side1 ?side2 ?side3 ?side4 A7.out).mono ?_); (case side1 => repeat (first | exact HR254_0.out | (with_reducible refine Kd.C_alloc ?_ _) | (with_reducible refine Kd.C_drewN ?_ _) | (with_reducible refine Kd.C_drew ?_))); (case side2 => exact HC254_0.out); (case side3 => repeat (first | exact HR255_0.out | (with_reducible refine Kd.C_alloc ?_ _) | (with_reducible refine Kd.C_drewN ?_ _) | (with_reducible refine Kd.C_drew ?_))); (case side4 => exact HC255_0.out); rintro e w' ⟨rfl, ⟨nd, rfl⟩⟩; (try first | exact ⟨rfl, _, World.drewN_drewN _ _ _⟩ | exact ⟨rfl, _, Eq.trans (World.drewN_drewN _ _ _) (congrArg (World.drewN _) (Nat.add_assoc _ _ _))⟩))); try go_wp2_with (first | (go_at_call 26; (with_reducible refine (sandpileref17_Same.calls k1 _ _ (rd_L2 l0 x5_1) _ _ (rd_L2 l1 x5_1) false _ ?side1 ?side2 ?side3 ?side4 A7.out).mono ?_); (case side1 => repeat (first | exact HR254_0.out | (with_reducible refine Kd.C_alloc ?_ _) | (with_reducible refine Kd.C_drewN ?_ _) | (with_reducible refine Kd.C_drew ?_))); (case side2 => exact HC254_0.out); (case side3 => repeat (first | exact HR255_0.out | (with_reducible refine Kd.C_alloc ?_ _) | (with_reducible refine Kd.C_drewN ?_ _) | (with_reducible refine Kd.C_drew ?_))); (case side4 => exact HC255_0.out); rintro e w' ⟨rfl, ⟨nd, rfl⟩⟩; (try first | exact ⟨rfl, _, World.drewN_drewN _ _ _⟩ | exact ⟨rfl, _, Eq.trans (World.drewN_drewN _ _ _) (congrArg (World.drewN _) (Nat.add_assoc _ _ _))⟩))))
        go_ret
        exact ⟨zT, by repeat (first | exact Drawn0.refl _ | apply Drawn0.step)⟩
      ·rw [if_neg c6] at H
       exact absurd H (by simp)
     ·rw [if_neg c5] at H
      exact absurd H (by simp)
    ·rw [if_neg c4] at H
     have c4b0 : decide (x5_1 < (l0.length : Int)) = false := decide_eq_false c4
     clear c4
     obtain rfl := Option.some.inj H
     go_wp2
     repeat (go_quiet (fail); try go_wp2)
     go_ret
     exact ⟨zT, by repeat (first | exact Drawn0.refl _ | apply Drawn0.step)⟩
 ·rw [if_neg c3] at H
  have c3b0 : ((l0.length : Int) == (l1.length : Int)) = false := beq_eq_false_iff_ne.mpr c3
  have c3b1 : ((l0.length : Int) != (l1.length : Int)) = true := bne_iff_ne.mpr c3
  have c3b2 : (l0.length == l1.length) = false := by first | simpa using c3 | (simp at c3 ⊢; omega)
  obtain rfl := Option.some.inj H
  go_enter Try.func17, Try.ntmps17
  go_wp2
  repeat (go_quiet (fail); try go_wp2)
  go_ret
  exact ⟨zT, by repeat (first | exact Drawn0.refl _ | apply Drawn0.step)⟩
def slices_Equal_int_int.l0 : Nat → List Int → List Int → Int → Int → Option (Bool)
 | 0, _, _, _, _ => none
 | k + 1, x0, x1, x12, x13 => if x13 < x12 then (if 0 ≤ x13 then (if x13 < (x0.length : Int) then (if x13 < (x1.length : Int) then (if (rd x0 x13) = (rd x1 x13) then (slices_Equal_int_int.l0 k x0 x1 x12 (wrap64 (x13 + 1))) else (some false)) else (none)) else (none)) else (none)) else (some true)
def slices_Equal_int_int.f (k : Nat) (l0 : List Int) (l1 : List Int) : Option (Bool) := if (l0.length : Int) = (l1.length : Int) then (slices_Equal_int_int.l0 k l0 l1 (l0.length : Int) 0) else (some false)
theorem slices_Equal_int_int.calls (k : Nat) (A0 : Option Addr) (c0 : Nat) (l0 : List Int) (A1 : Option Addr) (c1 : Nat) (l1 : List Int) (r : Bool) (w : World) (hr0 : Kd.C (Kd.int .i64) w A0 l0.length l0) (hc0 : l0.length ≤ c0) (hr1 : Kd.C (Kd.int .i64) w A1 l1.length l1) (hc1 : l1.length ≤ c1) (h : slices_Equal_int_int.f k l0 l1 = some r) :
  Calls Try.prog 18 #[.slice A0 l0.length c0, .slice A1 l1.length c1] w fun e w' => e = .returned (.bool r) ∧ Drawn0 w w' := by
 have HR0 := Aside0.mk hr0
 have HC0 := Aside0.mk hc0
 clear hr0 hc0
 have HR1 := Aside0.mk hr1
 have HC1 := Aside0.mk hc1
 clear hr1 hc1
 have H : (if (l0.length : Int) = (l1.length : Int) then (slices_Equal_int_int.l0 k l0 l1 (l0.length : Int) 0) else (some false)) = some r := h
 clear h
 by_cases c3 : (l0.length : Int) = (l1.length : Int)
 ·rw [if_pos c3] at H
  have c3b0 : ((l0.length : Int) == (l1.length : Int)) = true := beq_iff_eq.mpr c3
  have c3b1 : ((l0.length : Int) != (l1.length : Int)) = false := bne_eq_false_iff_eq.mpr c3
  have c3b2 : (l0.length == l1.length) = true := by first | simpa using c3 | (simp at c3 ⊢; omega)
  clear c3
  have H' := Aside0.mk H
  clear H
  go_enter Try.func18, Try.ntmps18
  go_wp2
  repeat (go_quiet (fail); try go_wp2)
  go_loopg [13] k (fun kq v13 w' => ∃ (x13_1 : Int), v13 = .int .i64 x13_1 ∧ Aside0 (slices_Equal_int_int.l0 kq l0 l1 (l0.length : Int) x13_1 = some r) ∧ Aside0 (kq ≤ k) ∧ Drawn0 w w')
  case atStart => exact ⟨(0), zT, H', ⟨Nat.le_refl _⟩, by repeat (first | exact Drawn0.refl _ | apply Drawn0.step)⟩
  case round =>
   clear H'
   try clear c1
   try clear p2
   try clear c3
   try clear c3b0
   try clear c3b1
   try clear c3b2
   obtain ⟨x13_1, rfl, HA, HK1, ⟨m1, rfl⟩⟩ := hrel
   cases gk with
   | zero => exact absurd HA.out (by simp [slices_Equal_int_int.l0])
   | succ k1 =>
    have H := HA.out
    clear HA
    simp only [slices_Equal_int_int.l0] at H
    by_cases c4 : x13_1 < (l0.length : Int)
    ·rw [if_pos c4] at H
     have c4b0 : decide (x13_1 < (l0.length : Int)) = true := decide_eq_true c4
     clear c4
     by_cases c5 : 0 ≤ x13_1
     ·rw [if_pos c5] at H
      have c5b0 : decide (0 ≤ x13_1) = true := decide_eq_true c5
      clear c5
      by_cases c6 : x13_1 < (l0.length : Int)
      ·rw [if_pos c6] at H
       have c6b0 : decide (x13_1 < (l0.length : Int)) = true := decide_eq_true c6
       clear c6
       by_cases c7 : x13_1 < (l1.length : Int)
       ·rw [if_pos c7] at H
        have c7b0 : decide (x13_1 < (l1.length : Int)) = true := decide_eq_true c7
        clear c7
        by_cases c8 : (rd l0 x13_1) = (rd l1 x13_1)
        ·rw [if_pos c8] at H
         have c8b0 : ((rd l0 x13_1) == (rd l1 x13_1)) = true := beq_iff_eq.mpr c8
         have c8b1 : ((rd l0 x13_1) != (rd l1 x13_1)) = false := bne_eq_false_iff_eq.mpr c8
         clear c8
         have H' := Aside0.mk H
         clear H
         have p257 : 0 ≤ (x13_1 : Int) := of_decide_eq_true ‹_›
         have q257 : x13_1 < (l0.length : Int) := of_decide_eq_true ‹_›
         obtain ⟨ad257, e257, hx257_0⟩ := Kd.at_int HR0.out x13_1 p257 q257
         cases e257
         replace p257 := eq_true p257
         replace q257 := eq_true q257
         have p258 : 0 ≤ (x13_1 : Int) := of_decide_eq_true ‹_›
         have q258 : x13_1 < (l1.length : Int) := of_decide_eq_true ‹_›
         obtain ⟨ad258, e258, hx258_0⟩ := Kd.at_int HR1.out x13_1 p258 q258
         cases e258
         replace p258 := eq_true p258
         replace q258 := eq_true q258
         go_wp2
         repeat (go_quiet (fail); try go_wp2)
         go_roundg k1
         case measure => have := HK1.out; omega
         case rel => exact ⟨(wrap64 (x13_1 + 1)), zT, H', ⟨by have := HK1.out; omega⟩, by repeat (first | exact Drawn0.refl _ | apply Drawn0.step)⟩
        ·rw [if_neg c8] at H
         have c8b0 : ((rd l0 x13_1) == (rd l1 x13_1)) = false := beq_eq_false_iff_ne.mpr c8
         have c8b1 : ((rd l0 x13_1) != (rd l1 x13_1)) = true := bne_iff_ne.mpr c8
         obtain rfl := Option.some.inj H
         have p257 : 0 ≤ (x13_1 : Int) := of_decide_eq_true ‹_›
         have q257 : x13_1 < (l0.length : Int) := of_decide_eq_true ‹_›
         obtain ⟨ad257, e257, hx257_0⟩ := Kd.at_int HR0.out x13_1 p257 q257
         cases e257
         replace p257 := eq_true p257
         replace q257 := eq_true q257
         have p258 : 0 ≤ (x13_1 : Int) := of_decide_eq_true ‹_›
         have q258 : x13_1 < (l1.length : Int) := of_decide_eq_true ‹_›
         obtain ⟨ad258, e258, hx258_0⟩ := Kd.at_int HR1.out x13_1 p258 q258
         cases e258
         replace p258 := eq_true p258
         replace q258 := eq_true q258
         go_wp2
         repeat (go_quiet (fail); try go_wp2)
         go_ret
         exact ⟨zT, by repeat (first | exact Drawn0.refl _ | apply Drawn0.step)⟩
       ·rw [if_neg c7] at H
        exact absurd H (by simp)
      ·rw [if_neg c6] at H
       exact absurd H (by simp)
     ·rw [if_neg c5] at H
      exact absurd H (by simp)
    ·rw [if_neg c4] at H
     have c4b0 : decide (x13_1 < (l0.length : Int)) = false := decide_eq_false c4
     clear c4
     obtain rfl := Option.some.inj H
     go_wp2
     repeat (go_quiet (fail); try go_wp2)
     go_ret
     exact ⟨zT, by repeat (first | exact Drawn0.refl _ | apply Drawn0.step)⟩
 ·rw [if_neg c3] at H
  have c3b0 : ((l0.length : Int) == (l1.length : Int)) = false := beq_eq_false_iff_ne.mpr c3
  have c3b1 : ((l0.length : Int) != (l1.length : Int)) = true := bne_iff_ne.mpr c3
  have c3b2 : (l0.length == l1.length) = false := by first | simpa using c3 | (simp at c3 ⊢; omega)
  obtain rfl := Option.some.inj H
  go_enter Try.func18, Try.ntmps18
  go_wp2
  repeat (go_quiet (fail); try go_wp2)
  go_ret
  exact ⟨zT, by repeat (first | exact Drawn0.refl _ | apply Drawn0.step)⟩
def superstable_Raise.l0 : Nat → Int → List Int → Int → Int → Int → List (S66) → Option (List Int × Int)
 | 0, _, _, _, _, _, _ => none
 | k + 1, x1, x10, x29, x30, x298000, x298001 => if x30 < x29 then (if x30 = x1 then (superstable_Raise.l0 k x1 x10 x29 (wrap64 (x30 + 1)) x298000 x298001) else ((superstable_raised.f k x298000 x298001 x1 x10 x30).bind fun t303 => (superstable_Raise.l0 k x1 t303 x29 (wrap64 (x30 + 1)) x298000 x298001))) else (some (x10, 0))
def superstable_Raise.f (k : Nat) (a0_0 : Int) (l0_1 : List (S66)) (a1 : Int) (l2 : List Int) : Option (List Int × Int) := (burning_Superstable.f k a0_0 l0_1 a1 l2).bind fun bt298 => (if bt298.2 = 0 then (if bt298.1 = true then ((api_Divisor_int_36.f l2).bind fun t300 => (superstable_Raise.l0 k a1 t300 (t300.length : Int) 0 a0_0 l0_1)) else (some (([] : List Int), 15))) else (some (([] : List Int), bt298.2)))
theorem superstable_Raise.calls (k : Nat) (a0_0 : Int) (A0_1 : Option Addr) (c0_1 : Nat) (l0_1 : List (S66)) (a1 : Int) (A2 : Option Addr) (c2 : Nat) (l2 : List Int) (r1 : List Int) (r2 : Int) (w : World) (hr0_1 : Kd.C k66 w A0_1 l0_1.length l0_1) (hc0_1 : l0_1.length ≤ c0_1) (hr2 : Kd.C (Kd.int .i64) w A2 l2.length l2) (hc2 : l2.length ≤ c2) (h : superstable_Raise.f k a0_0 l0_1 a1 l2 = some (r1, r2)) :
  Calls Try.prog 22 #[.agg #[.int .i64 a0_0, .slice A0_1 l0_1.length c0_1], .int .i64 a1, .slice A2 l2.length c2] w fun e w' => ∃ v0_ : Value, e = .returned (.tuple #[v0_, .int .i64 r2]) ∧ Kd.R (Kd.int .i64) 3 w' w.heap.size (fun _ => True) v0_ r1 ∧ Below w.heap.size w w' := by
 have hu24 := Try.underlying24
 have HR0_1 := Aside0.mk hr0_1
 have HC0_1 := Aside0.mk hc0_1
 clear hr0_1 hc0_1
 have HR2 := Aside0.mk hr2
 have HC2 := Aside0.mk hc2
 clear hr2 hc2
 have HB := Aside0.mk (Below.refl w.heap.size w)
 have H : ((burning_Superstable.f k a0_0 l0_1 a1 l2).bind fun bt298 => (if bt298.2 = 0 then (if bt298.1 = true then ((api_Divisor_int_36.f l2).bind fun t300 => (superstable_Raise.l0 k a1 t300 (t300.length : Int) 0 a0_0 l0_1)) else (some (([] : List Int), 15))) else (some (([] : List Int), bt298.2)))) = some (r1, r2) := h
 clear h
 replace H := Option.bind_eq_some_iff.mp H
 obtain ⟨⟨t298, t299⟩, A40, H⟩ := H
 replace H : (if t299 = 0 then (if t298 = true then ((api_Divisor_int_36.f l2).bind fun t300 => (superstable_Raise.l0 k a1 t300 (t300.length : Int) 0 a0_0 l0_1)) else (some (([] : List Int), 15))) else (some (([] : List Int), t299))) = some (r1, r2) := H
 have A4 := Aside0.mk A40
 clear A40
 by_cases c5 : t299 = 0
 ·rw [if_pos c5] at H
  have c5b0 : (t299 == 0) = true := beq_iff_eq.mpr c5
  have c5b1 : (t299 != 0) = false := bne_eq_false_iff_eq.mpr c5
  clear c5
  by_cases c6 : t298 = true
  ·subst c6
   have H1 : ((api_Divisor_int_36.f l2).bind fun t300 => (superstable_Raise.l0 k a1 t300 (t300.length : Int) 0 a0_0 l0_1)) = some (r1, r2) := by rw [if_pos rfl] at H; exact H
   clear H
   have H := H1
   clear H1
   replace H := Option.bind_eq_some_iff.mp H
   obtain ⟨t300, A70, H⟩ := H
   replace H : (superstable_Raise.l0 k a1 t300 (t300.length : Int) 0 a0_0 l0_1) = some (r1, r2) := H
   have A7 := Aside0.mk A70
   clear A70
   have H' := Aside0.mk H
   clear H
   go_enter Try.func22, Try.ntmps22
   go_wp2_with (first | ((with_reducible refine gate_dst (N := 3) rfl ?_); refine zX 3 #[.int .i64 a0_0, .slice A0_1 l0_1.length c0_1] 24 ?_; intro gb297 hg w8 hbox hb; have BK297 := Aside0.mk (hbox); have GW297 := zG HB hg; have GE297 := zG HB hg; replace HB := zS HB hb; clear hb hbox hg; obtain ⟨hcz9_0, hcz9_1, hfz9_0, hfz9_1⟩ := zD2 BK297) | ((with_reducible refine gate_callee (f := 35) rfl ?_); refine zL (some 16) Try.func35 #[.agg #[.int .i64 a0_0, .slice A0_1 l0_1.length c0_1], .int .i64 a1, .slice A2 l2.length c2] ?_; (with_reducible refine (burning_Superstable.calls k a0_0 _ _ l0_1 a1 _ _ l2 true t299 _ ?side1 ?side2 ?side3 ?side4 A4.out).mono ?_); (case side1 => exact Kd.C_below HR0_1.out zB); (case side2 => exact HC0_1.out); (case side3 => exact Kd.C_below HR2.out zB); (case side4 => exact HC2.out); rintro e w10 ⟨rfl, hb⟩; refine ⟨_, rfl, ?_⟩; replace BK297 := zb BK297 hb; replace HB := zS HB hb; (try clear hb)) | ((with_reducible refine gate_callee (f := 36) rfl ?_); refine zL (some 27) Try.func36 #[.slice A2 l2.length c2] ?_; (with_reducible refine (api_Divisor_int_36.calls _ _ l2 t300 _ ?side1 ?side2 A7.out).mono ?_); (case side1 => exact Kd.C_below HR2.out zB); (case side2 => exact HC2.out); rintro e w11 ⟨v301, rfl, ho0, hb⟩; refine ⟨_, rfl, ?_⟩; have HO302 := Aside0.mk (Kd.R_lower ho0 (below_size zB)); replace BK297 := zb BK297 hb; replace HB := zS HB hb; (try clear hb); (try clear ho0); obtain ⟨Ao12, co12, eo12⟩ := Kd.R_slice HO302.out; subst eo12))
   go_loopg [10, 30] k (fun kq v10 v30 w' => ∃ (x10_1 : List Int) (x30_1 : Int), v30 = .int .i64 x30_1 ∧ Aside0 (superstable_Raise.l0 kq a1 x10_1 (t300.length : Int) x30_1 a0_0 l0_1 = some (r1, r2)) ∧ Aside0 (kq ≤ k) ∧ Aside0 (Kd.R (Kd.int .i64) 3 w' w.heap.size (fun _ => True) v10 x10_1) ∧ Aside0 (w'.heap[gb297]? = some (.cells #[.int .i64 a0_0, (.slice A0_1 l0_1.length c0_1)] 24 (0, 0))) ∧ Aside0 (Below w.heap.size w w'))
   case atStart => exact ⟨(t300), (0), zT, H', ⟨Nat.le_refl _⟩, ⟨zR HO302⟩, ⟨zK BK297⟩, ⟨zB⟩⟩
   case round =>
    clear H'
    try clear c2
    try clear p2
    try clear c3
    try clear c5
    try clear c5b0
    try clear c5b1
    try clear c6
    try clear hcz9_0
    try clear hcz9_1
    try clear hfz9_0
    try clear hfz9_1
    obtain ⟨x10_1, x30_1, rfl, HA, HK1, HO_10, BK297, HB⟩ := hrel
    cases gk with
    | zero => exact absurd HA.out (by simp [superstable_Raise.l0])
    | succ k1 =>
     have H := HA.out
     clear HA
     simp only [superstable_Raise.l0] at H
     by_cases c13 : x30_1 < (t300.length : Int)
     ·rw [if_pos c13] at H
      have c13b0 : decide (x30_1 < (t300.length : Int)) = true := decide_eq_true c13
      clear c13
      by_cases c14 : x30_1 = a1
      ·rw [if_pos c14] at H
       have c14b0 : (x30_1 == a1) = true := beq_iff_eq.mpr c14
       have c14b1 : (x30_1 != a1) = false := bne_eq_false_iff_eq.mpr c14
       clear c14
       have H' := Aside0.mk H
       clear H
       go_wp2
       go_roundg k1
       case measure => have := HK1.out; omega
       case rel => exact ⟨(x10_1), (wrap64 (x30_1 + 1)), zT, H', ⟨by have := HK1.out; omega⟩, ⟨zR HO_10⟩, ⟨zK BK297⟩, ⟨zB⟩⟩
      ·rw [if_neg c14] at H
       have c14b0 : (x30_1 == a1) = false := beq_eq_false_iff_ne.mpr c14
       have c14b1 : (x30_1 != a1) = true := bne_iff_ne.mpr c14
       replace H := Option.bind_eq_some_iff.mp H
       obtain ⟨t303, A150, H⟩ := H
       replace H : (superstable_Raise.l0 k1 a1 t303 (t300.length : Int) (wrap64 (x30_1 + 1)) a0_0 l0_1) = some (r1, r2) := H
       have A15 := Aside0.mk A150
       clear A150
       have H' := Aside0.mk H
       clear H
       obtain ⟨hcz16_0, hcz16_1, hfz16_0, hfz16_1⟩ := zD2 BK297
       obtain ⟨Ao17, co17, eo17⟩ := Kd.R_slice HO_10.out
       subst eo17
       go_wp2_with (first | ((with_reducible refine gate_callee (f := 53) rfl ?_); refine zL (some 40) Try.func53 #[.agg #[.int .i64 a0_0, .slice A0_1 l0_1.length c0_1], .int .i64 a1, .slice Ao17 x10_1.length co17, .int .i64 x30_1] ?_; (with_reducible refine (superstable_raised.calls k1 a0_0 _ _ l0_1 a1 _ _ x10_1 x30_1 t303 _ ?side1 ?side2 ?side3 ?side4 A15.out).mono ?_); (case side1 => exact Kd.C_below HR0_1.out zB); (case side2 => exact HC0_1.out); (case side3 => exact zC (Kd.R_reads' HO_10.out).2.2); (case side4 => exact (Kd.R_reads' HO_10.out).2.1); rintro e w18 ⟨v304, rfl, ho0, hb⟩; refine ⟨_, rfl, ?_⟩; have HO305 := Aside0.mk (Kd.R_lower (Kd.R_new' ho0 (Kd.R_lt (zR HO_10))) (below_size zB)); replace HO_10 := zeRR HO_10 ho0 hb; replace BK297 := zb BK297 hb; replace HB := zS HB hb; (try clear hb); (try clear ho0)))
       go_roundg k1
       case measure => have := HK1.out; omega
       case rel => exact ⟨(t303), (wrap64 (x30_1 + 1)), zT, H', ⟨by have := HK1.out; omega⟩, ⟨by (with_reducible repeat (first | apply Kd.R_alloc | apply Kd.R_drewN | apply Kd.R_drew)); exact Kd.R_mono HO305.out (fun _ hk => trivial)⟩, ⟨zK BK297⟩, ⟨zB⟩⟩
     ·rw [if_neg c13] at H
      have c13b0 : decide (x30_1 < (t300.length : Int)) = false := decide_eq_false c13
      clear c13
      simp only [Option.some.injEq, Prod.mk.injEq] at H
      obtain ⟨rfl, rfl⟩ := H
      go_wp2
      go_ret2
      exact ⟨_, zE, by (with_reducible repeat (first | apply Kd.R_alloc | apply Kd.R_drewN | apply Kd.R_drew)); exact HO_10.out, zB⟩
  ·replace c6 := Bool.eq_false_iff.mpr c6
   subst c6
   have H1 : (some (([] : List Int), 15)) = some (r1, r2) := by rw [if_neg (show ¬ (false = true) by decide)] at H; exact H
   clear H
   have H := H1
   clear H1
   simp only [Option.some.injEq, Prod.mk.injEq] at H
   obtain ⟨rfl, rfl⟩ := H
   go_enter Try.func22, Try.ntmps22
   go_wp2_with (first | ((with_reducible refine gate_dst (N := 3) rfl ?_); refine zX 3 #[.int .i64 a0_0, .slice A0_1 l0_1.length c0_1] 24 ?_; intro gb297 hg w19 hbox hb; have BK297 := Aside0.mk (hbox); have GW297 := zG HB hg; have GE297 := zG HB hg; replace HB := zS HB hb; clear hb hbox hg; obtain ⟨hcz20_0, hcz20_1, hfz20_0, hfz20_1⟩ := zD2 BK297) | ((with_reducible refine gate_callee (f := 35) rfl ?_); refine zL (some 16) Try.func35 #[.agg #[.int .i64 a0_0, .slice A0_1 l0_1.length c0_1], .int .i64 a1, .slice A2 l2.length c2] ?_; (with_reducible refine (burning_Superstable.calls k a0_0 _ _ l0_1 a1 _ _ l2 false t299 _ ?side1 ?side2 ?side3 ?side4 A4.out).mono ?_); (case side1 => exact Kd.C_below HR0_1.out zB); (case side2 => exact HC0_1.out); (case side3 => exact Kd.C_below HR2.out zB); (case side4 => exact HC2.out); rintro e w21 ⟨rfl, hb⟩; refine ⟨_, rfl, ?_⟩; replace BK297 := zb BK297 hb; replace HB := zS HB hb; (try clear hb)))
   go_ret2
   exact ⟨_, zE, by first | exact Kd.R_nil _ _ _ _ _ | exact Kd.N_nil _ _ _ _ _ | exact Kd.V_nil _ _ _ _ _ | exact Kd.Q_nil _ _ _ _ _ | exact Kd.S_nil _ _ _ _ _, zB⟩
 ·rw [if_neg c5] at H
  have c5b0 : (t299 == 0) = false := beq_eq_false_iff_ne.mpr c5
  have c5b1 : (t299 != 0) = true := bne_iff_ne.mpr c5
  simp only [Option.some.injEq, Prod.mk.injEq] at H
  obtain ⟨rfl, rfl⟩ := H
  go_enter Try.func22, Try.ntmps22
  go_wp2_with (first | ((with_reducible refine gate_dst (N := 3) rfl ?_); refine zX 3 #[.int .i64 a0_0, .slice A0_1 l0_1.length c0_1] 24 ?_; intro gb297 hg w22 hbox hb; have BK297 := Aside0.mk (hbox); have GW297 := zG HB hg; have GE297 := zG HB hg; replace HB := zS HB hb; clear hb hbox hg; obtain ⟨hcz23_0, hcz23_1, hfz23_0, hfz23_1⟩ := zD2 BK297) | ((with_reducible refine gate_callee (f := 35) rfl ?_); refine zL (some 16) Try.func35 #[.agg #[.int .i64 a0_0, .slice A0_1 l0_1.length c0_1], .int .i64 a1, .slice A2 l2.length c2] ?_; (with_reducible refine (burning_Superstable.calls k a0_0 _ _ l0_1 a1 _ _ l2 t298 t299 _ ?side1 ?side2 ?side3 ?side4 A4.out).mono ?_); (case side1 => exact Kd.C_below HR0_1.out zB); (case side2 => exact HC0_1.out); (case side3 => exact Kd.C_below HR2.out zB); (case side4 => exact HC2.out); rintro e w24 ⟨rfl, hb⟩; refine ⟨_, rfl, ?_⟩; replace BK297 := zb BK297 hb; replace HB := zS HB hb; (try clear hb)))
  go_ret2
  exact ⟨_, zE, by first | exact Kd.R_nil _ _ _ _ _ | exact Kd.N_nil _ _ _ _ _ | exact Kd.V_nil _ _ _ _ _ | exact Kd.Q_nil _ _ _ _ _ | exact Kd.S_nil _ _ _ _ _, zB⟩
def superstable_Dual.l0 : Nat → List Int → List Int → Int → Int → Option (List Int × Int)
 | 0, _, _, _, _ => none
 | k + 1, x12, x46, x47, x48 => if x48 < x47 then (if 0 ≤ x48 then (if x48 < (x46.length : Int) then (if x48 < (x12.length : Int) then (superstable_Dual.l0 k (x12.set (x48 : Int).toNat (wrap64 ((rd x12 x48) - (rd x46 x48)))) x46 x47 (wrap64 (x48 + 1))) else (none)) else (none)) else (none)) else (some (x12, 0))
def superstable_Dual.f (k : Nat) (a0_0 : Int) (l0_1 : List (S66)) (a1 : Int) (l2 : List Int) : Option (List Int × Int) := (burning_Superstable.f k a0_0 l0_1 a1 l2).bind fun bt342 => (if bt342.2 = 0 then ((stabilize_Stable.f k a0_0 l0_1 a1 l2).bind fun bt344 => (if bt344.2 = 0 then (if bt344.1 = true then ((superstable_first.f k a0_0 l0_1 a1).bind fun bt346 => (if bt346.2 = 0 then (superstable_Dual.l0 k bt346.1 l2 (l2.length : Int) 0) else (some (([] : List Int), bt346.2)))) else (some (([] : List Int), 15))) else (some (([] : List Int), bt344.2)))) else (some (([] : List Int), bt342.2)))
theorem superstable_Dual.calls (k : Nat) (a0_0 : Int) (A0_1 : Option Addr) (c0_1 : Nat) (l0_1 : List (S66)) (a1 : Int) (A2 : Option Addr) (c2 : Nat) (l2 : List Int) (r1 : List Int) (r2 : Int) (w : World) (hr0_1 : Kd.C k66 w A0_1 l0_1.length l0_1) (hc0_1 : l0_1.length ≤ c0_1) (hr2 : Kd.C (Kd.int .i64) w A2 l2.length l2) (hc2 : l2.length ≤ c2) (h : superstable_Dual.f k a0_0 l0_1 a1 l2 = some (r1, r2)) :
  Calls Try.prog 24 #[.agg #[.int .i64 a0_0, .slice A0_1 l0_1.length c0_1], .int .i64 a1, .slice A2 l2.length c2] w fun e w' => ∃ v0_ : Value, e = .returned (.tuple #[v0_, .int .i64 r2]) ∧ Kd.R (Kd.int .i64) 3 w' w.heap.size (fun _ => True) v0_ r1 ∧ Below w.heap.size w w' := by
 have hu24 := Try.underlying24
 have HR0_1 := Aside0.mk hr0_1
 have HC0_1 := Aside0.mk hc0_1
 clear hr0_1 hc0_1
 have HR2 := Aside0.mk hr2
 have HC2 := Aside0.mk hc2
 clear hr2 hc2
 have HB := Aside0.mk (Below.refl w.heap.size w)
 have H : ((burning_Superstable.f k a0_0 l0_1 a1 l2).bind fun bt342 => (if bt342.2 = 0 then ((stabilize_Stable.f k a0_0 l0_1 a1 l2).bind fun bt344 => (if bt344.2 = 0 then (if bt344.1 = true then ((superstable_first.f k a0_0 l0_1 a1).bind fun bt346 => (if bt346.2 = 0 then (superstable_Dual.l0 k bt346.1 l2 (l2.length : Int) 0) else (some (([] : List Int), bt346.2)))) else (some (([] : List Int), 15))) else (some (([] : List Int), bt344.2)))) else (some (([] : List Int), bt342.2)))) = some (r1, r2) := h
 clear h
 replace H := Option.bind_eq_some_iff.mp H
 obtain ⟨⟨t342, t343⟩, A40, H⟩ := H
 replace H : (if t343 = 0 then ((stabilize_Stable.f k a0_0 l0_1 a1 l2).bind fun bt344 => (if bt344.2 = 0 then (if bt344.1 = true then ((superstable_first.f k a0_0 l0_1 a1).bind fun bt346 => (if bt346.2 = 0 then (superstable_Dual.l0 k bt346.1 l2 (l2.length : Int) 0) else (some (([] : List Int), bt346.2)))) else (some (([] : List Int), 15))) else (some (([] : List Int), bt344.2)))) else (some (([] : List Int), t343))) = some (r1, r2) := H
 have A4 := Aside0.mk A40
 clear A40
 by_cases c5 : t343 = 0
 ·rw [if_pos c5] at H
  have c5b0 : (t343 == 0) = true := beq_iff_eq.mpr c5
  have c5b1 : (t343 != 0) = false := bne_eq_false_iff_eq.mpr c5
  clear c5
  replace H := Option.bind_eq_some_iff.mp H
  obtain ⟨⟨t344, t345⟩, A60, H⟩ := H
  replace H : (if t345 = 0 then (if t344 = true then ((superstable_first.f k a0_0 l0_1 a1).bind fun bt346 => (if bt346.2 = 0 then (superstable_Dual.l0 k bt346.1 l2 (l2.length : Int) 0) else (some (([] : List Int), bt346.2)))) else (some (([] : List Int), 15))) else (some (([] : List Int), t345))) = some (r1, r2) := H
  have A6 := Aside0.mk A60
  clear A60
  by_cases c7 : t345 = 0
  ·rw [if_pos c7] at H
   have c7b0 : (t345 == 0) = true := beq_iff_eq.mpr c7
   have c7b1 : (t345 != 0) = false := bne_eq_false_iff_eq.mpr c7
   clear c7
   by_cases c8 : t344 = true
   ·subst c8
    have H1 : ((superstable_first.f k a0_0 l0_1 a1).bind fun bt346 => (if bt346.2 = 0 then (superstable_Dual.l0 k bt346.1 l2 (l2.length : Int) 0) else (some (([] : List Int), bt346.2)))) = some (r1, r2) := by rw [if_pos rfl] at H; exact H
    clear H
    have H := H1
    clear H1
    replace H := Option.bind_eq_some_iff.mp H
    obtain ⟨⟨t346, t349⟩, A90, H⟩ := H
    replace H : (if t349 = 0 then (superstable_Dual.l0 k t346 l2 (l2.length : Int) 0) else (some (([] : List Int), t349))) = some (r1, r2) := H
    have A9 := Aside0.mk A90
    clear A90
    by_cases c10 : t349 = 0
    ·rw [if_pos c10] at H
     have c10b0 : (t349 == 0) = true := beq_iff_eq.mpr c10
     have c10b1 : (t349 != 0) = false := bne_eq_false_iff_eq.mpr c10
     clear c10
     have H' := Aside0.mk H
     clear H
     go_enter Try.func24, Try.ntmps24
     go_wp2_with (first | ((with_reducible refine gate_dst (N := 3) rfl ?_); refine zX 3 #[.int .i64 a0_0, .slice A0_1 l0_1.length c0_1] 24 ?_; intro gb341 hg w11 hbox hb; have BK341 := Aside0.mk (hbox); have GW341 := zG HB hg; have GE341 := zG HB hg; replace HB := zS HB hb; clear hb hbox hg; obtain ⟨hcz12_0, hcz12_1, hfz12_0, hfz12_1⟩ := zD2 BK341) | ((with_reducible refine gate_callee (f := 35) rfl ?_); refine zL (some 19) Try.func35 #[.agg #[.int .i64 a0_0, .slice A0_1 l0_1.length c0_1], .int .i64 a1, .slice A2 l2.length c2] ?_; (with_reducible refine (burning_Superstable.calls k a0_0 _ _ l0_1 a1 _ _ l2 t342 t343 _ ?side1 ?side2 ?side3 ?side4 A4.out).mono ?_); (case side1 => exact Kd.C_below HR0_1.out zB); (case side2 => exact HC0_1.out); (case side3 => exact Kd.C_below HR2.out zB); (case side4 => exact HC2.out); rintro e w13 ⟨rfl, hb⟩; refine ⟨_, rfl, ?_⟩; replace BK341 := zb BK341 hb; replace HB := zS HB hb; (try clear hb); obtain ⟨hcz14_0, hcz14_1, hfz14_0, hfz14_1⟩ := zD2 BK341) | ((with_reducible refine gate_callee (f := 56) rfl ?_); refine zL (some 29) Try.func56 #[.agg #[.int .i64 a0_0, .slice A0_1 l0_1.length c0_1], .int .i64 a1, .slice A2 l2.length c2] ?_; (with_reducible refine (stabilize_Stable.calls k a0_0 _ _ l0_1 a1 _ _ l2 true t345 _ ?side1 ?side2 ?side3 ?side4 A6.out).mono ?_); (case side1 => exact Kd.C_below HR0_1.out zB); (case side2 => exact HC0_1.out); (case side3 => exact Kd.C_below HR2.out zB); (case side4 => exact HC2.out); rintro e w15 ⟨rfl, hb⟩; refine ⟨_, rfl, ?_⟩; replace BK341 := zb BK341 hb; replace HB := zS HB hb; (try clear hb); obtain ⟨hcz16_0, hcz16_1, hfz16_0, hfz16_1⟩ := zD2 BK341) | ((with_reducible refine gate_callee (f := 43) rfl ?_); refine zL (some 40) Try.func43 #[.agg #[.int .i64 a0_0, .slice A0_1 l0_1.length c0_1], .int .i64 a1] ?_; (with_reducible refine (superstable_first.calls k a0_0 _ _ l0_1 a1 t346 t349 _ ?side1 ?side2 A9.out).mono ?_); (case side1 => exact Kd.C_below HR0_1.out zB); (case side2 => exact HC0_1.out); rintro e w17 ⟨v347, rfl, ho0, hb⟩; refine ⟨_, rfl, ?_⟩; have HO348 := Aside0.mk (Kd.R_lower ho0 (below_size zB)); replace BK341 := zb BK341 hb; replace HB := zS HB hb; (try clear hb); (try clear ho0)))
     go_loopg [48] k (fun kq v48 w' => ∃ (x12_1 : List Int) (x48_1 : Int), v48 = .int .i64 x48_1 ∧ Aside0 (superstable_Dual.l0 kq x12_1 l2 (l2.length : Int) x48_1 = some (r1, r2)) ∧ Aside0 (kq ≤ k) ∧ Aside0 (Kd.R (Kd.int .i64) 3 w' w.heap.size (fun _ => True) v347 x12_1) ∧ Aside0 (w'.heap[gb341]? = some (.cells #[.int .i64 a0_0, (.slice A0_1 l0_1.length c0_1)] 24 (0, 0))) ∧ Aside0 (Below w.heap.size w w'))
     case atStart => exact ⟨(t346), (0), zT, H', ⟨Nat.le_refl _⟩, ⟨zR HO348⟩, ⟨zK BK341⟩, ⟨zB⟩⟩
     case round =>
      clear H'
      try clear c1
      try clear c2
      try clear p2
      try clear c3
      try clear c4
      try clear c5
      try clear c5b0
      try clear c5b1
      try clear c7
      try clear c7b0
      try clear c7b1
      try clear c8
      try clear c10
      try clear c10b0
      try clear c10b1
      try clear hcz12_0
      try clear hcz12_1
      try clear hcz14_0
      try clear hcz14_1
      try clear hcz16_0
      try clear hcz16_1
      try clear hfz12_0
      try clear hfz12_1
      try clear hfz14_0
      try clear hfz14_1
      try clear hfz16_0
      try clear hfz16_1
      obtain ⟨x12_1, x48_1, rfl, HA, HK1, HO_12, BK341, HB⟩ := hrel
      cases gk with
      | zero => exact absurd HA.out (by simp [superstable_Dual.l0])
      | succ k1 =>
       have H := HA.out
       clear HA
       simp only [superstable_Dual.l0] at H
       by_cases c18 : x48_1 < (l2.length : Int)
       ·rw [if_pos c18] at H
        have c18b0 : decide (x48_1 < (l2.length : Int)) = true := decide_eq_true c18
        clear c18
        by_cases c19 : 0 ≤ x48_1
        ·rw [if_pos c19] at H
         have c19b0 : decide (0 ≤ x48_1) = true := decide_eq_true c19
         clear c19
         by_cases c20 : x48_1 < (l2.length : Int)
         ·rw [if_pos c20] at H
          have c20b0 : decide (x48_1 < (l2.length : Int)) = true := decide_eq_true c20
          clear c20
          by_cases c21 : x48_1 < (x12_1.length : Int)
          ·rw [if_pos c21] at H
           have c21b0 : decide (x48_1 < (x12_1.length : Int)) = true := decide_eq_true c21
           clear c21
           obtain ⟨y352, hy352⟩ : ∃ y_ : List Int, y_ = (x12_1.set (x48_1 : Int).toNat (wrap64 ((rd x12_1 x48_1) - (rd l2 x48_1)))) := ⟨_, rfl⟩
           replace H : (superstable_Dual.l0 k1 y352 l2 (l2.length : Int) (wrap64 (x48_1 + 1))) = some (r1, r2) := by first | (rw [hy352]; with_reducible exact H) | (have H2_ := (Option.bind_some _ _).symm.trans H; rw [hy352]; with_reducible exact H2_) | (have H2_ := (Option.bind_some _ _).symm.trans H; with_reducible exact H2_) | with_reducible exact H | (rw [hy352]; exact H) | exact H
           have Ny352 := Aside0.mk hy352
           clear hy352
           have H' := Aside0.mk H
           clear H
           have p350 : 0 ≤ (x48_1 : Int) := of_decide_eq_true ‹_›
           have q350 : x48_1 < (l2.length : Int) := of_decide_eq_true ‹_›
           obtain ⟨ad350, e350, hx350_0⟩ := Kd.at_int HR2.out x48_1 p350 q350
           cases e350
           replace hx350_0 := (HB.out.cell (World.block_lt_of_cell? w _ hx350_0)).trans hx350_0
           replace p350 := eq_true p350
           replace q350 := eq_true q350
           obtain ⟨Ao23, co23, eo23⟩ := Kd.R_slice HO_12.out
           subst eo23
           have p351 : 0 ≤ (x48_1 : Int) := of_decide_eq_true ‹_›
           have q351 : x48_1 < (x12_1.length : Int) := of_decide_eq_true ‹_›
           obtain ⟨ad351, e351, hx351_0⟩ := Kd.at_int (Kd.R_reads' HO_12.out).2.2 x48_1 p351 q351
           cases e351
           replace p351 := eq_true p351
           replace q351 := eq_true q351
           have p22 : 0 ≤ (x48_1 : Int) := of_decide_eq_true ‹_›
           have q22 : (x48_1 : Int) < ((x12_1.length : Int) : Int) := of_decide_eq_true ‹_›
           obtain ⟨go22, co22, eo22, gb22, gl22, cl22, HG22⟩ := Kd.R_form HO_12.out (by omega)
           (first | cases eo22 | (injection eo22 with ea_ en_ ec_; (first | subst ea_ | (injection ea_ with ea_; subst ea_)); subst ec_; clear en_))
           have GB22 := Aside0.mk gb22
           have GG22 := Aside0.mk HG22
           clear gb22 gl22 HG22
           (first | simp only [add_plain] at hx351_0 | skip)
           obtain ⟨hx22_0, hf22_0⟩ := Kd.R_celln 0 HO_12.out (x48_1 : Int) p22 q22
           replace p22 := eq_true p22
           replace q22 := eq_true q22
           have HP24 := Kd.R_putg HO_12.out (x48_1 : Int) (wrap64 ((rd x12_1 x48_1) - (rd l2 x48_1)))
           go_wp2_with (first | ((with_reducible refine gate_store (t := 3) (p := 59) rfl ?_); refine store_event (t := 3) (p := 59) (v := ?vo_w25) (w1 := (wr.setCell ⟨go22, (x48_1 : Int).toNat, none⟩ (.int .i64 (wrap64 ((rd x12_1 x48_1) - (rd l2 x48_1)))))) ?hg ?ho ?hn ?hr ?_; (case ho => rfl); (case hg => rfl); (case hn => rfl); (case hr => first | (go_simp; done) | (go_simp; rfl)); intro w25 hw; have hg : wr.grownBy w25 (some go22) := (by rw [hw]; exact HP24.2); have hp_ : Kd.R (Kd.int .i64) 3 w25 w.heap.size (fun _ => True) (.slice (some ⟨go22, 0, none⟩) x12_1.length co23) y352 := (by rw [hw, Ny352.out]; exact HP24.1); clear HP24; replace BK341 := Aside0.mk (blk_grown (zK BK341) hg (Kd.R_ne HO_12.out BK341.out (by decide))); replace HO_12 := Aside0.mk (hp_); replace HB := Aside0.mk ((by rw [hw]; exact below_set (HB.out) GB22.out : Below w.heap.size w w25)); clear hg hw hp_))
           go_roundg k1
           case measure => have := HK1.out; omega
           case rel => exact ⟨(y352), (wrap64 (x48_1 + 1)), zT, H', ⟨by have := HK1.out; omega⟩, ⟨zR HO_12⟩, ⟨zK BK341⟩, ⟨zB⟩⟩
          ·rw [if_neg c21] at H
           exact absurd H (by simp)
         ·rw [if_neg c20] at H
          exact absurd H (by simp)
        ·rw [if_neg c19] at H
         exact absurd H (by simp)
       ·rw [if_neg c18] at H
        have c18b0 : decide (x48_1 < (l2.length : Int)) = false := decide_eq_false c18
        clear c18
        simp only [Option.some.injEq, Prod.mk.injEq] at H
        obtain ⟨rfl, rfl⟩ := H
        go_wp2
        go_ret2
        exact ⟨_, zE, by (with_reducible repeat (first | apply Kd.R_alloc | apply Kd.R_drewN | apply Kd.R_drew)); exact HO_12.out, zB⟩
    ·rw [if_neg c10] at H
     have c10b0 : (t349 == 0) = false := beq_eq_false_iff_ne.mpr c10
     have c10b1 : (t349 != 0) = true := bne_iff_ne.mpr c10
     simp only [Option.some.injEq, Prod.mk.injEq] at H
     obtain ⟨rfl, rfl⟩ := H
     go_enter Try.func24, Try.ntmps24
     go_wp2_with (first | ((with_reducible refine gate_dst (N := 3) rfl ?_); refine zX 3 #[.int .i64 a0_0, .slice A0_1 l0_1.length c0_1] 24 ?_; intro gb341 hg w26 hbox hb; have BK341 := Aside0.mk (hbox); have GW341 := zG HB hg; have GE341 := zG HB hg; replace HB := zS HB hb; clear hb hbox hg; obtain ⟨hcz27_0, hcz27_1, hfz27_0, hfz27_1⟩ := zD2 BK341) | ((with_reducible refine gate_callee (f := 35) rfl ?_); refine zL (some 19) Try.func35 #[.agg #[.int .i64 a0_0, .slice A0_1 l0_1.length c0_1], .int .i64 a1, .slice A2 l2.length c2] ?_; (with_reducible refine (burning_Superstable.calls k a0_0 _ _ l0_1 a1 _ _ l2 t342 t343 _ ?side1 ?side2 ?side3 ?side4 A4.out).mono ?_); (case side1 => exact Kd.C_below HR0_1.out zB); (case side2 => exact HC0_1.out); (case side3 => exact Kd.C_below HR2.out zB); (case side4 => exact HC2.out); rintro e w28 ⟨rfl, hb⟩; refine ⟨_, rfl, ?_⟩; replace BK341 := zb BK341 hb; replace HB := zS HB hb; (try clear hb); obtain ⟨hcz29_0, hcz29_1, hfz29_0, hfz29_1⟩ := zD2 BK341) | ((with_reducible refine gate_callee (f := 56) rfl ?_); refine zL (some 29) Try.func56 #[.agg #[.int .i64 a0_0, .slice A0_1 l0_1.length c0_1], .int .i64 a1, .slice A2 l2.length c2] ?_; (with_reducible refine (stabilize_Stable.calls k a0_0 _ _ l0_1 a1 _ _ l2 true t345 _ ?side1 ?side2 ?side3 ?side4 A6.out).mono ?_); (case side1 => exact Kd.C_below HR0_1.out zB); (case side2 => exact HC0_1.out); (case side3 => exact Kd.C_below HR2.out zB); (case side4 => exact HC2.out); rintro e w30 ⟨rfl, hb⟩; refine ⟨_, rfl, ?_⟩; replace BK341 := zb BK341 hb; replace HB := zS HB hb; (try clear hb); obtain ⟨hcz31_0, hcz31_1, hfz31_0, hfz31_1⟩ := zD2 BK341) | ((with_reducible refine gate_callee (f := 43) rfl ?_); refine zL (some 40) Try.func43 #[.agg #[.int .i64 a0_0, .slice A0_1 l0_1.length c0_1], .int .i64 a1] ?_; (with_reducible refine (superstable_first.calls k a0_0 _ _ l0_1 a1 t346 t349 _ ?side1 ?side2 A9.out).mono ?_); (case side1 => exact Kd.C_below HR0_1.out zB); (case side2 => exact HC0_1.out); rintro e w32 ⟨v347, rfl, ho0, hb⟩; refine ⟨_, rfl, ?_⟩; have HO348 := Aside0.mk (Kd.R_lower ho0 (below_size zB)); replace BK341 := zb BK341 hb; replace HB := zS HB hb; (try clear hb); (try clear ho0)))
     go_ret2
     exact ⟨_, zE, by first | exact Kd.R_nil _ _ _ _ _ | exact Kd.N_nil _ _ _ _ _ | exact Kd.V_nil _ _ _ _ _ | exact Kd.Q_nil _ _ _ _ _ | exact Kd.S_nil _ _ _ _ _, zB⟩
   ·replace c8 := Bool.eq_false_iff.mpr c8
    subst c8
    have H1 : (some (([] : List Int), 15)) = some (r1, r2) := by rw [if_neg (show ¬ (false = true) by decide)] at H; exact H
    clear H
    have H := H1
    clear H1
    simp only [Option.some.injEq, Prod.mk.injEq] at H
    obtain ⟨rfl, rfl⟩ := H
    go_enter Try.func24, Try.ntmps24
    go_wp2_with (first | ((with_reducible refine gate_dst (N := 3) rfl ?_); refine zX 3 #[.int .i64 a0_0, .slice A0_1 l0_1.length c0_1] 24 ?_; intro gb341 hg w33 hbox hb; have BK341 := Aside0.mk (hbox); have GW341 := zG HB hg; have GE341 := zG HB hg; replace HB := zS HB hb; clear hb hbox hg; obtain ⟨hcz34_0, hcz34_1, hfz34_0, hfz34_1⟩ := zD2 BK341) | ((with_reducible refine gate_callee (f := 35) rfl ?_); refine zL (some 19) Try.func35 #[.agg #[.int .i64 a0_0, .slice A0_1 l0_1.length c0_1], .int .i64 a1, .slice A2 l2.length c2] ?_; (with_reducible refine (burning_Superstable.calls k a0_0 _ _ l0_1 a1 _ _ l2 t342 t343 _ ?side1 ?side2 ?side3 ?side4 A4.out).mono ?_); (case side1 => exact Kd.C_below HR0_1.out zB); (case side2 => exact HC0_1.out); (case side3 => exact Kd.C_below HR2.out zB); (case side4 => exact HC2.out); rintro e w35 ⟨rfl, hb⟩; refine ⟨_, rfl, ?_⟩; replace BK341 := zb BK341 hb; replace HB := zS HB hb; (try clear hb); obtain ⟨hcz36_0, hcz36_1, hfz36_0, hfz36_1⟩ := zD2 BK341) | ((with_reducible refine gate_callee (f := 56) rfl ?_); refine zL (some 29) Try.func56 #[.agg #[.int .i64 a0_0, .slice A0_1 l0_1.length c0_1], .int .i64 a1, .slice A2 l2.length c2] ?_; (with_reducible refine (stabilize_Stable.calls k a0_0 _ _ l0_1 a1 _ _ l2 false t345 _ ?side1 ?side2 ?side3 ?side4 A6.out).mono ?_); (case side1 => exact Kd.C_below HR0_1.out zB); (case side2 => exact HC0_1.out); (case side3 => exact Kd.C_below HR2.out zB); (case side4 => exact HC2.out); rintro e w37 ⟨rfl, hb⟩; refine ⟨_, rfl, ?_⟩; replace BK341 := zb BK341 hb; replace HB := zS HB hb; (try clear hb)))
    go_ret2
    exact ⟨_, zE, by first | exact Kd.R_nil _ _ _ _ _ | exact Kd.N_nil _ _ _ _ _ | exact Kd.V_nil _ _ _ _ _ | exact Kd.Q_nil _ _ _ _ _ | exact Kd.S_nil _ _ _ _ _, zB⟩
  ·rw [if_neg c7] at H
   have c7b0 : (t345 == 0) = false := beq_eq_false_iff_ne.mpr c7
   have c7b1 : (t345 != 0) = true := bne_iff_ne.mpr c7
   simp only [Option.some.injEq, Prod.mk.injEq] at H
   obtain ⟨rfl, rfl⟩ := H
   go_enter Try.func24, Try.ntmps24
   go_wp2_with (first | ((with_reducible refine gate_dst (N := 3) rfl ?_); refine zX 3 #[.int .i64 a0_0, .slice A0_1 l0_1.length c0_1] 24 ?_; intro gb341 hg w38 hbox hb; have BK341 := Aside0.mk (hbox); have GW341 := zG HB hg; have GE341 := zG HB hg; replace HB := zS HB hb; clear hb hbox hg; obtain ⟨hcz39_0, hcz39_1, hfz39_0, hfz39_1⟩ := zD2 BK341) | ((with_reducible refine gate_callee (f := 35) rfl ?_); refine zL (some 19) Try.func35 #[.agg #[.int .i64 a0_0, .slice A0_1 l0_1.length c0_1], .int .i64 a1, .slice A2 l2.length c2] ?_; (with_reducible refine (burning_Superstable.calls k a0_0 _ _ l0_1 a1 _ _ l2 t342 t343 _ ?side1 ?side2 ?side3 ?side4 A4.out).mono ?_); (case side1 => exact Kd.C_below HR0_1.out zB); (case side2 => exact HC0_1.out); (case side3 => exact Kd.C_below HR2.out zB); (case side4 => exact HC2.out); rintro e w40 ⟨rfl, hb⟩; refine ⟨_, rfl, ?_⟩; replace BK341 := zb BK341 hb; replace HB := zS HB hb; (try clear hb); obtain ⟨hcz41_0, hcz41_1, hfz41_0, hfz41_1⟩ := zD2 BK341) | ((with_reducible refine gate_callee (f := 56) rfl ?_); refine zL (some 29) Try.func56 #[.agg #[.int .i64 a0_0, .slice A0_1 l0_1.length c0_1], .int .i64 a1, .slice A2 l2.length c2] ?_; (with_reducible refine (stabilize_Stable.calls k a0_0 _ _ l0_1 a1 _ _ l2 t344 t345 _ ?side1 ?side2 ?side3 ?side4 A6.out).mono ?_); (case side1 => exact Kd.C_below HR0_1.out zB); (case side2 => exact HC0_1.out); (case side3 => exact Kd.C_below HR2.out zB); (case side4 => exact HC2.out); rintro e w42 ⟨rfl, hb⟩; refine ⟨_, rfl, ?_⟩; replace BK341 := zb BK341 hb; replace HB := zS HB hb; (try clear hb)))
   go_ret2
   exact ⟨_, zE, by first | exact Kd.R_nil _ _ _ _ _ | exact Kd.N_nil _ _ _ _ _ | exact Kd.V_nil _ _ _ _ _ | exact Kd.Q_nil _ _ _ _ _ | exact Kd.S_nil _ _ _ _ _, zB⟩
 ·rw [if_neg c5] at H
  have c5b0 : (t343 == 0) = false := beq_eq_false_iff_ne.mpr c5
  have c5b1 : (t343 != 0) = true := bne_iff_ne.mpr c5
  simp only [Option.some.injEq, Prod.mk.injEq] at H
  obtain ⟨rfl, rfl⟩ := H
  go_enter Try.func24, Try.ntmps24
  go_wp2_with (first | ((with_reducible refine gate_dst (N := 3) rfl ?_); refine zX 3 #[.int .i64 a0_0, .slice A0_1 l0_1.length c0_1] 24 ?_; intro gb341 hg w43 hbox hb; have BK341 := Aside0.mk (hbox); have GW341 := zG HB hg; have GE341 := zG HB hg; replace HB := zS HB hb; clear hb hbox hg; obtain ⟨hcz44_0, hcz44_1, hfz44_0, hfz44_1⟩ := zD2 BK341) | ((with_reducible refine gate_callee (f := 35) rfl ?_); refine zL (some 19) Try.func35 #[.agg #[.int .i64 a0_0, .slice A0_1 l0_1.length c0_1], .int .i64 a1, .slice A2 l2.length c2] ?_; (with_reducible refine (burning_Superstable.calls k a0_0 _ _ l0_1 a1 _ _ l2 t342 t343 _ ?side1 ?side2 ?side3 ?side4 A4.out).mono ?_); (case side1 => exact Kd.C_below HR0_1.out zB); (case side2 => exact HC0_1.out); (case side3 => exact Kd.C_below HR2.out zB); (case side4 => exact HC2.out); rintro e w45 ⟨rfl, hb⟩; refine ⟨_, rfl, ?_⟩; replace BK341 := zb BK341 hb; replace HB := zS HB hb; (try clear hb)))
  go_ret2
  exact ⟨_, zE, by first | exact Kd.R_nil _ _ _ _ _ | exact Kd.N_nil _ _ _ _ _ | exact Kd.V_nil _ _ _ _ _ | exact Kd.Q_nil _ _ _ _ _ | exact Kd.S_nil _ _ _ _ _, zB⟩
def sandpilelaw28_Triangle.f  : Option (Int × (List (S66))) := some (3, (([(⟨0, 1, 1⟩ : S66), (⟨0, 2, 1⟩ : S66), (⟨1, 2, 1⟩ : S66)] : List (S66))))
theorem sandpilelaw28_Triangle.calls  (r1 : Int) (r2 : List (S66)) (w : World) (h : sandpilelaw28_Triangle.f  = some (r1, r2)) :
  Calls Try.prog 42 #[] w fun e w' => ∃ v1_ : Value, e = .returned (.agg #[.int .i64 r1, v1_]) ∧ Kd.R k66 66 w' w.heap.size (fun _ => True) v1_ r2 ∧ Below w.heap.size w w' := by
 have hu24 := Try.underlying24
 have hu66 := Try.underlying66
 have HB := Aside0.mk (Below.refl w.heap.size w)
 have H : (some (3, (([(⟨0, 1, 1⟩ : S66), (⟨0, 2, 1⟩ : S66), (⟨1, 2, 1⟩ : S66)] : List (S66))))) = some (r1, r2) := h
 clear h
 obtain ⟨y478, hy478⟩ : ∃ y_ : List (S66), y_ = (([(⟨0, 1, 1⟩ : S66), (⟨0, 2, 1⟩ : S66), (⟨1, 2, 1⟩ : S66)] : List (S66))) := ⟨_, rfl⟩
 replace H : (some (3, y478)) = some (r1, r2) := by first | (rw [hy478]; with_reducible exact H) | (have H2_ := (Option.bind_some _ _).symm.trans H; rw [hy478]; with_reducible exact H2_) | (have H2_ := (Option.bind_some _ _).symm.trans H; with_reducible exact H2_) | with_reducible exact H | (rw [hy478]; exact H) | exact H
 have Ny478 := Aside0.mk hy478
 clear hy478
 simp only [Option.some.injEq, Prod.mk.injEq] at H
 obtain ⟨rfl, rfl⟩ := H
 go_enter Try.func42, Try.ntmps42
 go_wp2_with (first | ((with_reducible refine gate_dst (N := 0) rfl ?_); refine zX 0 #[.int .i64 0, .slice none 0 0] 24 ?_; intro gb477 hg w1 hbox hb; have BK477 := Aside0.mk (hbox); have GW477 := zG HB hg; have GE477 := zG HB hg; replace HB := zS HB hb; clear hb hbox hg) | ((with_reducible refine gate_dst (N := 4) rfl ?_); refine Kd.R_lit k66 _ 66 ?hg (N := 4) ?hd (xs := ([(⟨0, 1, 1⟩ : S66), (⟨0, 2, 1⟩ : S66), (⟨1, 2, 1⟩ : S66)] : List (S66))) (inner := [.int .i64 0, .int .i64 1, .int .i64 1, .int .i64 0, .int .i64 2, .int .i64 1, .int .i64 1, .int .i64 2, .int .i64 1]) (ok := fun _ => True) (okp := fun _ => True) ?hr ?hp (fun _ hk => hk) trivial (Below.refl _ _) (Nat.le_refl _) (by simp) ?_; (case hd => rfl); (case hg => rfl); (case hr => first | (go_simp; done) | (go_simp; rfl)); (case hp => exact (Reps.c3 (show Kd.M k66 _ _ _ (⟨0, 1, 1⟩ : S66) [.int .i64 0, .int .i64 1, .int .i64 1] from (k66_mkM _ _ _ (⟨0, 1, 1⟩ : S66) )) (Reps.c3 (show Kd.M k66 _ _ _ (⟨0, 2, 1⟩ : S66) [.int .i64 0, .int .i64 2, .int .i64 1] from (k66_mkM _ _ _ (⟨0, 2, 1⟩ : S66) )) (Reps.c3 (show Kd.M k66 _ _ _ (⟨1, 2, 1⟩ : S66) [.int .i64 1, .int .i64 2, .int .i64 1] from (k66_mkM _ _ _ (⟨1, 2, 1⟩ : S66) )) (Reps.none _ _))))); intro v479 w2 ho3 hb hg_ hnew_; clear hg_ hnew_; (first | rw [← Ny478.out] at ho3 | (simp only [Int.reduceToNat] at ho3; rw [← Ny478.out] at ho3)); have HO480 := Aside0.mk (Kd.R_lower ho3 (below_size zB)); replace BK477 := zb BK477 hb; replace HB := zS HB hb; clear hb ho3; obtain ⟨Ao4, co4, eo4⟩ := Kd.R_slice HO480.out; subst eo4; obtain ⟨hcz5_0, hcz5_1, hfz5_0, hfz5_1⟩ := zD2 BK477))
 refine bodyPost_ret (results_cell_row rfl _ _ gb477 24 #[.int .i64 3, .slice Ao4 y478.length co4] (0, 0) _ rfl (by refine zk ?_; refine blk_put (cs := #[.int .i64 3, .slice none 0 0]) ?_ 1 _ rfl; refine zk ?_; refine blk_put (cs := #[.int .i64 0, .slice none 0 0]) ?_ 0 _ rfl; exact zK BK477) Try.underlying24 rfl (by kernel_rfl)) rfl ?_
 exact ⟨_, zE, by (with_reducible repeat (first | apply Kd.R_alloc | apply Kd.R_drewN | apply Kd.R_drew)); exact Kd.R_mono (Kd.R_far (p := ⟨gb477, 1, none⟩) (Kd.R_far (p := ⟨gb477, 0, none⟩) (Kd.R_types HO480.out BK477.out (by decide)) (fun _ hk => hk.2) (.int .i64 3)) (fun _ hk => hk.2) (.slice Ao4 y478.length co4)) (fun _ hk => trivial), zB⟩
section
def CountsAt (w : World) (g : Nat) (f : Nat → Int) : Prop := ∃ cs : Array Value, w.heap[g]? = some (.cells cs 71 (0, 0)) ∧ cs.size = 7200 ∧ ∀ i, i < 7200 → cs[i]? = some (.int .i64 (f i))
def sumTo (l : List Int) : Nat → Int
 | 0 => 0
 | k + 1 => sumTo l k + rd l k
def sumOf (l : List Int) : Int := sumTo l l.length
def countTo (l : List (List Int)) : Nat → Nat → Int
 | 0 => fun _ => 0
 | k + 1 => fun i => if i = (sumOf (rd_L2 l k)).toNat then countTo l k i + 1 else countTo l k i
def topOfTo (l : List (List Int)) : Nat → Int
 | 0 => 0
 | k + 1 => max (topOfTo l k) (sumOf (rd_L2 l k))
theorem zero7200 : Try.zeroCells71 = (List.replicate 7200 (Value.int .i64 0)).toArray := by kernel_rfl
theorem counts_new {w : World} {o : Obj} (ho : o = .cells Try.zeroCells71 71) : CountsAt (w.alloc o) w.heap.size (fun _ => 0) := by
 refine ⟨_, (heap_alloc_new w o).trans (by rw [ho]), by rw [zero7200, List.size_toArray, List.length_replicate], fun i hi => ?_⟩
 rw [zero7200, List.getElem?_toArray, List.getElem?_replicate, if_pos hi]
namespace CountsAt
variable {w w' : World} {g : Nat} {f : Nat → Int}
theorem lt (h : CountsAt w g f) : g < w.heap.size := by obtain ⟨cs, hb, _⟩ := h; exact blk_lt hb
theorem cell (h : CountsAt w g f) (i : Nat) (hi : i < 7200) : w.cell? ⟨g, i, none⟩ = some (.int .i64 (f i)) := by obtain ⟨cs, hb, _, hc⟩ := h; exact (blk_cell hb i).trans (hc i hi)
theorem frozen (h : CountsAt w g f) (i : Nat) : w.frozen? ⟨g, i, none⟩ = false := by obtain ⟨cs, hb, _⟩ := h; exact blk_frozen hb i
theorem below (h : CountsAt w g f) (hb : Below w.heap.size w w') : CountsAt w' g f := by obtain ⟨cs, hh, h1, h2⟩ := h; exact ⟨cs, blk_below hh hb, h1, h2⟩
theorem set (h : CountsAt w g f) (i : Nat) (hi : i < 7200) (x : Int) : CountsAt (w.setCell ⟨g, i, none⟩ (.int .i64 x)) g (fun j => if j = i then x else f j) := by
 obtain ⟨cs, hh, h1, h2⟩ := h
 refine ⟨cs.setIfInBounds i (.int .i64 x), by simpa using blk_set hh i (.int .i64 x), by simp [h1], fun k hk => ?_⟩
 by_cases e : k = i
 ·subst e
  rw [Array.getElem?_setIfInBounds_self_of_lt (by omega)]; simp
 ·rw [Array.getElem?_setIfInBounds_ne (by omega), h2 k hk]; simp [e]
theorem reads (h : CountsAt w g f) (n : Nat) (hn : n ≤ 7200) : Kd.C (Kd.int .i64) w (some ⟨g, 0, none⟩) n ((List.range n).map f) :=
 Kd.C_of_reads (d := 0) ⟨by simp, by omega, fun _ => ⟨_, rfl, fun j hj => by
  rw [add_at, Nat.zero_add]
  rw [h.cell j (by omega), List.getD_eq_getElem?_getD, List.getElem?_map, List.getElem?_range hj]
  rfl⟩⟩
end CountsAt
theorem clone_calls' (n : Nat) (A : Option Addr) (c : Nat) (L : List Int) (w : World) (hl : L.length = n) (hn : n ≤ c) (hC : Kd.C (Kd.int .i64) w A n L) (hs : n < 17592186044416 := by omega) :
  Calls Try.prog 45 #[.slice A n c] w fun e w' => ∃ v0_ : Value, e = .returned (v0_) ∧ Kd.R (Kd.int .i64) 3 w' w.heap.size (fun _ => True) v0_ L ∧ Below w.heap.size w w' := by
 subst hl
 exact slices_Clone_int_int.calls A c L L w hC hn (by unfold slices_Clone_int_int.f clone.f; rw [if_pos hs])
theorem sumTo_bound {l : List Int} (h : ∀ j : Nat, 0 ≤ rd l j ∧ rd l j ≤ 599) : ∀ k : Nat, 0 ≤ sumTo l k ∧ sumTo l k ≤ 599 * k
 | 0 => by simp [sumTo]
 | k + 1 => by
  have h1 := sumTo_bound h k
  have h2 := h k
  simp only [sumTo]
  omega
theorem countTo_bound (l : List (List Int)) : ∀ (k : Nat) (i : Nat), 0 ≤ countTo l k i ∧ countTo l k i ≤ k
 | 0, i => by simp [countTo]
 | k + 1, i => by
  have := countTo_bound l k i
  simp only [countTo]
  split <;> omega
theorem topOfTo_bound {l : List (List Int)} : ∀ k : Nat, (∀ i : Nat, i < k → 0 ≤ sumOf (rd_L2 l i) ∧ sumOf (rd_L2 l i) ≤ 7188) → 0 ≤ topOfTo l k ∧ topOfTo l k ≤ 7188
 | 0, _ => by simp [topOfTo]
 | k + 1, h => by
  have h1 := topOfTo_bound k (fun i hi => h i (by omega))
  have h2 := h k (by omega)
  simp only [topOfTo]
  omega
theorem levels_good (k : Nat) (N : Int) (A0 : Option Addr) (c0 : Nat) (E : List S66) (q : Int) (l : List (List Int)) (w : World) (hr0 : Kd.C k66 w A0 E.length E) (hc0 : E.length ≤ c0) (hf : superstable_All.f k N E q = some (l, 0)) (hl : l.length ≤ 16384) (hx : ∀ i : Nat, i < l.length → (rd_L2 l i).length ≤ 12 ∧ ∀ j : Nat, 0 ≤ rd (rd_L2 l i) j ∧ rd (rd_L2 l i) j ≤ 599) :
  Calls Try.prog 14 #[.agg #[.int .i64 N, .slice A0 E.length c0], .int .i64 q] w fun e w' => ∃ v, e = .returned (.tuple #[v, .int .i64 0]) ∧ (Kd.int .i64).R 3 w' w.heap.size (fun _ => True) v ((List.range ((topOfTo l l.length).toNat + 1)).map (countTo l l.length)) ∧ Below w.heap.size w w' := by
 have hu := Try.underlying24
 have hui := Try.underlying71
 have Hf := Aside0.mk hf
 have HX := Aside0.mk hx
 clear hf hx
 go_enter Try.func14, Try.ntmps14
 go_wp2_with (go_at_call 12; refine (superstable_All.calls k N A0 c0 E q l 0 _ (Kd.C_alloc hr0 _) hc0 Hf.out).mono ?_; rintro e w1 ⟨v, rfl, hN, hb⟩; obtain ⟨Av, cv, rfl⟩ := Kd.N_slice hN; have HB := Aside0.mk (below_step (below_alloc (Below.refl w.heap.size w) _) hb); have HN := Aside0.mk (Kd.N_lower (base' := w.heap.size) (Kd.N_mono (Kd.N_bound hN) (ok' := fun k => k < w1.heap.size) (fun k hk => hk.2)) (by simp)); clear hN hb)
 have HC := Aside0.mk (counts_new (w := w1) rfl)
 have HN2 := Aside0.mk (Kd.N_mono (Kd.N_alloc HN.out (.cells Try.zeroCells71 71)) (ok' := fun k => k ≠ w1.heap.size) (fun k hk => by omega))
 have HB2 := Aside0.mk (below_alloc HB.out (.cells Try.zeroCells71 71))
 have hgl := HB.out.size
 clear HN HB
 generalize (w1.alloc (.cells Try.zeroCells71 71)) = W1 at HC HN2 HB2 ⊢
 generalize w1.heap.size = g at HC HN2 hgl ⊢
 go_loopw [9, 26] (fun t i wr => ∃ k : Nat, k ≤ l.length ∧ i = .int .i64 k ∧ t = .int .i64 (topOfTo l k) ∧ Aside0 (CountsAt wr g (countTo l k)) ∧ Aside0 ((Kd.slice 3 (Kd.int .i64)).N 42 wr w.heap.size (fun k => k ≠ g) (.slice Av l.length cv) l) ∧ Aside0 (Below w.heap.size w wr)) (fun _ i _ => l.length - (intOf i).toNat)
 case atStart => exact ⟨0, by omega, rfl, rfl, HC, HN2, HB2⟩
 case round =>
  clear HC HN2 HB2
  obtain ⟨k, hk, rfl, rfl, HC, HN, HB⟩ := hrel
  have hs : ∀ i : Nat, i < l.length → 0 ≤ sumOf (rd_L2 l i) ∧ sumOf (rd_L2 l i) ≤ 7188 := fun i hi => by
   have h1 := HX.out i hi
   have h2 := sumTo_bound h1.2 (rd_L2 l i).length
   unfold sumOf
   omega
  have htop := topOfTo_bound k (fun i hi => hs i (by omega))
  by_cases hkl : k < l.length
  ·have hsk := hs k hkl
   have HSK := Aside0.mk (show topOfTo l (k + 1) = max (topOfTo l k) (sumOf (rd_L2 l k)) from rfl)
   have HCK := Aside0.mk (show countTo l (k + 1) = fun i => if i = (sumOf (rd_L2 l k)).toNat then countTo l k i + 1 else countTo l k i from rfl)
   obtain ⟨-, -, hC⟩ := Kd.N_reads' HN.out
   obtain ⟨ad, Ac, cc, rfl, hx0, hcc, hcr⟩ := at_L2 hC k (by omega) (by omega)
   rw [Int.toNat_natCast] at hx0
   have hxk := HX.out k hkl
   have hcb := countTo_bound l k
   have HCB := Aside0.mk hcb
   have HTB := Aside0.mk htop
   have hk0 : (0 : Int) ≤ (k : Int) := by omega
   have hk1 : (k : Int) < (l.length : Int) := by omega
   generalize rd_L2 l k = c at hx0 hcc hcr hxk hsk HSK HCK
   have HXK := Aside0.mk hxk.2
   have hc12 := hxk.1
   have HCR := Aside0.mk hcr
   have HSKB := Aside0.mk hsk
   clear hs htop hC hxk hcb hcr hcc hsk
   go_wp2
   go_loop [12, 32] (fun s i => ∃ j : Nat, j ≤ c.length ∧ i = .int .i64 j ∧ s = .int .i64 (sumTo c j)) (fun _ i => c.length - (intOf i).toNat)
   case atStart => exact ⟨0, by omega, rfl, rfl⟩
   case round =>
    obtain ⟨j, hj, rfl, rfl⟩ := hrel
    have hsb := sumTo_bound HXK.out j
    by_cases hjc : j < c.length
    ·obtain ⟨bd, rfl, hy⟩ := Kd.at_int HCR.out j (by omega) (by omega)
     rw [Int.toNat_natCast] at hy
     have hrb := HXK.out j
     have hj0 : (0 : Int) ≤ (j : Int) := by omega
     have hj1 : (j : Int) < (c.length : Int) := by omega
     have HST := Aside0.mk (show sumTo c (j + 1) = sumTo c j + rd c j from rfl)
     generalize sumTo c j = sj at hsb HST ⊢
     generalize rd c j = rj at hy hrb HST
     go_wp2
     go_round
     case rel => exact ⟨j + 1, by omega, by go_num, by rw [HST.out]⟩
     case measure => simp [intOf]; omega
    ·obtain rfl : j = c.length := by omega
     obtain ⟨m, hm⟩ := Int.eq_ofNat_of_zero_le hsb.1
     have hso : sumOf c = (m : Int) := hm
     rw [hso] at HSK HCK HSKB
     rw [hm]
     have hm72 : m < 7200 := by have := HSKB.out.2; omega
     have hcl := HC.out.cell m hm72
     have hfz := HC.out.frozen m
     have hcb := HCB.out m
     have htb := HTB.out
     have HC2 := Aside0.mk (HC.out.set m hm72 (countTo l k m + 1))
     rw [show (fun j => if j = m then countTo l k m + 1 else countTo l k j) = countTo l (k + 1) from by rw [HCK.out]; funext i; by_cases e : i = m <;> simp [e]] at HC2
     have HN2 := Aside0.mk (Kd.N_far HN.out (p := ⟨g, m, none⟩) (fun k hk => hk) (.int .i64 (countTo l k m + 1)))
     have HB2 := Aside0.mk (Below.setCell (p := ⟨g, m, none⟩) HB.out hgl (.int .i64 (countTo l k m + 1)))
     clear hm hso hsb
     have hm0 : (0 : Int) ≤ (m : Int) := by omega
     have hm1 : (m : Int) < 7200 := by omega
     generalize countTo l k m = x at hcl hcb HC2 HN2 HB2
     generalize topOfTo l k = tp at htb HSK ⊢
     go_wp2
     go_roundw
     case rel => exact ⟨k + 1, by omega, by go_num, by rw [HSK.out]; congr 1; split <;> omega, HC2, HN2, HB2⟩
     case measure => exact (show l.length - ((k : Int) + 1).toNat < l.length - ((k : Int)).toNat by omega)
  ·obtain rfl : k = l.length := by omega
   obtain ⟨m, hm⟩ := Int.eq_ofNat_of_zero_le htop.1
   rw [hm] at htop ⊢
   have HM := Aside0.mk hm
   have hm72 : m + 1 ≤ 7200 := by omega
   have hm0 : (0 : Int) ≤ (m : Int) + 1 := by omega
   have hm1 : (m : Int) + 1 ≤ 7200 := by omega
   have HCL := Aside0.mk (clone_calls' (m + 1) (some ⟨g, 0, none⟩) 7200 ((List.range (m + 1)).map (countTo l l.length)) wr (by simp) hm72 (HC.out.reads (m + 1) hm72))
   clear hm htop
   go_wp2_with (go_at_call 45; refine HCL.out.mono ?_; rintro e w3 ⟨v, rfl, h1, h2⟩; have H1 := Aside0.mk h1; have H2 := Aside0.mk h2; clear h1 h2)
   go_ret2
   refine ⟨v, rfl, ?_, HB.out.trans (H2.out.mono HB.out.size)⟩
   rw [HM.out, Int.toNat_natCast]
   exact Kd.R_lower H1.out HB.out.size
theorem levels_bad (k : Nat) (N : Int) (A0 : Option Addr) (c0 : Nat) (E : List S66) (q : Int) (l : List (List Int)) (t : Int) (w : World) (hr0 : Kd.C k66 w A0 E.length E) (hc0 : E.length ≤ c0) (hf : superstable_All.f k N E q = some (l, t)) (ht : t ≠ 0) :
  Calls Try.prog 14 #[.agg #[.int .i64 N, .slice A0 E.length c0], .int .i64 q] w fun e w' => e = .returned (.tuple #[.slice none 0 0, .int .i64 t]) ∧ Below w.heap.size w w' := by
 have hu := Try.underlying24
 have Hf := Aside0.mk hf
 have hne : (t != 0) = true := by simpa using ht
 clear hf ht
 go_enter Try.func14, Try.ntmps14
 go_wp2_with (go_at_call 12; refine (superstable_All.calls k N A0 c0 E q l t _ (Kd.C_alloc hr0 _) hc0 Hf.out).mono ?_; rintro e w1 ⟨v, rfl, hN, hb⟩; have HB := Aside0.mk (below_step (below_alloc (Below.refl w.heap.size w) _) hb); clear hN hb)
 go_ret2
 exact ⟨rfl, HB.out⟩
def okLevels (l : List (List Int)) : Bool := decide (l.length ≤ 16384) && l.all fun c => decide (c.length ≤ 12) && c.all fun x => decide (0 ≤ x ∧ x ≤ 599)
theorem okLevels_get {l : List (List Int)} (h : okLevels l = true) : l.length ≤ 16384 ∧ ∀ i : Nat, i < l.length → (rd_L2 l i).length ≤ 12 ∧ ∀ j : Nat, 0 ≤ rd (rd_L2 l i) j ∧ rd (rd_L2 l i) j ≤ 599 := by
 simp only [okLevels, Bool.and_eq_true, decide_eq_true_eq] at h
 refine ⟨h.1, fun i hi => ?_⟩
 have e : rd_L2 l i = l[i] := by simp [rd_L2, List.getD_eq_getElem?_getD, List.getElem?_eq_getElem hi]
 have h2 := List.all_eq_true.1 h.2 _ (List.getElem_mem hi)
 rw [← e] at h2
 simp only [Bool.and_eq_true, decide_eq_true_eq] at h2
 refine ⟨h2.1, fun j => ?_⟩
 by_cases hj : j < (rd_L2 l i).length
 ·have h3 := List.all_eq_true.1 h2.2 _ (List.getElem_mem hj)
  have e3 : rd (rd_L2 l i) j = (rd_L2 l i)[j] := by simp [rd, List.getD_eq_getElem?_getD, List.getElem?_eq_getElem hj]
  rw [e3]; simpa using h3
 ·have e3 : rd (rd_L2 l i) j = 0 := by simp only [rd, Int.toNat_natCast, List.getD_eq_getElem?_getD, List.getElem?_eq_none (by omega : (rd_L2 l i).length ≤ j)]; rfl
  rw [e3]; omega
def levelsOf (l : List (List Int)) : List Int := (List.range ((topOfTo l l.length).toNat + 1)).map (countTo l l.length)
def superstable_Levels.f (k : Nat) (N : Int) (E : List S66) (q : Int) : Option (List Int × Int) :=
 (superstable_All.f k N E q).bind fun t => if t.2 = 0 then (if okLevels t.1 = true then some (levelsOf t.1, 0) else none) else some ([], t.2)
theorem superstable_Levels.calls (k : Nat) (a0_0 : Int) (A0_1 : Option Addr) (c0_1 : Nat) (l0_1 : List (S66)) (a1 : Int) (r1 : List Int) (r2 : Int) (w : World) (hr0_1 : Kd.C k66 w A0_1 l0_1.length l0_1) (hc0_1 : l0_1.length ≤ c0_1) (h : superstable_Levels.f k a0_0 l0_1 a1 = some (r1, r2)) :
  Calls Try.prog 14 #[.agg #[.int .i64 a0_0, .slice A0_1 l0_1.length c0_1], .int .i64 a1] w fun e w' => ∃ v0_ : Value, e = .returned (.tuple #[v0_, .int .i64 r2]) ∧ Kd.R (Kd.int .i64) 3 w' w.heap.size (fun _ => True) v0_ r1 ∧ Below w.heap.size w w' := by
 unfold superstable_Levels.f at h
 obtain ⟨⟨l, t⟩, ht, H⟩ := Option.bind_eq_some_iff.mp h
 simp only at H
 by_cases h0 : t = 0
 ·subst h0
  rw [if_pos rfl] at H
  by_cases hv : okLevels l = true
  ·rw [if_pos hv] at H
   simp only [Option.some.injEq, Prod.mk.injEq] at H
   obtain ⟨rfl, rfl⟩ := H
   obtain ⟨g1, g2⟩ := okLevels_get hv
   exact levels_good k a0_0 A0_1 c0_1 l0_1 a1 l w hr0_1 hc0_1 ht g1 g2
  ·rw [if_neg hv] at H; cases H
 ·rw [if_neg h0] at H
  simp only [Option.some.injEq, Prod.mk.injEq] at H
  obtain ⟨rfl, rfl⟩ := H
  refine (levels_bad k a0_0 A0_1 c0_1 l0_1 a1 l t w hr0_1 hc0_1 ht h0).mono ?_
  rintro e w' ⟨rfl, hb⟩
  exact ⟨_, rfl, Kd.R_nil _ _ _ _ _, hb⟩
end
end Go.Proofs.Ytffdiakgjakngaa.P
