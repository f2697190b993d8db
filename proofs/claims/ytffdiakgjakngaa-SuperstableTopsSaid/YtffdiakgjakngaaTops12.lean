/- A part of the proof that SuperstableTops answers true (text 12 of 15): own walks and plain laws; no conditions. -/
import Derived.Test.YtffdiakgjakngaaTops11
namespace Go.Proofs.Ytffdiakgjakngaa.P
open Go.RowKit Go.Proofs.YtffdiakgjakngaaW.PrintWords Go.Proofs.YtffdiakgjakngaaW.PrintLast Go.Proofs.YtffdiakgjakngaaW.PrintMore
set_option linter.unusedVariables false
set_option linter.unusedSimpArgs false
set_option maxHeartbeats 8000000
set_option maxRecDepth 100000
def risesTo (x : List Int) (q : Int) (r : Nat → List Int) (k : Nat) : Bool := (List.range k).any fun v => decide ((v : Int) ≠ q) && decide (rd x v < rd (r v) v)
theorem risesTo_succ (x : List Int) (q : Int) (r : Nat → List Int) (k : Nat) : risesTo x q r (k + 1) = (risesTo x q r k || (decide ((k : Int) ≠ q) && decide (rd x k < rd (r k) k))) := by simp [risesTo, List.range_succ, List.any_append]
theorem risesTo_true {x : List Int} {q : Int} {r : Nat → List Int} {k n : Nat} (hk : k < n) (hq : (k : Int) ≠ q) (h : rd x k < rd (r k) k) : risesTo x q r n = true := by
 unfold risesTo
 rw [List.any_eq_true]
 exact ⟨k, List.mem_range.2 hk, by simp [hq, h]⟩
theorem maximal1_calls (K : Nat) (N : Int) (A0 : Option Addr) (c0 : Nat) (E : List S66) (q : Int) (qx gx : Nat) (A : Option Addr) (c : Nat) (x : List Int) (r : Nat → List Int) (W : World) (hr0 : Kd.C k66 W A0 E.length E) (hc0 : E.length ≤ c0) (hg : W.heap[gx]? = some (.cells #[.int .i64 N, .slice A0 E.length c0] 24 (0, 0))) (hq : W.heap[qx]? = some (.cells #[.int .i64 q] 3 (0, 0)))
  (hx : Kd.C (Kd.int .i64) W A x.length x) (hc : x.length ≤ c) (hr : ∀ v : Nat, v < x.length → (v : Int) ≠ q → superstable_raised.f K N E q x v = some (r v) ∧ v < (r v).length) :
  Calls Try.prog 52 #[.slice A x.length c, .pointer (some ⟨qx, 0, none⟩), .pointer (some ⟨gx, 0, none⟩)] W fun e w' => e = .returned (.bool (risesTo x q r x.length)) ∧ Below W.heap.size W w' := by
 have HR0 := Aside0.mk hr0
 have HG := Aside0.mk hg
 have HQ := Aside0.mk hq
 have HX := Aside0.mk hx
 have HR := Aside0.mk hr
 have hlb : x.length ≤ 9223372036854775807 := Kd.C_max hx
 clear hr0 hg hq hx hr
 go_enter Try.func52, Try.ntmps52
 go_wp2
 go_loopw [10] (fun i wr => ∃ k : Nat, k ≤ x.length ∧ i = .int .i64 k ∧ Aside0 (risesTo x q r k = false) ∧ Aside0 (Below W.heap.size W wr)) (fun i _ => x.length - (intOf i).toNat)
 case atStart => exact ⟨0, by omega, rfl, ⟨rfl⟩, ⟨Below.refl _ _⟩⟩
 case round =>
  obtain ⟨k, hk, rfl, HF, HB⟩ := hrel
  have hq0 : wr.cell? ⟨qx, 0, none⟩ = some (.int .i64 q) := (blk_cell (blk_below HQ.out HB.out) 0).trans rfl
  have hg0 : wr.cell? ⟨gx, 0, none⟩ = some (.int .i64 N) := (blk_cell (blk_below HG.out HB.out) 0).trans rfl
  have hg1 : wr.cell? ⟨gx, 1, none⟩ = some (.slice A0 E.length c0) := (blk_cell (blk_below HG.out HB.out) 1).trans rfl
  have hu := Try.underlying24
  by_cases hkl : k < x.length
  ·have hC := Kd.C_below HX.out HB.out
   have HC := Aside0.mk hC
   obtain ⟨ad, rfl, hx0⟩ := Kd.at_int hC k (by omega) (by omega)
   rw [Int.toNat_natCast] at hx0
   have hk0 : (0 : Int) ≤ (k : Int) := by omega
   have hk1 : (k : Int) < (x.length : Int) := by omega
   clear hC
   by_cases hkq : (k : Int) = q
   ·have HS := Aside0.mk (show risesTo x q r (k + 1) = false from by rw [risesTo_succ, HF.out]; simp [hkq])
    have hqb : ((k : Int) == q) = true := by simpa using hkq
    have HKQ := Aside0.mk hkq
    clear hkq
    go_wp2
    go_roundw
    case rel => exact ⟨k + 1, by omega, by go_num, HS, HB⟩
    case measure => exact (show x.length - ((k : Int) + 1).toNat < x.length - ((k : Int)).toNat by omega)
   ·have hqb : ((k : Int) == q) = false := by simpa using hkq
    obtain ⟨hrf, hrl⟩ := HR.out k hkl hkq
    have HRF := Aside0.mk (superstable_raised.calls K N A0 c0 E q (some ad) c x k (r k) wr (Kd.C_below HR0.out HB.out) hc0 HC.out hc hrf)
    have HKQ := Aside0.mk hkq
    clear hkq hrf
    by_cases hup : rd x k < rd (r k) k
    ·have HT := Aside0.mk (risesTo_true (n := x.length) hkl HKQ.out hup)
     have hk2 : (k : Int) < ((r k).length : Int) := by omega
     go_wp2_with (go_at_call 53; refine HRF.out.mono ?_; rintro e w1 ⟨v1, rfl, hr1, hb1⟩; obtain ⟨Ar, cr, rfl⟩ := Kd.R_slice hr1; obtain ⟨-, -, hC1⟩ := Kd.R_reads' hr1; obtain ⟨ad1, rfl, hy⟩ := Kd.at_int hC1 k (by omega) (by omega); rw [Int.toNat_natCast] at hy; have HB1 := Aside0.mk hb1; clear hr1 hb1 hC1)
     go_ret
     exact ⟨by rw [HT.out]; rfl, HB.out.trans (HB1.out.mono HB.out.size)⟩
    ·have HS := Aside0.mk (show risesTo x q r (k + 1) = false from by rw [risesTo_succ, HF.out]; simp [hup])
     have hup' : ¬ rd (r k) k > rd x k := hup
     have hk2 : (k : Int) < ((r k).length : Int) := by omega
     go_wp2_with (go_at_call 53; refine HRF.out.mono ?_; rintro e w1 ⟨v1, rfl, hr1, hb1⟩; obtain ⟨Ar, cr, rfl⟩ := Kd.R_slice hr1; obtain ⟨-, -, hC1⟩ := Kd.R_reads' hr1; obtain ⟨ad1, rfl, hy⟩ := Kd.at_int hC1 k (by omega) (by omega); rw [Int.toNat_natCast] at hy; have HB1 := Aside0.mk hb1; clear hr1 hb1 hC1)
     go_roundw
     case rel => exact ⟨k + 1, by omega, by go_num, HS, ⟨HB.out.trans (HB1.out.mono HB.out.size)⟩⟩
     case measure => exact (show x.length - ((k : Int) + 1).toNat < x.length - ((k : Int)).toNat by omega)
  ·obtain rfl : k = x.length := by omega
   go_wp2
   go_ret
   exact ⟨by rw [HF.out]; rfl, HB.out⟩
theorem top_bad (k : Nat) (N : Int) (A0 : Option Addr) (c0 : Nat) (E : List S66) (q : Int) (l : List (List Int)) (t : Int) (w : World) (hr0 : Kd.C k66 w A0 E.length E) (hc0 : E.length ≤ c0) (hf : superstable_All.f k N E q = some (l, t)) (ht : t ≠ 0) :
  Calls Try.prog 20 #[.agg #[.int .i64 N, .slice A0 E.length c0], .int .i64 q] w fun e w' => e = .returned (.tuple #[.slice none 0 0, .int .i64 t]) ∧ Below w.heap.size w w' := by
 have hu := Try.underlying24
 have Hf := Aside0.mk hf
 have hne : (t != 0) = true := by simpa using ht
 have HX := Aside0.mk (blk_alloc (heap_alloc_new w (.cells #[.int .i64 N, .slice A0 E.length c0] 24)) (.cells #[.int .i64 q] 3))
 have hg0 : ((w.alloc (.cells #[.int .i64 N, .slice A0 E.length c0] 24)).alloc (.cells #[.int .i64 q] 3)).cell? ⟨w.heap.size, 0, none⟩ = some (.int .i64 N) := (blk_cell HX.out 0).trans rfl
 have hg1 : ((w.alloc (.cells #[.int .i64 N, .slice A0 E.length c0] 24)).alloc (.cells #[.int .i64 q] 3)).cell? ⟨w.heap.size, 1, none⟩ = some (.slice A0 E.length c0) := (blk_cell HX.out 1).trans rfl
 clear hf ht
 go_enter Try.func20, Try.ntmps20
 go_wp2_with (go_at_call 12; refine (superstable_All.calls k N A0 c0 E q l t _ (Kd.C_alloc (Kd.C_alloc hr0 _) _) hc0 Hf.out).mono ?_; rintro e w1 ⟨v, rfl, hN, hb⟩; have HB := Aside0.mk (below_step (below_alloc (below_alloc (Below.refl w.heap.size w) _) _) hb); clear hN hb)
 go_ret2
 exact ⟨rfl, HB.out⟩
theorem top_good (k K : Nat) (N : Int) (A0 : Option Addr) (c0 : Nat) (E : List S66) (q : Int) (l : List (List Int)) (r : List Int → Nat → List Int) (w : World) (hr0 : Kd.C k66 w A0 E.length E) (hc0 : E.length ≤ c0) (hf : superstable_All.f k N E q = some (l, 0)) (hr : ∀ x ∈ l, ∀ v : Nat, v < x.length → (v : Int) ≠ q → superstable_raised.f K N E q x v = some (r x v) ∧ v < (r x v).length) :
  Calls Try.prog 20 #[.agg #[.int .i64 N, .slice A0 E.length c0], .int .i64 q] w fun e w' => ∃ v, e = .returned (.tuple #[v, .int .i64 0]) ∧ Kd.N (Kd.slice 3 (Kd.int .i64)) 42 w' w.heap.size (fun k_ => (w.heap.size ≤ k_)) v (l.filter fun x => !risesTo x q (r x) x.length) ∧ Below w.heap.size w w' := by
 have hu := Try.underlying24
 have Hf := Aside0.mk hf
 have HX := Aside0.mk (blk_alloc (heap_alloc_new w (.cells #[.int .i64 N, .slice A0 E.length c0] 24)) (.cells #[.int .i64 q] 3))
 have HQ := Aside0.mk (heap_alloc2_new w (.cells #[.int .i64 N, .slice A0 E.length c0] 24) (.cells #[.int .i64 q] 3))
 have hg0 : ((w.alloc (.cells #[.int .i64 N, .slice A0 E.length c0] 24)).alloc (.cells #[.int .i64 q] 3)).cell? ⟨w.heap.size, 0, none⟩ = some (.int .i64 N) := (blk_cell HX.out 0).trans rfl
 have hg1 : ((w.alloc (.cells #[.int .i64 N, .slice A0 E.length c0] 24)).alloc (.cells #[.int .i64 q] 3)).cell? ⟨w.heap.size, 1, none⟩ = some (.slice A0 E.length c0) := (blk_cell HX.out 1).trans rfl
 have HR := Aside0.mk hr
 clear hf hr
 go_enter Try.func20, Try.ntmps20
 go_wp2_with (go_at_call 12; refine (superstable_All.calls k N A0 c0 E q l 0 _ (Kd.C_alloc (Kd.C_alloc hr0 _) _) hc0 Hf.out).mono ?_; rintro e w1 ⟨v, rfl, hN, hb⟩; obtain ⟨Av, cv, rfl⟩ := Kd.N_slice hN; have HB := Aside0.mk (below_step (below_alloc (below_alloc (Below.refl w.heap.size w) _) _) hb); have HX1 := Aside0.mk (blk_below HX.out hb); have HQ1 := Aside0.mk (blk_below HQ.out hb); have HN := Aside0.mk hN; clear hN hb)
 have hW0 : w.heap.size + 2 = ((w.alloc (.cells #[.int .i64 N, .slice A0 E.length c0] 24)).alloc (.cells #[.int .i64 q] 3)).heap.size := by simp
 rw [← hW0] at HN
 have HDA : Aside0 (∀ row, (∀ g, row = some g → w.heap.size + 2 ≤ g) → DelAt (w.heap.size + 1) w.heap.size row w1 l (fun x => risesTo x q (r x) x.length)) := ⟨fun row hrow W' A c x hgr hxl hc hx => by
  have hB : Below w.heap.size w W' := pw_below_grown HB.out row HB.out.size hgr (fun g e => by have := hrow g e; omega)
  refine maximal1_calls K N A0 c0 E q (w.heap.size + 1) w.heap.size A c x (r x) W' (Kd.C_below hr0 hB) hc0 ((hgr.block _ (blk_lt HX1.out) (fun e => by have := hrow _ e.symm; omega)).trans HX1.out) ((hgr.block _ (blk_lt HQ1.out) (fun e => by have := hrow _ e.symm; omega)).trans HQ1.out) hx hc (HR.out x hxl)⟩
 have hsz := HB.out.size
 by_cases hex : ∃ j : Nat, j < l.length ∧ (fun x => risesTo x q (r x) x.length) (rd_L2 l j) = true
 ·obtain ⟨g0, cap, hv, hge, -, -⟩ := Kd.N_form HN.out (by obtain ⟨j, hj, _⟩ := hex; omega)
  injection hv with hv1 hv2 hv3
  subst hv1 hv3
  refine (deleteFunc_some (w.heap.size + 1) w.heap.size (w.heap.size + 2) g0 cv (fun k => w.heap.size + 2 ≤ k) l _ w1 w1 HN.out ⟨rfl, rfl, rfl, Nat.le_refl _, fun _ _ _ => rfl⟩ (HDA.out (some g0) (fun g e => by injection e with e; omega)) hex).mono ?_
  rintro e w2 ⟨m, rfl, hm, hN2, hg2⟩
  have HN2 := Aside0.mk (Kd.N_mono (Kd.N_lower (base' := w.heap.size) hN2 (by omega)) (ok' := fun k => w.heap.size ≤ k) (fun k hk => by omega))
  have HB2 := Aside0.mk (pw_below_grown HB.out (some g0) HB.out.size hg2 (fun k e => by injection e with e; omega))
  clear hm hN2 hg2 hex hW0
  go_wp2
  go_ret2
  exact ⟨_, rfl, HN2.out, HB2.out⟩
 ·have hno : ∀ j : Nat, j < l.length → (fun x => risesTo x q (r x) x.length) (rd_L2 l j) = false := fun j hj => by
   cases h : (fun x => risesTo x q (r x) x.length) (rd_L2 l j) with
   | false => rfl
   | true => exact absurd ⟨j, hj, h⟩ hex
  have HFN := Aside0.mk (filter_none (l := l) (del := fun x => risesTo x q (r x) x.length) hno)
  refine (deleteFunc_none (w.heap.size + 1) w.heap.size (w.heap.size + 2) none Av cv (fun k => w.heap.size + 2 ≤ k) l _ w1 w1 HN.out ⟨rfl, rfl, rfl, Nat.le_refl _, fun _ _ _ => rfl⟩ (HDA.out none (fun g e => by cases e)) hno).mono ?_
  rintro e w2 ⟨rfl, hb2⟩
  have HN2 := Aside0.mk (Kd.N_below (Kd.N_mono (Kd.N_lower (base' := w.heap.size) HN.out (by omega)) (ok' := fun k => w.heap.size ≤ k) (fun k hk => by omega)) hb2)
  have HB2 := Aside0.mk (HB.out.trans (hb2.mono HB.out.size))
  clear hb2 hex hno hW0
  go_wp2
  go_ret2
  exact ⟨.slice Av l.length cv, rfl, by rw [HFN.out]; exact HN2.out, HB2.out⟩
def okRaised (k : Nat) (N : Int) (E : List S66) (q : Int) (l : List (List Int)) : Bool := l.all fun c => (List.range c.length).all fun v => decide ((v : Int) = q) || match superstable_raised.f k N E q c v with | some r => decide (v < r.length) | none => false
def raisedAt (k : Nat) (N : Int) (E : List S66) (q : Int) (c : List Int) (v : Nat) : List Int := (superstable_raised.f k N E q c v).getD []
theorem okRaised_get {k : Nat} {N : Int} {E : List S66} {q : Int} {l : List (List Int)} (h : okRaised k N E q l = true) : ∀ x ∈ l, ∀ v : Nat, v < x.length → (v : Int) ≠ q → superstable_raised.f k N E q x v = some (raisedAt k N E q x v) ∧ v < (raisedAt k N E q x v).length := by
 intro x hx v hv hq
 have h1 := List.all_eq_true.1 (List.all_eq_true.1 h x hx) v (List.mem_range.2 hv)
 rw [decide_eq_false hq, Bool.false_or] at h1
 unfold raisedAt
 cases hr : superstable_raised.f k N E q x v with
 | none => rw [hr] at h1; cases h1
 | some r => rw [hr] at h1; exact ⟨rfl, by simpa using h1⟩
def superstable_Maximal.f (k : Nat) (N : Int) (E : List S66) (q : Int) : Option (List (List Int) × Int) :=
 (superstable_All.f k N E q).bind fun t => if t.2 = 0 then (if okRaised k N E q t.1 = true then some (t.1.filter fun x => !risesTo x q (raisedAt k N E q x) x.length, 0) else none) else some ([], t.2)
theorem superstable_Maximal.calls (k : Nat) (a0_0 : Int) (A0_1 : Option Addr) (c0_1 : Nat) (l0_1 : List (S66)) (a1 : Int) (r1 : List (List Int)) (r2 : Int) (w : World) (hr0_1 : Kd.C k66 w A0_1 l0_1.length l0_1) (hc0_1 : l0_1.length ≤ c0_1) (h : superstable_Maximal.f k a0_0 l0_1 a1 = some (r1, r2)) :
  Calls Try.prog 20 #[.agg #[.int .i64 a0_0, .slice A0_1 l0_1.length c0_1], .int .i64 a1] w fun e w' => ∃ v0_ : Value, e = .returned (.tuple #[v0_, .int .i64 r2]) ∧ Kd.N (Kd.slice 3 (Kd.int .i64)) 42 w' w.heap.size (fun k_ => (w.heap.size ≤ k_)) v0_ r1 ∧ Below w.heap.size w w' := by
 unfold superstable_Maximal.f at h
 obtain ⟨⟨l, t⟩, ht, H⟩ := Option.bind_eq_some_iff.mp h
 simp only at H
 by_cases h0 : t = 0
 ·subst h0
  rw [if_pos rfl] at H
  by_cases hv : okRaised k a0_0 l0_1 a1 l = true
  ·rw [if_pos hv] at H
   simp only [Option.some.injEq, Prod.mk.injEq] at H
   obtain ⟨rfl, rfl⟩ := H
   exact top_good k k a0_0 A0_1 c0_1 l0_1 a1 l _ w hr0_1 hc0_1 ht (okRaised_get hv)
  ·rw [if_neg hv] at H; cases H
 ·rw [if_neg h0] at H
  simp only [Option.some.injEq, Prod.mk.injEq] at H
  obtain ⟨rfl, rfl⟩ := H
  refine (top_bad k a0_0 A0_1 c0_1 l0_1 a1 l t w hr0_1 hc0_1 ht h0).mono ?_
  rintro e w' ⟨rfl, hb⟩
  exact ⟨_, rfl, Kd.N_nil _ _ _ _ _, hb⟩
end Go.Proofs.Ytffdiakgjakngaa.P
