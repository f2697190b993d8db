/- A part of the proof that SuperstableTops answers true (text 6 of 15): own walks and plain laws; no conditions. -/
import Derived.Test.YtffdiakgjakngaaTops5
namespace Go.Proofs.Ytffdiakgjakngaa.P
open Go.RowKit Go.Proofs.YtffdiakgjakngaaW.PrintWords Go.Proofs.YtffdiakgjakngaaW.PrintLast Go.Proofs.YtffdiakgjakngaaW.PrintMore
set_option linter.unusedVariables false
set_option linter.unusedSimpArgs false
set_option maxHeartbeats 8000000
set_option maxRecDepth 100000
section
attribute [local go_sem] max2_int min2_int max_two min_two max_three min_three max_four min_four
def sandpileref08_Between.l0 : Nat → Int → Int → Int → Int → List (S66) → Option (Int)
 | 0, _, _, _, _, _ => none
 | k + 1, x1, x2, x7, x151000, x151001 => if x7 < (x151001.length : Int) then (if 0 ≤ x7 then (if ((rd_T66 x151001 x7).f0) = (mn x1 x2) then (if ((rd_T66 x151001 x7).f1) = (mx x1 x2) then (some ((rd_T66 x151001 x7).f2)) else (sandpileref08_Between.l0 k x1 x2 (wrap64 (x7 + 1)) x151000 x151001)) else (sandpileref08_Between.l0 k x1 x2 (wrap64 (x7 + 1)) x151000 x151001)) else (none)) else (some 0)
def sandpileref08_Between.f (k : Nat) (a0_0 : Int) (l0_1 : List (S66)) (a1 : Int) (a2 : Int) : Option (Int) := sandpileref08_Between.l0 k a1 a2 0 a0_0 l0_1
theorem sandpileref08_Between.calls (k : Nat) (a0_0 : Int) (A0_1 : Option Addr) (c0_1 : Nat) (l0_1 : List (S66)) (a1 : Int) (a2 : Int) (r : Int) (w : World) (hr0_1 : Kd.C k66 w A0_1 l0_1.length l0_1) (hc0_1 : l0_1.length ≤ c0_1) (h : sandpileref08_Between.f k a0_0 l0_1 a1 a2 = some r) :
  Calls Try.prog 97 #[.agg #[.int .i64 a0_0, .slice A0_1 l0_1.length c0_1], .int .i64 a1, .int .i64 a2] w fun e w' => e = .returned (.int .i64 r) ∧ Below w.heap.size w w' := by
 have hu24 := Try.underlying24
 have hu66 := Try.underlying66
 have HR0_1 := Aside0.mk hr0_1
 have HC0_1 := Aside0.mk hc0_1
 clear hr0_1 hc0_1
 have HB := Aside0.mk (Below.refl w.heap.size w)
 have H : (sandpileref08_Between.l0 k a1 a2 0 a0_0 l0_1) = some r := h
 clear h
 have H' := Aside0.mk H
 clear H
 go_enter Try.func97, Try.ntmps97
 go_wp2_with (first | ((with_reducible refine gate_dst (N := 3) rfl ?_); (try (refine gate_guard (by rfl) ?_; dsimp only)); refine zX 3 #[.int .i64 a0_0, .slice A0_1 l0_1.length c0_1] 24 ?_; intro gb150 hg w4 hbox hb; have BK150 := Aside0.mk (hbox); have GW150 := zG HB hg; have GE150 := zG HB hg; replace HB := zS HB hb; clear hb hbox hg))
 go_loopg [7] k (fun kq v7 w' => ∃ (x7_1 : Int), v7 = .int .i64 x7_1 ∧ Aside0 (sandpileref08_Between.l0 kq a1 a2 x7_1 a0_0 l0_1 = some r) ∧ Aside0 (kq ≤ k) ∧ Aside0 (w'.heap[gb150]? = some (.cells #[.int .i64 a0_0, (.slice A0_1 l0_1.length c0_1)] 24 (0, 0))) ∧ Aside0 (Below w.heap.size w w'))
 case atStart => exact ⟨(0), zT, H', ⟨Nat.le_refl _⟩, ⟨zK BK150⟩, ⟨zB⟩⟩
 case round =>
  clear H'
  try clear p2
  obtain ⟨x7_1, rfl, HA, HK1, BK150, HB⟩ := hrel
  cases gk with
  | zero => exact absurd HA.out (by simp [sandpileref08_Between.l0])
  | succ k1 =>
   have H := HA.out
   clear HA
   simp only [sandpileref08_Between.l0] at H
   by_cases c5 : x7_1 < (l0_1.length : Int)
   ·rw [if_pos c5] at H
    have c5b0 : decide (x7_1 < (l0_1.length : Int)) = true := decide_eq_true c5
    clear c5
    by_cases c6 : 0 ≤ x7_1
    ·rw [if_pos c6] at H
     have c6b0 : decide (0 ≤ x7_1) = true := decide_eq_true c6
     clear c6
     obtain ⟨ji7, hji7⟩ : ∃ j_ : Int, (mn a1 a2) = j_ := ⟨_, rfl⟩
     replace H : (if ((rd_T66 l0_1 x7_1).f0) = (ji7) then (if ((rd_T66 l0_1 x7_1).f1) = (mx a1 a2) then (some ((rd_T66 l0_1 x7_1).f2)) else (sandpileref08_Between.l0 k1 a1 a2 (wrap64 (x7_1 + 1)) a0_0 l0_1)) else (sandpileref08_Between.l0 k1 a1 a2 (wrap64 (x7_1 + 1)) a0_0 l0_1)) = some r := by first | (rw [hji7] at H; exact H) | (simp only [hji7] at H ⊢; exact H)
     have hji7_ : (if a2 < a1 then a2 else a1) = ji7 := hji7
     by_cases c8 : ((rd_T66 l0_1 x7_1).f0) = (ji7)
     ·rw [if_pos c8] at H
      have c8b0 : (((rd_T66 l0_1 x7_1).f0) == (ji7)) = true := beq_iff_eq.mpr c8
      have c8b1 : (((rd_T66 l0_1 x7_1).f0) != (ji7)) = false := bne_eq_false_iff_eq.mpr c8
      clear c8
      obtain ⟨ji9, hji9⟩ : ∃ j_ : Int, (mx a1 a2) = j_ := ⟨_, rfl⟩
      replace H : (if ((rd_T66 l0_1 x7_1).f1) = (ji9) then (some ((rd_T66 l0_1 x7_1).f2)) else (sandpileref08_Between.l0 k1 a1 a2 (wrap64 (x7_1 + 1)) a0_0 l0_1)) = some r := by first | (rw [hji9] at H; exact H) | (simp only [hji9] at H ⊢; exact H)
      have hji9_ : (if a1 < a2 then a2 else a1) = ji9 := hji9
      by_cases c10 : ((rd_T66 l0_1 x7_1).f1) = (ji9)
      ·rw [if_pos c10] at H
       have c10b0 : (((rd_T66 l0_1 x7_1).f1) == (ji9)) = true := beq_iff_eq.mpr c10
       have c10b1 : (((rd_T66 l0_1 x7_1).f1) != (ji9)) = false := bne_eq_false_iff_eq.mpr c10
       clear c10
       obtain rfl := Option.some.inj H
       obtain ⟨hcz11_0, hcz11_1, hfz11_0, hfz11_1⟩ := zD2 BK150
       have p151 : 0 ≤ (x7_1 : Int) := of_decide_eq_true ‹_›
       have q151 : x7_1 < (l0_1.length : Int) := of_decide_eq_true ‹_›
       obtain ⟨ad151, e151, hx151_0, hx151_1, hx151_2⟩ := at_T66 HR0_1.out x7_1 p151 q151
       cases e151
       replace hx151_0 := (HB.out.cell (World.block_lt_of_cell? w _ hx151_0)).trans hx151_0
       replace hx151_1 := (HB.out.cell (World.block_lt_of_cell? w _ hx151_1)).trans hx151_1
       replace hx151_2 := (HB.out.cell (World.block_lt_of_cell? w _ hx151_2)).trans hx151_2
       replace p151 := eq_true p151
       replace q151 := eq_true q151
       go_wp2_with (first | ((with_reducible refine gate_dst (N := 8) rfl ?_); (try (refine gate_guard (by rfl) ?_; dsimp only)); refine zX 8 #[.int .i64 0, .int .i64 0, .int .i64 0] 66 ?_; intro gb152 hg w12 hbox hb; have BK152 := Aside0.mk (hbox); have GW152 := zG HB hg; have GE152 := zG HB hg; replace HB := zS HB hb; have NB150_152 := Aside0.mk ((by rw [hg]; exact Nat.ne_of_lt (blk_lt (g := gb150) (o := .cells #[.int .i64 a0_0, .slice (some ad151) l0_1.length c0_1] 24 (0, 0)) (zK BK150)) : gb150 ≠ gb152)); have NB152_150 := Aside0.mk ((by rw [hg]; exact Nat.ne_of_gt (blk_lt (g := gb150) (o := .cells #[.int .i64 a0_0, .slice (some ad151) l0_1.length c0_1] 24 (0, 0)) (zK BK150)) : gb152 ≠ gb150)); replace BK150 := zb BK150 hb; clear hb hbox hg; have hnb13 := NB152_150.out; have hnc13 := NB150_152.out; obtain ⟨hcz14_0, hcz14_1, hcz14_2, hfz14_0, hfz14_1, hfz14_2⟩ := zD3 BK152))
       go_ret
       exact ⟨by first | rfl | (simp [errW_none, errW_some] <;> rfl) | (simp only [← hji7, ← hji9]; first | rfl | (simp [errW_none, errW_some] <;> rfl)) | (simp [*, errW_none, errW_some] <;> rfl), zB⟩
      ·rw [if_neg c10] at H
       have c10b0 : (((rd_T66 l0_1 x7_1).f1) == (ji9)) = false := beq_eq_false_iff_ne.mpr c10
       have c10b1 : (((rd_T66 l0_1 x7_1).f1) != (ji9)) = true := bne_iff_ne.mpr c10
       have H' := Aside0.mk H
       clear H
       obtain ⟨hcz15_0, hcz15_1, hfz15_0, hfz15_1⟩ := zD2 BK150
       have p151 : 0 ≤ (x7_1 : Int) := of_decide_eq_true ‹_›
       have q151 : x7_1 < (l0_1.length : Int) := of_decide_eq_true ‹_›
       obtain ⟨ad151, e151, hx151_0, hx151_1, hx151_2⟩ := at_T66 HR0_1.out x7_1 p151 q151
       cases e151
       replace hx151_0 := (HB.out.cell (World.block_lt_of_cell? w _ hx151_0)).trans hx151_0
       replace hx151_1 := (HB.out.cell (World.block_lt_of_cell? w _ hx151_1)).trans hx151_1
       replace hx151_2 := (HB.out.cell (World.block_lt_of_cell? w _ hx151_2)).trans hx151_2
       replace p151 := eq_true p151
       replace q151 := eq_true q151
       go_wp2_with (first | ((with_reducible refine gate_dst (N := 8) rfl ?_); (try (refine gate_guard (by rfl) ?_; dsimp only)); refine zX 8 #[.int .i64 0, .int .i64 0, .int .i64 0] 66 ?_; intro gb152 hg w16 hbox hb; have BK152 := Aside0.mk (hbox); have GW152 := zG HB hg; have GE152 := zG HB hg; replace HB := zS HB hb; have NB150_152 := Aside0.mk ((by rw [hg]; exact Nat.ne_of_lt (blk_lt (g := gb150) (o := .cells #[.int .i64 a0_0, .slice (some ad151) l0_1.length c0_1] 24 (0, 0)) (zK BK150)) : gb150 ≠ gb152)); have NB152_150 := Aside0.mk ((by rw [hg]; exact Nat.ne_of_gt (blk_lt (g := gb150) (o := .cells #[.int .i64 a0_0, .slice (some ad151) l0_1.length c0_1] 24 (0, 0)) (zK BK150)) : gb152 ≠ gb150)); replace BK150 := zb BK150 hb; clear hb hbox hg; have hnb17 := NB152_150.out; have hnc17 := NB150_152.out; obtain ⟨hcz18_0, hcz18_1, hcz18_2, hfz18_0, hfz18_1, hfz18_2⟩ := zD3 BK152))
       go_roundg k1
       case measure => have := HK1.out; omega
       case rel => exact ⟨(wrap64 (x7_1 + 1)), zT, H', ⟨by have := HK1.out; omega⟩, ⟨by refine zk ?_; refine blk_far ?_ NB150_152.out _; refine zk ?_; refine blk_far ?_ NB150_152.out _; refine zk ?_; refine blk_far ?_ NB150_152.out _; exact zK BK150⟩, ⟨zB⟩⟩
     ·rw [if_neg c8] at H
      have c8b0 : (((rd_T66 l0_1 x7_1).f0) == (ji7)) = false := beq_eq_false_iff_ne.mpr c8
      have c8b1 : (((rd_T66 l0_1 x7_1).f0) != (ji7)) = true := bne_iff_ne.mpr c8
      have H' := Aside0.mk H
      clear H
      obtain ⟨hcz19_0, hcz19_1, hfz19_0, hfz19_1⟩ := zD2 BK150
      have p151 : 0 ≤ (x7_1 : Int) := of_decide_eq_true ‹_›
      have q151 : x7_1 < (l0_1.length : Int) := of_decide_eq_true ‹_›
      obtain ⟨ad151, e151, hx151_0, hx151_1, hx151_2⟩ := at_T66 HR0_1.out x7_1 p151 q151
      cases e151
      replace hx151_0 := (HB.out.cell (World.block_lt_of_cell? w _ hx151_0)).trans hx151_0
      replace hx151_1 := (HB.out.cell (World.block_lt_of_cell? w _ hx151_1)).trans hx151_1
      replace hx151_2 := (HB.out.cell (World.block_lt_of_cell? w _ hx151_2)).trans hx151_2
      replace p151 := eq_true p151
      replace q151 := eq_true q151
      go_wp2_with (first | ((with_reducible refine gate_dst (N := 8) rfl ?_); (try (refine gate_guard (by rfl) ?_; dsimp only)); refine zX 8 #[.int .i64 0, .int .i64 0, .int .i64 0] 66 ?_; intro gb152 hg w20 hbox hb; have BK152 := Aside0.mk (hbox); have GW152 := zG HB hg; have GE152 := zG HB hg; replace HB := zS HB hb; have NB150_152 := Aside0.mk ((by rw [hg]; exact Nat.ne_of_lt (blk_lt (g := gb150) (o := .cells #[.int .i64 a0_0, .slice (some ad151) l0_1.length c0_1] 24 (0, 0)) (zK BK150)) : gb150 ≠ gb152)); have NB152_150 := Aside0.mk ((by rw [hg]; exact Nat.ne_of_gt (blk_lt (g := gb150) (o := .cells #[.int .i64 a0_0, .slice (some ad151) l0_1.length c0_1] 24 (0, 0)) (zK BK150)) : gb152 ≠ gb150)); replace BK150 := zb BK150 hb; clear hb hbox hg; have hnb21 := NB152_150.out; have hnc21 := NB150_152.out; obtain ⟨hcz22_0, hcz22_1, hcz22_2, hfz22_0, hfz22_1, hfz22_2⟩ := zD3 BK152))
      go_roundg k1
      case measure => have := HK1.out; omega
      case rel => exact ⟨(wrap64 (x7_1 + 1)), zT, H', ⟨by have := HK1.out; omega⟩, ⟨by refine zk ?_; refine blk_far ?_ NB150_152.out _; refine zk ?_; refine blk_far ?_ NB150_152.out _; refine zk ?_; refine blk_far ?_ NB150_152.out _; exact zK BK150⟩, ⟨zB⟩⟩
    ·rw [if_neg c6] at H
     exact absurd H (by simp)
   ·rw [if_neg c5] at H
    have c5b0 : decide (x7_1 < (l0_1.length : Int)) = false := decide_eq_false c5
    clear c5
    obtain rfl := Option.some.inj H
    obtain ⟨hcz23_0, hcz23_1, hfz23_0, hfz23_1⟩ := zD2 BK150
    go_wp2
    go_ret
    exact ⟨zE, zB⟩
end
def Before (x y : S66) : Prop := x.f0 < y.f0 ∨ x.f0 = y.f0 ∧ x.f1 < y.f1
structure RightE (N : Int) (E : List S66) : Prop where
 ok : ∀ x ∈ E, edgeOk N x = true
 le : ∀ x ∈ E, x.f0 ≤ x.f1
 order : E.Pairwise Before
theorem checkFrom_zero {N : Int} : ∀ {E : List S66} {p0 p1 : Int}, checkFrom N p0 p1 E = 0 → (∀ x ∈ E, edgeOk N x = true ∧ x.f0 ≤ x.f1 ∧ (p0 < x.f0 ∨ p0 = x.f0 ∧ p1 < x.f1)) ∧ E.Pairwise Before
 | [], _, _, _ => ⟨fun x hx => absurd hx (by simp), List.Pairwise.nil⟩
 | y :: E, p0, p1, h => by
  rw [checkFrom] at h
  by_cases he : edgeErr N p0 p1 y = 0
  ·rw [if_pos he] at h
   obtain ⟨h1, h2⟩ := checkFrom_zero h
   have hy : edgeOk N y = true ∧ y.f0 ≤ y.f1 ∧ (p0 < y.f0 ∨ p0 = y.f0 ∧ p1 < y.f1) := by
    unfold edgeErr at he
    cases hok : edgeOk N y with
    | false => rw [hok] at he; simp at he
    | true =>
     rw [hok, if_neg (show ¬ (true = false) by decide)] at he
     by_cases hc : y.f0 < p0 ∨ y.f0 = p0 ∧ y.f1 ≤ p1 ∨ y.f0 > y.f1
     ·rw [if_pos hc] at he; exact absurd he (by decide)
     ·exact ⟨rfl, by omega, by omega⟩
   refine ⟨fun x hx => ?_, List.Pairwise.cons (fun x hx => (h1 x hx).2.2) h2⟩
   rcases List.mem_cons.1 hx with rfl | hx
   ·exact hy
   ·have := h1 x hx
    exact ⟨this.1, this.2.1, by omega⟩
  ·rw [if_neg he] at h; exact absurd h he
theorem checkG_zero {N : Int} {E : List S66} (h : checkG N E = 0) : 1 ≤ N ∧ N ≤ 12 ∧ RightE N E := by
 unfold checkG at h
 by_cases hN : N < 1 ∨ N > 12
 ·rw [if_pos hN] at h; exact absurd h (by decide)
 ·rw [if_neg hN] at h
  obtain ⟨h1, h2⟩ := checkFrom_zero h
  exact ⟨by omega, by omega, fun x hx => (h1 x hx).1, fun x hx => (h1 x hx).2.1, h2⟩
theorem RightE.inB {N : Int} {E : List S66} (h : RightE N E) : edgesInB N E = true := by
 refine List.all_eq_true.2 fun x hx => ?_
 have := h.ok x hx
 simpa [edgeOk] using this
theorem RightE.mults {N : Int} {E : List S66} (h : RightE N E) (hl : E.length ≤ 40) : multsOk E = true := by
 unfold multsOk
 rw [decide_eq_true hl, Bool.true_and]
 refine List.all_eq_true.2 fun x hx => ?_
 have := h.ok x hx
 simp [edgeOk] at this ⊢
 omega
def fewB (N : Int) (E : List S66) : Bool := if E.length > 40 then false else if checkG N E = 0 then (if N ≤ 5 then decide (sizeTo E E.length ≤ 8) else false) else true
theorem few_ev (N : Int) (E : List S66) : Ev (fun k => sandpileref08_FewTrees.f k N E) (fewB N E) := by
 unfold sandpileref08_FewTrees.f sandpileref08_small.f fewB
 by_cases hl : E.length > 40
 ·simp only [if_pos hl, if_pos (show (E.length : Int) > 40 by omega)]
  exact Ev.const _
 ·simp only [if_neg hl, if_neg (show ¬ (E.length : Int) > 40 by omega)]
  refine Ev.bind (a := if checkG N E = 0 then (if N ≤ 5 then decide (sizeTo E E.length ≤ 8) else false) else true) ?_ (Ev.const _)
  refine Ev.bind (check08_ev N E (by omega)) ?_
  by_cases h0 : checkG N E = 0
  ·simp only [if_pos h0]
   by_cases h5 : N ≤ 5
   ·simp only [if_pos h5, sandpileref08_Size.f, (checkG_zero h0).2.2.mults (by omega), Option.bind_some, if_true]
    rw [show decide (((sizeTo E E.length : Nat) : Int) ≤ 8) = decide (sizeTo E E.length ≤ 8) by congr 1; exact propext (by omega)]
    exact Ev.const _
   ·simp only [if_neg h5]; exact Ev.const _
  ·simp only [if_neg h0]; exact Ev.const _
def hitB (a b : Int) (x : S66) : Bool := decide (x.f0 = min a b ∧ x.f1 = max a b)
def btw (E : List S66) (a b : Int) : Int := match E.find? (hitB a b) with | some x => x.f2 | none => 0
theorem btw_cons (x : S66) (E : List S66) (a b : Int) : btw (x :: E) a b = if x.f0 = min a b ∧ x.f1 = max a b then x.f2 else btw E a b := by
 unfold btw
 rw [List.find?_cons]
 unfold hitB
 by_cases h : x.f0 = min a b ∧ x.f1 = max a b
 ·simp [h]
 ·rw [decide_eq_false h, if_neg h]
theorem btw_comm (E : List S66) (a b : Int) : btw E a b = btw E b a := by
 unfold btw hitB
 rw [show min a b = min b a by omega, show max a b = max b a by omega]
theorem between_l0 (N : Int) (E : List S66) (a b : Int) (hE : E.length ≤ 1000) : ∀ (m i : Nat), i + m = E.length → Ev (fun k => sandpileref08_Between.l0 k a b i N E) (btw (E.drop i) a b)
 | 0, i, hi => by
  refine Ev.of_succ ?_
  simp only [sandpileref08_Between.l0, if_neg (show ¬ ((i : Int) < (E.length : Int)) by omega)]
  rw [List.drop_eq_nil_of_le (by omega)]
  exact Ev.const _
 | m + 1, i, hi => by
  have ih := between_l0 N E a b hE m (i + 1) (by omega)
  refine Ev.of_succ ?_
  simp only [sandpileref08_Between.l0, if_pos (show (i : Int) < (E.length : Int) by omega), if_pos (show (0 : Int) ≤ (i : Int) by omega), wrap_succ (show i ≤ 1000000 by omega)]
  rw [rd_T_drop (by omega), btw_cons]
  rw [show mn a b = min a b from by unfold mn; omega, show mx a b = max a b from by unfold mx; omega]
  by_cases h0 : (rd_T66 E i).f0 = min a b
  ·simp only [if_pos h0]
   by_cases h1 : (rd_T66 E i).f1 = max a b
   ·simp only [if_pos h1]; rw [if_pos ⟨h0, h1⟩]; exact Ev.const _
   ·simp only [if_neg h1]; rw [if_neg (fun h => h1 h.2)]; exact ih
  ·simp only [if_neg h0]; rw [if_neg (fun h => h0 h.1)]; exact ih
theorem between_ev (N : Int) (E : List S66) (a b : Int) (hE : E.length ≤ 1000) : Ev (fun k => sandpileref08_Between.f k N E a b) (btw E a b) := by
 unfold sandpileref08_Between.f
 have := between_l0 N E a b hE E.length 0 (by omega)
 simpa using this
theorem btw_none {E : List S66} {a b : Int} (h : ∀ x ∈ E, ¬ (x.f0 = min a b ∧ x.f1 = max a b)) : E.find? (hitB a b) = none := by
 rw [List.find?_eq_none]
 intro x hx
 simp [hitB, h x hx]
theorem times_fold (a b : Nat) (hab : a ≠ b) : ∀ (E : List S66) (f : Nat → Nat → Int), (∀ x ∈ E, 0 ≤ x.f0 ∧ x.f0 ≤ x.f1) → E.Pairwise Before → E.foldl timesStep f a b = match E.find? (hitB a b) with | some x => x.f2 | none => f a b
 | [], f, _, _ => rfl
 | x :: E, f, h, hp => by
  have hx := h x (List.mem_cons_self ..)
  obtain ⟨h1, h2⟩ := List.pairwise_cons.1 hp
  rw [List.foldl_cons, times_fold a b hab E _ (fun y hy => h y (List.mem_cons_of_mem _ hy)) h2, List.find?_cons]
  by_cases hh : x.f0 = min (a : Int) b ∧ x.f1 = max (a : Int) b
  ·rw [show hitB a b x = true from by simp [hitB, hh]]
   rw [btw_none (fun y hy hy2 => by have := h1 y hy; unfold Before at this; omega)]
   show timesStep f x a b = x.f2
   unfold timesStep
   rw [if_neg (by omega)]
   by_cases h3 : a = x.f1.toNat ∧ b = x.f0.toNat
   ·rw [if_pos h3]
   ·rw [if_neg h3, if_pos (by omega)]
  ·rw [show hitB a b x = false from by simp [hitB]; omega]
   have e : timesStep f x a b = f a b := by
    unfold timesStep
    split
    ·rfl
    ·dsimp only
     rw [if_neg (by omega), if_neg (by omega)]
   rw [e]
theorem times_btw {N : Int} {E : List S66} (h : RightE N E) (a b : Nat) (hab : a ≠ b) : timesOf E a b = btw E a b := by
 unfold timesOf btw
 exact times_fold a b hab E _ (fun x hx => ⟨by have := h.ok x hx; simp [edgeOk] at this; omega, h.le x hx⟩) h.order
theorem btw_nonneg {N : Int} {E : List S66} (h : RightE N E) (a b : Int) : 0 ≤ btw E a b ∧ btw E a b ≤ 50 := by
 unfold btw
 split
 ·rename_i x hx
  have := h.ok x (List.mem_of_find?_eq_some hx)
  simp [edgeOk] at this; omega
 ·omega
def EConn (n : Nat) (E : List S66) : Prop := ∀ S : Nat → Bool, (∃ v, v < n ∧ S v = true) → (∃ v, v < n ∧ S v = false) → ∃ x, x ∈ E ∧ S x.f0.toNat ≠ S x.f1.toNat
theorem rootOf_lt {p : Nat → Nat} {v : Nat} (h : p v < v) : rootOf p v = rootOf p (p v) := by rw [rootOf, dif_pos h]
theorem rootOf_ge {p : Nat → Nat} {v : Nat} (h : ¬ p v < v) : rootOf p v = v := by rw [rootOf, dif_neg h]
theorem root_ge {p : Nat → Nat} {v : Nat} (h : rootOf p v = v) : ¬ p v < v := fun hl => by
 have h1 := rootOf_lt hl
 have h2 := rootOf_le p (p v)
 omega
theorem rootOf_join (p : Nat → Nat) (a b v : Nat) : rootOf (joinOf p a b) v = if rootOf p v = max (rootOf p a) (rootOf p b) then min (rootOf p a) (rootOf p b) else rootOf p v := by
 have ha := rootOf_root p a
 have hb := rootOf_root p b
 have hM : rootOf p (max (rootOf p a) (rootOf p b)) = max (rootOf p a) (rootOf p b) := by rw [Nat.max_def]; split <;> assumption
 have hm : rootOf p (min (rootOf p a) (rootOf p b)) = min (rootOf p a) (rootOf p b) := by rw [Nat.min_def]; split <;> assumption
 have hle : min (rootOf p a) (rootOf p b) ≤ max (rootOf p a) (rootOf p b) := by omega
 have hj : ∀ j, joinOf p a b j = if j = max (rootOf p a) (rootOf p b) then min (rootOf p a) (rootOf p b) else p j := fun j => rfl
 generalize max (rootOf p a) (rootOf p b) = M at *
 generalize min (rootOf p a) (rootOf p b) = m at *
 generalize joinOf p a b = q at *
 induction v using Nat.strongRecOn with
 | ind v ih =>
  by_cases e : v = M
  ·subst e
   rw [hM, if_pos rfl]
   by_cases hl : m < v
   ·have h1 : q v = m := by rw [hj, if_pos rfl]
    rw [rootOf_lt (by omega), h1]
    refine rootOf_ge ?_
    rw [hj, if_neg (by omega)]
    exact root_ge hm
   ·rw [rootOf_ge (by rw [hj, if_pos rfl]; exact hl)]
    omega
  ·have h1 : q v = p v := by rw [hj, if_neg e]
   by_cases hl : p v < v
   ·rw [rootOf_lt (p := q) (by omega), h1, ih _ hl, rootOf_lt (p := p) hl]
   ·rw [rootOf_ge (p := q) (by omega), rootOf_ge (p := p) hl, if_neg e]
theorem forest_inside (S : Nat → Bool) : ∀ (E : List S66) (p : Nat → Nat), (∀ x ∈ E, S x.f0.toNat = S x.f1.toNat) → (∀ v, S (rootOf p v) = S v) → ∀ v, S (rootOf (E.foldl (fun p x => joinOf p x.f0.toNat x.f1.toNat) p) v) = S v := by
 intro E
 induction E with
 | nil => exact fun p _ h => h
 | cons x E ih =>
  intro p hE h
  refine ih _ (fun y hy => hE y (List.mem_cons_of_mem _ hy)) fun v => ?_
  rw [rootOf_join]
  split
  ·rename_i e
   have hx := hE x (List.mem_cons_self ..)
   have h1 := h x.f0.toNat
   have h2 := h x.f1.toNat
   have hv := h v
   rw [e] at hv
   rw [← hv]
   rw [Nat.min_def, Nat.max_def]
   split <;> simp_all
  ·exact h v
theorem forest_joined : ∀ (E : List S66) (p : Nat → Nat) (u v : Nat), rootOf p u = rootOf p v → rootOf (E.foldl (fun p x => joinOf p x.f0.toNat x.f1.toNat) p) u = rootOf (E.foldl (fun p x => joinOf p x.f0.toNat x.f1.toNat) p) v := by
 intro E
 induction E with
 | nil => exact fun p u v h => h
 | cons x E ih =>
  intro p u v h
  refine ih _ u v ?_
  rw [rootOf_join, rootOf_join, h]
theorem forest_edges : ∀ (E : List S66) (p : Nat → Nat), ∀ x ∈ E, rootOf (E.foldl (fun p x => joinOf p x.f0.toNat x.f1.toNat) p) x.f0.toNat = rootOf (E.foldl (fun p x => joinOf p x.f0.toNat x.f1.toNat) p) x.f1.toNat := by
 intro E
 induction E with
 | nil => exact fun p x hx => absurd hx (by simp)
 | cons y E ih =>
  intro p x hx
  rcases List.mem_cons.1 hx with rfl | hx
  ·refine forest_joined E _ _ _ ?_
   rw [rootOf_join, rootOf_join]
   by_cases h1 : rootOf p x.f0.toNat = max (rootOf p x.f0.toNat) (rootOf p x.f1.toNat) <;> by_cases h2 : rootOf p x.f1.toNat = max (rootOf p x.f0.toNat) (rootOf p x.f1.toNat)
   ·rw [if_pos h1, if_pos h2]
   ·rw [if_pos h1, if_neg h2]; omega
   ·rw [if_neg h1, if_pos h2]; omega
   ·omega
  ·exact ih _ x hx
theorem rootsTo_pos (p : Nat → Nat) (h0 : rootOf p 0 = 0) : ∀ u, 1 ≤ u → 1 ≤ rootsTo p u
 | 0, h => by omega
 | u + 1, _ => by
  by_cases e : u = 0
  ·subst e; simp [rootsTo, h0]
  ·have := rootsTo_pos p h0 u (by omega)
   simp only [rootsTo]
   omega
theorem rootsTo_one (p : Nat → Nat) (h0 : rootOf p 0 = 0) : ∀ u, rootsTo p u = 1 → ∀ v, v < u → rootOf p v = v → v = 0
 | 0, h => by simp [rootsTo] at h
 | u + 1, h => by
  intro v hv hr
  simp only [rootsTo] at h
  by_cases e : u = 0
  ·omega
  ·have h1 := rootsTo_pos p h0 u (by omega)
   by_cases hu : rootOf p u = u
   ·rw [if_pos hu] at h; omega
   ·rw [if_neg hu] at h
    by_cases ev : v = u
    ·subst ev; exact absurd hr hu
    ·exact rootsTo_one p h0 u (by omega) v (by omega) hr
theorem rootsTo_all (p : Nat → Nat) : ∀ u, 1 ≤ u → (∀ v, v < u → rootOf p v = 0) → rootsTo p u = 1
 | 0, h, _ => by omega
 | u + 1, _, h => by
  by_cases e : u = 0
  ·subst e; simp [rootsTo, h 0 (by omega)]
  ·have := rootsTo_all p u (by omega) (fun v hv => h v (by omega))
   simp only [rootsTo]
   rw [this, h u (by omega), if_neg (fun e2 => e e2.symm)]
theorem conn_iff {n : Nat} {E : List S66} (hn : 1 ≤ n) (hE : EdgesIn n E) : rootsTo (forestOf E) n = 1 ↔ EConn n E := by
 have h0 : rootOf (forestOf E) 0 = 0 := Nat.le_zero.1 (rootOf_le _ 0)
 constructor
 ·rintro h S ⟨u, hu, hsu⟩ ⟨v, hv, hsv⟩
  refine Classical.byContradiction fun hx => ?_
  have hS : ∀ x ∈ E, S x.f0.toNat = S x.f1.toNat := fun x hxE => Classical.byContradiction fun hne => hx ⟨x, hxE, hne⟩
  have hin := forest_inside S E id hS (fun v => by rw [rootOf_ge (by simp)])
  have hall : ∀ w, w < n → rootOf (forestOf E) w = 0 := fun w hw => rootsTo_one _ h0 n h _ (Nat.lt_of_le_of_lt (rootOf_le _ w) hw) (rootOf_root _ w)
  have h1 := hin u
  have h2 := hin v
  rw [show E.foldl (fun p x => joinOf p x.f0.toNat x.f1.toNat) id = forestOf E from rfl] at h1 h2
  rw [hall u hu] at h1
  rw [hall v hv] at h2
  rw [h1, hsu] at h2
  rw [hsv] at h2
  cases h2
 ·intro h
  refine rootsTo_all _ n hn fun v hv => ?_
  refine Classical.byContradiction fun hne => ?_
  obtain ⟨x, hx, hs⟩ := h (fun u => decide (rootOf (forestOf E) u = 0)) ⟨0, by omega, by simp [h0]⟩ ⟨v, hv, by simp [hne]⟩
  have := forest_edges E id x hx
  rw [show E.foldl (fun p x => joinOf p x.f0.toNat x.f1.toNat) id = forestOf E from rfl] at this
  simp only [this, ne_eq, not_true_eq_false] at hs
mutual
def sandpileref08_Reached.l0 : Nat → List Bool → Int → Int → List (S66) → Option (List Bool)
 | 0, _, _, _, _ => none
 | k + 1, x5, x6, x154000, x154001 => if x6 < x154000 then (sandpileref08_Reached.l1 k x5 x6 0 x154000 x154001) else (some x5)
def sandpileref08_Reached.l1 : Nat → List Bool → Int → Int → Int → List (S66) → Option (List Bool)
 | 0, _, _, _, _, _ => none
 | k + 1, x5, x6, x7, x154000, x154001 => if x7 < x154000 then (sandpileref08_Reached.l2 k x5 x6 x7 0 x154000 x154001) else (sandpileref08_Reached.l0 k x5 (wrap64 (x6 + 1)) x154000 x154001)
def sandpileref08_Reached.l2 : Nat → List Bool → Int → Int → Int → Int → List (S66) → Option (List Bool)
 | 0, _, _, _, _, _, _ => none
 | k + 1, x5, x6, x7, x8, x154000, x154001 => if x8 < x154000 then (if 0 ≤ x7 then (if x7 < (x5.length : Int) then (if rdOf false x5 x7 = true then ((sandpileref08_Between.f k x154000 x154001 x7 x8).bind fun t159 => (if t159 > 0 then (if 0 ≤ x8 then (if x8 < (x5.length : Int) then (sandpileref08_Reached.l2 k (x5.set (x8 : Int).toNat true) x6 x7 (wrap64 (x8 + 1)) x154000 x154001) else (none)) else (none)) else (sandpileref08_Reached.l2 k x5 x6 x7 (wrap64 (x8 + 1)) x154000 x154001))) else (sandpileref08_Reached.l2 k x5 x6 x7 (wrap64 (x8 + 1)) x154000 x154001)) else (none)) else (none)) else (sandpileref08_Reached.l1 k x5 x6 (wrap64 (x7 + 1)) x154000 x154001)
end
def sandpileref08_Reached.f (k : Nat) (a0_0 : Int) (l0_1 : List (S66)) (a1 : Int) : Option (List Bool) := if 0 ≤ a0_0 then (if (a0_0 : Int).toNat ≤ 281474976710656 then ((some (List.replicate (a0_0 : Int).toNat false : List Bool)).bind fun y154 => (if 0 ≤ a1 then (if a1 < (y154.length : Int) then (sandpileref08_Reached.l0 k (y154.set (a1 : Int).toNat true) 0 a0_0 l0_1) else (none)) else (none))) else (none)) else (none)
theorem sandpileref08_Reached.calls (k : Nat) (a0_0 : Int) (A0_1 : Option Addr) (c0_1 : Nat) (l0_1 : List (S66)) (a1 : Int) (r : List Bool) (w : World) (hr0_1 : Kd.C k66 w A0_1 l0_1.length l0_1) (hc0_1 : l0_1.length ≤ c0_1) (h : sandpileref08_Reached.f k a0_0 l0_1 a1 = some r) :
  Calls Try.prog 80 #[.agg #[.int .i64 a0_0, .slice A0_1 l0_1.length c0_1], .int .i64 a1] w fun e w' => ∃ v0_ : Value, e = .returned (v0_) ∧ Kd.R Kd.bool 4 w' w.heap.size (fun _ => True) v0_ r ∧ Below w.heap.size w w' := by
 have hu24 := Try.underlying24
 have HR0_1 := Aside0.mk hr0_1
 have HC0_1 := Aside0.mk hc0_1
 clear hr0_1 hc0_1
 have HB := Aside0.mk (Below.refl w.heap.size w)
 have H : (if 0 ≤ a0_0 then (if (a0_0 : Int).toNat ≤ 281474976710656 then ((some (List.replicate (a0_0 : Int).toNat false : List Bool)).bind fun y154 => (if 0 ≤ a1 then (if a1 < (y154.length : Int) then (sandpileref08_Reached.l0 k (y154.set (a1 : Int).toNat true) 0 a0_0 l0_1) else (none)) else (none))) else (none)) else (none)) = some r := h
 clear h
 by_cases c3 : 0 ≤ a0_0
 ·rw [if_pos c3] at H
  have c3b0 := eq_true c3
  have c3b1 : decide (0 ≤ a0_0) = true := decide_eq_true c3
  clear c3
  by_cases c4 : (a0_0 : Int).toNat ≤ 281474976710656
  ·rw [if_pos c4] at H
   have c4b0 := eq_true c4
   have c4b1 : decide ((a0_0 : Int).toNat ≤ 281474976710656) = true := decide_eq_true c4
   clear c4
   obtain ⟨y154, hy154⟩ : ∃ y_ : List Bool, y_ = (List.replicate (a0_0 : Int).toNat false) := ⟨_, rfl⟩
   replace H : (if 0 ≤ a1 then (if a1 < (y154.length : Int) then (sandpileref08_Reached.l0 k (y154.set (a1 : Int).toNat true) 0 a0_0 l0_1) else (none)) else (none)) = some r := by first | (rw [hy154]; with_reducible exact H) | (have H2_ := (Option.bind_some _ _).symm.trans H; rw [hy154]; with_reducible exact H2_) | (have H2_ := (Option.bind_some _ _).symm.trans H; with_reducible exact H2_) | with_reducible exact H | (rw [hy154]; exact H) | exact H
   have Ny154 := Aside0.mk hy154
   clear hy154
   by_cases c5 : 0 ≤ a1
   ·rw [if_pos c5] at H
    have c5b0 : decide (0 ≤ a1) = true := decide_eq_true c5
    clear c5
    by_cases c6 : a1 < (y154.length : Int)
    ·rw [if_pos c6] at H
     have c6b0 : decide (a1 < (y154.length : Int)) = true := decide_eq_true c6
     clear c6
     obtain ⟨y157, hy157⟩ : ∃ y_ : List Bool, y_ = (y154.set (a1 : Int).toNat true) := ⟨_, rfl⟩
     replace H : (sandpileref08_Reached.l0 k y157 0 a0_0 l0_1) = some r := by first | (rw [hy157]; with_reducible exact H) | (have H2_ := (Option.bind_some _ _).symm.trans H; rw [hy157]; with_reducible exact H2_) | (have H2_ := (Option.bind_some _ _).symm.trans H; with_reducible exact H2_) | with_reducible exact H | (rw [hy157]; exact H) | exact H
     have Ny157 := Aside0.mk hy157
     clear hy157
     have H' := Aside0.mk H
     clear H
     go_enter Try.func80, Try.ntmps80
     go_wp2_with (first | ((with_reducible refine gate_dst (N := 2) rfl ?_); refine zX 2 #[.int .i64 a0_0, .slice A0_1 l0_1.length c0_1] 24 ?_; intro gb153 hg w8 hbox hb; have BK153 := Aside0.mk (hbox); have GW153 := zG HB hg; have GE153 := zG HB hg; replace HB := zS HB hb; clear hb hbox hg; obtain ⟨hcz9_0, hcz9_1, hfz9_0, hfz9_1⟩ := zD2 BK153) | ((with_reducible refine gate_dst (N := 11) rfl ?_); refine Kd.R_make Kd.bool _ 4 rfl (N := 11) rfl 97 _ _ rfl a0_0 rfl rfl Try.underlying97 (.bool false) 1 info4 rfl (by decide) (by omega) false (ok := fun _ => True) (okp := fun _ => True) rfl (fun _ hk => hk) trivial (of_decide_eq_true ‹_›) (Nat.le_trans (Nat.mul_le_mul_right _ (of_decide_eq_true ‹_› : a0_0.toNat ≤ 281474976710656)) (by omega)) (Below.refl _ _) (Nat.le_refl _) ?_; intro v155 w10 ho11 hb hg_ hnew_; clear hg_ hnew_; (first | rw [← Ny154.out] at ho11 | (simp only [Int.reduceToNat] at ho11; rw [← Ny154.out] at ho11)); have HO156 := Aside0.mk (Kd.R_lower ho11 (below_size zB)); replace BK153 := zb BK153 hb; replace HB := zS HB hb; clear hb ho11; have p7 : 0 ≤ (a1 : Int) := of_decide_eq_true ‹_›; have q7 : (a1 : Int) < ((y154.length : Int) : Int) := of_decide_eq_true ‹_›; obtain ⟨go7, co7, eo7, gb7, gl7, cl7, HG7⟩ := Kd.R_form HO156.out (by omega); (first | cases eo7 | (injection eo7 with ea_ en_ ec_; (first | subst ea_ | (injection ea_ with ea_; subst ea_)); subst ec_; clear en_)); have GB7 := Aside0.mk gb7; have GG7 := Aside0.mk HG7; clear gb7 gl7 HG7; obtain ⟨hx7_0, hf7_0⟩ := Kd.R_celln false HO156.out (a1 : Int) p7 q7; replace p7 := eq_true p7; replace q7 := eq_true q7; obtain ⟨hy12_, hz12_⟩ := Kd.R_celln false HO156.out (a1 : Int) (of_decide_eq_true ‹_›) (of_decide_eq_true ‹_›); have HP12 := Kd.R_putg HO156.out (a1 : Int) true) | ((with_reducible refine gate_store (t := 4) (p := 14) rfl ?_); refine store_event (t := 4) (p := 14) (v := ?vo_w13) (w1 := (w10.setCell ⟨go7, (a1 : Int).toNat, none⟩ (.bool true))) ?hg ?ho ?hn ?hr ?_; (case ho => rfl); (case hg => rfl); (case hn => rfl); (case hr => first | (go_simp; done) | (go_simp; rfl)); intro w13 hw; have hg : w10.grownBy w13 (some go7) := (by rw [hw]; exact HP12.2); have hp_ : Kd.R Kd.bool 4 w13 w.heap.size (fun _ => True) (.slice (some ⟨go7, 0, none⟩) y154.length co7) y157 := (by rw [hw, Ny157.out]; exact HP12.1); clear HP12; replace BK153 := Aside0.mk (blk_grown (zK BK153) hg (Kd.R_ne HO156.out BK153.out (by decide))); replace HO156 := Aside0.mk (hp_); replace HB := Aside0.mk ((by rw [hw]; exact below_set (HB.out) GB7.out : Below w.heap.size w w13)); clear hg hw hp_))
     go_loopg [6] k (fun kq v6 w' => ∃ (x5_1 : List Bool) (x6_1 : Int), v6 = .int .i64 x6_1 ∧ Aside0 (sandpileref08_Reached.l0 kq x5_1 x6_1 a0_0 l0_1 = some r) ∧ Aside0 (kq ≤ k) ∧ Aside0 (Kd.R Kd.bool 4 w' w.heap.size (fun _ => True) (.slice (some ⟨go7, 0, none⟩) y154.length co7) x5_1) ∧ Aside0 (w'.heap[gb153]? = some (.cells #[.int .i64 a0_0, (.slice A0_1 l0_1.length c0_1)] 24 (0, 0))) ∧ Aside0 (Below w.heap.size w w'))
     case atStart => exact ⟨(y157), (0), zT, H', ⟨Nat.le_refl _⟩, ⟨zR HO156⟩, ⟨zK BK153⟩, ⟨zB⟩⟩
     case round =>
      clear H'
      try clear p2
      try clear c3
      try clear c3b0
      try clear c3b1
      try clear c4
      try clear c4b0
      try clear c4b1
      try clear c5
      try clear c5b0
      try clear c6
      try clear c6b0
      try clear p7
      try clear q7
      try clear hx7
      try clear hf7
      try clear c8
      try clear hcz9_0
      try clear hcz9_1
      try clear hfz9_0
      try clear hfz9_1
      try clear hx7_0
      try clear p7
      try clear q7
      obtain ⟨x5_1, x6_1, rfl, HA, HK1, HO_5, BK153, HB⟩ := hrel
      have hl5_1 := (Kd.R_reads' HO_5.out).1
      rw [hl5_1] at HO_5
      (try simp only [hl5_1])
      (try simp only [hl5_1] at BK153)
      cases gk with
      | zero => exact absurd HA.out (by simp [sandpileref08_Reached.l0])
      | succ k1 =>
       have H := HA.out
       clear HA
       simp only [sandpileref08_Reached.l0] at H
       by_cases c14 : x6_1 < a0_0
       ·rw [if_pos c14] at H
        have c14b0 : decide (x6_1 < a0_0) = true := decide_eq_true c14
        clear c14
        have H' := Aside0.mk H
        clear H
        obtain ⟨hcz15_0, hcz15_1, hfz15_0, hfz15_1⟩ := zD2 BK153
        go_wp2
        go_loopg [7] k1 (fun kq v7 w' => ∃ (x5_2 : List Bool) (x7_2 : Int), v7 = .int .i64 x7_2 ∧ Aside0 (sandpileref08_Reached.l1 kq x5_2 x6_1 x7_2 a0_0 l0_1 = some r) ∧ Aside0 (kq ≤ k1) ∧ Aside0 (Kd.R Kd.bool 4 w' w.heap.size (fun _ => True) (.slice (some ⟨go7, 0, none⟩) x5_1.length co7) x5_2) ∧ Aside0 (w'.heap[gb153]? = some (.cells #[.int .i64 a0_0, (.slice A0_1 l0_1.length c0_1)] 24 (0, 0))) ∧ Aside0 (Below w.heap.size w w'))
        case atStart => exact ⟨(x5_1), (0), zT, H', ⟨Nat.le_refl _⟩, ⟨by (try simp only [hl5_1]); (with_reducible repeat (first | apply Kd.R_alloc | apply Kd.R_drewN | apply Kd.R_drew)); exact HO_5.out⟩, ⟨by (try simp only [hl5_1]); exact zK BK153⟩, ⟨zB⟩⟩
        case round =>
         clear H'
         try clear c1
         try clear p2
         try clear c3
         try clear c3b0
         try clear c3b1
         try clear c4
         try clear c4b0
         try clear c4b1
         try clear c5
         try clear c5b0
         try clear c6
         try clear c6b0
         try clear p7
         try clear q7
         try clear hx7
         try clear hf7
         try clear c8
         try clear c14
         try clear c14b0
         try clear hcz15_0
         try clear hcz15_1
         try clear hcz9_0
         try clear hcz9_1
         try clear hfz15_0
         try clear hfz15_1
         try clear hfz9_0
         try clear hfz9_1
         try clear hx7_0
         try clear p2
         try clear p7
         try clear q7
         obtain ⟨x5_2, x7_2, rfl, HA, HK2, HO_5, BK153, HB⟩ := hrel
         have hl5_2 := (Kd.R_reads' HO_5.out).1
         rw [hl5_2] at HO_5
         (try simp only [hl5_2])
         (try simp only [hl5_2] at BK153)
         cases gk with
         | zero => exact absurd HA.out (by simp [sandpileref08_Reached.l1])
         | succ k2 =>
          have H := HA.out
          clear HA
          simp only [sandpileref08_Reached.l1] at H
          by_cases c16 : x7_2 < a0_0
          ·rw [if_pos c16] at H
           have c16b0 : decide (x7_2 < a0_0) = true := decide_eq_true c16
           clear c16
           have H' := Aside0.mk H
           clear H
           obtain ⟨hcz17_0, hcz17_1, hfz17_0, hfz17_1⟩ := zD2 BK153
           go_wp2
           go_loopg [8] k2 (fun kq v8 w' => ∃ (x5_3 : List Bool) (x8_3 : Int), v8 = .int .i64 x8_3 ∧ Aside0 (sandpileref08_Reached.l2 kq x5_3 x6_1 x7_2 x8_3 a0_0 l0_1 = some r) ∧ Aside0 (kq ≤ k2) ∧ Aside0 (Kd.R Kd.bool 4 w' w.heap.size (fun _ => True) (.slice (some ⟨go7, 0, none⟩) x5_2.length co7) x5_3) ∧ Aside0 (w'.heap[gb153]? = some (.cells #[.int .i64 a0_0, (.slice A0_1 l0_1.length c0_1)] 24 (0, 0))) ∧ Aside0 (Below w.heap.size w w'))
           case atStart => exact ⟨(x5_2), (0), zT, H', ⟨Nat.le_refl _⟩, ⟨by (try simp only [hl5_1]); (try simp only [hl5_2]); (with_reducible repeat (first | apply Kd.R_alloc | apply Kd.R_drewN | apply Kd.R_drew)); exact HO_5.out⟩, ⟨by (try simp only [hl5_1]); (try simp only [hl5_2]); exact zK BK153⟩, ⟨zB⟩⟩
           case round =>
            clear H'
            try clear c1
            try clear p2
            try clear c3
            try clear c3b0
            try clear c3b1
            try clear c4
            try clear c4b0
            try clear c4b1
            try clear c5
            try clear c5b0
            try clear c6
            try clear c6b0
            try clear p7
            try clear q7
            try clear hx7
            try clear hf7
            try clear c8
            try clear c14
            try clear c14b0
            try clear c16
            try clear c16b0
            try clear hcz15_0
            try clear hcz15_1
            try clear hcz17_0
            try clear hcz17_1
            try clear hcz9_0
            try clear hcz9_1
            try clear hfz15_0
            try clear hfz15_1
            try clear hfz17_0
            try clear hfz17_1
            try clear hfz9_0
            try clear hfz9_1
            try clear hx7_0
            try clear p2
            try clear p7
            try clear q7
            obtain ⟨x5_3, x8_3, rfl, HA, HK3, HO_5, BK153, HB⟩ := hrel
            have hl5_3 := (Kd.R_reads' HO_5.out).1
            rw [hl5_3] at HO_5
            (try simp only [hl5_3])
            (try simp only [hl5_3] at BK153)
            cases gk with
            | zero => exact absurd HA.out (by simp [sandpileref08_Reached.l2])
            | succ k3 =>
             have H := HA.out
             clear HA
             simp only [sandpileref08_Reached.l2] at H
             by_cases c18 : x8_3 < a0_0
             ·rw [if_pos c18] at H
              have c18b0 : decide (x8_3 < a0_0) = true := decide_eq_true c18
              clear c18
              by_cases c19 : 0 ≤ x7_2
              ·rw [if_pos c19] at H
               have c19b0 : decide (0 ≤ x7_2) = true := decide_eq_true c19
               clear c19
               by_cases c20 : x7_2 < (x5_3.length : Int)
               ·rw [if_pos c20] at H
                have c20b0 : decide (x7_2 < (x5_3.length : Int)) = true := decide_eq_true c20
                clear c20
                obtain ⟨bq21, hbq21⟩ : ∃ b_ : Bool, b_ = (rdOf false x5_3 x7_2) := ⟨_, rfl⟩
                replace H : (if bq21 = true then ((sandpileref08_Between.f k3 a0_0 l0_1 x7_2 x8_3).bind fun t159 => (if t159 > 0 then (if 0 ≤ x8_3 then (if x8_3 < (x5_3.length : Int) then (sandpileref08_Reached.l2 k3 (x5_3.set (x8_3 : Int).toNat true) x6_1 x7_2 (wrap64 (x8_3 + 1)) a0_0 l0_1) else (none)) else (none)) else (sandpileref08_Reached.l2 k3 x5_3 x6_1 x7_2 (wrap64 (x8_3 + 1)) a0_0 l0_1))) else (sandpileref08_Reached.l2 k3 x5_3 x6_1 x7_2 (wrap64 (x8_3 + 1)) a0_0 l0_1)) = some r := by rw [← hbq21] at H; exact H
                have Nbq21 := Aside0.mk hbq21
                clear hbq21
                by_cases c22 : bq21 = true
                ·subst c22
                 have H1 : ((sandpileref08_Between.f k3 a0_0 l0_1 x7_2 x8_3).bind fun t159 => (if t159 > 0 then (if 0 ≤ x8_3 then (if x8_3 < (x5_3.length : Int) then (sandpileref08_Reached.l2 k3 (x5_3.set (x8_3 : Int).toNat true) x6_1 x7_2 (wrap64 (x8_3 + 1)) a0_0 l0_1) else (none)) else (none)) else (sandpileref08_Reached.l2 k3 x5_3 x6_1 x7_2 (wrap64 (x8_3 + 1)) a0_0 l0_1))) = some r := by rw [if_pos rfl] at H; exact H
                 clear H
                 have H := H1
                 clear H1
                 replace H := Option.bind_eq_some_iff.mp H
                 obtain ⟨t159, A230, H⟩ := H
                 replace H : (if t159 > 0 then (if 0 ≤ x8_3 then (if x8_3 < (x5_3.length : Int) then (sandpileref08_Reached.l2 k3 (x5_3.set (x8_3 : Int).toNat true) x6_1 x7_2 (wrap64 (x8_3 + 1)) a0_0 l0_1) else (none)) else (none)) else (sandpileref08_Reached.l2 k3 x5_3 x6_1 x7_2 (wrap64 (x8_3 + 1)) a0_0 l0_1)) = some r := H
                 have A23 := Aside0.mk A230
                 clear A230
                 by_cases c24 : t159 > 0
                 ·rw [if_pos c24] at H
                  have c24b0 : decide (0 < t159) = true := decide_eq_true c24
                  clear c24
                  by_cases c25 : 0 ≤ x8_3
                  ·rw [if_pos c25] at H
                   have c25b0 : decide (0 ≤ x8_3) = true := decide_eq_true c25
                   clear c25
                   by_cases c26 : x8_3 < (x5_3.length : Int)
                   ·rw [if_pos c26] at H
                    have c26b0 : decide (x8_3 < (x5_3.length : Int)) = true := decide_eq_true c26
                    clear c26
                    obtain ⟨y160, hy160⟩ : ∃ y_ : List Bool, y_ = (x5_3.set (x8_3 : Int).toNat true) := ⟨_, rfl⟩
                    replace H : (sandpileref08_Reached.l2 k3 y160 x6_1 x7_2 (wrap64 (x8_3 + 1)) a0_0 l0_1) = some r := by first | (rw [hy160]; with_reducible exact H) | (have H2_ := (Option.bind_some _ _).symm.trans H; rw [hy160]; with_reducible exact H2_) | (have H2_ := (Option.bind_some _ _).symm.trans H; with_reducible exact H2_) | with_reducible exact H | (rw [hy160]; exact H) | exact H
                    have Ny160 := Aside0.mk hy160
                    clear hy160
                    have H' := Aside0.mk H
                    clear H
                    obtain ⟨hcz28_0, hcz28_1, hfz28_0, hfz28_1⟩ := zD2 BK153
                    have p158 : 0 ≤ (x7_2 : Int) := of_decide_eq_true ‹_›
                    have q158 : x7_2 < (x5_3.length : Int) := of_decide_eq_true ‹_›
                    obtain ⟨ad158, e158, hx158_0⟩ := Kd.at_bool (Kd.R_reads' HO_5.out).2.2 x7_2 p158 q158
                    (try rw [← Nbq21.out] at hx158_0)
                    obtain rfl : (⟨go7, 0, none⟩ : Addr) = ad158 := (by injection e158)
                    (first | simp only [add_plain] at hx158_0 | simp only [add_at] at hx158_0 | simp only [Addr.add, Nat.zero_add] at hx158_0 | skip)
                    replace p158 := eq_true p158
                    replace q158 := eq_true q158
                    go_wp2_with (first | (go_at_call 97; (with_reducible refine (sandpileref08_Between.calls k3 a0_0 _ _ l0_1 x7_2 x8_3 t159 _ ?side1 ?side2 A23.out).mono ?_); (case side1 => exact Kd.C_below HR0_1.out zB); (case side2 => exact HC0_1.out); rintro e w29 ⟨rfl, hb⟩; replace HO_5 := zbR HO_5 hb; replace BK153 := zb BK153 hb; replace HB := zS HB hb; (try clear hb); have p27 : 0 ≤ (x8_3 : Int) := of_decide_eq_true ‹_›; have q27 : (x8_3 : Int) < ((x5_3.length : Int) : Int) := of_decide_eq_true ‹_›; obtain ⟨hx27_0, hf27_0⟩ := Kd.R_celln false HO_5.out (x8_3 : Int) p27 q27; replace p27 := eq_true p27; replace q27 := eq_true q27; obtain ⟨hy30_, hz30_⟩ := Kd.R_celln false HO_5.out (x8_3 : Int) (of_decide_eq_true ‹_›) (of_decide_eq_true ‹_›); have HP30 := Kd.R_putg HO_5.out (x8_3 : Int) true) | ((with_reducible refine gate_store (t := 4) (p := 46) rfl ?_); refine store_event (t := 4) (p := 46) (v := ?vo_w31) (w1 := (w29.setCell ⟨go7, (x8_3 : Int).toNat, none⟩ (.bool true))) ?hg ?ho ?hn ?hr ?_; (case ho => rfl); (case hg => rfl); (case hn => rfl); (case hr => first | (go_simp; done) | (go_simp; rfl)); intro w31 hw; have hg : w29.grownBy w31 (some go7) := (by rw [hw]; exact HP30.2); have hp_ : Kd.R Kd.bool 4 w31 w.heap.size (fun _ => True) (.slice (some ⟨go7, 0, none⟩) x5_3.length co7) y160 := (by rw [hw, Ny160.out]; exact HP30.1); clear HP30; replace BK153 := Aside0.mk (blk_grown (zK BK153) hg (Kd.R_ne HO_5.out BK153.out (by decide))); replace HO_5 := Aside0.mk (hp_); replace HB := Aside0.mk ((by rw [hw]; exact below_set (HB.out) GB7.out : Below w.heap.size w w31)); clear hg hw hp_))
                    (try simp only [← hl5_3])
                    go_roundg k3
                    case measure => have := HK1.out; have := HK2.out; have := HK3.out; omega
                    case rel => exact ⟨(y160), (wrap64 (x8_3 + 1)), zT, H', ⟨by have := HK1.out; have := HK2.out; have := HK3.out; omega⟩, ⟨by (try simp only [hl5_1]); (try simp only [hl5_2]); (try simp only [hl5_3]); (with_reducible repeat (first | apply Kd.R_alloc | apply Kd.R_drewN | apply Kd.R_drew)); exact HO_5.out⟩, ⟨by (try simp only [hl5_1]); (try simp only [hl5_2]); (try simp only [hl5_3]); exact zK BK153⟩, ⟨zB⟩⟩
                   ·rw [if_neg c26] at H
                    exact absurd H (by simp)
                  ·rw [if_neg c25] at H
                   exact absurd H (by simp)
                 ·rw [if_neg c24] at H
                  have c24b0 : decide (0 < t159) = false := decide_eq_false c24
                  clear c24
                  have H' := Aside0.mk H
                  clear H
                  obtain ⟨hcz32_0, hcz32_1, hfz32_0, hfz32_1⟩ := zD2 BK153
                  have p158 : 0 ≤ (x7_2 : Int) := of_decide_eq_true ‹_›
                  have q158 : x7_2 < (x5_3.length : Int) := of_decide_eq_true ‹_›
                  obtain ⟨ad158, e158, hx158_0⟩ := Kd.at_bool (Kd.R_reads' HO_5.out).2.2 x7_2 p158 q158
                  (try rw [← Nbq21.out] at hx158_0)
                  obtain rfl : (⟨go7, 0, none⟩ : Addr) = ad158 := (by injection e158)
                  (first | simp only [add_plain] at hx158_0 | simp only [add_at] at hx158_0 | simp only [Addr.add, Nat.zero_add] at hx158_0 | skip)
                  replace p158 := eq_true p158
                  replace q158 := eq_true q158
                  go_wp2_with (first | (go_at_call 97; (with_reducible refine (sandpileref08_Between.calls k3 a0_0 _ _ l0_1 x7_2 x8_3 t159 _ ?side1 ?side2 A23.out).mono ?_); (case side1 => exact Kd.C_below HR0_1.out zB); (case side2 => exact HC0_1.out); rintro e w33 ⟨rfl, hb⟩; replace HO_5 := zbR HO_5 hb; replace BK153 := zb BK153 hb; replace HB := zS HB hb; (try clear hb)))
                  (try simp only [← hl5_3])
                  go_roundg k3
                  case measure => have := HK1.out; have := HK2.out; have := HK3.out; omega
                  case rel => exact ⟨(x5_3), (wrap64 (x8_3 + 1)), zT, H', ⟨by have := HK1.out; have := HK2.out; have := HK3.out; omega⟩, ⟨by (try simp only [hl5_1]); (try simp only [hl5_2]); (try simp only [hl5_3]); (with_reducible repeat (first | apply Kd.R_alloc | apply Kd.R_drewN | apply Kd.R_drew)); exact HO_5.out⟩, ⟨by (try simp only [hl5_1]); (try simp only [hl5_2]); (try simp only [hl5_3]); exact zK BK153⟩, ⟨zB⟩⟩
                ·replace c22 := Bool.eq_false_iff.mpr c22
                 subst c22
                 have H1 : (sandpileref08_Reached.l2 k3 x5_3 x6_1 x7_2 (wrap64 (x8_3 + 1)) a0_0 l0_1) = some r := by rw [if_neg (show ¬ (false = true) by decide)] at H; exact H
                 clear H
                 have H := H1
                 clear H1
                 have H' := Aside0.mk H
                 clear H
                 obtain ⟨hcz34_0, hcz34_1, hfz34_0, hfz34_1⟩ := zD2 BK153
                 have p158 : 0 ≤ (x7_2 : Int) := of_decide_eq_true ‹_›
                 have q158 : x7_2 < (x5_3.length : Int) := of_decide_eq_true ‹_›
                 obtain ⟨ad158, e158, hx158_0⟩ := Kd.at_bool (Kd.R_reads' HO_5.out).2.2 x7_2 p158 q158
                 (try rw [← Nbq21.out] at hx158_0)
                 obtain rfl : (⟨go7, 0, none⟩ : Addr) = ad158 := (by injection e158)
                 (first | simp only [add_plain] at hx158_0 | simp only [add_at] at hx158_0 | simp only [Addr.add, Nat.zero_add] at hx158_0 | skip)
                 replace p158 := eq_true p158
                 replace q158 := eq_true q158
                 go_wp2
                 (try simp only [← hl5_3])
                 go_roundg k3
                 case measure => have := HK1.out; have := HK2.out; have := HK3.out; omega
                 case rel => exact ⟨(x5_3), (wrap64 (x8_3 + 1)), zT, H', ⟨by have := HK1.out; have := HK2.out; have := HK3.out; omega⟩, ⟨by (try simp only [hl5_1]); (try simp only [hl5_2]); (try simp only [hl5_3]); (with_reducible repeat (first | apply Kd.R_alloc | apply Kd.R_drewN | apply Kd.R_drew)); exact HO_5.out⟩, ⟨by (try simp only [hl5_1]); (try simp only [hl5_2]); (try simp only [hl5_3]); exact zK BK153⟩, ⟨zB⟩⟩
               ·rw [if_neg c20] at H
                exact absurd H (by simp)
              ·rw [if_neg c19] at H
               exact absurd H (by simp)
             ·rw [if_neg c18] at H
              have c18b0 : decide (x8_3 < a0_0) = false := decide_eq_false c18
              clear c18
              have H' := Aside0.mk H
              clear H
              obtain ⟨hcz35_0, hcz35_1, hfz35_0, hfz35_1⟩ := zD2 BK153
              go_wp2
              (try simp only [← hl5_2, ← hl5_3])
              go_roundg k3
              case measure => have := HK1.out; have := HK2.out; have := HK3.out; omega
              case rel => exact ⟨(x5_3), (wrap64 (x7_2 + 1)), zT, H', ⟨by have := HK1.out; have := HK2.out; have := HK3.out; omega⟩, ⟨by (try simp only [hl5_1]); (try simp only [hl5_2]); (try simp only [hl5_3]); (with_reducible repeat (first | apply Kd.R_alloc | apply Kd.R_drewN | apply Kd.R_drew)); exact HO_5.out⟩, ⟨by (try simp only [hl5_1]); (try simp only [hl5_2]); (try simp only [hl5_3]); exact zK BK153⟩, ⟨zB⟩⟩
          ·rw [if_neg c16] at H
           have c16b0 : decide (x7_2 < a0_0) = false := decide_eq_false c16
           clear c16
           have H' := Aside0.mk H
           clear H
           obtain ⟨hcz36_0, hcz36_1, hfz36_0, hfz36_1⟩ := zD2 BK153
           go_wp2
           (try simp only [← hl5_1, ← hl5_2])
           go_roundg k2
           case measure => have := HK1.out; have := HK2.out; omega
           case rel => exact ⟨(x5_2), (wrap64 (x6_1 + 1)), zT, H', ⟨by have := HK1.out; have := HK2.out; omega⟩, ⟨by (try simp only [hl5_1]); (try simp only [hl5_2]); (with_reducible repeat (first | apply Kd.R_alloc | apply Kd.R_drewN | apply Kd.R_drew)); exact HO_5.out⟩, ⟨by (try simp only [hl5_1]); (try simp only [hl5_2]); exact zK BK153⟩, ⟨zB⟩⟩
       ·rw [if_neg c14] at H
        have c14b0 : decide (x6_1 < a0_0) = false := decide_eq_false c14
        clear c14
        obtain rfl := Option.some.inj H
        obtain ⟨hcz37_0, hcz37_1, hfz37_0, hfz37_1⟩ := zD2 BK153
        go_wp2
        go_ret
        exact ⟨_, zE, by (with_reducible repeat (first | apply Kd.R_alloc | apply Kd.R_drewN | apply Kd.R_drew)); exact HO_5.out, zB⟩
    ·rw [if_neg c6] at H
     exact absurd H (by simp)
   ·rw [if_neg c5] at H
    exact absurd H (by simp)
  ·rw [if_neg c4] at H
   exact absurd H (by simp)
 ·rw [if_neg c3] at H
  exact absurd H (by simp)
mutual
def sandpileref08_Parts.l0 : Nat → Int → List Bool → Int → Int → List (S66) → Option (Int)
 | 0, _, _, _, _, _ => none
 | k + 1, x3, x4, x5, x162000, x162001 => if x5 < x162000 then (if 0 ≤ x5 then (if x5 < (x4.length : Int) then (if rdOf false x4 x5 = true then (sandpileref08_Parts.l0 k x3 x4 (wrap64 (x5 + 1)) x162000 x162001) else ((sandpileref08_Reached.f k x162000 x162001 x5).bind fun t166 => (sandpileref08_Parts.l1 k (wrap64 (x3 + 1)) x4 x5 t166 0 x162000 x162001))) else (none)) else (none)) else (some x3)
def sandpileref08_Parts.l1 : Nat → Int → List Bool → Int → List Bool → Int → Int → List (S66) → Option (Int)
 | 0, _, _, _, _, _, _, _ => none
 | k + 1, x3, x4, x5, x6, x7, x162000, x162001 => if x7 < x162000 then (if 0 ≤ x7 then (if x7 < (x4.length : Int) then (if rdOf false x4 x7 = true then (sandpileref08_Parts.l1 k x3 (x4.set (x7 : Int).toNat true) x5 x6 (wrap64 (x7 + 1)) x162000 x162001) else (if x7 < (x6.length : Int) then (sandpileref08_Parts.l1 k x3 (x4.set (x7 : Int).toNat (rdOf false x6 x7)) x5 x6 (wrap64 (x7 + 1)) x162000 x162001) else (none))) else (none)) else (none)) else (sandpileref08_Parts.l0 k x3 x4 (wrap64 (x5 + 1)) x162000 x162001)
end
def sandpileref08_Parts.f (k : Nat) (a0_0 : Int) (l0_1 : List (S66)) : Option (Int) := if 0 ≤ a0_0 then (if (a0_0 : Int).toNat ≤ 281474976710656 then (sandpileref08_Parts.l0 k 0 (List.replicate (a0_0 : Int).toNat false) 0 a0_0 l0_1) else (none)) else (none)
theorem sandpileref08_Parts.calls (k : Nat) (a0_0 : Int) (A0_1 : Option Addr) (c0_1 : Nat) (l0_1 : List (S66)) (r : Int) (w : World) (hr0_1 : Kd.C k66 w A0_1 l0_1.length l0_1) (hc0_1 : l0_1.length ≤ c0_1) (h : sandpileref08_Parts.f k a0_0 l0_1 = some r) :
  Calls Try.prog 60 #[.agg #[.int .i64 a0_0, .slice A0_1 l0_1.length c0_1]] w fun e w' => e = .returned (.int .i64 r) ∧ Below w.heap.size w w' := by
 have hu24 := Try.underlying24
 have HR0_1 := Aside0.mk hr0_1
 have HC0_1 := Aside0.mk hc0_1
 clear hr0_1 hc0_1
 have HB := Aside0.mk (Below.refl w.heap.size w)
 have H : (if 0 ≤ a0_0 then (if (a0_0 : Int).toNat ≤ 281474976710656 then (sandpileref08_Parts.l0 k 0 (List.replicate (a0_0 : Int).toNat false) 0 a0_0 l0_1) else (none)) else (none)) = some r := h
 clear h
 by_cases c2 : 0 ≤ a0_0
 ·rw [if_pos c2] at H
  have c2b0 := eq_true c2
  have c2b1 : decide (0 ≤ a0_0) = true := decide_eq_true c2
  clear c2
  by_cases c3 : (a0_0 : Int).toNat ≤ 281474976710656
  ·rw [if_pos c3] at H
   have c3b0 := eq_true c3
   have c3b1 : decide ((a0_0 : Int).toNat ≤ 281474976710656) = true := decide_eq_true c3
   clear c3
   obtain ⟨y162, hy162⟩ : ∃ y_ : List Bool, y_ = (List.replicate (a0_0 : Int).toNat false) := ⟨_, rfl⟩
   replace H : (sandpileref08_Parts.l0 k 0 y162 0 a0_0 l0_1) = some r := by first | (rw [hy162]; with_reducible exact H) | (have H2_ := (Option.bind_some _ _).symm.trans H; rw [hy162]; with_reducible exact H2_) | (have H2_ := (Option.bind_some _ _).symm.trans H; with_reducible exact H2_) | with_reducible exact H | (rw [hy162]; exact H) | exact H
   have Ny162 := Aside0.mk hy162
   clear hy162
   have H' := Aside0.mk H
   clear H
   go_enter Try.func60, Try.ntmps60
   go_wp2_with (first | ((with_reducible refine gate_dst (N := 1) rfl ?_); refine zX 1 #[.int .i64 a0_0, .slice A0_1 l0_1.length c0_1] 24 ?_; intro gb161 hg w4 hbox hb; have BK161 := Aside0.mk (hbox); have GW161 := zG HB hg; have GE161 := zG HB hg; replace HB := zS HB hb; clear hb hbox hg; obtain ⟨hcz5_0, hcz5_1, hfz5_0, hfz5_1⟩ := zD2 BK161) | ((with_reducible refine gate_dst (N := 10) rfl ?_); refine Kd.R_make Kd.bool _ 4 rfl (N := 10) rfl 97 _ _ rfl a0_0 rfl rfl Try.underlying97 (.bool false) 1 info4 rfl (by decide) (by omega) false (ok := fun _ => True) (okp := fun _ => True) rfl (fun _ hk => hk) trivial (of_decide_eq_true ‹_›) (Nat.le_trans (Nat.mul_le_mul_right _ (of_decide_eq_true ‹_› : a0_0.toNat ≤ 281474976710656)) (by omega)) (Below.refl _ _) (Nat.le_refl _) ?_; intro v163 w6 ho7 hb hg_ hnew_; clear hg_ hnew_; (first | rw [← Ny162.out] at ho7 | (simp only [Int.reduceToNat] at ho7; rw [← Ny162.out] at ho7)); have HO164 := Aside0.mk (Kd.R_lower ho7 (below_size zB)); replace BK161 := zb BK161 hb; replace HB := zS HB hb; clear hb ho7))
   go_loopg [3, 5] k (fun kq v3 v5 w' => ∃ (x3_1 : Int) (x4_1 : List Bool) (x5_1 : Int), v3 = .int .i64 x3_1 ∧ v5 = .int .i64 x5_1 ∧ Aside0 (sandpileref08_Parts.l0 kq x3_1 x4_1 x5_1 a0_0 l0_1 = some r) ∧ Aside0 (kq ≤ k) ∧ Aside0 (Kd.R Kd.bool 4 w' w.heap.size (fun _ => True) v163 x4_1) ∧ Aside0 (w'.heap[gb161]? = some (.cells #[.int .i64 a0_0, (.slice A0_1 l0_1.length c0_1)] 24 (0, 0))) ∧ Aside0 (Below w.heap.size w w'))
   case atStart => exact ⟨(0), (y162), (0), zT, zT, H', ⟨Nat.le_refl _⟩, ⟨zR HO164⟩, ⟨zK BK161⟩, ⟨zB⟩⟩
   case round =>
    clear H'
    try clear c2
    try clear c2b0
    try clear c2b1
    try clear p2
    try clear c3
    try clear c3b0
    try clear c3b1
    try clear c6
    try clear hcz5_0
    try clear hcz5_1
    try clear hfz5_0
    try clear hfz5_1
    obtain ⟨x3_1, x4_1, x5_1, rfl, rfl, HA, HK1, HO_4, BK161, HB⟩ := hrel
    cases gk with
    | zero => exact absurd HA.out (by simp [sandpileref08_Parts.l0])
    | succ k1 =>
     have H := HA.out
     clear HA
     simp only [sandpileref08_Parts.l0] at H
     by_cases c8 : x5_1 < a0_0
     ·rw [if_pos c8] at H
      have c8b0 : decide (x5_1 < a0_0) = true := decide_eq_true c8
      clear c8
      by_cases c9 : 0 ≤ x5_1
      ·rw [if_pos c9] at H
       have c9b0 : decide (0 ≤ x5_1) = true := decide_eq_true c9
       clear c9
       by_cases c10 : x5_1 < (x4_1.length : Int)
       ·rw [if_pos c10] at H
        have c10b0 : decide (x5_1 < (x4_1.length : Int)) = true := decide_eq_true c10
        clear c10
        obtain ⟨bq11, hbq11⟩ : ∃ b_ : Bool, b_ = (rdOf false x4_1 x5_1) := ⟨_, rfl⟩
        replace H : (if bq11 = true then (sandpileref08_Parts.l0 k1 x3_1 x4_1 (wrap64 (x5_1 + 1)) a0_0 l0_1) else ((sandpileref08_Reached.f k1 a0_0 l0_1 x5_1).bind fun t166 => (sandpileref08_Parts.l1 k1 (wrap64 (x3_1 + 1)) x4_1 x5_1 t166 0 a0_0 l0_1))) = some r := by rw [← hbq11] at H; exact H
        have Nbq11 := Aside0.mk hbq11
        clear hbq11
        by_cases c12 : bq11 = true
        ·subst c12
         have H1 : (sandpileref08_Parts.l0 k1 x3_1 x4_1 (wrap64 (x5_1 + 1)) a0_0 l0_1) = some r := by rw [if_pos rfl] at H; exact H
         clear H
         have H := H1
         clear H1
         have H' := Aside0.mk H
         clear H
         obtain ⟨hcz13_0, hcz13_1, hfz13_0, hfz13_1⟩ := zD2 BK161
         obtain ⟨Ao14, co14, eo14⟩ := Kd.R_slice HO_4.out
         subst eo14
         have p165 : 0 ≤ (x5_1 : Int) := of_decide_eq_true ‹_›
         have q165 : x5_1 < (x4_1.length : Int) := of_decide_eq_true ‹_›
         obtain ⟨ad165, e165, hx165_0⟩ := Kd.at_bool (Kd.R_reads' HO_4.out).2.2 x5_1 p165 q165
         (try rw [← Nbq11.out] at hx165_0)
         cases e165
         replace p165 := eq_true p165
         replace q165 := eq_true q165
         go_wp2
         go_roundg k1
         case measure => have := HK1.out; omega
         case rel => exact ⟨(x3_1), (x4_1), (wrap64 (x5_1 + 1)), zT, zT, H', ⟨by have := HK1.out; omega⟩, ⟨zR HO_4⟩, ⟨zK BK161⟩, ⟨zB⟩⟩
        ·replace c12 := Bool.eq_false_iff.mpr c12
         subst c12
         have H1 : ((sandpileref08_Reached.f k1 a0_0 l0_1 x5_1).bind fun t166 => (sandpileref08_Parts.l1 k1 (wrap64 (x3_1 + 1)) x4_1 x5_1 t166 0 a0_0 l0_1)) = some r := by rw [if_neg (show ¬ (false = true) by decide)] at H; exact H
         clear H
         have H := H1
         clear H1
         replace H := Option.bind_eq_some_iff.mp H
         obtain ⟨t166, A150, H⟩ := H
         replace H : (sandpileref08_Parts.l1 k1 (wrap64 (x3_1 + 1)) x4_1 x5_1 t166 0 a0_0 l0_1) = some r := H
         have A15 := Aside0.mk A150
         clear A150
         have H' := Aside0.mk H
         clear H
         obtain ⟨hcz16_0, hcz16_1, hfz16_0, hfz16_1⟩ := zD2 BK161
         obtain ⟨Ao17, co17, eo17⟩ := Kd.R_slice HO_4.out
         subst eo17
         have p165 : 0 ≤ (x5_1 : Int) := of_decide_eq_true ‹_›
         have q165 : x5_1 < (x4_1.length : Int) := of_decide_eq_true ‹_›
         obtain ⟨ad165, e165, hx165_0⟩ := Kd.at_bool (Kd.R_reads' HO_4.out).2.2 x5_1 p165 q165
         (try rw [← Nbq11.out] at hx165_0)
         cases e165
         obtain ⟨gq165, hgq165⟩ := Kd.R_head HO_4.out
         subst hgq165
         simp only [add_plain] at hx165_0
         replace p165 := eq_true p165
         replace q165 := eq_true q165
         go_wp2_with (first | ((with_reducible refine gate_callee (f := 80) rfl ?_); refine zL (some 25) Try.func80 #[.agg #[.int .i64 a0_0, .slice A0_1 l0_1.length c0_1], .int .i64 x5_1] ?_; (with_reducible refine (sandpileref08_Reached.calls k1 a0_0 _ _ l0_1 x5_1 t166 _ ?side1 ?side2 A15.out).mono ?_); (case side1 => exact Kd.C_below HR0_1.out zB); (case side2 => exact HC0_1.out); rintro e w18 ⟨v167, rfl, ho0, hb⟩; refine ⟨_, rfl, ?_⟩; have HO168 := Aside0.mk (Kd.R_lower (Kd.R_new' ho0 (Kd.R_lt (zR HO_4))) (below_size zB)); replace HO_4 := zeRR HO_4 ho0 hb; replace BK161 := zb BK161 hb; replace HB := zS HB hb; (try clear hb); (try clear ho0)))
         go_loopg [7] k1 (fun kq v7 w' => ∃ (x4_2 : List Bool) (x7_2 : Int), v7 = .int .i64 x7_2 ∧ Aside0 (sandpileref08_Parts.l1 kq (wrap64 (x3_1 + 1)) x4_2 x5_1 t166 x7_2 a0_0 l0_1 = some r) ∧ Aside0 (kq ≤ k1) ∧ Aside0 (Kd.R Kd.bool 4 w' w.heap.size (fun k_ => some k_ ≠ (v167 : Value).ownBlock) (.slice (some ⟨gq165, 0, none⟩) x4_1.length co17) x4_2) ∧ Aside0 (Kd.R Kd.bool 4 w' w.heap.size (fun k_ => some k_ ≠ ((.slice (some ⟨gq165, 0, none⟩) x4_1.length co17) : Value).ownBlock) v167 t166) ∧ Aside0 (w'.heap[gb161]? = some (.cells #[.int .i64 a0_0, (.slice A0_1 l0_1.length c0_1)] 24 (0, 0))) ∧ Aside0 (Below w.heap.size w w'))
         case atStart => exact ⟨(x4_1), (0), zT, H', ⟨Nat.le_refl _⟩, ⟨by (with_reducible repeat (first | apply Kd.R_alloc | apply Kd.R_drewN | apply Kd.R_drew)); exact Kd.R_mono HO_4.out (fun _ hk => hk.2)⟩, ⟨by (with_reducible repeat (first | apply Kd.R_alloc | apply Kd.R_drewN | apply Kd.R_drew)); exact Kd.R_mono HO168.out (fun _ hk => hk.2)⟩, ⟨zK BK161⟩, ⟨zB⟩⟩
         case round =>
          clear H'
          try clear c1
          try clear p1
          try clear q1
          try clear hx1
          try clear c2
          try clear c2b0
          try clear c2b1
          try clear p2
          try clear c3
          try clear c3b0
          try clear c3b1
          try clear c6
          try clear p6
          try clear c8
          try clear c8b0
          try clear c9
          try clear c9b0
          try clear c10
          try clear c10b0
          try clear q11
          try clear c12
          try clear p16
          try clear q16
          try clear hx16
          try clear hcz13_0
          try clear hcz13_1
          try clear hcz16_0
          try clear hcz16_1
          try clear hcz5_0
          try clear hcz5_1
          try clear hfz13_0
          try clear hfz13_1
          try clear hfz16_0
          try clear hfz16_1
          try clear hfz5_0
          try clear hfz5_1
          try clear hx165_0
          try clear p165
          try clear p2
          try clear q165
          obtain ⟨x4_2, x7_2, rfl, HA, HK2, HO_4, HO_6, BK161, HB⟩ := hrel
          have hl4_2 := (Kd.R_reads' HO_4.out).1
          rw [hl4_2] at HO_4
          (try simp only [hl4_2])
          (try simp only [hl4_2] at BK161)
          (try simp only [hl4_2] at HO_6)
          cases gk with
          | zero => exact absurd HA.out (by simp [sandpileref08_Parts.l1])
          | succ k2 =>
           have H := HA.out
           clear HA
           simp only [sandpileref08_Parts.l1] at H
           by_cases c19 : x7_2 < a0_0
           ·rw [if_pos c19] at H
            have c19b0 : decide (x7_2 < a0_0) = true := decide_eq_true c19
            clear c19
            by_cases c20 : 0 ≤ x7_2
            ·rw [if_pos c20] at H
             have c20b0 : decide (0 ≤ x7_2) = true := decide_eq_true c20
             clear c20
             by_cases c21 : x7_2 < (x4_2.length : Int)
             ·rw [if_pos c21] at H
              have c21b0 : decide (x7_2 < (x4_2.length : Int)) = true := decide_eq_true c21
              clear c21
              obtain ⟨bq22, hbq22⟩ : ∃ b_ : Bool, b_ = (rdOf false x4_2 x7_2) := ⟨_, rfl⟩
              replace H : (if bq22 = true then (sandpileref08_Parts.l1 k2 (wrap64 (x3_1 + 1)) (x4_2.set (x7_2 : Int).toNat true) x5_1 t166 (wrap64 (x7_2 + 1)) a0_0 l0_1) else (if x7_2 < (t166.length : Int) then (sandpileref08_Parts.l1 k2 (wrap64 (x3_1 + 1)) (x4_2.set (x7_2 : Int).toNat (rdOf false t166 x7_2)) x5_1 t166 (wrap64 (x7_2 + 1)) a0_0 l0_1) else (none))) = some r := by rw [← hbq22] at H; exact H
              have Nbq22 := Aside0.mk hbq22
              clear hbq22
              by_cases c23 : bq22 = true
              ·subst c23
               have H1 : (sandpileref08_Parts.l1 k2 (wrap64 (x3_1 + 1)) (x4_2.set (x7_2 : Int).toNat true) x5_1 t166 (wrap64 (x7_2 + 1)) a0_0 l0_1) = some r := by rw [if_pos rfl] at H; exact H
               clear H
               have H := H1
               clear H1
               obtain ⟨y170, hy170⟩ : ∃ y_ : List Bool, y_ = (x4_2.set (x7_2 : Int).toNat true) := ⟨_, rfl⟩
               replace H : (sandpileref08_Parts.l1 k2 (wrap64 (x3_1 + 1)) y170 x5_1 t166 (wrap64 (x7_2 + 1)) a0_0 l0_1) = some r := by first | (rw [hy170]; with_reducible exact H) | (have H2_ := (Option.bind_some _ _).symm.trans H; rw [hy170]; with_reducible exact H2_) | (have H2_ := (Option.bind_some _ _).symm.trans H; with_reducible exact H2_) | with_reducible exact H | (rw [hy170]; exact H) | exact H
               have Ny170 := Aside0.mk hy170
               clear hy170
               have H' := Aside0.mk H
               clear H
               obtain ⟨hcz25_0, hcz25_1, hfz25_0, hfz25_1⟩ := zD2 BK161
               have p169 : 0 ≤ (x7_2 : Int) := of_decide_eq_true ‹_›
               have q169 : x7_2 < (x4_2.length : Int) := of_decide_eq_true ‹_›
               obtain ⟨ad169, e169, hx169_0⟩ := Kd.at_bool (Kd.R_reads' HO_4.out).2.2 x7_2 p169 q169
               (try rw [← Nbq11.out] at hx169_0)
               (try rw [← Nbq22.out] at hx169_0)
               obtain rfl : (⟨gq165, 0, none⟩ : Addr) = ad169 := (by injection e169)
               replace p169 := eq_true p169
               replace q169 := eq_true q169
               have p24 : 0 ≤ (x7_2 : Int) := of_decide_eq_true ‹_›
               have q24 : (x7_2 : Int) < ((x4_2.length : Int) : Int) := of_decide_eq_true ‹_›
               obtain ⟨go24, co24, eo24, gb24, gl24, cl24, HG24⟩ := Kd.R_form HO_4.out (by omega)
               (first | (injection eo24 with ea_ en_ ec_; (first | subst ea_ | (injection ea_ with ea_; first | subst ea_ | (injection ea_ with ea_; have ea_ := ea_.symm; subst ea_))); subst ec_; clear en_))
               have GB24 := Aside0.mk gb24
               have GG24 := Aside0.mk HG24
               clear gb24 gl24 HG24
               (first | simp only [add_plain] at hx165_0 | skip)
               (first | simp only [add_plain] at hx169_0 | skip)
               obtain ⟨hx24_0, hf24_0⟩ := Kd.R_celln false HO_4.out (x7_2 : Int) p24 q24
               replace p24 := eq_true p24
               replace q24 := eq_true q24
               have HP26 := Kd.R_putg HO_4.out (x7_2 : Int) true
               go_wp2_with (first | ((with_reducible refine gate_store (t := 4) (p := 44) rfl ?_); refine store_event (t := 4) (p := 44) (v := ?vo_w27) (w1 := (wr.setCell ⟨go24, (x7_2 : Int).toNat, none⟩ (.bool true))) ?hg ?ho ?hn ?hr ?_; (case ho => rfl); (case hg => rfl); (case hn => rfl); (case hr => first | (go_simp; done) | (go_simp; rfl)); intro w27 hw; have hg : wr.grownBy w27 (some go24) := (by rw [hw]; exact HP26.2); have hp_ : Kd.R Kd.bool 4 w27 w.heap.size (fun k_ => some k_ ≠ (v167 : Value).ownBlock) (.slice (some ⟨go24, 0, none⟩) x4_2.length co17) y170 := (by rw [hw, Ny170.out]; exact HP26.1); clear HP26; replace HO_6 := Aside0.mk (Kd.R_after (v := (.slice (some ⟨go24, 0, none⟩) x4_2.length co17)) (v1 := (.slice (some ⟨go24, 0, none⟩) x4_2.length co17)) (ok := (fun _ => True)) (by (with_reducible repeat (first | apply Kd.R_alloc | apply Kd.R_drewN | apply Kd.R_drew)); exact Kd.R_mono HO_6.out (fun _ hk => ⟨trivial, hk⟩)) hg (.inl rfl)); replace BK161 := Aside0.mk (blk_grown (zK BK161) hg (Kd.R_ne HO_4.out BK161.out (by decide))); replace HO_4 := Aside0.mk (hp_); replace HB := Aside0.mk ((by rw [hw]; exact below_set (HB.out) GB24.out : Below w.heap.size w w27)); clear hg hw hp_))
               (try simp only [← hl4_2])
               go_roundg k2
               case measure => have := HK1.out; have := HK2.out; omega
               case rel => exact ⟨(y170), (wrap64 (x7_2 + 1)), zT, H', ⟨by have := HK1.out; have := HK2.out; omega⟩, ⟨by (try simp only [hl4_2]); (with_reducible repeat (first | apply Kd.R_alloc | apply Kd.R_drewN | apply Kd.R_drew)); exact HO_4.out⟩, ⟨by (try simp only [hl4_2]); (with_reducible repeat (first | apply Kd.R_alloc | apply Kd.R_drewN | apply Kd.R_drew)); exact Kd.R_mono HO_6.out (fun _ hk => hk.2)⟩, ⟨by (try simp only [hl4_2]); exact zK BK161⟩, ⟨zB⟩⟩
              ·replace c23 := Bool.eq_false_iff.mpr c23
               subst c23
               have H1 : (if x7_2 < (t166.length : Int) then (sandpileref08_Parts.l1 k2 (wrap64 (x3_1 + 1)) (x4_2.set (x7_2 : Int).toNat (rdOf false t166 x7_2)) x5_1 t166 (wrap64 (x7_2 + 1)) a0_0 l0_1) else (none)) = some r := by rw [if_neg (show ¬ (false = true) by decide)] at H; exact H
               clear H
               have H := H1
               clear H1
               by_cases c28 : x7_2 < (t166.length : Int)
               ·rw [if_pos c28] at H
                have c28b0 : decide (x7_2 < (t166.length : Int)) = true := decide_eq_true c28
                clear c28
                obtain ⟨y172, hy172⟩ : ∃ y_ : List Bool, y_ = (x4_2.set (x7_2 : Int).toNat (rdOf false t166 x7_2)) := ⟨_, rfl⟩
                replace H : (sandpileref08_Parts.l1 k2 (wrap64 (x3_1 + 1)) y172 x5_1 t166 (wrap64 (x7_2 + 1)) a0_0 l0_1) = some r := by first | (rw [hy172]; with_reducible exact H) | (have H2_ := (Option.bind_some _ _).symm.trans H; rw [hy172]; with_reducible exact H2_) | (have H2_ := (Option.bind_some _ _).symm.trans H; with_reducible exact H2_) | with_reducible exact H | (rw [hy172]; exact H) | exact H
                have Ny172 := Aside0.mk hy172
                clear hy172
                have H' := Aside0.mk H
                clear H
                obtain ⟨hcz30_0, hcz30_1, hfz30_0, hfz30_1⟩ := zD2 BK161
                have p169 : 0 ≤ (x7_2 : Int) := of_decide_eq_true ‹_›
                have q169 : x7_2 < (x4_2.length : Int) := of_decide_eq_true ‹_›
                obtain ⟨ad169, e169, hx169_0⟩ := Kd.at_bool (Kd.R_reads' HO_4.out).2.2 x7_2 p169 q169
                (try rw [← Nbq11.out] at hx169_0)
                (try rw [← Nbq22.out] at hx169_0)
                obtain rfl : (⟨gq165, 0, none⟩ : Addr) = ad169 := (by injection e169)
                replace p169 := eq_true p169
                replace q169 := eq_true q169
                obtain ⟨Ao31, co31, eo31⟩ := Kd.R_slice HO_6.out
                subst eo31
                have p171 : 0 ≤ (x7_2 : Int) := of_decide_eq_true ‹_›
                have q171 : x7_2 < (t166.length : Int) := of_decide_eq_true ‹_›
                obtain ⟨ad171, e171, hx171_0⟩ := Kd.at_bool (Kd.R_reads' HO_6.out).2.2 x7_2 p171 q171
                (try rw [← Nbq11.out] at hx171_0)
                (try rw [← Nbq22.out] at hx171_0)
                cases e171
                replace p171 := eq_true p171
                replace q171 := eq_true q171
                have p29 : 0 ≤ (x7_2 : Int) := of_decide_eq_true ‹_›
                have q29 : (x7_2 : Int) < ((x4_2.length : Int) : Int) := of_decide_eq_true ‹_›
                obtain ⟨go29, co29, eo29, gb29, gl29, cl29, HG29⟩ := Kd.R_form HO_4.out (by omega)
                (first | (injection eo29 with ea_ en_ ec_; (first | subst ea_ | (injection ea_ with ea_; first | subst ea_ | (injection ea_ with ea_; have ea_ := ea_.symm; subst ea_))); subst ec_; clear en_))
                have GB29 := Aside0.mk gb29
                have GG29 := Aside0.mk HG29
                clear gb29 gl29 HG29
                (first | simp only [add_plain] at hx169_0 | skip)
                obtain ⟨hx29_0, hf29_0⟩ := Kd.R_celln false HO_4.out (x7_2 : Int) p29 q29
                replace p29 := eq_true p29
                replace q29 := eq_true q29
                have HP32 := Kd.R_putg HO_4.out (x7_2 : Int) (rdOf false t166 x7_2)
                go_wp2_with (first | ((with_reducible refine gate_store (t := 4) (p := 44) rfl ?_); refine store_event (t := 4) (p := 44) (v := ?vo_w33) (w1 := (wr.setCell ⟨go29, (x7_2 : Int).toNat, none⟩ (.bool (rdOf false t166 x7_2)))) ?hg ?ho ?hn ?hr ?_; (case ho => rfl); (case hg => rfl); (case hn => rfl); (case hr => first | (go_simp; done) | (go_simp; rfl)); intro w33 hw; have hg : wr.grownBy w33 (some go29) := (by rw [hw]; exact HP32.2); have hp_ : Kd.R Kd.bool 4 w33 w.heap.size (fun k_ => some k_ ≠ (.slice (some ad171) t166.length co31 : Value).ownBlock) (.slice (some ⟨go29, 0, none⟩) x4_2.length co17) y172 := (by rw [hw, Ny172.out]; exact HP32.1); clear HP32; replace HO_6 := Aside0.mk (Kd.R_after (v := (.slice (some ⟨go29, 0, none⟩) x4_2.length co17)) (v1 := (.slice (some ⟨go29, 0, none⟩) x4_2.length co17)) (ok := (fun _ => True)) (by (with_reducible repeat (first | apply Kd.R_alloc | apply Kd.R_drewN | apply Kd.R_drew)); exact Kd.R_mono HO_6.out (fun _ hk => ⟨trivial, hk⟩)) hg (.inl rfl)); replace BK161 := Aside0.mk (blk_grown (zK BK161) hg (Kd.R_ne HO_4.out BK161.out (by decide))); replace HO_4 := Aside0.mk (hp_); replace HB := Aside0.mk ((by rw [hw]; exact below_set (HB.out) GB29.out : Below w.heap.size w w33)); clear hg hw hp_))
                (try simp only [← hl4_2])
                go_roundg k2
                case measure => have := HK1.out; have := HK2.out; omega
                case rel => exact ⟨(y172), (wrap64 (x7_2 + 1)), zT, H', ⟨by have := HK1.out; have := HK2.out; omega⟩, ⟨by (try simp only [hl4_2]); (with_reducible repeat (first | apply Kd.R_alloc | apply Kd.R_drewN | apply Kd.R_drew)); exact HO_4.out⟩, ⟨by (try simp only [hl4_2]); (with_reducible repeat (first | apply Kd.R_alloc | apply Kd.R_drewN | apply Kd.R_drew)); exact Kd.R_mono HO_6.out (fun _ hk => hk.2)⟩, ⟨by (try simp only [hl4_2]); exact zK BK161⟩, ⟨zB⟩⟩
               ·rw [if_neg c28] at H
                exact absurd H (by simp)
             ·rw [if_neg c21] at H
              exact absurd H (by simp)
            ·rw [if_neg c20] at H
             exact absurd H (by simp)
           ·rw [if_neg c19] at H
            have c19b0 : decide (x7_2 < a0_0) = false := decide_eq_false c19
            clear c19
            have H' := Aside0.mk H
            clear H
            obtain ⟨hcz34_0, hcz34_1, hfz34_0, hfz34_1⟩ := zD2 BK161
            go_wp2
            (try simp only [← hl4_2])
            go_roundg k2
            case measure => have := HK1.out; have := HK2.out; omega
            case rel => exact ⟨((wrap64 (x3_1 + 1))), (x4_2), (wrap64 (x5_1 + 1)), zT, zT, H', ⟨by have := HK1.out; have := HK2.out; omega⟩, ⟨by (try simp only [hl4_2]); (with_reducible repeat (first | apply Kd.R_alloc | apply Kd.R_drewN | apply Kd.R_drew)); exact Kd.R_mono HO_4.out (fun _ hk => trivial)⟩, ⟨by (try simp only [hl4_2]); exact zK BK161⟩, ⟨zB⟩⟩
       ·rw [if_neg c10] at H
        exact absurd H (by simp)
      ·rw [if_neg c9] at H
       exact absurd H (by simp)
     ·rw [if_neg c8] at H
      have c8b0 : decide (x5_1 < a0_0) = false := decide_eq_false c8
      clear c8
      obtain rfl := Option.some.inj H
      obtain ⟨hcz35_0, hcz35_1, hfz35_0, hfz35_1⟩ := zD2 BK161
      go_wp2
      go_ret
      exact ⟨zE, zB⟩
  ·rw [if_neg c3] at H
   exact absurd H (by simp)
 ·rw [if_neg c2] at H
  exact absurd H (by simp)
def sandpileref08_Connected.f (k : Nat) (a0_0 : Int) (l0_1 : List (S66)) : Option (Bool) := (sandpileref08_Parts.f k a0_0 l0_1).bind fun t174 => (some (t174 == 1))
theorem sandpileref08_Connected.calls (k : Nat) (a0_0 : Int) (A0_1 : Option Addr) (c0_1 : Nat) (l0_1 : List (S66)) (r : Bool) (w : World) (hr0_1 : Kd.C k66 w A0_1 l0_1.length l0_1) (hc0_1 : l0_1.length ≤ c0_1) (h : sandpileref08_Connected.f k a0_0 l0_1 = some r) :
  Calls Try.prog 47 #[.agg #[.int .i64 a0_0, .slice A0_1 l0_1.length c0_1]] w fun e w' => e = .returned (.bool r) ∧ Below w.heap.size w w' := by
 have hu24 := Try.underlying24
 have HR0_1 := Aside0.mk hr0_1
 have HC0_1 := Aside0.mk hc0_1
 clear hr0_1 hc0_1
 have HB := Aside0.mk (Below.refl w.heap.size w)
 have H : ((sandpileref08_Parts.f k a0_0 l0_1).bind fun t174 => (some (t174 == 1))) = some r := h
 clear h
 replace H := Option.bind_eq_some_iff.mp H
 obtain ⟨t174, A20, H⟩ := H
 replace H : (some (t174 == 1)) = some r := H
 have A2 := Aside0.mk A20
 clear A20
 obtain rfl := Option.some.inj H
 go_enter Try.func47, Try.ntmps47
 go_wp2_with (first | ((with_reducible refine gate_dst (N := 1) rfl ?_); refine zX 1 #[.int .i64 a0_0, .slice A0_1 l0_1.length c0_1] 24 ?_; intro gb173 hg w3 hbox hb; have BK173 := Aside0.mk (hbox); have GW173 := zG HB hg; have GE173 := zG HB hg; replace HB := zS HB hb; clear hb hbox hg; obtain ⟨hcz4_0, hcz4_1, hfz4_0, hfz4_1⟩ := zD2 BK173) | ((with_reducible refine gate_callee (f := 60) rfl ?_); refine zL (some 4) Try.func60 #[.agg #[.int .i64 a0_0, .slice A0_1 l0_1.length c0_1]] ?_; (with_reducible refine (sandpileref08_Parts.calls k a0_0 _ _ l0_1 t174 _ ?side1 ?side2 A2.out).mono ?_); (case side1 => exact Kd.C_below HR0_1.out zB); (case side2 => exact HC0_1.out); rintro e w5 ⟨rfl, hb⟩; refine ⟨_, rfl, ?_⟩; replace BK173 := zb BK173 hb; replace HB := zS HB hb; (try clear hb)))
 go_ret
 exact ⟨zE, zB⟩
def at1 (o : List Bool) (i : Nat) : Bool := o.getD i false
theorem rdOf_at (o : List Bool) (i : Nat) : rdOf false o (i : Int) = at1 o i := by simp [rdOf, at1]
theorem at1_set (o : List Bool) (i j : Nat) (b : Bool) : at1 (o.set i b) j = if i = j ∧ j < o.length then b else at1 o j := by
 unfold at1
 rw [List.getD_eq_getElem?_getD, List.getD_eq_getElem?_getD, List.getElem?_set]
 by_cases h : i = j
 ·subst h
  by_cases h2 : i < o.length
  ·simp [h2]
  ·simp [h2]
 ·simp [h]
def rstep (E : List S66) (a : Nat) (o : List Bool) (b : Nat) : List Bool := if at1 o a = true ∧ btw E a b > 0 then o.set b true else o
def rrow (E : List S66) (n : Nat) (o : List Bool) (a : Nat) : List Bool := (List.range' 0 n).foldl (rstep E a) o
def rround (E : List S66) (n : Nat) (o : List Bool) : List Bool := (List.range' 0 n).foldl (rrow E n) o
def rrounds (E : List S66) (n : Nat) : Nat → List Bool → List Bool
 | 0, o => o
 | m + 1, o => rrounds E n m (rround E n o)
def reachOf (E : List S66) (n v : Nat) : List Bool := rrounds E n n ((List.replicate n false).set v true)
theorem rstep_length (E : List S66) (a b : Nat) (o : List Bool) : (rstep E a o b).length = o.length := by unfold rstep; split <;> simp
theorem foldl_length {f : List Bool → Nat → List Bool} (h : ∀ o b, (f o b).length = o.length) : ∀ (l : List Nat) (o : List Bool), (l.foldl f o).length = o.length
 | [], _ => rfl
 | x :: l, o => by rw [List.foldl_cons, foldl_length h l, h]
theorem rrow_length (E : List S66) (n a : Nat) (o : List Bool) : (rrow E n o a).length = o.length := foldl_length (fun o b => rstep_length E a b o) _ _
theorem rround_length (E : List S66) (n : Nat) (o : List Bool) : (rround E n o).length = o.length := foldl_length (fun o a => rrow_length E n a o) _ _
theorem rrounds_length (E : List S66) (n : Nat) : ∀ m o, (rrounds E n m o).length = o.length
 | 0, _ => rfl
 | m + 1, o => by rw [rrounds, rrounds_length E n m, rround_length]
theorem reach_l2 (E : List S66) (hE : E.length ≤ 1000) (n a x6 : Nat) (hn : n ≤ 1000) (ha : a < n) (r : List Bool) : ∀ (m j : Nat) (o : List Bool), j + m = n → o.length = n → Ev (fun k => sandpileref08_Reached.l1 k ((List.range' j m).foldl (rstep E a) o) x6 ((a + 1 : Nat) : Int) n E) r → Ev (fun k => sandpileref08_Reached.l2 k o x6 a j n E) r
 | 0, j, o, hj, ho, h => by
  refine Ev.of_succ ?_
  simp only [sandpileref08_Reached.l2, if_neg (show ¬ ((j : Int) < (n : Int)) by omega), wrap_succ (show a ≤ 1000000 by omega)]
  exact h
 | m + 1, j, o, hj, ho, h => by
  rw [List.range'_succ, List.foldl_cons] at h
  have ih := reach_l2 E hE n a x6 hn ha r m (j + 1) (rstep E a o j) (by omega) (by rw [rstep_length]; exact ho) h
  refine Ev.of_succ ?_
  simp only [sandpileref08_Reached.l2, if_pos (show (j : Int) < (n : Int) by omega), if_pos (show (0 : Int) ≤ (a : Int) by omega), if_pos (show (a : Int) < (o.length : Int) by omega), if_pos (show (0 : Int) ≤ (j : Int) by omega), if_pos (show (j : Int) < (o.length : Int) by omega), wrap_succ (show j ≤ 1000000 by omega), rdOf_at, Int.toNat_natCast]
  unfold rstep at ih
  by_cases h1 : at1 o a = true
  ·simp only [if_pos h1]
   refine Ev.bind (between_ev n E a j hE) ?_
   by_cases h2 : btw E a j > 0
   ·simp only [if_pos h2]; rw [if_pos ⟨h1, h2⟩] at ih; exact ih
   ·simp only [if_neg h2]; rw [if_neg (fun h => h2 h.2)] at ih; exact ih
  ·simp only [if_neg h1]; rw [if_neg (fun h => h1 h.1)] at ih; exact ih
theorem reach_l1 (E : List S66) (hE : E.length ≤ 1000) (n x6 : Nat) (hn : n ≤ 1000) (hx : x6 ≤ 1000) (r : List Bool) : ∀ (m a : Nat) (o : List Bool), a + m = n → o.length = n → Ev (fun k => sandpileref08_Reached.l0 k ((List.range' a m).foldl (rrow E n) o) ((x6 + 1 : Nat) : Int) n E) r → Ev (fun k => sandpileref08_Reached.l1 k o x6 a n E) r
 | 0, a, o, ha, ho, h => by
  refine Ev.of_succ ?_
  simp only [sandpileref08_Reached.l1, if_neg (show ¬ ((a : Int) < (n : Int)) by omega), wrap_succ (show x6 ≤ 1000000 by omega)]
  exact h
 | m + 1, a, o, ha, ho, h => by
  rw [List.range'_succ, List.foldl_cons] at h
  have ih := reach_l1 E hE n x6 hn hx r m (a + 1) (rrow E n o a) (by omega) (by rw [rrow_length]; exact ho) h
  refine Ev.of_succ ?_
  simp only [sandpileref08_Reached.l1, if_pos (show (a : Int) < (n : Int) by omega)]
  exact reach_l2 E hE n a x6 hn (by omega) r n 0 o (by omega) ho ih
theorem reach_l0 (E : List S66) (hE : E.length ≤ 1000) (n : Nat) (hn : n ≤ 1000) : ∀ (m i : Nat) (o : List Bool), i + m = n → o.length = n → Ev (fun k => sandpileref08_Reached.l0 k o i n E) (rrounds E n m o)
 | 0, i, o, hi, ho => by
  refine Ev.of_succ ?_
  simp only [sandpileref08_Reached.l0, if_neg (show ¬ ((i : Int) < (n : Int)) by omega)]
  exact Ev.const _
 | m + 1, i, o, hi, ho => by
  have ih := reach_l0 E hE n hn m (i + 1) (rround E n o) (by omega) (by rw [rround_length]; exact ho)
  refine Ev.of_succ ?_
  simp only [sandpileref08_Reached.l0, if_pos (show (i : Int) < (n : Int) by omega)]
  exact reach_l1 E hE n i hn (by omega) _ n 0 o (by omega) ho ih
theorem reached_ev (E : List S66) (hE : E.length ≤ 1000) (n v : Nat) (hn : n ≤ 1000) (hv : v < n) : Ev (fun k => sandpileref08_Reached.f k n E v) (reachOf E n v) := by
 unfold sandpileref08_Reached.f
 simp only [if_pos (show (0 : Int) ≤ (n : Int) by omega), Int.toNat_natCast, if_pos (show n ≤ 281474976710656 by omega), Option.bind_some, if_pos (show (0 : Int) ≤ (v : Int) by omega), List.length_replicate, if_pos (show (v : Int) < (n : Int) by omega)]
 exact reach_l0 E hE n hn n 0 _ (by omega) (by simp)
def orAll (s r : List Bool) : List Bool := (List.range' 0 s.length).foldl (fun s u => s.set u (at1 s u || at1 r u)) s
def partsFrom (E : List S66) (n : Nat) : Nat → Nat → Nat → List Bool → Nat
 | 0, _, c, _ => c
 | m + 1, v, c, s => if at1 s v = true then partsFrom E n m (v + 1) c s else partsFrom E n m (v + 1) (c + 1) (orAll s (reachOf E n v))
theorem orStep_length (r : List Bool) (o : List Bool) (u : Nat) : (o.set u (at1 o u || at1 r u)).length = o.length := by simp
theorem parts_l1 (E : List S66) (n : Nat) (hn : n ≤ 1000) (c v : Nat) (hv : v ≤ 1000) (q : List Bool) (hq : q.length = n) (r : Int) : ∀ (m j : Nat) (s : List Bool), j + m = n → s.length = n → Ev (fun k => sandpileref08_Parts.l0 k c ((List.range' j m).foldl (fun s u => s.set u (at1 s u || at1 q u)) s) ((v + 1 : Nat) : Int) n E) r → Ev (fun k => sandpileref08_Parts.l1 k c s v q j n E) r
 | 0, j, s, hj, hs, h => by
  refine Ev.of_succ ?_
  simp only [sandpileref08_Parts.l1, if_neg (show ¬ ((j : Int) < (n : Int)) by omega), wrap_succ (show v ≤ 1000000 by omega)]
  exact h
 | m + 1, j, s, hj, hs, h => by
  rw [List.range'_succ, List.foldl_cons] at h
  have ih := parts_l1 E n hn c v hv q hq r m (j + 1) _ (by omega) (by rw [List.length_set]; exact hs) h
  refine Ev.of_succ ?_
  simp only [sandpileref08_Parts.l1, if_pos (show (j : Int) < (n : Int) by omega), if_pos (show (0 : Int) ≤ (j : Int) by omega), if_pos (show (j : Int) < (s.length : Int) by omega), if_pos (show (j : Int) < (q.length : Int) by omega), wrap_succ (show j ≤ 1000000 by omega), rdOf_at, Int.toNat_natCast]
  by_cases h1 : at1 s j = true
  ·simp only [if_pos h1]; rw [h1, Bool.true_or] at ih; exact ih
  ·simp only [if_neg h1]; rw [Bool.eq_false_iff.2 h1, Bool.false_or] at ih; exact ih
theorem parts_l0 (E : List S66) (hE : E.length ≤ 1000) (n : Nat) (hn : n ≤ 1000) : ∀ (m v c : Nat) (s : List Bool), v + m = n → c ≤ v → s.length = n → Ev (fun k => sandpileref08_Parts.l0 k c s v n E) ((partsFrom E n m v c s : Nat) : Int)
 | 0, v, c, s, hv, hc, hs => by
  refine Ev.of_succ ?_
  simp only [sandpileref08_Parts.l0, if_neg (show ¬ ((v : Int) < (n : Int)) by omega)]
  exact Ev.const _
 | m + 1, v, c, s, hv, hc, hs => by
  refine Ev.of_succ ?_
  simp only [sandpileref08_Parts.l0, if_pos (show (v : Int) < (n : Int) by omega), if_pos (show (0 : Int) ≤ (v : Int) by omega), if_pos (show (v : Int) < (s.length : Int) by omega), wrap_succ (show v ≤ 1000000 by omega), rdOf_at, partsFrom]
  by_cases h1 : at1 s v = true
  ·simp only [if_pos h1]
   exact parts_l0 E hE n hn m (v + 1) c s (by omega) (by omega) hs
  ·simp only [if_neg h1]
   refine Ev.bind (reached_ev E hE n v hn (by omega)) ?_
   have hrl : (reachOf E n v).length = n := by unfold reachOf; rw [rrounds_length]; simp
   have ih := parts_l0 E hE n hn m (v + 1) (c + 1) (orAll s (reachOf E n v)) (by omega) (by omega) (by unfold orAll; rw [foldl_length (fun o b => orStep_length _ o b)]; exact hs)
   rw [wrap_succ (show c ≤ 1000000 by omega)]
   refine parts_l1 E n hn (c + 1) v (by omega) _ hrl _ n 0 s (by omega) hs ?_
   rw [show (List.range' 0 n).foldl (fun s u => s.set u (at1 s u || at1 (reachOf E n v) u)) s = orAll s (reachOf E n v) from by unfold orAll; rw [hs]]
   exact ih
def partsOf (E : List S66) (n : Nat) : Nat := partsFrom E n n 0 0 (List.replicate n false)
theorem parts_ev (E : List S66) (hE : E.length ≤ 1000) (n : Nat) (hn : n ≤ 1000) : Ev (fun k => sandpileref08_Parts.f k n E) ((partsOf E n : Nat) : Int) := by
 unfold sandpileref08_Parts.f
 simp only [if_pos (show (0 : Int) ≤ (n : Int) by omega), Int.toNat_natCast, if_pos (show n ≤ 281474976710656 by omega)]
 exact parts_l0 E hE n hn n 0 0 _ (by omega) (by omega) (by simp)
theorem rstep_mono {E : List S66} {a b : Nat} {o : List Bool} {i : Nat} (h : at1 o i = true) : at1 (rstep E a o b) i = true := by
 unfold rstep
 split
 ·rw [at1_set]; split <;> simp_all
 ·exact h
theorem fold_mono {f : List Bool → Nat → List Bool} (hf : ∀ o b i, at1 o i = true → at1 (f o b) i = true) : ∀ (l : List Nat) (o : List Bool) (i : Nat), at1 o i = true → at1 (l.foldl f o) i = true
 | [], _, _, h => h
 | x :: l, o, i, h => by rw [List.foldl_cons]; exact fold_mono hf l _ i (hf _ _ _ h)
theorem rrow_mono {E : List S66} {n a : Nat} {o : List Bool} {i : Nat} (h : at1 o i = true) : at1 (rrow E n o a) i = true := fold_mono (fun o b i h => rstep_mono h) _ _ _ h
theorem rround_mono {E : List S66} {n : Nat} {o : List Bool} {i : Nat} (h : at1 o i = true) : at1 (rround E n o) i = true := fold_mono (fun o b i h => rrow_mono h) _ _ _ h
theorem rrounds_mono {E : List S66} {n : Nat} : ∀ {m : Nat} {o : List Bool} {i : Nat}, at1 o i = true → at1 (rrounds E n m o) i = true
 | 0, _, _, h => h
 | m + 1, o, i, h => rrounds_mono (m := m) (rround_mono h)
def Closed (E : List S66) (n : Nat) (S : Nat → Bool) : Prop := ∀ a b : Nat, a < n → b < n → S a = true → btw E a b > 0 → S b = true
theorem fold_keeps {P : List Bool → Prop} {f : List Bool → Nat → List Bool} {n : Nat} (hf : ∀ o b, b < n → P o → P (f o b)) : ∀ (m j : Nat) (o : List Bool), j + m ≤ n → P o → P ((List.range' j m).foldl f o)
 | 0, _, _, _, h => h
 | m + 1, j, o, hj, h => by rw [List.range'_succ, List.foldl_cons]; exact fold_keeps hf m (j + 1) _ (by omega) (hf _ _ (by omega) h)
theorem rround_sound {E : List S66} {n : Nat} {S : Nat → Bool} (hS : Closed E n S) {o : List Bool} (h : ∀ i, at1 o i = true → S i = true) : ∀ i, at1 (rround E n o) i = true → S i = true := by
 refine fold_keeps (P := fun o => ∀ i, at1 o i = true → S i = true) (n := n) (fun o a ha h => ?_) n 0 o (by omega) h
 refine fold_keeps (P := fun o => ∀ i, at1 o i = true → S i = true) (n := n) (fun o b hb h => ?_) n 0 o (by omega) h
 intro i hi
 unfold rstep at hi
 split at hi
 ·rename_i hc
  rw [at1_set] at hi
  split at hi
  ·rename_i h2
   obtain ⟨rfl, _⟩ := h2
   exact hS a b ha hb (h a hc.1) hc.2
  ·exact h i hi
 ·exact h i hi
theorem rrounds_sound {E : List S66} {n : Nat} {S : Nat → Bool} (hS : Closed E n S) : ∀ (m : Nat) {o : List Bool}, (∀ i, at1 o i = true → S i = true) → ∀ i, at1 (rrounds E n m o) i = true → S i = true
 | 0, _, h => h
 | m + 1, o, h => rrounds_sound hS m (rround_sound hS h)
theorem set_same {o : List Bool} {b : Nat} (h : at1 o b = true) : o.set b true = o := by
 refine List.ext_getElem (by simp) fun i h1 h2 => ?_
 rw [List.getElem_set]
 by_cases e : b = i
 ·subst e
  rw [if_pos rfl]
  simp only [at1, List.getD_eq_getElem?_getD, List.getElem?_eq_getElem h2, Option.getD_some] at h
  exact h.symm
 ·rw [if_neg e]
theorem rround_same {E : List S66} {n : Nat} {o : List Bool} (h : Closed E n (at1 o)) : rround E n o = o := by
 refine fold_keeps (P := fun x => x = o) (n := n) (fun x a ha hx => ?_) n 0 o (by omega) rfl
 subst hx
 refine fold_keeps (P := fun y => y = x) (n := n) (fun y b hb hy => ?_) n 0 x (by omega) rfl
 subst hy
 unfold rstep
 split
 ·rename_i hc
  exact set_same (h a b ha hb hc.1 hc.2)
 ·rfl
theorem rrounds_same {E : List S66} {n : Nat} : ∀ (m : Nat) {o : List Bool}, Closed E n (at1 o) → rrounds E n m o = o
 | 0, _, _ => rfl
 | m + 1, o, h => by rw [rrounds, rround_same h, rrounds_same m h]
def trues (o : List Bool) (n : Nat) : Nat := (List.range n).countP (at1 o)
theorem trues_le (o : List Bool) (n : Nat) : trues o n ≤ n := by
 unfold trues
 exact Nat.le_trans List.countP_le_length (by simp)
theorem trues_lt {o p : List Bool} {b : Nat} : ∀ {n : Nat}, (∀ i, at1 o i = true → at1 p i = true) → b < n → at1 o b = false → at1 p b = true → trues o n < trues p n
 | 0, _, hb, _, _ => by omega
 | n + 1, h, hb, h1, h2 => by
  have mono : ∀ m, trues o m ≤ trues p m := fun m => List.countP_mono_left (fun x _ hx => h x hx)
  unfold trues at *
  rw [List.range_succ, List.countP_append, List.countP_append]
  by_cases e : b = n
  ·subst e
   have := mono b
   simp [h1, h2]; omega
  ·have := trues_lt (n := n) h (by omega) h1 h2
   unfold trues at this
   have h3 : (if at1 o n = true then 1 else 0) ≤ (if at1 p n = true then 1 else 0) := by
    by_cases h4 : at1 o n = true
    ·rw [if_pos h4, if_pos (h n h4)]; exact Nat.le_refl _
    ·rw [if_neg h4]; exact Nat.zero_le _
   simp only [List.countP_cons, List.countP_nil, Nat.zero_add]
   omega
theorem rround_more {E : List S66} {n : Nat} {o : List Bool} (ho : o.length = n) {a b : Nat} (ha : a < n) (hb : b < n) (h1 : at1 o a = true) (h2 : btw E a b > 0) : at1 (rround E n o) b = true := by
 unfold rround
 have hs : List.range' 0 n = List.range' 0 a ++ a :: List.range' (a + 1) (n - a - 1) := by
  rw [← List.range'_succ, show n - a - 1 + 1 = n - a by omega]
  rw [show List.range' 0 a ++ List.range' a (n - a) = List.range' 0 a ++ List.range' (0 + a) (n - a) by rw [Nat.zero_add], List.range'_append_1]
  rw [show a + (n - a) = n by omega]
 have hs2 : List.range' 0 n = List.range' 0 b ++ b :: List.range' (b + 1) (n - b - 1) := by
  rw [← List.range'_succ, show n - b - 1 + 1 = n - b by omega]
  rw [show List.range' 0 b ++ List.range' b (n - b) = List.range' 0 b ++ List.range' (0 + b) (n - b) by rw [Nat.zero_add], List.range'_append_1]
  rw [show b + (n - b) = n by omega]
 rw [hs, List.foldl_append, List.foldl_cons]
 refine fold_mono (fun o b i h => rrow_mono h) _ _ _ ?_
 have h3 := fold_mono (f := rrow E n) (fun o b i h => rrow_mono h) (List.range' 0 a) o a h1
 have hl := foldl_length (f := rrow E n) (fun o a => rrow_length E n a o) (List.range' 0 a) o
 generalize (List.range' 0 a).foldl (rrow E n) o = o1 at h3 hl ⊢
 unfold rrow
 rw [hs2, List.foldl_append, List.foldl_cons]
 refine fold_mono (fun o b i h => rstep_mono h) _ _ _ ?_
 have h4 := fold_mono (f := rstep E a) (fun o b i h => rstep_mono h) (List.range' 0 b) o1 a h3
 have hl2 := foldl_length (f := rstep E a) (fun o b => rstep_length E a b o) (List.range' 0 b) o1
 generalize (List.range' 0 b).foldl (rstep E a) o1 = o2 at h4 hl2 ⊢
 unfold rstep
 rw [if_pos ⟨h4, h2⟩, at1_set, if_pos ⟨rfl, by omega⟩]
theorem rrounds_closed {E : List S66} {n : Nat} : ∀ (m : Nat) (o : List Bool), o.length = n → n < trues o n + m → Closed E n (at1 (rrounds E n m o))
 | 0, o, ho, h => by have := trues_le o n; omega
 | m + 1, o, ho, h => by
  by_cases hc : Closed E n (at1 o)
  ·rw [rrounds_same (m + 1) hc]; exact hc
  ·rw [rrounds]
   refine rrounds_closed m _ (by rw [rround_length]; exact ho) ?_
   unfold Closed at hc
   simp only [Classical.not_forall] at hc
   obtain ⟨a, b, ha, hb, h1, h2, h3⟩ := hc
   have := trues_lt (o := o) (p := rround E n o) (b := b) (n := n) (fun i hi => rround_mono hi) hb (Bool.eq_false_iff.2 h3) (rround_more ho ha hb h1 h2)
   omega
theorem reachOf_facts {E : List S66} {n v : Nat} (hv : v < n) : at1 (reachOf E n v) v = true ∧ Closed E n (at1 (reachOf E n v)) ∧ ∀ S : Nat → Bool, Closed E n S → S v = true → ∀ i, at1 (reachOf E n v) i = true → S i = true := by
 have h0 : at1 ((List.replicate n false).set v true) v = true := by rw [at1_set, if_pos ⟨rfl, by simpa using hv⟩]
 have hz : ∀ i, at1 (List.replicate n false) i = false := fun i => by simp [at1, List.getD_eq_getElem?_getD, List.getElem?_replicate]; split <;> rfl
 refine ⟨rrounds_mono h0, rrounds_closed n _ (by simp) ?_, fun S hS hSv => rrounds_sound hS n (fun i hi => ?_)⟩
 ·have := trues_lt (o := List.replicate n false) (p := (List.replicate n false).set v true) (b := v) (n := n) (fun i hi => by rw [hz] at hi; cases hi) hv (hz v) h0
  omega
 ·rw [at1_set] at hi
  split at hi
  ·rename_i h; rw [← h.1]; exact hSv
  ·rw [hz] at hi; cases hi
end Go.Proofs.Ytffdiakgjakngaa.P
