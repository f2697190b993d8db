/- A part of the proof that SuperstableTops answers true (text 11 of 15): own walks and plain laws; no conditions. -/
import Derived.Lib.SliceRun
import Derived.Test.YtffdiakgjakngaaTops10
namespace Go.Proofs.Ytffdiakgjakngaa.P
open Go.RowKit Go.Proofs.YtffdiakgjakngaaW.PrintWords Go.Proofs.YtffdiakgjakngaaW.PrintLast Go.Proofs.YtffdiakgjakngaaW.PrintMore
set_option linter.unusedVariables false
set_option linter.unusedSimpArgs false
set_option maxHeartbeats 8000000
set_option maxRecDepth 100000
def superstable_raised.l0 : Nat → Int → List Int → Int → Int → List (S66) → Option (List Int)
 | 0, _, _, _, _, _ => none
 | k + 1, x1, x2, x3, x272000, x272001 => (superstable_calm.f k x272000 x272001 x1 x2).bind fun t277 => (if t277 = true then (if 0 ≤ x3 then (if x3 < (x2.length : Int) then (superstable_raised.l0 k x1 (x2.set (x3 : Int).toNat (wrap64 ((rd x2 x3) + 1))) x3 x272000 x272001) else (none)) else (none)) else (if 0 ≤ x3 then (if x3 < (x2.length : Int) then (some (x2.set (x3 : Int).toNat (wrap64 ((rd x2 x3) - 1)))) else (none)) else (none)))
def superstable_raised.f (k : Nat) (a0_0 : Int) (l0_1 : List (S66)) (a1 : Int) (l2 : List Int) (a3 : Int) : Option (List Int) := (api_Divisor_int_36.f l2).bind fun t272 => (if 0 ≤ a3 then (if a3 < (t272.length : Int) then (superstable_raised.l0 k a1 (t272.set (a3 : Int).toNat (wrap64 ((rd t272 a3) + 1))) a3 a0_0 l0_1) else (none)) else (none))
theorem superstable_raised.calls (k : Nat) (a0_0 : Int) (A0_1 : Option Addr) (c0_1 : Nat) (l0_1 : List (S66)) (a1 : Int) (A2 : Option Addr) (c2 : Nat) (l2 : List Int) (a3 : Int) (r : List Int) (w : World) (hr0_1 : Kd.C k66 w A0_1 l0_1.length l0_1) (hc0_1 : l0_1.length ≤ c0_1) (hr2 : Kd.C (Kd.int .i64) w A2 l2.length l2) (hc2 : l2.length ≤ c2) (h : superstable_raised.f k a0_0 l0_1 a1 l2 a3 = some r) :
  Calls Try.prog 53 #[.agg #[.int .i64 a0_0, .slice A0_1 l0_1.length c0_1], .int .i64 a1, .slice A2 l2.length c2, .int .i64 a3] w fun e w' => ∃ v0_ : Value, e = .returned (v0_) ∧ Kd.R (Kd.int .i64) 3 w' w.heap.size (fun _ => True) v0_ r ∧ Below w.heap.size w w' := by
 have hu24 := Try.underlying24
 have HR0_1 := Aside0.mk hr0_1
 have HC0_1 := Aside0.mk hc0_1
 clear hr0_1 hc0_1
 have HR2 := Aside0.mk hr2
 have HC2 := Aside0.mk hc2
 clear hr2 hc2
 have HB := Aside0.mk (Below.refl w.heap.size w)
 have H : ((api_Divisor_int_36.f l2).bind fun t272 => (if 0 ≤ a3 then (if a3 < (t272.length : Int) then (superstable_raised.l0 k a1 (t272.set (a3 : Int).toNat (wrap64 ((rd t272 a3) + 1))) a3 a0_0 l0_1) else (none)) else (none))) = some r := h
 clear h
 replace H := Option.bind_eq_some_iff.mp H
 obtain ⟨t272, A50, H⟩ := H
 replace H : (if 0 ≤ a3 then (if a3 < (t272.length : Int) then (superstable_raised.l0 k a1 (t272.set (a3 : Int).toNat (wrap64 ((rd t272 a3) + 1))) a3 a0_0 l0_1) else (none)) else (none)) = some r := H
 have A5 := Aside0.mk A50
 clear A50
 by_cases c6 : 0 ≤ a3
 ·rw [if_pos c6] at H
  have c6b0 : decide (0 ≤ a3) = true := decide_eq_true c6
  clear c6
  by_cases c7 : a3 < (t272.length : Int)
  ·rw [if_pos c7] at H
   have c7b0 : decide (a3 < (t272.length : Int)) = true := decide_eq_true c7
   clear c7
   obtain ⟨y276, hy276⟩ : ∃ y_ : List Int, y_ = (t272.set (a3 : Int).toNat (wrap64 ((rd t272 a3) + 1))) := ⟨_, rfl⟩
   replace H : (superstable_raised.l0 k a1 y276 a3 a0_0 l0_1) = some r := by first | (rw [hy276]; with_reducible exact H) | (have H2_ := (Option.bind_some _ _).symm.trans H; rw [hy276]; with_reducible exact H2_) | (have H2_ := (Option.bind_some _ _).symm.trans H; with_reducible exact H2_) | with_reducible exact H | (rw [hy276]; exact H) | exact H
   have Ny276 := Aside0.mk hy276
   clear hy276
   have H' := Aside0.mk H
   clear H
   go_enter Try.func53, Try.ntmps53
   go_wp2_with (first | ((with_reducible refine gate_dst (N := 4) rfl ?_); refine zX 4 #[.int .i64 a0_0, .slice A0_1 l0_1.length c0_1] 24 ?_; intro gb271 hg w9 hbox hb; have BK271 := Aside0.mk (hbox); have GW271 := zG HB hg; have GE271 := zG HB hg; replace HB := zS HB hb; clear hb hbox hg) | ((with_reducible refine gate_callee (f := 36) rfl ?_); refine zL (some 10) Try.func36 #[.slice A2 l2.length c2] ?_; (with_reducible refine (api_Divisor_int_36.calls _ _ l2 t272 _ ?side1 ?side2 A5.out).mono ?_); (case side1 => exact Kd.C_below HR2.out zB); (case side2 => exact HC2.out); rintro e w10 ⟨v273, rfl, ho0, hb⟩; refine ⟨_, rfl, ?_⟩; have HO274 := Aside0.mk (Kd.R_lower ho0 (below_size zB)); replace BK271 := zb BK271 hb; replace HB := zS HB hb; (try clear hb); (try clear ho0); obtain ⟨Ao11, co11, eo11⟩ := Kd.R_slice HO274.out; subst eo11; have p275 : 0 ≤ (a3 : Int) := of_decide_eq_true ‹_›; have q275 : a3 < (t272.length : Int) := of_decide_eq_true ‹_›; obtain ⟨ad275, e275, hx275_0⟩ := Kd.at_int (Kd.R_reads' HO274.out).2.2 a3 p275 q275; cases e275; replace p275 := eq_true p275; replace q275 := eq_true q275; have p8 : 0 ≤ (a3 : Int) := of_decide_eq_true ‹_›; have q8 : (a3 : Int) < ((t272.length : Int) : Int) := of_decide_eq_true ‹_›; obtain ⟨go8, co8, eo8, gb8, gl8, cl8, HG8⟩ := Kd.R_form HO274.out (by omega); (first | cases eo8 | (injection eo8 with ea_ en_ ec_; (first | subst ea_ | (injection ea_ with ea_; subst ea_)); subst ec_; clear en_)); have GB8 := Aside0.mk gb8; have GG8 := Aside0.mk HG8; clear gb8 gl8 HG8; (first | simp only [add_plain] at hx275_0 | skip); obtain ⟨hx8_0, hf8_0⟩ := Kd.R_celln 0 HO274.out (a3 : Int) p8 q8; replace p8 := eq_true p8; replace q8 := eq_true q8; obtain ⟨hy12_, hz12_⟩ := Kd.R_celln 0 HO274.out (a3 : Int) (of_decide_eq_true ‹_›) (of_decide_eq_true ‹_›); have HP12 := Kd.R_putg HO274.out (a3 : Int) (wrap64 ((rd t272 a3) + 1))) | ((with_reducible refine gate_store (t := 3) (p := 16) rfl ?_); refine store_event (t := 3) (p := 16) (v := ?vo_w13) (w1 := (w10.setCell ⟨go8, (a3 : Int).toNat, none⟩ (.int .i64 (wrap64 ((rd t272 a3) + 1))))) ?hg ?ho ?hn ?hr ?_; (case ho => rfl); (case hg => rfl); (case hn => rfl); (case hr => first | (go_simp; done) | (go_simp; rfl)); intro w13 hw; have hg : w10.grownBy w13 (some go8) := (by rw [hw]; exact HP12.2); have hp_ : Kd.R (Kd.int .i64) 3 w13 w.heap.size (fun _ => True) (.slice (some ⟨go8, 0, none⟩) t272.length co11) y276 := (by rw [hw, Ny276.out]; exact HP12.1); clear HP12; replace BK271 := Aside0.mk (blk_grown (zK BK271) hg (Kd.R_ne HO274.out BK271.out (by decide))); replace HO274 := Aside0.mk (hp_); replace HB := Aside0.mk ((by rw [hw]; exact below_set (HB.out) GB8.out : Below w.heap.size w w13)); clear hg hw hp_))
   go_loopg [] k (fun kq w' => ∃ (x2_1 : List Int), Aside0 (superstable_raised.l0 kq a1 x2_1 a3 a0_0 l0_1 = some r) ∧ Aside0 (kq ≤ k) ∧ Aside0 (Kd.R (Kd.int .i64) 3 w' w.heap.size (fun _ => True) (.slice (some ⟨go8, 0, none⟩) t272.length co11) x2_1) ∧ Aside0 (w'.heap[gb271]? = some (.cells #[.int .i64 a0_0, (.slice A0_1 l0_1.length c0_1)] 24 (0, 0))) ∧ Aside0 (Below w.heap.size w w'))
   case atStart => exact ⟨(y276), H', ⟨Nat.le_refl _⟩, ⟨zR HO274⟩, ⟨zK BK271⟩, ⟨zB⟩⟩
   case round =>
    clear H'
    try clear c2
    try clear p2
    try clear q2
    try clear hx2
    try clear c3
    try clear c5
    try clear c6
    try clear c6b0
    try clear p6
    try clear c7
    try clear c7b0
    try clear p8
    try clear q8
    try clear hx8
    try clear hf8
    try clear hx275_0
    try clear hx8_0
    try clear p275
    try clear p8
    try clear q275
    try clear q8
    obtain ⟨x2_1, HA, HK1, HO_2, BK271, HB⟩ := hrel
    have hl2_1 := (Kd.R_reads' HO_2.out).1
    rw [hl2_1] at HO_2
    (try simp only [hl2_1])
    (try simp only [hl2_1] at BK271)
    cases gk with
    | zero => exact absurd HA.out (by simp [superstable_raised.l0])
    | succ k1 =>
     have H := HA.out
     clear HA
     simp only [superstable_raised.l0] at H
     replace H := Option.bind_eq_some_iff.mp H
     obtain ⟨t277, A140, H⟩ := H
     replace H : (if t277 = true then (if 0 ≤ a3 then (if a3 < (x2_1.length : Int) then (superstable_raised.l0 k1 a1 (x2_1.set (a3 : Int).toNat (wrap64 ((rd x2_1 a3) + 1))) a3 a0_0 l0_1) else (none)) else (none)) else (if 0 ≤ a3 then (if a3 < (x2_1.length : Int) then (some (x2_1.set (a3 : Int).toNat (wrap64 ((rd x2_1 a3) - 1)))) else (none)) else (none))) = some r := H
     have A14 := Aside0.mk A140
     clear A140
     by_cases c15 : t277 = true
     ·subst c15
      have H1 : (if 0 ≤ a3 then (if a3 < (x2_1.length : Int) then (superstable_raised.l0 k1 a1 (x2_1.set (a3 : Int).toNat (wrap64 ((rd x2_1 a3) + 1))) a3 a0_0 l0_1) else (none)) else (none)) = some r := by rw [if_pos rfl] at H; exact H
      clear H
      have H := H1
      clear H1
      by_cases c16 : 0 ≤ a3
      ·rw [if_pos c16] at H
       have c16b0 : decide (0 ≤ a3) = true := decide_eq_true c16
       clear c16
       by_cases c17 : a3 < (x2_1.length : Int)
       ·rw [if_pos c17] at H
        have c17b0 : decide (a3 < (x2_1.length : Int)) = true := decide_eq_true c17
        clear c17
        obtain ⟨y279, hy279⟩ : ∃ y_ : List Int, y_ = (x2_1.set (a3 : Int).toNat (wrap64 ((rd x2_1 a3) + 1))) := ⟨_, rfl⟩
        replace H : (superstable_raised.l0 k1 a1 y279 a3 a0_0 l0_1) = some r := by first | (rw [hy279]; with_reducible exact H) | (have H2_ := (Option.bind_some _ _).symm.trans H; rw [hy279]; with_reducible exact H2_) | (have H2_ := (Option.bind_some _ _).symm.trans H; with_reducible exact H2_) | with_reducible exact H | (rw [hy279]; exact H) | exact H
        have Ny279 := Aside0.mk hy279
        clear hy279
        have H' := Aside0.mk H
        clear H
        obtain ⟨hcz19_0, hcz19_1, hfz19_0, hfz19_1⟩ := zD2 BK271
        go_wp2_with (first | ((with_reducible refine gate_callee (f := 72) rfl ?_); refine zL (some 20) Try.func72 #[.agg #[.int .i64 a0_0, .slice A0_1 l0_1.length c0_1], .int .i64 a1, .slice (some ⟨go8, 0, none⟩) x2_1.length co11] ?_; (with_reducible refine (superstable_calm.calls k1 a0_0 _ _ l0_1 a1 _ _ x2_1 true _ ?side1 ?side2 ?side3 ?side4 A14.out).mono ?_); (case side1 => exact Kd.C_below HR0_1.out zB); (case side2 => exact HC0_1.out); (case side3 => exact zC (Kd.R_reads' HO_2.out).2.2); (case side4 => exact (Kd.R_reads' HO_2.out).2.1); rintro e w20 ⟨rfl, hb⟩; refine ⟨_, rfl, ?_⟩; replace HO_2 := zbR HO_2 hb; replace BK271 := zb BK271 hb; replace HB := zS HB hb; (try clear hb); have p278 : 0 ≤ (a3 : Int) := of_decide_eq_true ‹_›; have q278 : a3 < (x2_1.length : Int) := of_decide_eq_true ‹_›; obtain ⟨ad278, e278, hx278_0⟩ := Kd.at_int (Kd.R_reads' HO_2.out).2.2 a3 p278 q278; obtain rfl : (⟨go8, 0, none⟩ : Addr) = ad278 := (by injection e278); (first | simp only [add_plain] at hx278_0 | simp only [add_at] at hx278_0 | simp only [Addr.add, Nat.zero_add] at hx278_0 | skip); replace p278 := eq_true p278; replace q278 := eq_true q278; have p18 : 0 ≤ (a3 : Int) := of_decide_eq_true ‹_›; have q18 : (a3 : Int) < ((x2_1.length : Int) : Int) := of_decide_eq_true ‹_›; obtain ⟨hx18_0, hf18_0⟩ := Kd.R_celln 0 HO_2.out (a3 : Int) p18 q18; replace p18 := eq_true p18; replace q18 := eq_true q18; obtain ⟨hy21_, hz21_⟩ := Kd.R_celln 0 HO_2.out (a3 : Int) (of_decide_eq_true ‹_›) (of_decide_eq_true ‹_›); have HP21 := Kd.R_putg HO_2.out (a3 : Int) (wrap64 ((rd x2_1 a3) + 1))) | ((with_reducible refine gate_store (t := 3) (p := 26) rfl ?_); refine store_event (t := 3) (p := 26) (v := ?vo_w22) (w1 := (w20.setCell ⟨go8, (a3 : Int).toNat, none⟩ (.int .i64 (wrap64 ((rd x2_1 a3) + 1))))) ?hg ?ho ?hn ?hr ?_; (case ho => rfl); (case hg => rfl); (case hn => rfl); (case hr => first | (go_simp; done) | (go_simp; rfl)); intro w22 hw; have hg : w20.grownBy w22 (some go8) := (by rw [hw]; exact HP21.2); have hp_ : Kd.R (Kd.int .i64) 3 w22 w.heap.size (fun _ => True) (.slice (some ⟨go8, 0, none⟩) x2_1.length co11) y279 := (by rw [hw, Ny279.out]; exact HP21.1); clear HP21; replace BK271 := Aside0.mk (blk_grown (zK BK271) hg (Kd.R_ne HO_2.out BK271.out (by decide))); replace HO_2 := Aside0.mk (hp_); replace HB := Aside0.mk ((by rw [hw]; exact below_set (HB.out) GB8.out : Below w.heap.size w w22)); clear hg hw hp_))
        (try simp only [← hl2_1])
        go_roundg k1
        case measure => have := HK1.out; omega
        case rel => exact ⟨(y279), H', ⟨by have := HK1.out; omega⟩, ⟨by (try simp only [hl2_1]); (with_reducible repeat (first | apply Kd.R_alloc | apply Kd.R_drewN | apply Kd.R_drew)); exact HO_2.out⟩, ⟨by (try simp only [hl2_1]); exact zK BK271⟩, ⟨zB⟩⟩
       ·rw [if_neg c17] at H
        exact absurd H (by simp)
      ·rw [if_neg c16] at H
       exact absurd H (by simp)
     ·replace c15 := Bool.eq_false_iff.mpr c15
      subst c15
      have H1 : (if 0 ≤ a3 then (if a3 < (x2_1.length : Int) then (some (x2_1.set (a3 : Int).toNat (wrap64 ((rd x2_1 a3) - 1)))) else (none)) else (none)) = some r := by rw [if_neg (show ¬ (false = true) by decide)] at H; exact H
      clear H
      have H := H1
      clear H1
      by_cases c23 : 0 ≤ a3
      ·rw [if_pos c23] at H
       have c23b0 : decide (0 ≤ a3) = true := decide_eq_true c23
       clear c23
       by_cases c24 : a3 < (x2_1.length : Int)
       ·rw [if_pos c24] at H
        have c24b0 : decide (a3 < (x2_1.length : Int)) = true := decide_eq_true c24
        clear c24
        obtain ⟨y281, hy281⟩ : ∃ y_ : List Int, y_ = (x2_1.set (a3 : Int).toNat (wrap64 ((rd x2_1 a3) - 1))) := ⟨_, rfl⟩
        replace H : (some y281) = some r := by first | (rw [hy281]; with_reducible exact H) | (have H2_ := (Option.bind_some _ _).symm.trans H; rw [hy281]; with_reducible exact H2_) | (have H2_ := (Option.bind_some _ _).symm.trans H; with_reducible exact H2_) | with_reducible exact H | (rw [hy281]; exact H) | exact H
        have Ny281 := Aside0.mk hy281
        clear hy281
        obtain rfl := Option.some.inj H
        obtain ⟨hcz26_0, hcz26_1, hfz26_0, hfz26_1⟩ := zD2 BK271
        go_wp2_with (first | ((with_reducible refine gate_callee (f := 72) rfl ?_); refine zL (some 20) Try.func72 #[.agg #[.int .i64 a0_0, .slice A0_1 l0_1.length c0_1], .int .i64 a1, .slice (some ⟨go8, 0, none⟩) x2_1.length co11] ?_; (with_reducible refine (superstable_calm.calls k1 a0_0 _ _ l0_1 a1 _ _ x2_1 false _ ?side1 ?side2 ?side3 ?side4 A14.out).mono ?_); (case side1 => exact Kd.C_below HR0_1.out zB); (case side2 => exact HC0_1.out); (case side3 => exact zC (Kd.R_reads' HO_2.out).2.2); (case side4 => exact (Kd.R_reads' HO_2.out).2.1); rintro e w27 ⟨rfl, hb⟩; refine ⟨_, rfl, ?_⟩; replace HO_2 := zbR HO_2 hb; replace BK271 := zb BK271 hb; replace HB := zS HB hb; (try clear hb); have p280 : 0 ≤ (a3 : Int) := of_decide_eq_true ‹_›; have q280 : a3 < (x2_1.length : Int) := of_decide_eq_true ‹_›; obtain ⟨ad280, e280, hx280_0⟩ := Kd.at_int (Kd.R_reads' HO_2.out).2.2 a3 p280 q280; obtain rfl : (⟨go8, 0, none⟩ : Addr) = ad280 := (by injection e280); (first | simp only [add_plain] at hx280_0 | simp only [add_at] at hx280_0 | simp only [Addr.add, Nat.zero_add] at hx280_0 | skip); replace p280 := eq_true p280; replace q280 := eq_true q280; have p25 : 0 ≤ (a3 : Int) := of_decide_eq_true ‹_›; have q25 : (a3 : Int) < ((x2_1.length : Int) : Int) := of_decide_eq_true ‹_›; obtain ⟨hx25_0, hf25_0⟩ := Kd.R_celln 0 HO_2.out (a3 : Int) p25 q25; replace p25 := eq_true p25; replace q25 := eq_true q25; obtain ⟨hy28_, hz28_⟩ := Kd.R_celln 0 HO_2.out (a3 : Int) (of_decide_eq_true ‹_›) (of_decide_eq_true ‹_›); have HP28 := Kd.R_putg HO_2.out (a3 : Int) (wrap64 ((rd x2_1 a3) - 1))) | ((with_reducible refine gate_store (t := 3) (p := 32) rfl ?_); refine store_event (t := 3) (p := 32) (v := ?vo_w29) (w1 := (w27.setCell ⟨go8, (a3 : Int).toNat, none⟩ (.int .i64 (wrap64 ((rd x2_1 a3) - 1))))) ?hg ?ho ?hn ?hr ?_; (case ho => rfl); (case hg => rfl); (case hn => rfl); (case hr => first | (go_simp; done) | (go_simp; rfl)); intro w29 hw; have hg : w27.grownBy w29 (some go8) := (by rw [hw]; exact HP28.2); have hp_ : Kd.R (Kd.int .i64) 3 w29 w.heap.size (fun _ => True) (.slice (some ⟨go8, 0, none⟩) x2_1.length co11) y281 := (by rw [hw, Ny281.out]; exact HP28.1); clear HP28; replace BK271 := Aside0.mk (blk_grown (zK BK271) hg (Kd.R_ne HO_2.out BK271.out (by decide))); replace HO_2 := Aside0.mk (hp_); replace HB := Aside0.mk ((by rw [hw]; exact below_set (HB.out) GB8.out : Below w.heap.size w w29)); clear hg hw hp_))
        go_ret
        exact ⟨_, zE, by (with_reducible repeat (first | apply Kd.R_alloc | apply Kd.R_drewN | apply Kd.R_drew)); exact HO_2.out, zB⟩
       ·rw [if_neg c24] at H
        exact absurd H (by simp)
      ·rw [if_neg c23] at H
       exact absurd H (by simp)
  ·rw [if_neg c7] at H
   exact absurd H (by simp)
 ·rw [if_neg c6] at H
  exact absurd H (by simp)
def superstable_Raise.l0 : Nat → Int → List Int → Int → Int → Int → List (S66) → Option (List Int × Int)
 | 0, _, _, _, _, _, _ => none
 | k + 1, x1, x10, x29, x30, x298000, x298001 => if x30 < x29 then (if x30 = x1 then (superstable_Raise.l0 k x1 x10 x29 (wrap64 (x30 + 1)) x298000 x298001) else ((superstable_raised.f k x298000 x298001 x1 x10 x30).bind fun t303 => (superstable_Raise.l0 k x1 t303 x29 (wrap64 (x30 + 1)) x298000 x298001))) else (some (x10, 0))
def superstable_Raise.f (k : Nat) (a0_0 : Int) (l0_1 : List (S66)) (a1 : Int) (l2 : List Int) : Option (List Int × Int) := (burning_Superstable.f k a0_0 l0_1 a1 l2).bind fun bt298 => (if bt298.2 = 0 then (if bt298.1 = true then ((api_Divisor_int_36.f l2).bind fun t300 => (superstable_Raise.l0 k a1 t300 (t300.length : Int) 0 a0_0 l0_1)) else (some (([] : List Int), 15))) else (some (([] : List Int), bt298.2)))
theorem superstable_Raise.calls (k : Nat) (a0_0 : Int) (A0_1 : Option Addr) (c0_1 : Nat) (l0_1 : List (S66)) (a1 : Int) (A2 : Option Addr) (c2 : Nat) (l2 : List Int) (r1 : List Int) (r2 : Int) (w : World) (hr0_1 : Kd.C k66 w A0_1 l0_1.length l0_1) (hc0_1 : l0_1.length ≤ c0_1) (hr2 : Kd.C (Kd.int .i64) w A2 l2.length l2) (hc2 : l2.length ≤ c2) (h : superstable_Raise.f k a0_0 l0_1 a1 l2 = some (r1, r2)) :
  Calls Try.prog 22 #[.agg #[.int .i64 a0_0, .slice A0_1 l0_1.length c0_1], .int .i64 a1, .slice A2 l2.length c2] w fun e w' => ∃ v0_ : Value, e = .returned (.tuple #[v0_, .int .i64 r2]) ∧ Kd.R (Kd.int .i64) 3 w' w.heap.size (fun _ => True) v0_ r1 ∧ Below w.heap.size w w' := by
 have hu24 := Try.underlying24
 have HR0_1 := Aside0.mk hr0_1
 have HC0_1 := Aside0.mk hc0_1
 clear hr0_1 hc0_1
 have HR2 := Aside0.mk hr2
 have HC2 := Aside0.mk hc2
 clear hr2 hc2
 have HB := Aside0.mk (Below.refl w.heap.size w)
 have H : ((burning_Superstable.f k a0_0 l0_1 a1 l2).bind fun bt298 => (if bt298.2 = 0 then (if bt298.1 = true then ((api_Divisor_int_36.f l2).bind fun t300 => (superstable_Raise.l0 k a1 t300 (t300.length : Int) 0 a0_0 l0_1)) else (some (([] : List Int), 15))) else (some (([] : List Int), bt298.2)))) = some (r1, r2) := h
 clear h
 replace H := Option.bind_eq_some_iff.mp H
 obtain ⟨⟨t298, t299⟩, A40, H⟩ := H
 replace H : (if t299 = 0 then (if t298 = true then ((api_Divisor_int_36.f l2).bind fun t300 => (superstable_Raise.l0 k a1 t300 (t300.length : Int) 0 a0_0 l0_1)) else (some (([] : List Int), 15))) else (some (([] : List Int), t299))) = some (r1, r2) := H
 have A4 := Aside0.mk A40
 clear A40
 by_cases c5 : t299 = 0
 ·rw [if_pos c5] at H
  have c5b0 : (t299 == 0) = true := beq_iff_eq.mpr c5
  have c5b1 : (t299 != 0) = false := bne_eq_false_iff_eq.mpr c5
  clear c5
  by_cases c6 : t298 = true
  ·subst c6
   have H1 : ((api_Divisor_int_36.f l2).bind fun t300 => (superstable_Raise.l0 k a1 t300 (t300.length : Int) 0 a0_0 l0_1)) = some (r1, r2) := by rw [if_pos rfl] at H; exact H
   clear H
   have H := H1
   clear H1
   replace H := Option.bind_eq_some_iff.mp H
   obtain ⟨t300, A70, H⟩ := H
   replace H : (superstable_Raise.l0 k a1 t300 (t300.length : Int) 0 a0_0 l0_1) = some (r1, r2) := H
   have A7 := Aside0.mk A70
   clear A70
   have H' := Aside0.mk H
   clear H
   go_enter Try.func22, Try.ntmps22
   go_wp2_with (first | ((with_reducible refine gate_dst (N := 3) rfl ?_); refine zX 3 #[.int .i64 a0_0, .slice A0_1 l0_1.length c0_1] 24 ?_; intro gb297 hg w8 hbox hb; have BK297 := Aside0.mk (hbox); have GW297 := zG HB hg; have GE297 := zG HB hg; replace HB := zS HB hb; clear hb hbox hg; obtain ⟨hcz9_0, hcz9_1, hfz9_0, hfz9_1⟩ := zD2 BK297) | ((with_reducible refine gate_callee (f := 35) rfl ?_); refine zL (some 16) Try.func35 #[.agg #[.int .i64 a0_0, .slice A0_1 l0_1.length c0_1], .int .i64 a1, .slice A2 l2.length c2] ?_; (with_reducible refine (burning_Superstable.calls k a0_0 _ _ l0_1 a1 _ _ l2 true t299 _ ?side1 ?side2 ?side3 ?side4 A4.out).mono ?_); (case side1 => exact Kd.C_below HR0_1.out zB); (case side2 => exact HC0_1.out); (case side3 => exact Kd.C_below HR2.out zB); (case side4 => exact HC2.out); rintro e w10 ⟨rfl, hb⟩; refine ⟨_, rfl, ?_⟩; replace BK297 := zb BK297 hb; replace HB := zS HB hb; (try clear hb)) | ((with_reducible refine gate_callee (f := 36) rfl ?_); refine zL (some 27) Try.func36 #[.slice A2 l2.length c2] ?_; (with_reducible refine (api_Divisor_int_36.calls _ _ l2 t300 _ ?side1 ?side2 A7.out).mono ?_); (case side1 => exact Kd.C_below HR2.out zB); (case side2 => exact HC2.out); rintro e w11 ⟨v301, rfl, ho0, hb⟩; refine ⟨_, rfl, ?_⟩; have HO302 := Aside0.mk (Kd.R_lower ho0 (below_size zB)); replace BK297 := zb BK297 hb; replace HB := zS HB hb; (try clear hb); (try clear ho0); obtain ⟨Ao12, co12, eo12⟩ := Kd.R_slice HO302.out; subst eo12))
   go_loopg [10, 30] k (fun kq v10 v30 w' => ∃ (x10_1 : List Int) (x30_1 : Int), v30 = .int .i64 x30_1 ∧ Aside0 (superstable_Raise.l0 kq a1 x10_1 (t300.length : Int) x30_1 a0_0 l0_1 = some (r1, r2)) ∧ Aside0 (kq ≤ k) ∧ Aside0 (Kd.R (Kd.int .i64) 3 w' w.heap.size (fun _ => True) v10 x10_1) ∧ Aside0 (w'.heap[gb297]? = some (.cells #[.int .i64 a0_0, (.slice A0_1 l0_1.length c0_1)] 24 (0, 0))) ∧ Aside0 (Below w.heap.size w w'))
   case atStart => exact ⟨(t300), (0), zT, H', ⟨Nat.le_refl _⟩, ⟨zR HO302⟩, ⟨zK BK297⟩, ⟨zB⟩⟩
   case round =>
    clear H'
    try clear c2
    try clear p2
    try clear c3
    try clear c5
    try clear c5b0
    try clear c5b1
    try clear c6
    try clear hcz9_0
    try clear hcz9_1
    try clear hfz9_0
    try clear hfz9_1
    obtain ⟨x10_1, x30_1, rfl, HA, HK1, HO_10, BK297, HB⟩ := hrel
    cases gk with
    | zero => exact absurd HA.out (by simp [superstable_Raise.l0])
    | succ k1 =>
     have H := HA.out
     clear HA
     simp only [superstable_Raise.l0] at H
     by_cases c13 : x30_1 < (t300.length : Int)
     ·rw [if_pos c13] at H
      have c13b0 : decide (x30_1 < (t300.length : Int)) = true := decide_eq_true c13
      clear c13
      by_cases c14 : x30_1 = a1
      ·rw [if_pos c14] at H
       have c14b0 : (x30_1 == a1) = true := beq_iff_eq.mpr c14
       have c14b1 : (x30_1 != a1) = false := bne_eq_false_iff_eq.mpr c14
       clear c14
       have H' := Aside0.mk H
       clear H
       go_wp2
       go_roundg k1
       case measure => have := HK1.out; omega
       case rel => exact ⟨(x10_1), (wrap64 (x30_1 + 1)), zT, H', ⟨by have := HK1.out; omega⟩, ⟨zR HO_10⟩, ⟨zK BK297⟩, ⟨zB⟩⟩
      ·rw [if_neg c14] at H
       have c14b0 : (x30_1 == a1) = false := beq_eq_false_iff_ne.mpr c14
       have c14b1 : (x30_1 != a1) = true := bne_iff_ne.mpr c14
       replace H := Option.bind_eq_some_iff.mp H
       obtain ⟨t303, A150, H⟩ := H
       replace H : (superstable_Raise.l0 k1 a1 t303 (t300.length : Int) (wrap64 (x30_1 + 1)) a0_0 l0_1) = some (r1, r2) := H
       have A15 := Aside0.mk A150
       clear A150
       have H' := Aside0.mk H
       clear H
       obtain ⟨hcz16_0, hcz16_1, hfz16_0, hfz16_1⟩ := zD2 BK297
       obtain ⟨Ao17, co17, eo17⟩ := Kd.R_slice HO_10.out
       subst eo17
       go_wp2_with (first | ((with_reducible refine gate_callee (f := 53) rfl ?_); refine zL (some 40) Try.func53 #[.agg #[.int .i64 a0_0, .slice A0_1 l0_1.length c0_1], .int .i64 a1, .slice Ao17 x10_1.length co17, .int .i64 x30_1] ?_; (with_reducible refine (superstable_raised.calls k1 a0_0 _ _ l0_1 a1 _ _ x10_1 x30_1 t303 _ ?side1 ?side2 ?side3 ?side4 A15.out).mono ?_); (case side1 => exact Kd.C_below HR0_1.out zB); (case side2 => exact HC0_1.out); (case side3 => exact zC (Kd.R_reads' HO_10.out).2.2); (case side4 => exact (Kd.R_reads' HO_10.out).2.1); rintro e w18 ⟨v304, rfl, ho0, hb⟩; refine ⟨_, rfl, ?_⟩; have HO305 := Aside0.mk (Kd.R_lower (Kd.R_new' ho0 (Kd.R_lt (zR HO_10))) (below_size zB)); replace HO_10 := zeRR HO_10 ho0 hb; replace BK297 := zb BK297 hb; replace HB := zS HB hb; (try clear hb); (try clear ho0)))
       go_roundg k1
       case measure => have := HK1.out; omega
       case rel => exact ⟨(t303), (wrap64 (x30_1 + 1)), zT, H', ⟨by have := HK1.out; omega⟩, ⟨by (with_reducible repeat (first | apply Kd.R_alloc | apply Kd.R_drewN | apply Kd.R_drew)); exact Kd.R_mono HO305.out (fun _ hk => trivial)⟩, ⟨zK BK297⟩, ⟨zB⟩⟩
     ·rw [if_neg c13] at H
      have c13b0 : decide (x30_1 < (t300.length : Int)) = false := decide_eq_false c13
      clear c13
      simp only [Option.some.injEq, Prod.mk.injEq] at H
      obtain ⟨rfl, rfl⟩ := H
      go_wp2
      go_ret2
      exact ⟨_, zE, by (with_reducible repeat (first | apply Kd.R_alloc | apply Kd.R_drewN | apply Kd.R_drew)); exact HO_10.out, zB⟩
  ·replace c6 := Bool.eq_false_iff.mpr c6
   subst c6
   have H1 : (some (([] : List Int), 15)) = some (r1, r2) := by rw [if_neg (show ¬ (false = true) by decide)] at H; exact H
   clear H
   have H := H1
   clear H1
   simp only [Option.some.injEq, Prod.mk.injEq] at H
   obtain ⟨rfl, rfl⟩ := H
   go_enter Try.func22, Try.ntmps22
   go_wp2_with (first | ((with_reducible refine gate_dst (N := 3) rfl ?_); refine zX 3 #[.int .i64 a0_0, .slice A0_1 l0_1.length c0_1] 24 ?_; intro gb297 hg w19 hbox hb; have BK297 := Aside0.mk (hbox); have GW297 := zG HB hg; have GE297 := zG HB hg; replace HB := zS HB hb; clear hb hbox hg; obtain ⟨hcz20_0, hcz20_1, hfz20_0, hfz20_1⟩ := zD2 BK297) | ((with_reducible refine gate_callee (f := 35) rfl ?_); refine zL (some 16) Try.func35 #[.agg #[.int .i64 a0_0, .slice A0_1 l0_1.length c0_1], .int .i64 a1, .slice A2 l2.length c2] ?_; (with_reducible refine (burning_Superstable.calls k a0_0 _ _ l0_1 a1 _ _ l2 false t299 _ ?side1 ?side2 ?side3 ?side4 A4.out).mono ?_); (case side1 => exact Kd.C_below HR0_1.out zB); (case side2 => exact HC0_1.out); (case side3 => exact Kd.C_below HR2.out zB); (case side4 => exact HC2.out); rintro e w21 ⟨rfl, hb⟩; refine ⟨_, rfl, ?_⟩; replace BK297 := zb BK297 hb; replace HB := zS HB hb; (try clear hb)))
   go_ret2
   exact ⟨_, zE, by first | exact Kd.R_nil _ _ _ _ _ | exact Kd.N_nil _ _ _ _ _ | exact Kd.V_nil _ _ _ _ _ | exact Kd.Q_nil _ _ _ _ _ | exact Kd.S_nil _ _ _ _ _, zB⟩
 ·rw [if_neg c5] at H
  have c5b0 : (t299 == 0) = false := beq_eq_false_iff_ne.mpr c5
  have c5b1 : (t299 != 0) = true := bne_iff_ne.mpr c5
  simp only [Option.some.injEq, Prod.mk.injEq] at H
  obtain ⟨rfl, rfl⟩ := H
  go_enter Try.func22, Try.ntmps22
  go_wp2_with (first | ((with_reducible refine gate_dst (N := 3) rfl ?_); refine zX 3 #[.int .i64 a0_0, .slice A0_1 l0_1.length c0_1] 24 ?_; intro gb297 hg w22 hbox hb; have BK297 := Aside0.mk (hbox); have GW297 := zG HB hg; have GE297 := zG HB hg; replace HB := zS HB hb; clear hb hbox hg; obtain ⟨hcz23_0, hcz23_1, hfz23_0, hfz23_1⟩ := zD2 BK297) | ((with_reducible refine gate_callee (f := 35) rfl ?_); refine zL (some 16) Try.func35 #[.agg #[.int .i64 a0_0, .slice A0_1 l0_1.length c0_1], .int .i64 a1, .slice A2 l2.length c2] ?_; (with_reducible refine (burning_Superstable.calls k a0_0 _ _ l0_1 a1 _ _ l2 t298 t299 _ ?side1 ?side2 ?side3 ?side4 A4.out).mono ?_); (case side1 => exact Kd.C_below HR0_1.out zB); (case side2 => exact HC0_1.out); (case side3 => exact Kd.C_below HR2.out zB); (case side4 => exact HC2.out); rintro e w24 ⟨rfl, hb⟩; refine ⟨_, rfl, ?_⟩; replace BK297 := zb BK297 hb; replace HB := zS HB hb; (try clear hb)))
  go_ret2
  exact ⟨_, zE, by first | exact Kd.R_nil _ _ _ _ _ | exact Kd.N_nil _ _ _ _ _ | exact Kd.V_nil _ _ _ _ _ | exact Kd.Q_nil _ _ _ _ _ | exact Kd.S_nil _ _ _ _ _, zB⟩
def superstable_Dual.l0 : Nat → List Int → List Int → Int → Int → Option (List Int × Int)
 | 0, _, _, _, _ => none
 | k + 1, x12, x46, x47, x48 => if x48 < x47 then (if 0 ≤ x48 then (if x48 < (x46.length : Int) then (if x48 < (x12.length : Int) then (superstable_Dual.l0 k (x12.set (x48 : Int).toNat (wrap64 ((rd x12 x48) - (rd x46 x48)))) x46 x47 (wrap64 (x48 + 1))) else (none)) else (none)) else (none)) else (some (x12, 0))
def superstable_Dual.f (k : Nat) (a0_0 : Int) (l0_1 : List (S66)) (a1 : Int) (l2 : List Int) : Option (List Int × Int) := (burning_Superstable.f k a0_0 l0_1 a1 l2).bind fun bt342 => (if bt342.2 = 0 then ((stabilize_Stable.f k a0_0 l0_1 a1 l2).bind fun bt344 => (if bt344.2 = 0 then (if bt344.1 = true then ((superstable_first.f k a0_0 l0_1 a1).bind fun bt346 => (if bt346.2 = 0 then (superstable_Dual.l0 k bt346.1 l2 (l2.length : Int) 0) else (some (([] : List Int), bt346.2)))) else (some (([] : List Int), 15))) else (some (([] : List Int), bt344.2)))) else (some (([] : List Int), bt342.2)))
theorem superstable_Dual.calls (k : Nat) (a0_0 : Int) (A0_1 : Option Addr) (c0_1 : Nat) (l0_1 : List (S66)) (a1 : Int) (A2 : Option Addr) (c2 : Nat) (l2 : List Int) (r1 : List Int) (r2 : Int) (w : World) (hr0_1 : Kd.C k66 w A0_1 l0_1.length l0_1) (hc0_1 : l0_1.length ≤ c0_1) (hr2 : Kd.C (Kd.int .i64) w A2 l2.length l2) (hc2 : l2.length ≤ c2) (h : superstable_Dual.f k a0_0 l0_1 a1 l2 = some (r1, r2)) :
  Calls Try.prog 24 #[.agg #[.int .i64 a0_0, .slice A0_1 l0_1.length c0_1], .int .i64 a1, .slice A2 l2.length c2] w fun e w' => ∃ v0_ : Value, e = .returned (.tuple #[v0_, .int .i64 r2]) ∧ Kd.R (Kd.int .i64) 3 w' w.heap.size (fun _ => True) v0_ r1 ∧ Below w.heap.size w w' := by
 have hu24 := Try.underlying24
 have HR0_1 := Aside0.mk hr0_1
 have HC0_1 := Aside0.mk hc0_1
 clear hr0_1 hc0_1
 have HR2 := Aside0.mk hr2
 have HC2 := Aside0.mk hc2
 clear hr2 hc2
 have HB := Aside0.mk (Below.refl w.heap.size w)
 have H : ((burning_Superstable.f k a0_0 l0_1 a1 l2).bind fun bt342 => (if bt342.2 = 0 then ((stabilize_Stable.f k a0_0 l0_1 a1 l2).bind fun bt344 => (if bt344.2 = 0 then (if bt344.1 = true then ((superstable_first.f k a0_0 l0_1 a1).bind fun bt346 => (if bt346.2 = 0 then (superstable_Dual.l0 k bt346.1 l2 (l2.length : Int) 0) else (some (([] : List Int), bt346.2)))) else (some (([] : List Int), 15))) else (some (([] : List Int), bt344.2)))) else (some (([] : List Int), bt342.2)))) = some (r1, r2) := h
 clear h
 replace H := Option.bind_eq_some_iff.mp H
 obtain ⟨⟨t342, t343⟩, A40, H⟩ := H
 replace H : (if t343 = 0 then ((stabilize_Stable.f k a0_0 l0_1 a1 l2).bind fun bt344 => (if bt344.2 = 0 then (if bt344.1 = true then ((superstable_first.f k a0_0 l0_1 a1).bind fun bt346 => (if bt346.2 = 0 then (superstable_Dual.l0 k bt346.1 l2 (l2.length : Int) 0) else (some (([] : List Int), bt346.2)))) else (some (([] : List Int), 15))) else (some (([] : List Int), bt344.2)))) else (some (([] : List Int), t343))) = some (r1, r2) := H
 have A4 := Aside0.mk A40
 clear A40
 by_cases c5 : t343 = 0
 ·rw [if_pos c5] at H
  have c5b0 : (t343 == 0) = true := beq_iff_eq.mpr c5
  have c5b1 : (t343 != 0) = false := bne_eq_false_iff_eq.mpr c5
  clear c5
  replace H := Option.bind_eq_some_iff.mp H
  obtain ⟨⟨t344, t345⟩, A60, H⟩ := H
  replace H : (if t345 = 0 then (if t344 = true then ((superstable_first.f k a0_0 l0_1 a1).bind fun bt346 => (if bt346.2 = 0 then (superstable_Dual.l0 k bt346.1 l2 (l2.length : Int) 0) else (some (([] : List Int), bt346.2)))) else (some (([] : List Int), 15))) else (some (([] : List Int), t345))) = some (r1, r2) := H
  have A6 := Aside0.mk A60
  clear A60
  by_cases c7 : t345 = 0
  ·rw [if_pos c7] at H
   have c7b0 : (t345 == 0) = true := beq_iff_eq.mpr c7
   have c7b1 : (t345 != 0) = false := bne_eq_false_iff_eq.mpr c7
   clear c7
   by_cases c8 : t344 = true
   ·subst c8
    have H1 : ((superstable_first.f k a0_0 l0_1 a1).bind fun bt346 => (if bt346.2 = 0 then (superstable_Dual.l0 k bt346.1 l2 (l2.length : Int) 0) else (some (([] : List Int), bt346.2)))) = some (r1, r2) := by rw [if_pos rfl] at H; exact H
    clear H
    have H := H1
    clear H1
    replace H := Option.bind_eq_some_iff.mp H
    obtain ⟨⟨t346, t349⟩, A90, H⟩ := H
    replace H : (if t349 = 0 then (superstable_Dual.l0 k t346 l2 (l2.length : Int) 0) else (some (([] : List Int), t349))) = some (r1, r2) := H
    have A9 := Aside0.mk A90
    clear A90
    by_cases c10 : t349 = 0
    ·rw [if_pos c10] at H
     have c10b0 : (t349 == 0) = true := beq_iff_eq.mpr c10
     have c10b1 : (t349 != 0) = false := bne_eq_false_iff_eq.mpr c10
     clear c10
     have H' := Aside0.mk H
     clear H
     go_enter Try.func24, Try.ntmps24
     go_wp2_with (first | ((with_reducible refine gate_dst (N := 3) rfl ?_); refine zX 3 #[.int .i64 a0_0, .slice A0_1 l0_1.length c0_1] 24 ?_; intro gb341 hg w11 hbox hb; have BK341 := Aside0.mk (hbox); have GW341 := zG HB hg; have GE341 := zG HB hg; replace HB := zS HB hb; clear hb hbox hg; obtain ⟨hcz12_0, hcz12_1, hfz12_0, hfz12_1⟩ := zD2 BK341) | ((with_reducible refine gate_callee (f := 35) rfl ?_); refine zL (some 19) Try.func35 #[.agg #[.int .i64 a0_0, .slice A0_1 l0_1.length c0_1], .int .i64 a1, .slice A2 l2.length c2] ?_; (with_reducible refine (burning_Superstable.calls k a0_0 _ _ l0_1 a1 _ _ l2 t342 t343 _ ?side1 ?side2 ?side3 ?side4 A4.out).mono ?_); (case side1 => exact Kd.C_below HR0_1.out zB); (case side2 => exact HC0_1.out); (case side3 => exact Kd.C_below HR2.out zB); (case side4 => exact HC2.out); rintro e w13 ⟨rfl, hb⟩; refine ⟨_, rfl, ?_⟩; replace BK341 := zb BK341 hb; replace HB := zS HB hb; (try clear hb); obtain ⟨hcz14_0, hcz14_1, hfz14_0, hfz14_1⟩ := zD2 BK341) | ((with_reducible refine gate_callee (f := 56) rfl ?_); refine zL (some 29) Try.func56 #[.agg #[.int .i64 a0_0, .slice A0_1 l0_1.length c0_1], .int .i64 a1, .slice A2 l2.length c2] ?_; (with_reducible refine (stabilize_Stable.calls k a0_0 _ _ l0_1 a1 _ _ l2 true t345 _ ?side1 ?side2 ?side3 ?side4 A6.out).mono ?_); (case side1 => exact Kd.C_below HR0_1.out zB); (case side2 => exact HC0_1.out); (case side3 => exact Kd.C_below HR2.out zB); (case side4 => exact HC2.out); rintro e w15 ⟨rfl, hb⟩; refine ⟨_, rfl, ?_⟩; replace BK341 := zb BK341 hb; replace HB := zS HB hb; (try clear hb); obtain ⟨hcz16_0, hcz16_1, hfz16_0, hfz16_1⟩ := zD2 BK341) | ((with_reducible refine gate_callee (f := 43) rfl ?_); refine zL (some 40) Try.func43 #[.agg #[.int .i64 a0_0, .slice A0_1 l0_1.length c0_1], .int .i64 a1] ?_; (with_reducible refine (superstable_first.calls k a0_0 _ _ l0_1 a1 t346 t349 _ ?side1 ?side2 A9.out).mono ?_); (case side1 => exact Kd.C_below HR0_1.out zB); (case side2 => exact HC0_1.out); rintro e w17 ⟨v347, rfl, ho0, hb⟩; refine ⟨_, rfl, ?_⟩; have HO348 := Aside0.mk (Kd.R_lower ho0 (below_size zB)); replace BK341 := zb BK341 hb; replace HB := zS HB hb; (try clear hb); (try clear ho0)))
     go_loopg [48] k (fun kq v48 w' => ∃ (x12_1 : List Int) (x48_1 : Int), v48 = .int .i64 x48_1 ∧ Aside0 (superstable_Dual.l0 kq x12_1 l2 (l2.length : Int) x48_1 = some (r1, r2)) ∧ Aside0 (kq ≤ k) ∧ Aside0 (Kd.R (Kd.int .i64) 3 w' w.heap.size (fun _ => True) v347 x12_1) ∧ Aside0 (w'.heap[gb341]? = some (.cells #[.int .i64 a0_0, (.slice A0_1 l0_1.length c0_1)] 24 (0, 0))) ∧ Aside0 (Below w.heap.size w w'))
     case atStart => exact ⟨(t346), (0), zT, H', ⟨Nat.le_refl _⟩, ⟨zR HO348⟩, ⟨zK BK341⟩, ⟨zB⟩⟩
     case round =>
      clear H'
      try clear c1
      try clear c2
      try clear p2
      try clear c3
      try clear c4
      try clear c5
      try clear c5b0
      try clear c5b1
      try clear c7
      try clear c7b0
      try clear c7b1
      try clear c8
      try clear c10
      try clear c10b0
      try clear c10b1
      try clear hcz12_0
      try clear hcz12_1
      try clear hcz14_0
      try clear hcz14_1
      try clear hcz16_0
      try clear hcz16_1
      try clear hfz12_0
      try clear hfz12_1
      try clear hfz14_0
      try clear hfz14_1
      try clear hfz16_0
      try clear hfz16_1
      obtain ⟨x12_1, x48_1, rfl, HA, HK1, HO_12, BK341, HB⟩ := hrel
      cases gk with
      | zero => exact absurd HA.out (by simp [superstable_Dual.l0])
      | succ k1 =>
       have H := HA.out
       clear HA
       simp only [superstable_Dual.l0] at H
       by_cases c18 : x48_1 < (l2.length : Int)
       ·rw [if_pos c18] at H
        have c18b0 : decide (x48_1 < (l2.length : Int)) = true := decide_eq_true c18
        clear c18
        by_cases c19 : 0 ≤ x48_1
        ·rw [if_pos c19] at H
         have c19b0 : decide (0 ≤ x48_1) = true := decide_eq_true c19
         clear c19
         by_cases c20 : x48_1 < (l2.length : Int)
         ·rw [if_pos c20] at H
          have c20b0 : decide (x48_1 < (l2.length : Int)) = true := decide_eq_true c20
          clear c20
          by_cases c21 : x48_1 < (x12_1.length : Int)
          ·rw [if_pos c21] at H
           have c21b0 : decide (x48_1 < (x12_1.length : Int)) = true := decide_eq_true c21
           clear c21
           obtain ⟨y352, hy352⟩ : ∃ y_ : List Int, y_ = (x12_1.set (x48_1 : Int).toNat (wrap64 ((rd x12_1 x48_1) - (rd l2 x48_1)))) := ⟨_, rfl⟩
           replace H : (superstable_Dual.l0 k1 y352 l2 (l2.length : Int) (wrap64 (x48_1 + 1))) = some (r1, r2) := by first | (rw [hy352]; with_reducible exact H) | (have H2_ := (Option.bind_some _ _).symm.trans H; rw [hy352]; with_reducible exact H2_) | (have H2_ := (Option.bind_some _ _).symm.trans H; with_reducible exact H2_) | with_reducible exact H | (rw [hy352]; exact H) | exact H
           have Ny352 := Aside0.mk hy352
           clear hy352
           have H' := Aside0.mk H
           clear H
           have p350 : 0 ≤ (x48_1 : Int) := of_decide_eq_true ‹_›
           have q350 : x48_1 < (l2.length : Int) := of_decide_eq_true ‹_›
           obtain ⟨ad350, e350, hx350_0⟩ := Kd.at_int HR2.out x48_1 p350 q350
           cases e350
           replace hx350_0 := (HB.out.cell (World.block_lt_of_cell? w _ hx350_0)).trans hx350_0
           replace p350 := eq_true p350
           replace q350 := eq_true q350
           obtain ⟨Ao23, co23, eo23⟩ := Kd.R_slice HO_12.out
           subst eo23
           have p351 : 0 ≤ (x48_1 : Int) := of_decide_eq_true ‹_›
           have q351 : x48_1 < (x12_1.length : Int) := of_decide_eq_true ‹_›
           obtain ⟨ad351, e351, hx351_0⟩ := Kd.at_int (Kd.R_reads' HO_12.out).2.2 x48_1 p351 q351
           cases e351
           replace p351 := eq_true p351
           replace q351 := eq_true q351
           have p22 : 0 ≤ (x48_1 : Int) := of_decide_eq_true ‹_›
           have q22 : (x48_1 : Int) < ((x12_1.length : Int) : Int) := of_decide_eq_true ‹_›
           obtain ⟨go22, co22, eo22, gb22, gl22, cl22, HG22⟩ := Kd.R_form HO_12.out (by omega)
           (first | cases eo22 | (injection eo22 with ea_ en_ ec_; (first | subst ea_ | (injection ea_ with ea_; subst ea_)); subst ec_; clear en_))
           have GB22 := Aside0.mk gb22
           have GG22 := Aside0.mk HG22
           clear gb22 gl22 HG22
           (first | simp only [add_plain] at hx351_0 | skip)
           obtain ⟨hx22_0, hf22_0⟩ := Kd.R_celln 0 HO_12.out (x48_1 : Int) p22 q22
           replace p22 := eq_true p22
           replace q22 := eq_true q22
           have HP24 := Kd.R_putg HO_12.out (x48_1 : Int) (wrap64 ((rd x12_1 x48_1) - (rd l2 x48_1)))
           go_wp2_with (first | ((with_reducible refine gate_store (t := 3) (p := 59) rfl ?_); refine store_event (t := 3) (p := 59) (v := ?vo_w25) (w1 := (wr.setCell ⟨go22, (x48_1 : Int).toNat, none⟩ (.int .i64 (wrap64 ((rd x12_1 x48_1) - (rd l2 x48_1)))))) ?hg ?ho ?hn ?hr ?_; (case ho => rfl); (case hg => rfl); (case hn => rfl); (case hr => first | (go_simp; done) | (go_simp; rfl)); intro w25 hw; have hg : wr.grownBy w25 (some go22) := (by rw [hw]; exact HP24.2); have hp_ : Kd.R (Kd.int .i64) 3 w25 w.heap.size (fun _ => True) (.slice (some ⟨go22, 0, none⟩) x12_1.length co23) y352 := (by rw [hw, Ny352.out]; exact HP24.1); clear HP24; replace BK341 := Aside0.mk (blk_grown (zK BK341) hg (Kd.R_ne HO_12.out BK341.out (by decide))); replace HO_12 := Aside0.mk (hp_); replace HB := Aside0.mk ((by rw [hw]; exact below_set (HB.out) GB22.out : Below w.heap.size w w25)); clear hg hw hp_))
           go_roundg k1
           case measure => have := HK1.out; omega
           case rel => exact ⟨(y352), (wrap64 (x48_1 + 1)), zT, H', ⟨by have := HK1.out; omega⟩, ⟨zR HO_12⟩, ⟨zK BK341⟩, ⟨zB⟩⟩
          ·rw [if_neg c21] at H
           exact absurd H (by simp)
         ·rw [if_neg c20] at H
          exact absurd H (by simp)
        ·rw [if_neg c19] at H
         exact absurd H (by simp)
       ·rw [if_neg c18] at H
        have c18b0 : decide (x48_1 < (l2.length : Int)) = false := decide_eq_false c18
        clear c18
        simp only [Option.some.injEq, Prod.mk.injEq] at H
        obtain ⟨rfl, rfl⟩ := H
        go_wp2
        go_ret2
        exact ⟨_, zE, by (with_reducible repeat (first | apply Kd.R_alloc | apply Kd.R_drewN | apply Kd.R_drew)); exact HO_12.out, zB⟩
    ·rw [if_neg c10] at H
     have c10b0 : (t349 == 0) = false := beq_eq_false_iff_ne.mpr c10
     have c10b1 : (t349 != 0) = true := bne_iff_ne.mpr c10
     simp only [Option.some.injEq, Prod.mk.injEq] at H
     obtain ⟨rfl, rfl⟩ := H
     go_enter Try.func24, Try.ntmps24
     go_wp2_with (first | ((with_reducible refine gate_dst (N := 3) rfl ?_); refine zX 3 #[.int .i64 a0_0, .slice A0_1 l0_1.length c0_1] 24 ?_; intro gb341 hg w26 hbox hb; have BK341 := Aside0.mk (hbox); have GW341 := zG HB hg; have GE341 := zG HB hg; replace HB := zS HB hb; clear hb hbox hg; obtain ⟨hcz27_0, hcz27_1, hfz27_0, hfz27_1⟩ := zD2 BK341) | ((with_reducible refine gate_callee (f := 35) rfl ?_); refine zL (some 19) Try.func35 #[.agg #[.int .i64 a0_0, .slice A0_1 l0_1.length c0_1], .int .i64 a1, .slice A2 l2.length c2] ?_; (with_reducible refine (burning_Superstable.calls k a0_0 _ _ l0_1 a1 _ _ l2 t342 t343 _ ?side1 ?side2 ?side3 ?side4 A4.out).mono ?_); (case side1 => exact Kd.C_below HR0_1.out zB); (case side2 => exact HC0_1.out); (case side3 => exact Kd.C_below HR2.out zB); (case side4 => exact HC2.out); rintro e w28 ⟨rfl, hb⟩; refine ⟨_, rfl, ?_⟩; replace BK341 := zb BK341 hb; replace HB := zS HB hb; (try clear hb); obtain ⟨hcz29_0, hcz29_1, hfz29_0, hfz29_1⟩ := zD2 BK341) | ((with_reducible refine gate_callee (f := 56) rfl ?_); refine zL (some 29) Try.func56 #[.agg #[.int .i64 a0_0, .slice A0_1 l0_1.length c0_1], .int .i64 a1, .slice A2 l2.length c2] ?_; (with_reducible refine (stabilize_Stable.calls k a0_0 _ _ l0_1 a1 _ _ l2 true t345 _ ?side1 ?side2 ?side3 ?side4 A6.out).mono ?_); (case side1 => exact Kd.C_below HR0_1.out zB); (case side2 => exact HC0_1.out); (case side3 => exact Kd.C_below HR2.out zB); (case side4 => exact HC2.out); rintro e w30 ⟨rfl, hb⟩; refine ⟨_, rfl, ?_⟩; replace BK341 := zb BK341 hb; replace HB := zS HB hb; (try clear hb); obtain ⟨hcz31_0, hcz31_1, hfz31_0, hfz31_1⟩ := zD2 BK341) | ((with_reducible refine gate_callee (f := 43) rfl ?_); refine zL (some 40) Try.func43 #[.agg #[.int .i64 a0_0, .slice A0_1 l0_1.length c0_1], .int .i64 a1] ?_; (with_reducible refine (superstable_first.calls k a0_0 _ _ l0_1 a1 t346 t349 _ ?side1 ?side2 A9.out).mono ?_); (case side1 => exact Kd.C_below HR0_1.out zB); (case side2 => exact HC0_1.out); rintro e w32 ⟨v347, rfl, ho0, hb⟩; refine ⟨_, rfl, ?_⟩; have HO348 := Aside0.mk (Kd.R_lower ho0 (below_size zB)); replace BK341 := zb BK341 hb; replace HB := zS HB hb; (try clear hb); (try clear ho0)))
     go_ret2
     exact ⟨_, zE, by first | exact Kd.R_nil _ _ _ _ _ | exact Kd.N_nil _ _ _ _ _ | exact Kd.V_nil _ _ _ _ _ | exact Kd.Q_nil _ _ _ _ _ | exact Kd.S_nil _ _ _ _ _, zB⟩
   ·replace c8 := Bool.eq_false_iff.mpr c8
    subst c8
    have H1 : (some (([] : List Int), 15)) = some (r1, r2) := by rw [if_neg (show ¬ (false = true) by decide)] at H; exact H
    clear H
    have H := H1
    clear H1
    simp only [Option.some.injEq, Prod.mk.injEq] at H
    obtain ⟨rfl, rfl⟩ := H
    go_enter Try.func24, Try.ntmps24
    go_wp2_with (first | ((with_reducible refine gate_dst (N := 3) rfl ?_); refine zX 3 #[.int .i64 a0_0, .slice A0_1 l0_1.length c0_1] 24 ?_; intro gb341 hg w33 hbox hb; have BK341 := Aside0.mk (hbox); have GW341 := zG HB hg; have GE341 := zG HB hg; replace HB := zS HB hb; clear hb hbox hg; obtain ⟨hcz34_0, hcz34_1, hfz34_0, hfz34_1⟩ := zD2 BK341) | ((with_reducible refine gate_callee (f := 35) rfl ?_); refine zL (some 19) Try.func35 #[.agg #[.int .i64 a0_0, .slice A0_1 l0_1.length c0_1], .int .i64 a1, .slice A2 l2.length c2] ?_; (with_reducible refine (burning_Superstable.calls k a0_0 _ _ l0_1 a1 _ _ l2 t342 t343 _ ?side1 ?side2 ?side3 ?side4 A4.out).mono ?_); (case side1 => exact Kd.C_below HR0_1.out zB); (case side2 => exact HC0_1.out); (case side3 => exact Kd.C_below HR2.out zB); (case side4 => exact HC2.out); rintro e w35 ⟨rfl, hb⟩; refine ⟨_, rfl, ?_⟩; replace BK341 := zb BK341 hb; replace HB := zS HB hb; (try clear hb); obtain ⟨hcz36_0, hcz36_1, hfz36_0, hfz36_1⟩ := zD2 BK341) | ((with_reducible refine gate_callee (f := 56) rfl ?_); refine zL (some 29) Try.func56 #[.agg #[.int .i64 a0_0, .slice A0_1 l0_1.length c0_1], .int .i64 a1, .slice A2 l2.length c2] ?_; (with_reducible refine (stabilize_Stable.calls k a0_0 _ _ l0_1 a1 _ _ l2 false t345 _ ?side1 ?side2 ?side3 ?side4 A6.out).mono ?_); (case side1 => exact Kd.C_below HR0_1.out zB); (case side2 => exact HC0_1.out); (case side3 => exact Kd.C_below HR2.out zB); (case side4 => exact HC2.out); rintro e w37 ⟨rfl, hb⟩; refine ⟨_, rfl, ?_⟩; replace BK341 := zb BK341 hb; replace HB := zS HB hb; (try clear hb)))
    go_ret2
    exact ⟨_, zE, by first | exact Kd.R_nil _ _ _ _ _ | exact Kd.N_nil _ _ _ _ _ | exact Kd.V_nil _ _ _ _ _ | exact Kd.Q_nil _ _ _ _ _ | exact Kd.S_nil _ _ _ _ _, zB⟩
  ·rw [if_neg c7] at H
   have c7b0 : (t345 == 0) = false := beq_eq_false_iff_ne.mpr c7
   have c7b1 : (t345 != 0) = true := bne_iff_ne.mpr c7
   simp only [Option.some.injEq, Prod.mk.injEq] at H
   obtain ⟨rfl, rfl⟩ := H
   go_enter Try.func24, Try.ntmps24
   go_wp2_with (first | ((with_reducible refine gate_dst (N := 3) rfl ?_); refine zX 3 #[.int .i64 a0_0, .slice A0_1 l0_1.length c0_1] 24 ?_; intro gb341 hg w38 hbox hb; have BK341 := Aside0.mk (hbox); have GW341 := zG HB hg; have GE341 := zG HB hg; replace HB := zS HB hb; clear hb hbox hg; obtain ⟨hcz39_0, hcz39_1, hfz39_0, hfz39_1⟩ := zD2 BK341) | ((with_reducible refine gate_callee (f := 35) rfl ?_); refine zL (some 19) Try.func35 #[.agg #[.int .i64 a0_0, .slice A0_1 l0_1.length c0_1], .int .i64 a1, .slice A2 l2.length c2] ?_; (with_reducible refine (burning_Superstable.calls k a0_0 _ _ l0_1 a1 _ _ l2 t342 t343 _ ?side1 ?side2 ?side3 ?side4 A4.out).mono ?_); (case side1 => exact Kd.C_below HR0_1.out zB); (case side2 => exact HC0_1.out); (case side3 => exact Kd.C_below HR2.out zB); (case side4 => exact HC2.out); rintro e w40 ⟨rfl, hb⟩; refine ⟨_, rfl, ?_⟩; replace BK341 := zb BK341 hb; replace HB := zS HB hb; (try clear hb); obtain ⟨hcz41_0, hcz41_1, hfz41_0, hfz41_1⟩ := zD2 BK341) | ((with_reducible refine gate_callee (f := 56) rfl ?_); refine zL (some 29) Try.func56 #[.agg #[.int .i64 a0_0, .slice A0_1 l0_1.length c0_1], .int .i64 a1, .slice A2 l2.length c2] ?_; (with_reducible refine (stabilize_Stable.calls k a0_0 _ _ l0_1 a1 _ _ l2 t344 t345 _ ?side1 ?side2 ?side3 ?side4 A6.out).mono ?_); (case side1 => exact Kd.C_below HR0_1.out zB); (case side2 => exact HC0_1.out); (case side3 => exact Kd.C_below HR2.out zB); (case side4 => exact HC2.out); rintro e w42 ⟨rfl, hb⟩; refine ⟨_, rfl, ?_⟩; replace BK341 := zb BK341 hb; replace HB := zS HB hb; (try clear hb)))
   go_ret2
   exact ⟨_, zE, by first | exact Kd.R_nil _ _ _ _ _ | exact Kd.N_nil _ _ _ _ _ | exact Kd.V_nil _ _ _ _ _ | exact Kd.Q_nil _ _ _ _ _ | exact Kd.S_nil _ _ _ _ _, zB⟩
 ·rw [if_neg c5] at H
  have c5b0 : (t343 == 0) = false := beq_eq_false_iff_ne.mpr c5
  have c5b1 : (t343 != 0) = true := bne_iff_ne.mpr c5
  simp only [Option.some.injEq, Prod.mk.injEq] at H
  obtain ⟨rfl, rfl⟩ := H
  go_enter Try.func24, Try.ntmps24
  go_wp2_with (first | ((with_reducible refine gate_dst (N := 3) rfl ?_); refine zX 3 #[.int .i64 a0_0, .slice A0_1 l0_1.length c0_1] 24 ?_; intro gb341 hg w43 hbox hb; have BK341 := Aside0.mk (hbox); have GW341 := zG HB hg; have GE341 := zG HB hg; replace HB := zS HB hb; clear hb hbox hg; obtain ⟨hcz44_0, hcz44_1, hfz44_0, hfz44_1⟩ := zD2 BK341) | ((with_reducible refine gate_callee (f := 35) rfl ?_); refine zL (some 19) Try.func35 #[.agg #[.int .i64 a0_0, .slice A0_1 l0_1.length c0_1], .int .i64 a1, .slice A2 l2.length c2] ?_; (with_reducible refine (burning_Superstable.calls k a0_0 _ _ l0_1 a1 _ _ l2 t342 t343 _ ?side1 ?side2 ?side3 ?side4 A4.out).mono ?_); (case side1 => exact Kd.C_below HR0_1.out zB); (case side2 => exact HC0_1.out); (case side3 => exact Kd.C_below HR2.out zB); (case side4 => exact HC2.out); rintro e w45 ⟨rfl, hb⟩; refine ⟨_, rfl, ?_⟩; replace BK341 := zb BK341 hb; replace HB := zS HB hb; (try clear hb)))
  go_ret2
  exact ⟨_, zE, by first | exact Kd.R_nil _ _ _ _ _ | exact Kd.N_nil _ _ _ _ _ | exact Kd.V_nil _ _ _ _ _ | exact Kd.Q_nil _ _ _ _ _ | exact Kd.S_nil _ _ _ _ _, zB⟩
mutual
def sandpileref28_Raised.l0 : Nat → Int → List Int → List Int → List Int → Int → Int → List (S66) → Option (List Int)
 | 0, _, _, _, _, _, _, _ => none
 | k + 1, x1, x2, x7, x8, x9, x316000, x316001 => if x9 < x316000 then (if x9 = x1 then (sandpileref28_Raised.l0 k x1 x2 x7 x8 (wrap64 (x9 + 1)) x316000 x316001) else (if 0 ≤ x9 then (if x9 < (x2.length : Int) then (sandpileref28_Raised.l1 k x1 x2 x7 x8 x9 (wrap64 ((rd x2 x9) + 1)) x316000 x316001) else (none)) else (none))) else (some x7)
def sandpileref28_Raised.l1 : Nat → Int → List Int → List Int → List Int → Int → Int → Int → List (S66) → Option (List Int)
 | 0, _, _, _, _, _, _, _, _ => none
 | k + 1, x1, x2, x7, x8, x9, x10, x316000, x316001 => if 0 ≤ x9 then (if x9 < (x8.length : Int) then (if x10 ≤ (rd x8 x9) then ((some (([] : List Int) : List Int)).bind fun y327 => (if y327.length + x7.length < 17592186044416 then ((some (y327 ++ x7 : List Int)).bind fun y330 => (if x9 < (y330.length : Int) then ((some (y330.set (x9 : Int).toNat x10 : List Int)).bind fun y333 => ((sandpileref23_Is.f k x316000 x316001 x1 y333).bind fun t334 => (if t334 = true then (sandpileref28_Raised.l1 k x1 x2 y333 x8 x9 (wrap64 (x10 + 1)) x316000 x316001) else (sandpileref28_Raised.l1 k x1 x2 x7 x8 x9 (wrap64 (x10 + 1)) x316000 x316001)))) else (none))) else (none))) else (sandpileref28_Raised.l0 k x1 x2 x7 x8 (wrap64 (x9 + 1)) x316000 x316001)) else (none)) else (none)
end
section
theorem clone_ev {l : List Int} (h : l.length ≤ 1000) : api_Divisor_int_36.f l = some l := if_pos (by omega)
theorem rd_set_self {l : List Int} {v : Nat} (h : v < l.length) (x : Int) : rd (l.set v x) v = x := by simp [rd, List.getD_eq_getElem?_getD, List.getElem?_set, h]
theorem rd_set_ne {l : List Int} {v u : Nat} (h : v ≠ u) (x : Int) : rd (l.set v x) u = rd l u := by simp [rd, List.getD_eq_getElem?_getD, List.getElem?_set, h]
theorem map_set {n : Nat} {f g : Nat → Int} {v : Nat} {x : Int} (h : ∀ u, u < n → u ≠ v → f u = g u) (hx : x = g v) : ((List.range n).map f).set v x = (List.range n).map g := by
 apply List.ext_getElem
 ·simp
 ·intro i h1 h2
  rw [List.getElem_set]
  have hi : i < n := by simpa using h2
  split
  ·rename_i e; subst e; simp [hx]
  ·rename_i e; simp only [List.getElem_map, List.getElem_range]; exact h i hi (fun e' => e e'.symm)
theorem rd_map {n : Nat} (f : Nat → Int) {v : Nat} (h : v < n) : rd ((List.range n).map f) v = f v := by simp [rd, List.getD_eq_getElem?_getD, List.getElem?_map, List.getElem?_range h]
theorem set_set_same (l : List Int) (v : Nat) (x y : Int) : (l.set v x).set v y = l.set v y := by simp
theorem set_rd {l : List Int} {v : Nat} (h : v < l.length) : l.set v (rd l v) = l := by
 apply List.ext_getElem
 ·simp
 ·intro i h1 h2
  rw [List.getElem_set]
  split
  ·rename_i e; subst e; simp [rd, List.getD_eq_getElem?_getD, List.getElem?_eq_getElem h]
  ·rfl
namespace Small
variable {n q : Nat} {E : List S66}
theorem sup_down (h : Small n q E) {a b : List Int} (hab : ∀ v : Nat, v < n → rd a v ≤ rd b v) (hb : superB n (timesOf E) q b = true) : superB n (timesOf E) q a = true := by
 have ht : ∀ i j, 0 ≤ timesOf E i j := fun i j => ((edgesIn_of h.right.inB).times i j).1
 exact (superB_iff ht q a).2 (((superB_iff ht q b).1 hb).down hab)
theorem sup_lt (h : Small n q E) {a : List Int} {v : Nat} (hv : v < n) (hq : v ≠ q) (ha : superB n (timesOf E) q a = true) : rd a v < valN E v n := by
 have := (superB_small h.right.inB (by have := h.n5; omega) hv hq ha).1
 unfold valOf at this
 rwa [valOf_valN h.right v n] at this
theorem rise (h : Small n q E) {c : List Int} (hc : c.length = n) {v : Nat} (hv : v < n) (hq : v ≠ q) (hs : superB n (timesOf E) q c = true) (h0 : 0 ≤ rd c v) :
  ∃ M : Nat, rd c v ≤ M ∧ (M : Int) < valN E v n ∧ ∀ x : Int, superB n (timesOf E) q (c.set v x) = true ↔ x ≤ M := by
 have hval := h.val_le v
 have hlt := h.sup_lt hv hq hs
 have down : ∀ x y : Int, x ≤ y → superB n (timesOf E) q (c.set v y) = true → superB n (timesOf E) q (c.set v x) = true := fun x y hxy hy => by
  refine h.sup_down (fun u hu => ?_) hy
  by_cases e : v = u
  ·subst e; rw [rd_set_self (by omega), rd_set_self (by omega)]; exact hxy
  ·rw [rd_set_ne e, rd_set_ne e]; exact Int.le_refl _
 have key : ∀ d : Nat, ∀ x : Nat, rd c v ≤ x → valN E v n ≤ x + d → superB n (timesOf E) q (c.set v x) = true → ∃ M : Nat, x ≤ M ∧ (M : Int) < valN E v n ∧ superB n (timesOf E) q (c.set v M) = true ∧ superB n (timesOf E) q (c.set v ((M : Int) + 1)) = false := by
  intro d
  induction d with
  | zero =>
   intro x _ h2 h3
   have := h.sup_lt hv hq h3
   rw [rd_set_self (by omega)] at this
   omega
  | succ d ih =>
   intro x h1 h2 h3
   have h4 := h.sup_lt hv hq h3
   rw [rd_set_self (by omega)] at h4
   cases h5 : superB n (timesOf E) q (c.set v ((x : Int) + 1)) with
   | false => exact ⟨x, Nat.le_refl _, h4, h3, h5⟩
   | true =>
    obtain ⟨M, m1, m2, m3, m4⟩ := ih (x + 1) (by omega) (by omega) (by rw [Int.natCast_add, Int.natCast_one]; exact h5)
    exact ⟨M, by omega, m2, m3, m4⟩
 obtain ⟨M, m1, m2, m3, m4⟩ := key 9 (rd c v).toNat (by omega) (by omega) (by rw [show ((rd c v).toNat : Int) = rd c v by omega, set_rd (by omega)]; exact hs)
 refine ⟨M, by omega, m2, fun x => ⟨fun hx => ?_, fun hx => down x M hx m3⟩⟩
 by_cases hle : x ≤ M
 ·exact hle
 ·have := down ((M : Int) + 1) x (by omega) hx
  rw [m4] at this; cases this
theorem calm_set (h : Small n q E) (hr : rootG n E q = 0) {c : List Int} (hg : GoodC n q c) {v : Nat} (hv : v < n) (hq : v ≠ q) {x : Int} (hx : 0 ≤ x ∧ x ≤ 1048576) : Ev (fun k => superstable_calm.f k n E q (c.set v x)) (superB n (timesOf E) q (c.set v x)) := by
 have hl := hg.len
 have hp : ∀ u : Nat, 0 ≤ rd (c.set v x) u ∧ rd (c.set v x) u ≤ 1048576 := fun u => by
  by_cases e : v = u
  ·subst e; rw [rd_set_self (by omega)]; exact hx
  ·rw [rd_set_ne e]; exact ⟨hg.pos u, hg.up u⟩
 have he : err23 n E q (c.set v x) = 0 := by
  have h1 : ∀ l : List Int, (∀ y ∈ l, 0 ≤ y ∧ y ≤ 1048576) → rngF l = 0 := fun l => by
   induction l with
   | nil => intro _; rfl
   | cons y l ih =>
    intro hl
    have := hl y (List.mem_cons_self ..)
    rw [rngF, if_pos (by simp [chipB]; omega)]
    exact ih fun z hz => hl z (List.mem_cons_of_mem _ hz)
  have h2 : ∀ (l : List Int) (i : Nat), (∀ y ∈ l, 0 ≤ y ∧ y ≤ 1048576) → negF q i l = 0 := fun l => by
   induction l with
   | nil => intro i _; rfl
   | cons y l ih =>
    intro i hl
    have := hl y (List.mem_cons_self ..)
    rw [negF, if_neg (show ¬ y < 0 by omega), ih (i + 1) fun z hz => hl z (List.mem_cons_of_mem _ hz)]
    split <;> rfl
  have hm : ∀ y ∈ c.set v x, 0 ≤ y ∧ y ≤ 1048576 := fun y hy => by
   obtain ⟨i, hi, rfl⟩ := List.getElem_of_mem hy
   have := hp i
   simp only [rd, Int.toNat_natCast, List.getD_eq_getElem?_getD, List.getElem?_eq_getElem hi, Option.getD_some] at this
   exact this
  have e0 : errC n E q (c.set v x) = 0 := by
   unfold errC
   rw [if_pos hr, if_pos (by simp [hl]), h1 _ hm, if_pos rfl, h2 _ 0 hm]
  unfold err23
  rw [if_pos e0, if_pos (by rw [rd_set_ne hq]; exact hg.sink)]
 unfold superstable_calm.f
 refine Ev.bind (burn_ev (by have := h.len; omega) (by have := h.n5; omega) h.right.inB he) ?_
 cases superB n (timesOf E) q (c.set v x) <;> exact Ev.const _
theorem raised_ev (h : Small n q E) (hr : rootG n E q = 0) {c : List Int} (hg : GoodC n q c) {v : Nat} (hv : v < n) (hq : v ≠ q) {M : Nat} (h1 : rd c v ≤ M) (h2 : (M : Int) < valN E v n) (hM : ∀ x : Int, superB n (timesOf E) q (c.set v x) = true ↔ x ≤ M) :
  Ev (fun k => superstable_raised.f k n E q c v) (c.set v M) := by
 have hl := hg.len
 have hval := h.val_le v
 have h0 := hg.pos v
 have loop : ∀ (m : Nat) (x : Int), rd c v + 1 ≤ x → x + m = M + 1 → Ev (fun k => superstable_raised.l0 k q (c.set v x) v n E) (c.set v M) := by
  intro m
  induction m with
  | zero =>
   intro x hx1 hx2
   refine Ev.of_succ ?_
   simp only [superstable_raised.l0]
   refine Ev.bind (h.calm_set hr hg hv hq (by omega)) ?_
   have : superB n (timesOf E) q (c.set v x) = false := by
    cases e : superB n (timesOf E) q (c.set v x) with
    | false => rfl
    | true => have := (hM x).1 e; omega
   simp only [this, Bool.false_eq_true, if_false, if_pos (show (0 : Int) ≤ v by omega), if_pos (show (v : Int) < (c.set v x).length by simp; omega), Int.toNat_natCast, set_set_same, rd_set_self (show v < c.length by omega), wrap_id (show -1000000000 ≤ x - 1 ∧ x - 1 ≤ 1000000000 by omega), show x - 1 = (M : Int) by omega, wrap_id (show -1000000000 ≤ (M : Int) ∧ (M : Int) ≤ 1000000000 by omega)]
   exact Ev.const _
  | succ m ih =>
   intro x hx1 hx2
   refine Ev.of_succ ?_
   simp only [superstable_raised.l0]
   refine Ev.bind (h.calm_set hr hg hv hq (by omega)) ?_
   simp only [(hM x).2 (by omega), if_true, if_pos (show (0 : Int) ≤ v by omega), if_pos (show (v : Int) < (c.set v x).length by simp; omega), Int.toNat_natCast, set_set_same, rd_set_self (show v < c.length by omega), wrap_id (show -1000000000 ≤ x + 1 ∧ x + 1 ≤ 1000000000 by omega)]
   exact ih (x + 1) (by omega) (by omega)
 unfold superstable_raised.f
 simp only [clone_ev (show c.length ≤ 1000 by have := h.n5; omega), Option.bind_some, if_pos (show (0 : Int) ≤ v by omega), if_pos (show (v : Int) < c.length by omega), Int.toNat_natCast, wrap_id (show -1000000000 ≤ rd c v + 1 ∧ rd c v + 1 ≤ 1000000000 by omega)]
 exact loop (M - (rd c v).toNat) (rd c v + 1) (by omega) (by omega)
end Small
end
section
theorem rd_append_left {p l : List Int} {v : Nat} (h : v < p.length) : rd (p ++ l) v = rd p v := by simp [rd, List.getD_eq_getElem?_getD, List.getElem?_append_left h]
theorem rd_append_last (p : List Int) (x : Int) : rd (p ++ [x]) p.length = x := by simp [rd, List.getD_eq_getElem?_getD]
theorem rd_take {l : List Int} {m v : Nat} (h : v < m) : rd (l.take m) v = rd l v := by simp [rd, List.getD_eq_getElem?_getD, List.getElem?_take, h]
theorem mem_stabB (most : Nat → Nat) : ∀ (m : Nat) (l : List Int), l ∈ stabB most m ↔ l.length = m ∧ ∀ v : Nat, v < m → 0 ≤ rd l v ∧ rd l v ≤ most v
 | 0, l => by
  simp only [stabB, List.mem_singleton]
  constructor
  ·rintro rfl; exact ⟨rfl, fun v hv => by omega⟩
  ·rintro ⟨h, _⟩; exact List.length_eq_zero_iff.1 h
 | m + 1, l => by
  simp only [stabB, stepB, List.mem_flatMap, List.mem_map, List.mem_range]
  constructor
  ·rintro ⟨p, hp, x, hx, rfl⟩
   obtain ⟨h1, h2⟩ := (mem_stabB most m p).1 hp
   refine ⟨by simp [h1], fun v hv => ?_⟩
   by_cases e : v < m
   ·rw [rd_append_left (by omega)]; exact h2 v e
   ·rw [show v = p.length by omega, rd_append_last]; rw [h1]; omega
  ·rintro ⟨h1, h2⟩
   refine ⟨l.take m, (mem_stabB most m _).2 ⟨by simp; omega, fun v hv => by rw [rd_take hv]; exact h2 v (by omega)⟩, (rd l m).toNat, by have := h2 m (by omega); omega, ?_⟩
   have h3 := h2 m (by omega)
   have h4 : l.take (m + 1) = l.take m ++ [l[m]] := List.take_succ_eq_append_getElem (by omega)
   rw [List.take_of_length_le (by omega)] at h4
   rw [show ((rd l m).toNat : Int) = l[m] by
    have : rd l m = l[m] := by simp [rd, List.getD_eq_getElem?_getD, List.getElem?_eq_getElem (show m < l.length by omega)]
    omega]
   exact h4.symm
theorem rd_ext {a b : List Int} (hl : a.length = b.length) (h : ∀ v : Nat, v < a.length → rd a v = rd b v) : a = b := by
 apply List.ext_getElem hl
 intro i h1 h2
 have := h i h1
 simpa [rd, List.getD_eq_getElem?_getD, List.getElem?_eq_getElem h1, List.getElem?_eq_getElem h2] using this
namespace Small
variable {n q : Nat} {E : List S66}
theorem mem_confs (h : Small n q E) (c : List Int) : c ∈ confs n E q ↔ c.length = n ∧ (∀ v : Nat, 0 ≤ rd c v) ∧ rd c q = 0 ∧ superB n (timesOf E) q c = true := by
 rw [h.confs_eq, List.mem_filter, mem_stabB, ← h.super_iff]
 constructor
 ·rintro ⟨⟨h1, h2⟩, h3⟩
  refine ⟨h1, fun v => ?_, ?_, h3⟩
  ·by_cases hv : v < n
   ·exact (h2 v hv).1
   ·rw [rd_out (by omega)]; exact Int.le_refl _
  ·have := h2 q h.q
   rw [most_q] at this
   omega
 ·rintro ⟨h1, h2, h3, h4⟩
  refine ⟨⟨h1, fun v hv => ⟨h2 v, ?_⟩⟩, h4⟩
  by_cases hq : v = q
  ·subst hq; rw [most_q, h3]; exact Int.le_refl _
  ·have := h.sup_lt hv hq h4
   unfold mostOf
   rw [if_neg hq]; omega
theorem good_conf (h : Small n q E) {c : List Int} (hc : c ∈ confs n E q) : GoodC n q c := by
 obtain ⟨h1, h2, h3, h4⟩ := (h.mem_confs c).1 hc
 exact ⟨h1, h2, fun v => by have := ((h.conf_mem hc).2 v).2; omega, h3⟩
end Small
end
section
def sumN (f : Nat → Int) : Nat → Int
 | 0 => 0
 | u + 1 => sumN f u + f u
theorem sumN_congr {f g : Nat → Int} : ∀ {n : Nat}, (∀ u, u < n → f u = g u) → sumN f n = sumN g n
 | 0, _ => rfl
 | n + 1, h => by rw [sumN, sumN, sumN_congr fun u hu => h u (by omega), h n (by omega)]
theorem sumN_le {f g : Nat → Int} : ∀ {n : Nat}, (∀ u, u < n → f u ≤ g u) → sumN f n ≤ sumN g n
 | 0, _ => Int.le_refl _
 | n + 1, h => by
  have := sumN_le (n := n) fun u hu => h u (by omega)
  have := h n (by omega)
  rw [sumN, sumN]; omega
theorem sumN_eq {f g : Nat → Int} : ∀ {n : Nat}, (∀ u, u < n → f u ≤ g u) → sumN f n = sumN g n → ∀ u, u < n → f u = g u
 | 0, _, _, u, hu => by omega
 | n + 1, h, he, u, hu => by
  have h1 := sumN_le (n := n) fun u hu => h u (by omega)
  have h2 := h n (by omega)
  rw [sumN, sumN] at he
  by_cases e : u = n
  ·subst e; omega
  ·exact sumN_eq (n := n) (fun u hu => h u (by omega)) (by omega) u (by omega)
theorem sumN_set {f g : Nat → Int} {v : Nat} (h : ∀ u, u ≠ v → f u = g u) : ∀ {n : Nat}, v < n → sumN g n = sumN f n + (g v - f v)
 | 0, hv => by omega
 | n + 1, hv => by
  rw [sumN, sumN]
  by_cases e : v = n
  ·subst e
   rw [sumN_congr (f := g) (g := f) fun u hu => (h u (by omega)).symm]; omega
  ·have := sumN_set h (n := n) (by omega)
   rw [h n (by omega)]; omega
theorem sumN_zero {f : Nat → Int} : ∀ {n : Nat}, (∀ u, u < n → f u = 0) → sumN f n = 0
 | 0, _ => rfl
 | n + 1, h => by rw [sumN, sumN_zero fun u hu => h u (by omega), h n (by omega)]; rfl
def inE (B : Nat → Bool) (x : S66) : Int := if x.f0 ≠ x.f1 ∧ B x.f0.toNat = true ∧ B x.f1.toNat = true then x.f2 else 0
def conB (B : Nat → Bool) (v u : Int) (x : S66) : Int := if x.f0 ≠ x.f1 ∧ (x.f0 = v ∧ x.f1 < u ∧ B x.f1.toNat = true ∨ x.f1 = v ∧ x.f0 < u ∧ B x.f0.toNat = true) then x.f2 else 0
theorem flames_sum {N : Int} {E : List S66} (hR : RightE N E) (B : Nat → Bool) (v : Nat) (hv : B v = false) : ∀ u : Nat, flamesTo (timesOf E) B v u = sumE (conB B v u) E
 | 0 => by
  rw [sumE_zero]
  ·rfl
  ·intro x hx
   have := hR.ok x hx
   simp [edgeOk] at this
   rw [conB, if_neg (by omega)]
 | u + 1 => by
  rw [flamesTo, flames_sum hR B v hv u]
  cases hb : B u with
  | false =>
   rw [if_neg (by decide), sumE_congr (f := conB B v (u + 1 : Nat)) (g := conB B v u)]
   ·omega
   ·intro x hx
    have ho := hR.ok x hx
    simp [edgeOk] at ho
    unfold conB
    by_cases h : x.f0 ≠ x.f1 ∧ (x.f0 = (v : Int) ∧ x.f1 < (u : Int) ∧ B x.f1.toNat = true ∨ x.f1 = (v : Int) ∧ x.f0 < (u : Int) ∧ B x.f0.toNat = true)
    ·rw [if_pos h, if_pos ⟨h.1, by rcases h.2 with h | h; exact Or.inl ⟨h.1, by omega, h.2.2⟩; exact Or.inr ⟨h.1, by omega, h.2.2⟩⟩]
    ·rw [if_neg h, if_neg]
     rintro ⟨h1, h2 | h2⟩
     ·refine h ⟨h1, Or.inl ⟨h2.1, ?_, h2.2.2⟩⟩
      by_cases e : x.f1 = u
      ·have := h2.2.2; rw [show x.f1.toNat = u by omega, hb] at this; cases this
      ·omega
     ·refine h ⟨h1, Or.inr ⟨h2.1, ?_, h2.2.2⟩⟩
      by_cases e : x.f0 = u
      ·have := h2.2.2; rw [show x.f0.toNat = u by omega, hb] at this; cases this
      ·omega
  | true =>
   have huv : u ≠ v := fun e => by subst e; rw [hv] at hb; cases hb
   rw [if_pos rfl, times_btw hR v u (fun e => huv e.symm), btw_sum _ _ hR.order, ← sumE_add]
   refine (sumE_congr fun x hx => ?_).symm
   have hl := hR.le x hx
   have ho := hR.ok x hx
   simp [edgeOk] at ho
   show conB B v (u + 1 : Nat) x = conB B v u x + _
   by_cases h2 : x.f0 = min (v : Int) u ∧ x.f1 = max (v : Int) u
   ·have hA : conB B v (u + 1 : Nat) x = x.f2 := if_pos ⟨by omega, by
     by_cases e : v < u
     ·exact Or.inl ⟨by omega, by omega, by rw [show x.f1.toNat = u by omega]; exact hb⟩
     ·exact Or.inr ⟨by omega, by omega, by rw [show x.f0.toNat = u by omega]; exact hb⟩⟩
    have hB : conB B v u x = 0 := if_neg (by omega)
    rw [hA, hB, if_pos h2]
    omega
   ·unfold conB
    rw [if_neg h2]
    by_cases h : x.f0 ≠ x.f1 ∧ (x.f0 = (v : Int) ∧ x.f1 < (u : Int) ∧ B x.f1.toNat = true ∨ x.f1 = (v : Int) ∧ x.f0 < (u : Int) ∧ B x.f0.toNat = true)
    ·rw [if_pos h, if_pos ⟨h.1, by rcases h.2 with h | h; exact Or.inl ⟨h.1, by omega, h.2.2⟩; exact Or.inr ⟨h.1, by omega, h.2.2⟩⟩]; omega
    ·rw [if_neg h, if_neg]
     ·rfl
     ·rintro ⟨h1, h3 | h3⟩
      ·exact h ⟨h1, Or.inl ⟨h3.1, by omega, h3.2.2⟩⟩
      ·exact h ⟨h1, Or.inr ⟨h3.1, by omega, h3.2.2⟩⟩
theorem flamesTo_up {t : Nat → Nat → Int} (ht : ∀ i j, 0 ≤ t i j) {b b' : Nat → Bool} {v : Nat} : ∀ n, (∀ u, u < n → b u = true → b' u = true) → flamesTo t b v n ≤ flamesTo t b' v n
 | 0, _ => Int.le_refl _
 | n + 1, h => by
  have ih := flamesTo_up ht (v := v) n fun u hu => h u (by omega)
  have h0 := ht v n
  rw [flamesTo, flamesTo]
  cases hb : b n with
  | false => rw [if_neg (by decide)]; split <;> omega
  | true => rw [if_pos rfl, h n (by omega) hb, if_pos rfl]; omega
def left (n : Nat) (B : Nat → Bool) : Nat := (List.range n).countP fun v => !B v
theorem left_zero {n : Nat} {B : Nat → Bool} (h : left n B = 0) : ∀ v, v < n → B v = true := by
 unfold left at h
 rw [List.countP_eq_zero] at h
 intro v hv
 have := h v (List.mem_range.2 hv)
 simpa using this
theorem left_lt {B : Nat → Bool} {v : Nat} (hb : B v = false) : ∀ {n : Nat}, v < n → left n (fun u => decide (u = v) || B u) < left n B
 | 0, hv => by omega
 | n + 1, hv => by
  unfold left at *
  rw [List.range_succ, List.countP_append, List.countP_append]
  by_cases e : v = n
  ·subst e
   have h1 : (List.range v).countP (fun u => !(decide (u = v) || B u)) = (List.range v).countP fun u => !B u := List.countP_congr fun u hu => by
    have := List.mem_range.1 hu
    simp [show u ≠ v by omega]
   rw [h1]
   simp [hb]
  ·have ih := left_lt hb (n := n) (by omega)
   unfold left at ih
   have h2 : ([n] : List Nat).countP (fun u => !(decide (u = v) || B u)) = ([n] : List Nat).countP fun u => !B u := List.countP_congr fun u hu => by
    have := List.mem_singleton.1 hu
    simp [show u ≠ v by omega]
   dsimp only at ih ⊢
   omega
theorem in_step {B : Nat → Bool} {v : Nat} {n : Int} {x : S66} (hb : B v = false) (h0 : 0 ≤ x.f0 ∧ x.f0 < n) (h1 : 0 ≤ x.f1 ∧ x.f1 < n) : inE B x + conB B v n x = inE (fun u => decide (u = v) || B u) x := by
 by_cases hl : x.f0 = x.f1
 ·have e1 : inE B x = 0 := if_neg fun h => h.1 hl
  have e2 : conB B v n x = 0 := if_neg fun h => h.1 hl
  have e3 : inE (fun u => decide (u = v) || B u) x = 0 := if_neg fun h => h.1 hl
  rw [e1, e2, e3]; rfl
 ·by_cases ha : x.f0 = v
  ·have ha1 : x.f0.toNat = v := by omega
   have hb1 : x.f1.toNat ≠ v := by omega
   have e1 : inE B x = 0 := if_neg fun h => by have := h.2.1; rw [ha1, hb] at this; cases this
   cases e : B x.f1.toNat with
   | true =>
    have e2 : conB B v n x = x.f2 := if_pos ⟨hl, Or.inl ⟨ha, h1.2, e⟩⟩
    have e3 : inE (fun u => decide (u = v) || B u) x = x.f2 := if_pos ⟨hl, by simp [ha1], by simp [e]⟩
    rw [e1, e2, e3]; omega
   | false =>
    have e2 : conB B v n x = 0 := if_neg fun h => by
     rcases h.2 with h | h
     ·have := h.2.2; rw [e] at this; cases this
     ·omega
    have e3 : inE (fun u => decide (u = v) || B u) x = 0 := if_neg fun h => by have := h.2.2; simp [hb1, e] at this
    rw [e1, e2, e3]; rfl
  ·have ha1 : x.f0.toNat ≠ v := by omega
   by_cases hc : x.f1 = v
   ·have hb1 : x.f1.toNat = v := by omega
    have e1 : inE B x = 0 := if_neg fun h => by have := h.2.2; rw [hb1, hb] at this; cases this
    cases e : B x.f0.toNat with
    | true =>
     have e2 : conB B v n x = x.f2 := if_pos ⟨hl, Or.inr ⟨hc, h0.2, e⟩⟩
     have e3 : inE (fun u => decide (u = v) || B u) x = x.f2 := if_pos ⟨hl, by simp [e], by simp [hb1]⟩
     rw [e1, e2, e3]; omega
    | false =>
     have e2 : conB B v n x = 0 := if_neg fun h => by
      rcases h.2 with h | h
      ·omega
      ·have := h.2.2; rw [e] at this; cases this
     have e3 : inE (fun u => decide (u = v) || B u) x = 0 := if_neg fun h => by have := h.2.1; simp [ha1, e] at this
     rw [e1, e2, e3]; rfl
   ·have hb1 : x.f1.toNat ≠ v := by omega
    have e2 : conB B v n x = 0 := if_neg fun h => by omega
    have e3 : inE (fun u => decide (u = v) || B u) x = inE B x := by unfold inE; simp [ha1, hb1]
    rw [e2, e3]; omega
theorem fullify {n q : Nat} {E : List S66} (hR : RightE n E) (hq : q < n) {c : Nat → Int} (hc : NoBlock n (timesOf E) q c) : ∀ (m : Nat) (B : Nat → Bool) (r : Nat → Int), left n B ≤ m → B q = true →
  (∀ v, v < n → B v = true → v ≠ q → c v ≤ r v) → sumN (fun v => if B v = true ∧ v ≠ q then r v + 1 else 0) n = sumE (inE B) E →
  (∀ S : Nat → Bool, S q = false → (∃ v, v < n ∧ S v = true ∧ B v = true) → ∃ v, v < n ∧ S v = true ∧ B v = true ∧ r v < flamesTo (timesOf E) (fun u => !S u) v n) →
  ∃ r' : Nat → Int, (∀ v, v < n → v ≠ q → c v ≤ r' v) ∧ sumN (fun v => if v ≠ q then r' v + 1 else 0) n = sumE (inE fun _ => true) E ∧ NoBlock n (timesOf E) q r' := by
 have ht : ∀ i j, 0 ≤ timesOf E i j := fun i j => ((edgesIn_of hR.inB).times i j).1
 have done : ∀ (B : Nat → Bool) (r : Nat → Int), left n B = 0 → (∀ v, v < n → B v = true → v ≠ q → c v ≤ r v) → sumN (fun v => if B v = true ∧ v ≠ q then r v + 1 else 0) n = sumE (inE B) E →
  (∀ S : Nat → Bool, S q = false → (∃ v, v < n ∧ S v = true ∧ B v = true) → ∃ v, v < n ∧ S v = true ∧ B v = true ∧ r v < flamesTo (timesOf E) (fun u => !S u) v n) →
  ∃ r' : Nat → Int, (∀ v, v < n → v ≠ q → c v ≤ r' v) ∧ sumN (fun v => if v ≠ q then r' v + 1 else 0) n = sumE (inE fun _ => true) E ∧ NoBlock n (timesOf E) q r' := by
  intro B r h0 h1 h2 h3
  have hall := left_zero h0
  refine ⟨r, fun v hv hvq => h1 v hv (hall v hv) hvq, ?_, ?_⟩
  ·rw [sumN_congr (g := fun v => if B v = true ∧ v ≠ q then r v + 1 else 0) fun u hu => by simp [hall u hu], h2]
   refine sumE_congr fun x hx => ?_
   have ho := hR.ok x hx
   simp [edgeOk] at ho
   unfold inE
   rw [hall x.f0.toNat (by omega), hall x.f1.toNat (by omega)]
  ·rintro S ⟨v, hv, hs⟩ hSq
   obtain ⟨u, h4, h5, _, h6⟩ := h3 S hSq ⟨v, hv, hs, hall v hv⟩
   exact ⟨u, h4, h5, h6⟩
 intro m
 induction m with
 | zero => exact fun B r h0 _ h1 h2 h3 => done B r (by omega) h1 h2 h3
 | succ m ih =>
  intro B r h0 hBq h1 h2 h3
  by_cases hz : left n B = 0
  ·exact done B r hz h1 h2 h3
  ·have hex : ∃ v, v < n ∧ (fun u => !B u) v = true := by
    refine Classical.byContradiction fun hno => hz ?_
    unfold left
    rw [List.countP_eq_zero]
    intro v hv hb
    exact hno ⟨v, List.mem_range.1 hv, hb⟩
   obtain ⟨v, hv, hbv, hlt⟩ := hc (fun u => !B u) hex (by simp [hBq])
   have hbv' : B v = false := by simpa using hbv
   have hvq : v ≠ q := fun e => by subst e; rw [hBq] at hbv'; cases hbv'
   have e0 : (fun u => !(fun u => !B u) u) = B := by funext u; simp
   rw [e0] at hlt
   refine ih (fun u => decide (u = v) || B u) (fun u => if u = v then flamesTo (timesOf E) B v n - 1 else r u) (by have := left_lt hbv' hv; omega) (by simp [hBq]) ?_ ?_ ?_
   ·intro u hu hbu huq
    by_cases e : u = v
    ·subst e; simp only [if_true]; omega
    ·simp only [if_neg e]
     simp [e] at hbu
     exact h1 u hu hbu huq
   ·have hs := sumN_set (f := fun u => if B u = true ∧ u ≠ q then r u + 1 else 0) (g := fun u => if (decide (u = v) || B u) = true ∧ u ≠ q then (if u = v then flamesTo (timesOf E) B v n - 1 else r u) + 1 else 0) (v := v) (fun u hu => by simp [hu]) hv
    rw [hs, h2]
    simp only [decide_true, Bool.true_or, if_true, hbv', Bool.false_eq_true, false_and, if_false, ne_eq, hvq, not_false_eq_true, and_self]
    rw [flames_sum hR B v hbv' n]
    rw [show sumE (inE B) E + (sumE (conB B v n) E - 1 + 1 - 0) = sumE (inE B) E + sumE (conB B v n) E by omega, ← sumE_add]
    refine sumE_congr fun x hx => ?_
    have ho := hR.ok x hx
    simp [edgeOk] at ho
    exact in_step hbv' (by omega) (by omega)
   ·intro S hSq hex'
    by_cases hold : ∃ u, u < n ∧ S u = true ∧ B u = true
    ·obtain ⟨u, u1, u2, u3, u4⟩ := h3 S hSq hold
     refine ⟨u, u1, u2, by simp [u3], ?_⟩
     have : u ≠ v := fun e => by subst e; rw [u3] at hbv'; cases hbv'
     simp only [if_neg this]; exact u4
    ·obtain ⟨u, u1, u2, u3⟩ := hex'
     have huv : u = v := by
      refine Classical.byContradiction fun e => hold ⟨u, u1, u2, ?_⟩
      simpa [e] using u3
     subst huv
     refine ⟨u, u1, u2, by simp, ?_⟩
     simp only [if_true]
     have := flamesTo_up ht (b := B) (b' := fun w => !S w) (v := u) n (fun w hw hbw => by
      cases hs : S w with
      | false => rfl
      | true => exact absurd ⟨w, hw, hs, hbw⟩ hold)
     omega
def genE (n : Nat) (E : List S66) : Int := sumE (inE fun _ => true) E - n + 1
theorem sumN_const (n q : Nat) (hq : q < n) (f : Nat → Int) : sumN (fun v => if v ≠ q then f v + 1 else 0) n = sumN (fun v => if v ≠ q then f v else 0) n + n - 1 := by
 have key : ∀ m : Nat, sumN (fun v => if v ≠ q then f v + 1 else 0) m = sumN (fun v => if v ≠ q then f v else 0) m + m - (if q < m then 1 else 0) := fun m => by
  induction m with
  | zero => simp [sumN]
  | succ m ih =>
   rw [sumN, sumN, ih]
   by_cases e : m = q
   ·subst e; simp; omega
   ·rw [if_pos e, if_pos e]
    by_cases h : q < m
    ·rw [if_pos h, if_pos (by omega)]; omega
    ·rw [if_neg h, if_neg (by omega)]; omega
 rw [key n, if_pos hq]
theorem sumTo_sumN (l : List Int) : ∀ m : Nat, sumTo l m = sumN (fun v => rd l v) m
 | 0 => rfl
 | m + 1 => by rw [sumTo, sumN, sumTo_sumN l m]
theorem NoBlock.congr {n : Nat} {t : Nat → Nat → Int} {q : Nat} {c c' : Nat → Int} (h : NoBlock n t q c) (hc : ∀ v, v < n → v ≠ q → c' v ≤ c v) : NoBlock n t q c' := by
 rintro S hS hq
 obtain ⟨v, h1, h2, h3⟩ := h S hS hq
 have : v ≠ q := fun e => by subst e; rw [hq] at h2; cases h2
 exact ⟨v, h1, h2, by have := hc v h1 this; omega⟩
namespace Small
variable {n q : Nat} {E : List S66}
theorem full (h : Small n q E) {c : List Int} (hc : c ∈ confs n E q) : ∃ d : List Int, d ∈ confs n E q ∧ (∀ v : Nat, v < n → rd c v ≤ rd d v) ∧ sumOf d = genE n E := by
 obtain ⟨h1, h2, h3, h4⟩ := (h.mem_confs c).1 hc
 have ht : ∀ i j, 0 ≤ timesOf E i j := fun i j => ((edgesIn_of h.right.inB).times i j).1
 have hnb := (superB_iff ht q c).1 h4
 obtain ⟨r, r1, r2, r3⟩ := fullify h.right h.q hnb (left n fun u => decide (u = q)) (fun u => decide (u = q)) (fun _ => 0) (Nat.le_refl _) (by simp) (fun v hv hb hvq => by simp at hb; exact absurd hb hvq)
  (by
   rw [sumN_zero (fun u hu => by rw [if_neg]; simp), sumE_zero]
   intro x hx
   have ho := h.right.ok x hx
   simp [edgeOk] at ho
   unfold inE
   rw [if_neg]
   rintro ⟨e, e1, e2⟩
   simp at e1 e2
   omega)
  (fun S hS ⟨v, hv, hs, hb⟩ => by simp at hb; subst hb; rw [hS] at hs; cases hs)
 refine ⟨(List.range n).map fun (v : Nat) => if v = q then 0 else r v, ?_, ?_, ?_⟩
 ·refine (h.mem_confs _).2 ⟨by simp, fun v => ?_, ?_, ?_⟩
  ·by_cases hv : v < n
   ·rw [rd_map _ hv]
    by_cases e : v = q
    ·rw [if_pos e]; exact Int.le_refl _
    ·rw [if_neg e]; have := r1 v hv e; have := h2 v; omega
   ·rw [rd_out (by simp; omega)]; exact Int.le_refl _
  ·rw [rd_map _ h.q, if_pos rfl]
  ·refine (superB_iff ht q _).2 (r3.congr fun v hv hvq => ?_)
   rw [rd_map _ hv, if_neg hvq]; exact Int.le_refl _
 ·intro v hv
  rw [rd_map _ hv]
  by_cases e : v = q
  ·rw [if_pos e, e, h3]; exact Int.le_refl _
  ·rw [if_neg e]; exact r1 v hv e
 ·unfold sumOf genE
  rw [← r2, sumN_const n q h.q, sumTo_sumN]
  simp only [List.length_map, List.length_range]
  rw [sumN_congr (g := fun v => if v ≠ q then r v else 0) fun u hu => by
   rw [rd_map _ hu]
   by_cases e : u = q
   ·rw [if_pos e, if_neg (by simp [e])]
   ·rw [if_neg e, if_pos e]]
  omega
theorem sum_le (h : Small n q E) {c : List Int} (hc : c ∈ confs n E q) : 0 ≤ sumOf c ∧ sumOf c ≤ genE n E := by
 obtain ⟨d, hd, h1, h2⟩ := h.full hc
 have lc := (h.conf_mem hc).1
 have ld := (h.conf_mem hd).1
 have hp := ((h.mem_confs c).1 hc).2.1
 rw [← h2]
 unfold sumOf
 rw [sumTo_sumN, sumTo_sumN, lc, ld]
 have h0 := sumN_le (f := fun _ => 0) (g := fun (v : Nat) => rd c v) (n := n) fun u _ => hp u
 rw [sumN_zero (f := fun _ => 0) fun _ _ => rfl] at h0
 exact ⟨h0, sumN_le h1⟩
theorem top_iff (h : Small n q E) {c : List Int} (hc : c ∈ confs n E q) : sumOf c = genE n E ↔ ∀ v : Nat, v < n → v ≠ q → superB n (timesOf E) q (c.set v (rd c v + 1)) = false := by
 obtain ⟨h1, h2, h3, h4⟩ := (h.mem_confs c).1 hc
 constructor
 ·intro hs v hv hvq
  cases e : superB n (timesOf E) q (c.set v (rd c v + 1)) with
  | false => rfl
  | true =>
   have hm : c.set v (rd c v + 1) ∈ confs n E q := (h.mem_confs _).2 ⟨by simp [h1], fun u => by
    by_cases e : v = u
    ·subst e; rw [rd_set_self (by omega)]; have := h2 v; omega
    ·rw [rd_set_ne e]; exact h2 u, by rw [rd_set_ne hvq]; exact h3, e⟩
   have := (h.sum_le hm).2
   have hx : sumOf (c.set v (rd c v + 1)) = sumOf c + 1 := by
    unfold sumOf
    rw [sumTo_sumN, sumTo_sumN, List.length_set, sumN_set (f := fun (u : Nat) => rd c u) (v := v) (fun u hu => (rd_set_ne (fun e => hu e.symm) _).symm) (by omega), rd_set_self (by omega)]
    omega
   omega
 ·intro hall
  obtain ⟨d, hd, hle, hsum⟩ := h.full hc
  obtain ⟨d1, d2, d3, d4⟩ := (h.mem_confs d).1 hd
  have : c = d := rd_ext (by omega) fun v hv => by
   refine Classical.byContradiction fun hne => ?_
   have hl := hle v (by omega)
   have hvq : v ≠ q := fun e => by subst e; rw [h3, d3] at hne; exact hne rfl
   have hb := hall v (by omega) hvq
   have : superB n (timesOf E) q (c.set v (rd c v + 1)) = true := h.sup_down (fun u hu => by
    by_cases e : v = u
    ·subst e; rw [rd_set_self (by omega)]; omega
    ·rw [rd_set_ne e]; exact hle u hu) d4
   rw [hb] at this; cases this
  rw [this]; exact hsum
end Small
end
def sandpilelaw28_Triangle.f  : Option (Int × (List (S66))) := some (3, (([(⟨0, 1, 1⟩ : S66), (⟨0, 2, 1⟩ : S66), (⟨1, 2, 1⟩ : S66)] : List (S66))))
theorem sandpilelaw28_Triangle.calls  (r1 : Int) (r2 : List (S66)) (w : World) (h : sandpilelaw28_Triangle.f  = some (r1, r2)) :
  Calls Try.prog 42 #[] w fun e w' => ∃ v1_ : Value, e = .returned (.agg #[.int .i64 r1, v1_]) ∧ Kd.R k66 66 w' w.heap.size (fun _ => True) v1_ r2 ∧ Below w.heap.size w w' := by
 have hu24 := Try.underlying24
 have hu66 := Try.underlying66
 have HB := Aside0.mk (Below.refl w.heap.size w)
 have H : (some (3, (([(⟨0, 1, 1⟩ : S66), (⟨0, 2, 1⟩ : S66), (⟨1, 2, 1⟩ : S66)] : List (S66))))) = some (r1, r2) := h
 clear h
 obtain ⟨y478, hy478⟩ : ∃ y_ : List (S66), y_ = (([(⟨0, 1, 1⟩ : S66), (⟨0, 2, 1⟩ : S66), (⟨1, 2, 1⟩ : S66)] : List (S66))) := ⟨_, rfl⟩
 replace H : (some (3, y478)) = some (r1, r2) := by first | (rw [hy478]; with_reducible exact H) | (have H2_ := (Option.bind_some _ _).symm.trans H; rw [hy478]; with_reducible exact H2_) | (have H2_ := (Option.bind_some _ _).symm.trans H; with_reducible exact H2_) | with_reducible exact H | (rw [hy478]; exact H) | exact H
 have Ny478 := Aside0.mk hy478
 clear hy478
 simp only [Option.some.injEq, Prod.mk.injEq] at H
 obtain ⟨rfl, rfl⟩ := H
 go_enter Try.func42, Try.ntmps42
 go_wp2_with (first | ((with_reducible refine gate_dst (N := 0) rfl ?_); refine zX 0 #[.int .i64 0, .slice none 0 0] 24 ?_; intro gb477 hg w1 hbox hb; have BK477 := Aside0.mk (hbox); have GW477 := zG HB hg; have GE477 := zG HB hg; replace HB := zS HB hb; clear hb hbox hg) | ((with_reducible refine gate_dst (N := 4) rfl ?_); refine Kd.R_lit k66 _ 66 ?hg (N := 4) ?hd (xs := ([(⟨0, 1, 1⟩ : S66), (⟨0, 2, 1⟩ : S66), (⟨1, 2, 1⟩ : S66)] : List (S66))) (inner := [.int .i64 0, .int .i64 1, .int .i64 1, .int .i64 0, .int .i64 2, .int .i64 1, .int .i64 1, .int .i64 2, .int .i64 1]) (ok := fun _ => True) (okp := fun _ => True) ?hr ?hp (fun _ hk => hk) trivial (Below.refl _ _) (Nat.le_refl _) (by simp) ?_; (case hd => rfl); (case hg => rfl); (case hr => first | (go_simp; done) | (go_simp; rfl)); (case hp => exact (Reps.c3 (show Kd.M k66 _ _ _ (⟨0, 1, 1⟩ : S66) [.int .i64 0, .int .i64 1, .int .i64 1] from (k66_mkM _ _ _ (⟨0, 1, 1⟩ : S66) )) (Reps.c3 (show Kd.M k66 _ _ _ (⟨0, 2, 1⟩ : S66) [.int .i64 0, .int .i64 2, .int .i64 1] from (k66_mkM _ _ _ (⟨0, 2, 1⟩ : S66) )) (Reps.c3 (show Kd.M k66 _ _ _ (⟨1, 2, 1⟩ : S66) [.int .i64 1, .int .i64 2, .int .i64 1] from (k66_mkM _ _ _ (⟨1, 2, 1⟩ : S66) )) (Reps.none _ _))))); intro v479 w2 ho3 hb hg_ hnew_; clear hg_ hnew_; (first | rw [← Ny478.out] at ho3 | (simp only [Int.reduceToNat] at ho3; rw [← Ny478.out] at ho3)); have HO480 := Aside0.mk (Kd.R_lower ho3 (below_size zB)); replace BK477 := zb BK477 hb; replace HB := zS HB hb; clear hb ho3; obtain ⟨Ao4, co4, eo4⟩ := Kd.R_slice HO480.out; subst eo4; obtain ⟨hcz5_0, hcz5_1, hfz5_0, hfz5_1⟩ := zD2 BK477))
 refine bodyPost_ret (results_cell_row rfl _ _ gb477 24 #[.int .i64 3, .slice Ao4 y478.length co4] (0, 0) _ rfl (by refine zk ?_; refine blk_put (cs := #[.int .i64 3, .slice none 0 0]) ?_ 1 _ rfl; refine zk ?_; refine blk_put (cs := #[.int .i64 0, .slice none 0 0]) ?_ 0 _ rfl; exact zK BK477) Try.underlying24 rfl (by kernel_rfl)) rfl ?_
 exact ⟨_, zE, by (with_reducible repeat (first | apply Kd.R_alloc | apply Kd.R_drewN | apply Kd.R_drew)); exact Kd.R_mono (Kd.R_far (p := ⟨gb477, 1, none⟩) (Kd.R_far (p := ⟨gb477, 0, none⟩) (Kd.R_types HO480.out BK477.out (by decide)) (fun _ hk => hk.2) (.int .i64 3)) (fun _ hk => hk.2) (.slice Ao4 y478.length co4)) (fun _ hk => trivial), zB⟩
def DelAt (qx gx : Nat) (row : Option Nat) (wb : World) (l : List (List Int)) (del : List Int → Bool) : Prop :=
 ∀ (W' : World) (A0 : Option Addr) (c0 : Nat) (x : List Int), wb.grownBy W' row → x ∈ l → x.length ≤ c0 → Kd.C (Kd.int .i64) W' A0 x.length x →
  Calls Try.prog 52 #[.slice A0 x.length c0, .pointer (some ⟨qx, 0, none⟩), .pointer (some ⟨gx, 0, none⟩)] W' fun e w' => e = .returned (.bool (del x)) ∧ Below W'.heap.size W' w'
theorem rd_L2_mem {l : List (List Int)} {i : Nat} (h : i < l.length) : rd_L2 l i ∈ l := by
 have e : rd_L2 l i = l[i] := by simp [rd_L2, List.getD_eq_getElem?_getD, List.getElem?_eq_getElem h]
 rw [e]; exact List.getElem_mem h
theorem indexFunc_calls (qx gx base : Nat) (row : Option Nat) (A : Option Addr) (cap : Nat) (ok : Nat → Prop) (l : List (List Int)) (del : List Int → Bool) (wb W : World) (hN : Kd.N (Kd.slice 3 (Kd.int .i64)) 42 W base ok (.slice A l.length cap) l) (hwb : wb.grownBy W row) (hD : DelAt qx gx row wb l del) :
  Calls Try.prog 61 #[.slice A l.length cap, .func (.func 52) #[] #[.pointer (some ⟨qx, 0, none⟩), .pointer (some ⟨gx, 0, none⟩)]] W fun e w' => ∃ r : Int, e = .returned (.int .i64 r) ∧ ((r = -1 ∧ ∀ j : Nat, j < l.length → del (rd_L2 l j) = false) ∨ ∃ i : Nat, r = i ∧ i < l.length ∧ del (rd_L2 l i) = true ∧ ∀ j : Nat, j < i → del (rd_L2 l j) = false) ∧ Below W.heap.size W w' := by
 have HN := Aside0.mk hN
 have HWB := Aside0.mk hwb
 have HD := Aside0.mk hD
 clear hN hwb hD
 go_enter Try.func61, Try.ntmps61
 go_wp2
 go_loopw [8] (fun i wr => ∃ k : Nat, k ≤ l.length ∧ i = .int .i64 k ∧ Aside0 (∀ j : Nat, j < k → del (rd_L2 l j) = false) ∧ Aside0 (Below W.heap.size W wr)) (fun i _ => l.length - (intOf i).toNat)
 case atStart => exact ⟨0, by omega, rfl, ⟨fun j hj => by omega⟩, ⟨Below.refl _ _⟩⟩
 case round =>
  obtain ⟨k, hk, rfl, HF, HB⟩ := hrel
  by_cases hkl : k < l.length
  ·obtain ⟨-, hcap, hC⟩ := Kd.N_reads' (Kd.N_below HN.out HB.out)
   obtain ⟨ad, Ac, cc, rfl, hx0, hcc, hcr⟩ := at_L2 hC k (by omega) (by omega)
   rw [Int.toNat_natCast] at hx0
   have HM := Aside0.mk (HD.out wr Ac cc (rd_L2 l k) (HWB.out.trans (grown_of_below HB.out _)) (rd_L2_mem hkl) hcc hcr)
   have HRK := Aside0.mk (rfl : rd_L2 l k = rd_L2 l k)
   have hk0 : (0 : Int) ≤ (k : Int) := by omega
   have hk1 : (k : Int) < (l.length : Int) := by omega
   have hlb : l.length ≤ 9223372036854775807 := Kd.C_max hC
   clear hC hcr hcc hcap
   cases hb : del (rd_L2 l k) with
   | true =>
    rw [hb] at HM
    have Hb := Aside0.mk hb
    clear hb
    go_wp2_with (go_at_call 52; refine HM.out.mono ?_; rintro e w1 ⟨rfl, hb1⟩; have HB1 := Aside0.mk hb1; clear hb1)
    go_ret
    exact ⟨k, rfl, .inr ⟨k, rfl, hkl, Hb.out, HF.out⟩, HB.out.trans (HB1.out.mono HB.out.size)⟩
   | false =>
    rw [hb] at HM
    have Hb := Aside0.mk hb
    clear hb
    go_wp2_with (go_at_call 52; refine HM.out.mono ?_; rintro e w1 ⟨rfl, hb1⟩; have HB1 := Aside0.mk hb1; clear hb1)
    go_roundw
    case rel => exact ⟨k + 1, by omega, by go_num, ⟨fun j hj => by
     by_cases e : j = k
     ·subst e; exact Hb.out
     ·exact HF.out j (by omega)⟩, ⟨HB.out.trans (HB1.out.mono HB.out.size)⟩⟩
    case measure => exact (show l.length - ((k : Int) + 1).toNat < l.length - ((k : Int)).toNat by omega)
  ·obtain rfl : k = l.length := by omega
   go_wp2
   go_ret
   exact ⟨-1, rfl, .inl ⟨rfl, HF.out⟩, HB.out⟩
theorem rd_L2_set {ys : List (List Int)} {i m : Nat} (h : i ≠ m) (x : List Int) : rd_L2 (ys.set i x) m = rd_L2 ys m := by
 simp [rd_L2, List.getD_eq_getElem?_getD, List.getElem?_set, h]
theorem ne_minus (i : Nat) : ((i : Int) == -1) = false := by
 rw [beq_eq_false_iff_ne]; omega
theorem take_next {l : List (List Int)} {j : Nat} (h : j < l.length) : l.take (j + 1) = l.take j ++ [rd_L2 l j] := by
 rw [List.take_succ_eq_append_getElem h]
 simp [rd_L2, List.getD_eq_getElem?_getD, List.getElem?_eq_getElem h]
theorem take_set_next {ys : List (List Int)} {i : Nat} (h : i < ys.length) (x : List Int) : (ys.set i x).take (i + 1) = ys.take i ++ [x] := by
 rw [List.take_succ_eq_append_getElem (by simpa using h)]
 simp [List.take_set_of_le]
theorem filter_next {l : List (List Int)} {del : List Int → Bool} {j : Nat} (h : j < l.length) : (l.take (j + 1)).filter (fun x => !del x) = (l.take j).filter (fun x => !del x) ++ (if del (rd_L2 l j) then [] else [rd_L2 l j]) := by
 rw [take_next h, List.filter_append]
 cases hd : del (rd_L2 l j) <;> simp [hd]
theorem zeroDiv (w : World) : (zeroValue 42).run Try.prog w = .ok (.slice none 0 0) w := by kernel_rfl
theorem filter_first {l : List (List Int)} {del : List Int → Bool} {i : Nat} (h1 : del (rd_L2 l i) = true) (h2 : ∀ j : Nat, j < i → del (rd_L2 l j) = false) (h : i < l.length) : l.take i = (l.take (i + 1)).filter fun x => !del x := by
 rw [take_next h, List.filter_append]
 rw [show [rd_L2 l i].filter (fun x => !del x) = [] by simp [h1], List.append_nil]
 symm
 rw [List.filter_eq_self]
 intro x hx
 obtain ⟨j, hj, rfl⟩ := List.mem_take_iff_getElem.1 hx
 have h3 := h2 j (by omega)
 have e : rd_L2 l j = l[j]'(by omega) := by simp [rd_L2, List.getD_eq_getElem?_getD, List.getElem?_eq_getElem (by omega : j < l.length)]
 rw [e] at h3
 simp [h3]
theorem n_put {W : World} {base g0 n cap : Nat} {ok : Nat → Prop} {ys : List (List Int)} {x : List Int} {v : Value} {i : Nat} (h : Kd.N (Kd.slice 3 (Kd.int .i64)) 42 W base ok (.slice (some ⟨g0, 0, none⟩) n cap) ys) (hM : Kd.FK (Kd.slice 3 (Kd.int .i64)) W (fun k => ok k ∧ k ≠ g0) x [v]) (hi : i < n) :
  (∃ u, W.cell? ⟨g0, i, none⟩ = some u) ∧ W.frozen? ⟨g0, i, none⟩ = false ∧ Kd.N (Kd.slice 3 (Kd.int .i64)) 42 (W.setCell ⟨g0, i, none⟩ v) base ok (.slice (some ⟨g0, 0, none⟩) n cap) (ys.set i x) ∧ W.grownBy (W.setCell ⟨g0, i, none⟩ v) (some g0) := by
 obtain ⟨c, hcl, -, hcc, hfr⟩ := Kd.N_elem h [] (i : Int) (by omega) (by omega)
 obtain ⟨u, rfl⟩ : ∃ u, c = [u] := List.length_eq_one_iff.1 hcl
 have hs := Kd.N_seg h (i : Int) (by omega) (by omega) (c := [u]) (seg := [v]) (j := 0) (x' := x) (okp := fun k => ok k ∧ k ≠ g0) hcl hcc (by simp [Kd.slice]) (by simpa using hM) (fun k hk => hk)
 rw [Int.toNat_natCast] at hcc hs
 have h0 := hcc 0 u rfl
 have hf0 := hfr 0
 rw [Int.toNat_natCast] at hf0
 refine ⟨⟨u, by simpa [Kd.slice] using h0⟩, by simpa [Kd.slice] using hf0, ?_⟩
 simpa [Kd.slice, World.setCells] using hs
theorem n_clear {base g0 n cap : Nat} {ok : Nat → Prop} : ∀ (m i : Nat) (W : World) (ys : List (List Int)), i + m = n → ys.length = n → Kd.N (Kd.slice 3 (Kd.int .i64)) 42 W base ok (.slice (some ⟨g0, 0, none⟩) n cap) ys →
  ∃ zs : List (List Int), zs.length = n ∧ zs.take i = ys.take i ∧ Kd.N (Kd.slice 3 (Kd.int .i64)) 42 (W.setCells g0 i (List.replicate m (.slice none 0 0))) base ok (.slice (some ⟨g0, 0, none⟩) n cap) zs ∧ W.grownBy (W.setCells g0 i (List.replicate m (.slice none 0 0))) (some g0) := by
 intro m
 induction m with
 | zero => intro i W ys _ hy h; exact ⟨ys, hy, rfl, h, ⟨rfl, rfl, rfl, Nat.le_refl _, fun _ _ _ => rfl⟩⟩
 | succ m ih =>
  intro i W ys hi hy h
  obtain ⟨-, -, h1, h2⟩ := n_put (x := []) (v := .slice none 0 0) (i := i) h (fun W' _ => ⟨none, 0, rfl, Nat.le_refl _, Kd.C_nil _ _⟩) (by omega)
  obtain ⟨zs, z1, z2, z3, z4⟩ := ih (i + 1) _ (ys.set i []) (by omega) (by rw [List.length_set]; exact hy) h1
  refine ⟨zs, z1, ?_, by rw [List.replicate_succ, World.setCells]; exact z3, by rw [List.replicate_succ, World.setCells]; exact h2.trans z4⟩
  have h5 := congrArg (List.take i) z2
  rw [List.take_take, List.take_take, show min i (i + 1) = i by omega] at h5
  rw [h5, List.take_set_of_le (Nat.le_refl i)]
theorem deleteFunc_some (qx gx base g0 cap : Nat) (ok : Nat → Prop) (l : List (List Int)) (del : List Int → Bool) (wb W : World) (hN : Kd.N (Kd.slice 3 (Kd.int .i64)) 42 W base ok (.slice (some ⟨g0, 0, none⟩) l.length cap) l) (hwb : wb.grownBy W (some g0)) (hD : DelAt qx gx (some g0) wb l del) (hex : ∃ j : Nat, j < l.length ∧ del (rd_L2 l j) = true) :
  Calls Try.prog 51 #[.slice (some ⟨g0, 0, none⟩) l.length cap, .func (.func 52) #[] #[.pointer (some ⟨qx, 0, none⟩), .pointer (some ⟨gx, 0, none⟩)]] W fun e w' => ∃ m : Nat, e = .returned (.slice (some ⟨g0, 0, none⟩) m cap) ∧ m = (l.filter fun x => !del x).length ∧ Kd.N (Kd.slice 3 (Kd.int .i64)) 42 w' base ok (.slice (some ⟨g0, 0, none⟩) m cap) (l.filter fun x => !del x) ∧ W.grownBy w' (some g0) := by
 have HN := Aside0.mk hN
 have HWB := Aside0.mk hwb
 have HD := Aside0.mk hD
 have HEX := Aside0.mk hex
 have HI : Aside0 (Calls Try.prog 61 #[.slice (some ⟨g0, 0, none⟩) l.length cap, .func (.func 52) #[] #[.pointer (some ⟨qx, 0, none⟩), .pointer (some ⟨gx, 0, none⟩)]] W fun e w' => ∃ i : Nat, e = .returned (.int .i64 i) ∧ i < l.length ∧ del (rd_L2 l i) = true ∧ (∀ j : Nat, j < i → del (rd_L2 l j) = false) ∧ Below W.heap.size W w') := ⟨(indexFunc_calls qx gx base (some g0) (some ⟨g0, 0, none⟩) cap ok l del wb W hN hwb hD).mono (by
  rintro e w' ⟨r, rfl, h | ⟨i, rfl, h1, h2, h3⟩, hb⟩
  ·obtain ⟨j, hj, hdj⟩ := hex
   rw [h.2 j hj] at hdj; cases hdj
  ·exact ⟨i, rfl, h1, h2, h3, hb⟩)⟩
 obtain ⟨-, hcap, hC0⟩ := Kd.N_reads' hN
 have hlb : l.length ≤ 9223372036854775807 := Kd.C_max hC0
 clear hN hwb hD hex hC0
 go_enter Try.func51, Try.ntmps51
 go_wp2_with (go_at_call 61; refine HI.out.mono ?_; rintro e w1 ⟨i0, rfl, hi0, hdi, hfi, hb⟩; have HDI := Aside0.mk hdi; have HFI := Aside0.mk hfi; have HB1 := Aside0.mk hb; have hne := ne_minus i0; clear hdi hfi hb)
 have HF0 := Aside0.mk (filter_first HDI.out HFI.out hi0)
 have HG0 := Aside0.mk (grown_of_below HB1.out (some g0))
 have HN1 := Aside0.mk (Kd.N_below HN.out HB1.out)
 clear HI HDI HFI HB1 HEX hne
 go_loopw [5, 6] (fun ii jj wr => ∃ (i j : Nat) (ys : List (List Int)), i < j ∧ j ≤ l.length ∧ ii = .int .i64 i ∧ jj = .int .i64 j ∧ Aside0 (ys.length = l.length) ∧ Aside0 (ys.take i = (l.take j).filter fun x => !del x) ∧ Aside0 (∀ m : Nat, j ≤ m → rd_L2 ys m = rd_L2 l m) ∧ Aside0 (Kd.N (Kd.slice 3 (Kd.int .i64)) 42 wr base ok (.slice (some ⟨g0, 0, none⟩) l.length cap) ys) ∧ Aside0 (W.grownBy wr (some g0))) (fun _ jj _ => l.length - (intOf jj).toNat)
 case atStart => exact ⟨i0, i0 + 1, l, by omega, by omega, rfl, by go_num, ⟨rfl⟩, HF0, ⟨fun _ _ => rfl⟩, HN1, HG0⟩
 case round =>
  clear HF0 HG0 HN1
  obtain ⟨i, j, ys, hij, hj, rfl, rfl, HYL, HT, HR, HN2, HG⟩ := hrel
  by_cases hjl : j < l.length
  ·obtain ⟨c, hcl, hFK, hcc, -⟩ := Kd.N_elem HN2.out [] (j : Int) (by omega) (by omega)
   rw [show ys.getD (j : Int).toNat [] = rd_L2 l j from HR.out j (Nat.le_refl _)] at hFK
   rw [Int.toNat_natCast] at hcc
   obtain ⟨Aj, cj, rfl, hle, hF⟩ := Kd.FK_slice_open hFK
   have hx0 : wr.cell? ⟨g0, j, none⟩ = some (.slice Aj (rd_L2 l j).length cj) := by have h := hcc 0 _ rfl; simpa [Kd.slice] using h
   have HM := Aside0.mk (HD.out wr Aj cj (rd_L2 l j) (HWB.out.trans HG.out) (rd_L2_mem hjl) hle (Kd.F_now hF))
   have HFK := Aside0.mk hFK
   have hj0 : (0 : Int) ≤ (j : Int) := by omega
   have hj1 : (j : Int) < (l.length : Int) := by omega
   have hi0' : (0 : Int) ≤ (i : Int) := by omega
   have hi1 : (i : Int) < (l.length : Int) := by omega
   have HTJ := Aside0.mk (show (l.take (j + 1)).filter (fun x => !del x) = (l.take j).filter (fun x => !del x) ++ (if del (rd_L2 l j) then [] else [rd_L2 l j]) from filter_next hjl)
   have HRX := Aside0.mk (show ∃ x, x = rd_L2 l j from ⟨_, rfl⟩)
   clear hcl hFK hcc hle hF
   cases hb : del (rd_L2 l j) with
   | true =>
    rw [hb] at HM HTJ
    clear hb
    go_wp2_with (go_at_call 52; refine HM.out.mono ?_; rintro e w2 ⟨rfl, hb1⟩; have HB2 := Aside0.mk hb1; clear hb1)
    go_roundw
    case rel => exact ⟨i, j + 1, ys, by omega, by omega, rfl, by go_num, HYL, ⟨by rw [HTJ.out, HT.out]; simp⟩, ⟨fun m hm => HR.out m (by omega)⟩, ⟨Kd.N_below HN2.out HB2.out⟩, ⟨HG.out.trans (grown_of_below HB2.out _)⟩⟩
    case measure => exact (show l.length - ((j : Int) + 1).toNat < l.length - ((j : Int)).toNat by omega)
   | false =>
    rw [hb] at HM HTJ
    clear hb
    go_wp2_with (go_at_call 52; refine HM.out.mono ?_; rintro e w2 ⟨rfl, hb1⟩; obtain ⟨q1, q2, q3⟩ := n_put (Kd.N_below HN2.out hb1) (Kd.FK_below HFK.out hb1) (show i < l.length by omega); have HB2 := Aside0.mk hb1; have HN3 := Aside0.mk q3.1; have HG3 := Aside0.mk q3.2; obtain ⟨q0, q1⟩ := q1; clear q3 hb1)
    go_roundw
    case rel => exact ⟨i + 1, j + 1, ys.set i (rd_L2 l j), by omega, by omega, by go_num, by go_num, ⟨by rw [List.length_set]; exact HYL.out⟩, ⟨by rw [take_set_next (by rw [HYL.out]; omega), HTJ.out, HT.out]; simp⟩, ⟨fun m hm => by rw [rd_L2_set (by omega)]; exact HR.out m (by omega)⟩, HN3, ⟨(HG.out.trans (grown_of_below HB2.out _)).trans HG3.out⟩⟩
    case measure => exact (show l.length - ((j : Int) + 1).toNat < l.length - ((j : Int)).toNat by omega)
  ·obtain rfl : j = l.length := by omega
   have hcl := Lib.run_clear_slice (P := Try.prog) wr 27 42 0 (.slice none 0 0) Try.underlying27 zeroDiv rfl rfl g0 i (l.length - i) (cap - i) (by omega) (fun j hj => by
    obtain ⟨⟨u, hu⟩, -⟩ := n_put (x := []) (v := .slice none 0 0) (i := i + j) HN2.out (fun W' _ => ⟨none, 0, rfl, Nat.le_refl _, Kd.C_nil _ _⟩) (by omega)
    rw [hu]; rfl) (fun j hj => (n_put (x := []) (v := .slice none 0 0) (i := i + j) HN2.out (fun W' _ => ⟨none, 0, rfl, Nat.le_refl _, Kd.C_nil _ _⟩) (by omega)).2.1)
   obtain ⟨zs, z1, z2, z3, z4⟩ := n_clear (l.length - i) i wr ys (by omega) HYL.out HN2.out
   have HZ1 := Aside0.mk z1
   have HZ2 := Aside0.mk z2
   have HZ3 := Aside0.mk z3
   have HZ4 := Aside0.mk z4
   have hi0 : (0 : Int) ≤ (i : Int) := by omega
   have hi1 : (i : Int) ≤ (l.length : Int) := by omega
   have hi2 : (i : Int) ≤ (cap : Int) := by omega
   have hci : ¬ cap = i := by omega
   clear z1 z2 z3 z4
   generalize wr.setCells g0 i (List.replicate (l.length - i) (.slice none 0 0)) = w9 at hcl HZ3 HZ4
   go_wp2
   go_ret
   have hft : (l.filter fun x => !del x) = zs.take i := by
    have h := HT.out
    rw [List.take_length] at h
    rw [← h, HZ2.out]
   have hml : i = (l.filter fun x => !del x).length := by rw [hft, List.length_take, HZ1.out]; omega
   refine ⟨i, rfl, hml, ?_, HG.out.trans HZ4.out⟩
   rw [hft]
   exact Kd.N_take HZ3.out (by rw [HZ1.out]; omega)
theorem filter_none {l : List (List Int)} {del : List Int → Bool} (h : ∀ j : Nat, j < l.length → del (rd_L2 l j) = false) : (l.filter fun x => !del x) = l := by
 rw [List.filter_eq_self]
 intro x hx
 obtain ⟨j, hj, rfl⟩ := List.mem_iff_getElem.1 hx
 have h3 := h j hj
 have e : rd_L2 l j = l[j] := by simp [rd_L2, List.getD_eq_getElem?_getD, List.getElem?_eq_getElem hj]
 rw [e] at h3
 simp [h3]
theorem deleteFunc_none (qx gx base : Nat) (row : Option Nat) (A : Option Addr) (cap : Nat) (ok : Nat → Prop) (l : List (List Int)) (del : List Int → Bool) (wb W : World) (hN : Kd.N (Kd.slice 3 (Kd.int .i64)) 42 W base ok (.slice A l.length cap) l) (hwb : wb.grownBy W row) (hD : DelAt qx gx row wb l del) (hex : ∀ j : Nat, j < l.length → del (rd_L2 l j) = false) :
  Calls Try.prog 51 #[.slice A l.length cap, .func (.func 52) #[] #[.pointer (some ⟨qx, 0, none⟩), .pointer (some ⟨gx, 0, none⟩)]] W fun e w' => e = .returned (.slice A l.length cap) ∧ Below W.heap.size W w' := by
 have HI : Aside0 (Calls Try.prog 61 #[.slice A l.length cap, .func (.func 52) #[] #[.pointer (some ⟨qx, 0, none⟩), .pointer (some ⟨gx, 0, none⟩)]] W fun e w' => e = .returned (.int .i64 (-1)) ∧ Below W.heap.size W w') := ⟨(indexFunc_calls qx gx base row A cap ok l del wb W hN hwb hD).mono (by
  rintro e w' ⟨r, rfl, ⟨rfl, h⟩ | ⟨i, rfl, h1, h2, h3⟩, hb⟩
  ·exact ⟨rfl, hb⟩
  ·rw [hex i h1] at h2; cases h2)⟩
 clear hN hwb hD hex
 go_enter Try.func51, Try.ntmps51
 go_wp2_with (go_at_call 61; refine HI.out.mono ?_; rintro e w1 ⟨rfl, hb⟩; have HB1 := Aside0.mk hb; clear hb)
 go_ret
 exact ⟨rfl, HB1.out⟩
end Go.Proofs.Ytffdiakgjakngaa.P
