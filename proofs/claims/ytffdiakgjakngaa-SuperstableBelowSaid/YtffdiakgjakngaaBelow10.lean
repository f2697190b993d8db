/- A part of the proof that SuperstableBelow answers true (text 10 of 12): own walks and plain laws; no conditions. -/
import Derived.Test.YtffdiakgjakngaaBelow9
namespace Go.Proofs.Ytffdiakgjakngaa.P
open Go.RowKit Go.Proofs.YtffdiakgjakngaaW.PrintWords Go.Proofs.YtffdiakgjakngaaW.PrintLast Go.Proofs.YtffdiakgjakngaaW.PrintMore
set_option linter.unusedVariables false
set_option linter.unusedSimpArgs false
set_option maxHeartbeats 8000000
set_option maxRecDepth 100000
mutual
def sandpileref08_Parts.l0 : Nat → Int → List Bool → Int → Int → List (S66) → Option (Int)
 | 0, _, _, _, _, _ => none
 | k + 1, x3, x4, x5, x162000, x162001 => if x5 < x162000 then (if 0 ≤ x5 then (if x5 < (x4.length : Int) then (if rdOf false x4 x5 = true then (sandpileref08_Parts.l0 k x3 x4 (wrap64 (x5 + 1)) x162000 x162001) else ((sandpileref08_Reached.f k x162000 x162001 x5).bind fun t166 => (sandpileref08_Parts.l1 k (wrap64 (x3 + 1)) x4 x5 t166 0 x162000 x162001))) else (none)) else (none)) else (some x3)
def sandpileref08_Parts.l1 : Nat → Int → List Bool → Int → List Bool → Int → Int → List (S66) → Option (Int)
 | 0, _, _, _, _, _, _, _ => none
 | k + 1, x3, x4, x5, x6, x7, x162000, x162001 => if x7 < x162000 then (if 0 ≤ x7 then (if x7 < (x4.length : Int) then (if rdOf false x4 x7 = true then (sandpileref08_Parts.l1 k x3 (x4.set (x7 : Int).toNat true) x5 x6 (wrap64 (x7 + 1)) x162000 x162001) else (if x7 < (x6.length : Int) then (sandpileref08_Parts.l1 k x3 (x4.set (x7 : Int).toNat (rdOf false x6 x7)) x5 x6 (wrap64 (x7 + 1)) x162000 x162001) else (none))) else (none)) else (none)) else (sandpileref08_Parts.l0 k x3 x4 (wrap64 (x5 + 1)) x162000 x162001)
end
def sandpileref08_Parts.f (k : Nat) (a0_0 : Int) (l0_1 : List (S66)) : Option (Int) := if 0 ≤ a0_0 then (if (a0_0 : Int).toNat ≤ 281474976710656 then (sandpileref08_Parts.l0 k 0 (List.replicate (a0_0 : Int).toNat false) 0 a0_0 l0_1) else (none)) else (none)
theorem sandpileref08_Parts.calls (k : Nat) (a0_0 : Int) (A0_1 : Option Addr) (c0_1 : Nat) (l0_1 : List (S66)) (r : Int) (w : World) (hr0_1 : Kd.C k66 w A0_1 l0_1.length l0_1) (hc0_1 : l0_1.length ≤ c0_1) (h : sandpileref08_Parts.f k a0_0 l0_1 = some r) :
  Calls Try.prog 60 #[.agg #[.int .i64 a0_0, .slice A0_1 l0_1.length c0_1]] w fun e w' => e = .returned (.int .i64 r) ∧ Below w.heap.size w w' := by
 have hu24 := Try.underlying24
 have HR0_1 := Aside0.mk hr0_1
 have HC0_1 := Aside0.mk hc0_1
 clear hr0_1 hc0_1
 have HB := Aside0.mk (Below.refl w.heap.size w)
 have H : (if 0 ≤ a0_0 then (if (a0_0 : Int).toNat ≤ 281474976710656 then (sandpileref08_Parts.l0 k 0 (List.replicate (a0_0 : Int).toNat false) 0 a0_0 l0_1) else (none)) else (none)) = some r := h
 clear h
 by_cases c2 : 0 ≤ a0_0
 ·rw [if_pos c2] at H
  have c2b0 := eq_true c2
  have c2b1 : decide (0 ≤ a0_0) = true := decide_eq_true c2
  clear c2
  by_cases c3 : (a0_0 : Int).toNat ≤ 281474976710656
  ·rw [if_pos c3] at H
   have c3b0 := eq_true c3
   have c3b1 : decide ((a0_0 : Int).toNat ≤ 281474976710656) = true := decide_eq_true c3
   clear c3
   obtain ⟨y162, hy162⟩ : ∃ y_ : List Bool, y_ = (List.replicate (a0_0 : Int).toNat false) := ⟨_, rfl⟩
   replace H : (sandpileref08_Parts.l0 k 0 y162 0 a0_0 l0_1) = some r := by first | (rw [hy162]; with_reducible exact H) | (have H2_ := (Option.bind_some _ _).symm.trans H; rw [hy162]; with_reducible exact H2_) | (have H2_ := (Option.bind_some _ _).symm.trans H; with_reducible exact H2_) | with_reducible exact H | (rw [hy162]; exact H) | exact H
   have Ny162 := Aside0.mk hy162
   clear hy162
   have H' := Aside0.mk H
   clear H
   go_enter Try.func60, Try.ntmps60
   go_wp2_with (first | ((with_reducible refine gate_dst (N := 1) rfl ?_); refine zX 1 #[.int .i64 a0_0, .slice A0_1 l0_1.length c0_1] 24 ?_; intro gb161 hg w4 hbox hb; have BK161 := Aside0.mk (hbox); have GW161 := zG HB hg; have GE161 := zG HB hg; replace HB := zS HB hb; clear hb hbox hg; obtain ⟨hcz5_0, hcz5_1, hfz5_0, hfz5_1⟩ := zD2 BK161) | ((with_reducible refine gate_dst (N := 10) rfl ?_); refine Kd.R_make Kd.bool _ 4 rfl (N := 10) rfl 97 _ _ rfl a0_0 rfl rfl Try.underlying97 (.bool false) 1 info4 rfl (by decide) (by omega) false (ok := fun _ => True) (okp := fun _ => True) rfl (fun _ hk => hk) trivial (of_decide_eq_true ‹_›) (Nat.le_trans (Nat.mul_le_mul_right _ (of_decide_eq_true ‹_› : a0_0.toNat ≤ 281474976710656)) (by omega)) (Below.refl _ _) (Nat.le_refl _) ?_; intro v163 w6 ho7 hb hg_ hnew_; clear hg_ hnew_; (first | rw [← Ny162.out] at ho7 | (simp only [Int.reduceToNat] at ho7; rw [← Ny162.out] at ho7)); have HO164 := Aside0.mk (Kd.R_lower ho7 (below_size zB)); replace BK161 := zb BK161 hb; replace HB := zS HB hb; clear hb ho7))
   go_loopg [3, 5] k (fun kq v3 v5 w' => ∃ (x3_1 : Int) (x4_1 : List Bool) (x5_1 : Int), v3 = .int .i64 x3_1 ∧ v5 = .int .i64 x5_1 ∧ Aside0 (sandpileref08_Parts.l0 kq x3_1 x4_1 x5_1 a0_0 l0_1 = some r) ∧ Aside0 (kq ≤ k) ∧ Aside0 (Kd.R Kd.bool 4 w' w.heap.size (fun _ => True) v163 x4_1) ∧ Aside0 (w'.heap[gb161]? = some (.cells #[.int .i64 a0_0, (.slice A0_1 l0_1.length c0_1)] 24 (0, 0))) ∧ Aside0 (Below w.heap.size w w'))
   case atStart => exact ⟨(0), (y162), (0), zT, zT, H', ⟨Nat.le_refl _⟩, ⟨zR HO164⟩, ⟨zK BK161⟩, ⟨zB⟩⟩
   case round =>
    clear H'
    try clear c2
    try clear c2b0
    try clear c2b1
    try clear p2
    try clear c3
    try clear c3b0
    try clear c3b1
    try clear c6
    try clear hcz5_0
    try clear hcz5_1
    try clear hfz5_0
    try clear hfz5_1
    obtain ⟨x3_1, x4_1, x5_1, rfl, rfl, HA, HK1, HO_4, BK161, HB⟩ := hrel
    cases gk with
    | zero => exact absurd HA.out (by simp [sandpileref08_Parts.l0])
    | succ k1 =>
     have H := HA.out
     clear HA
     simp only [sandpileref08_Parts.l0] at H
     by_cases c8 : x5_1 < a0_0
     ·rw [if_pos c8] at H
      have c8b0 : decide (x5_1 < a0_0) = true := decide_eq_true c8
      clear c8
      by_cases c9 : 0 ≤ x5_1
      ·rw [if_pos c9] at H
       have c9b0 : decide (0 ≤ x5_1) = true := decide_eq_true c9
       clear c9
       by_cases c10 : x5_1 < (x4_1.length : Int)
       ·rw [if_pos c10] at H
        have c10b0 : decide (x5_1 < (x4_1.length : Int)) = true := decide_eq_true c10
        clear c10
        obtain ⟨bq11, hbq11⟩ : ∃ b_ : Bool, b_ = (rdOf false x4_1 x5_1) := ⟨_, rfl⟩
        replace H : (if bq11 = true then (sandpileref08_Parts.l0 k1 x3_1 x4_1 (wrap64 (x5_1 + 1)) a0_0 l0_1) else ((sandpileref08_Reached.f k1 a0_0 l0_1 x5_1).bind fun t166 => (sandpileref08_Parts.l1 k1 (wrap64 (x3_1 + 1)) x4_1 x5_1 t166 0 a0_0 l0_1))) = some r := by rw [← hbq11] at H; exact H
        have Nbq11 := Aside0.mk hbq11
        clear hbq11
        by_cases c12 : bq11 = true
        ·subst c12
         have H1 : (sandpileref08_Parts.l0 k1 x3_1 x4_1 (wrap64 (x5_1 + 1)) a0_0 l0_1) = some r := by rw [if_pos rfl] at H; exact H
         clear H
         have H := H1
         clear H1
         have H' := Aside0.mk H
         clear H
         obtain ⟨hcz13_0, hcz13_1, hfz13_0, hfz13_1⟩ := zD2 BK161
         obtain ⟨Ao14, co14, eo14⟩ := Kd.R_slice HO_4.out
         subst eo14
         have p165 : 0 ≤ (x5_1 : Int) := of_decide_eq_true ‹_›
         have q165 : x5_1 < (x4_1.length : Int) := of_decide_eq_true ‹_›
         obtain ⟨ad165, e165, hx165_0⟩ := Kd.at_bool (Kd.R_reads' HO_4.out).2.2 x5_1 p165 q165
         (try rw [← Nbq11.out] at hx165_0)
         cases e165
         replace p165 := eq_true p165
         replace q165 := eq_true q165
         go_wp2
         go_roundg k1
         case measure => have := HK1.out; omega
         case rel => exact ⟨(x3_1), (x4_1), (wrap64 (x5_1 + 1)), zT, zT, H', ⟨by have := HK1.out; omega⟩, ⟨zR HO_4⟩, ⟨zK BK161⟩, ⟨zB⟩⟩
        ·replace c12 := Bool.eq_false_iff.mpr c12
         subst c12
         have H1 : ((sandpileref08_Reached.f k1 a0_0 l0_1 x5_1).bind fun t166 => (sandpileref08_Parts.l1 k1 (wrap64 (x3_1 + 1)) x4_1 x5_1 t166 0 a0_0 l0_1)) = some r := by rw [if_neg (show ¬ (false = true) by decide)] at H; exact H
         clear H
         have H := H1
         clear H1
         replace H := Option.bind_eq_some_iff.mp H
         obtain ⟨t166, A150, H⟩ := H
         replace H : (sandpileref08_Parts.l1 k1 (wrap64 (x3_1 + 1)) x4_1 x5_1 t166 0 a0_0 l0_1) = some r := H
         have A15 := Aside0.mk A150
         clear A150
         have H' := Aside0.mk H
         clear H
         obtain ⟨hcz16_0, hcz16_1, hfz16_0, hfz16_1⟩ := zD2 BK161
         obtain ⟨Ao17, co17, eo17⟩ := Kd.R_slice HO_4.out
         subst eo17
         have p165 : 0 ≤ (x5_1 : Int) := of_decide_eq_true ‹_›
         have q165 : x5_1 < (x4_1.length : Int) := of_decide_eq_true ‹_›
         obtain ⟨ad165, e165, hx165_0⟩ := Kd.at_bool (Kd.R_reads' HO_4.out).2.2 x5_1 p165 q165
         (try rw [← Nbq11.out] at hx165_0)
         cases e165
         obtain ⟨gq165, hgq165⟩ := Kd.R_head HO_4.out
         subst hgq165
         simp only [add_plain] at hx165_0
         replace p165 := eq_true p165
         replace q165 := eq_true q165
         go_wp2_with (first | ((with_reducible refine gate_callee (f := 80) rfl ?_); refine zL (some 25) Try.func80 #[.agg #[.int .i64 a0_0, .slice A0_1 l0_1.length c0_1], .int .i64 x5_1] ?_; (with_reducible refine (sandpileref08_Reached.calls k1 a0_0 _ _ l0_1 x5_1 t166 _ ?side1 ?side2 A15.out).mono ?_); (case side1 => exact Kd.C_below HR0_1.out zB); (case side2 => exact HC0_1.out); rintro e w18 ⟨v167, rfl, ho0, hb⟩; refine ⟨_, rfl, ?_⟩; have HO168 := Aside0.mk (Kd.R_lower (Kd.R_new' ho0 (Kd.R_lt (zR HO_4))) (below_size zB)); replace HO_4 := zeRR HO_4 ho0 hb; replace BK161 := zb BK161 hb; replace HB := zS HB hb; (try clear hb); (try clear ho0)))
         go_loopg [7] k1 (fun kq v7 w' => ∃ (x4_2 : List Bool) (x7_2 : Int), v7 = .int .i64 x7_2 ∧ Aside0 (sandpileref08_Parts.l1 kq (wrap64 (x3_1 + 1)) x4_2 x5_1 t166 x7_2 a0_0 l0_1 = some r) ∧ Aside0 (kq ≤ k1) ∧ Aside0 (Kd.R Kd.bool 4 w' w.heap.size (fun k_ => some k_ ≠ (v167 : Value).ownBlock) (.slice (some ⟨gq165, 0, none⟩) x4_1.length co17) x4_2) ∧ Aside0 (Kd.R Kd.bool 4 w' w.heap.size (fun k_ => some k_ ≠ ((.slice (some ⟨gq165, 0, none⟩) x4_1.length co17) : Value).ownBlock) v167 t166) ∧ Aside0 (w'.heap[gb161]? = some (.cells #[.int .i64 a0_0, (.slice A0_1 l0_1.length c0_1)] 24 (0, 0))) ∧ Aside0 (Below w.heap.size w w'))
         case atStart => exact ⟨(x4_1), (0), zT, H', ⟨Nat.le_refl _⟩, ⟨by (with_reducible repeat (first | apply Kd.R_alloc | apply Kd.R_drewN | apply Kd.R_drew)); exact Kd.R_mono HO_4.out (fun _ hk => hk.2)⟩, ⟨by (with_reducible repeat (first | apply Kd.R_alloc | apply Kd.R_drewN | apply Kd.R_drew)); exact Kd.R_mono HO168.out (fun _ hk => hk.2)⟩, ⟨zK BK161⟩, ⟨zB⟩⟩
         case round =>
          clear H'
          try clear c1
          try clear p1
          try clear q1
          try clear hx1
          try clear c2
          try clear c2b0
          try clear c2b1
          try clear p2
          try clear c3
          try clear c3b0
          try clear c3b1
          try clear c6
          try clear p6
          try clear c8
          try clear c8b0
          try clear c9
          try clear c9b0
          try clear c10
          try clear c10b0
          try clear q11
          try clear c12
          try clear p16
          try clear q16
          try clear hx16
          try clear hcz13_0
          try clear hcz13_1
          try clear hcz16_0
          try clear hcz16_1
          try clear hcz5_0
          try clear hcz5_1
          try clear hfz13_0
          try clear hfz13_1
          try clear hfz16_0
          try clear hfz16_1
          try clear hfz5_0
          try clear hfz5_1
          try clear hx165_0
          try clear p165
          try clear p2
          try clear q165
          obtain ⟨x4_2, x7_2, rfl, HA, HK2, HO_4, HO_6, BK161, HB⟩ := hrel
          have hl4_2 := (Kd.R_reads' HO_4.out).1
          rw [hl4_2] at HO_4
          (try simp only [hl4_2])
          (try simp only [hl4_2] at BK161)
          (try simp only [hl4_2] at HO_6)
          cases gk with
          | zero => exact absurd HA.out (by simp [sandpileref08_Parts.l1])
          | succ k2 =>
           have H := HA.out
           clear HA
           simp only [sandpileref08_Parts.l1] at H
           by_cases c19 : x7_2 < a0_0
           ·rw [if_pos c19] at H
            have c19b0 : decide (x7_2 < a0_0) = true := decide_eq_true c19
            clear c19
            by_cases c20 : 0 ≤ x7_2
            ·rw [if_pos c20] at H
             have c20b0 : decide (0 ≤ x7_2) = true := decide_eq_true c20
             clear c20
             by_cases c21 : x7_2 < (x4_2.length : Int)
             ·rw [if_pos c21] at H
              have c21b0 : decide (x7_2 < (x4_2.length : Int)) = true := decide_eq_true c21
              clear c21
              obtain ⟨bq22, hbq22⟩ : ∃ b_ : Bool, b_ = (rdOf false x4_2 x7_2) := ⟨_, rfl⟩
              replace H : (if bq22 = true then (sandpileref08_Parts.l1 k2 (wrap64 (x3_1 + 1)) (x4_2.set (x7_2 : Int).toNat true) x5_1 t166 (wrap64 (x7_2 + 1)) a0_0 l0_1) else (if x7_2 < (t166.length : Int) then (sandpileref08_Parts.l1 k2 (wrap64 (x3_1 + 1)) (x4_2.set (x7_2 : Int).toNat (rdOf false t166 x7_2)) x5_1 t166 (wrap64 (x7_2 + 1)) a0_0 l0_1) else (none))) = some r := by rw [← hbq22] at H; exact H
              have Nbq22 := Aside0.mk hbq22
              clear hbq22
              by_cases c23 : bq22 = true
              ·subst c23
               have H1 : (sandpileref08_Parts.l1 k2 (wrap64 (x3_1 + 1)) (x4_2.set (x7_2 : Int).toNat true) x5_1 t166 (wrap64 (x7_2 + 1)) a0_0 l0_1) = some r := by rw [if_pos rfl] at H; exact H
               clear H
               have H := H1
               clear H1
               obtain ⟨y170, hy170⟩ : ∃ y_ : List Bool, y_ = (x4_2.set (x7_2 : Int).toNat true) := ⟨_, rfl⟩
               replace H : (sandpileref08_Parts.l1 k2 (wrap64 (x3_1 + 1)) y170 x5_1 t166 (wrap64 (x7_2 + 1)) a0_0 l0_1) = some r := by first | (rw [hy170]; with_reducible exact H) | (have H2_ := (Option.bind_some _ _).symm.trans H; rw [hy170]; with_reducible exact H2_) | (have H2_ := (Option.bind_some _ _).symm.trans H; with_reducible exact H2_) | with_reducible exact H | (rw [hy170]; exact H) | exact H
               have Ny170 := Aside0.mk hy170
               clear hy170
               have H' := Aside0.mk H
               clear H
               obtain ⟨hcz25_0, hcz25_1, hfz25_0, hfz25_1⟩ := zD2 BK161
               have p169 : 0 ≤ (x7_2 : Int) := of_decide_eq_true ‹_›
               have q169 : x7_2 < (x4_2.length : Int) := of_decide_eq_true ‹_›
               obtain ⟨ad169, e169, hx169_0⟩ := Kd.at_bool (Kd.R_reads' HO_4.out).2.2 x7_2 p169 q169
               (try rw [← Nbq11.out] at hx169_0)
               (try rw [← Nbq22.out] at hx169_0)
               obtain rfl : (⟨gq165, 0, none⟩ : Addr) = ad169 := (by injection e169)
               replace p169 := eq_true p169
               replace q169 := eq_true q169
               have p24 : 0 ≤ (x7_2 : Int) := of_decide_eq_true ‹_›
               have q24 : (x7_2 : Int) < ((x4_2.length : Int) : Int) := of_decide_eq_true ‹_›
               obtain ⟨go24, co24, eo24, gb24, gl24, cl24, HG24⟩ := Kd.R_form HO_4.out (by omega)
               (first | (injection eo24 with ea_ en_ ec_; (first | subst ea_ | (injection ea_ with ea_; first | subst ea_ | (injection ea_ with ea_; have ea_ := ea_.symm; subst ea_))); subst ec_; clear en_))
               have GB24 := Aside0.mk gb24
               have GG24 := Aside0.mk HG24
               clear gb24 gl24 HG24
               (first | simp only [add_plain] at hx165_0 | skip)
               (first | simp only [add_plain] at hx169_0 | skip)
               obtain ⟨hx24_0, hf24_0⟩ := Kd.R_celln false HO_4.out (x7_2 : Int) p24 q24
               replace p24 := eq_true p24
               replace q24 := eq_true q24
               have HP26 := Kd.R_putg HO_4.out (x7_2 : Int) true
               go_wp2_with (first | ((with_reducible refine gate_store (t := 4) (p := 44) rfl ?_); refine store_event (t := 4) (p := 44) (v := ?vo_w27) (w1 := (wr.setCell ⟨go24, (x7_2 : Int).toNat, none⟩ (.bool true))) ?hg ?ho ?hn ?hr ?_; (case ho => rfl); (case hg => rfl); (case hn => rfl); (case hr => first | (go_simp; done) | (go_simp; rfl)); intro w27 hw; have hg : wr.grownBy w27 (some go24) := (by rw [hw]; exact HP26.2); have hp_ : Kd.R Kd.bool 4 w27 w.heap.size (fun k_ => some k_ ≠ (v167 : Value).ownBlock) (.slice (some ⟨go24, 0, none⟩) x4_2.length co17) y170 := (by rw [hw, Ny170.out]; exact HP26.1); clear HP26; replace HO_6 := Aside0.mk (Kd.R_after (v := (.slice (some ⟨go24, 0, none⟩) x4_2.length co17)) (v1 := (.slice (some ⟨go24, 0, none⟩) x4_2.length co17)) (ok := (fun _ => True)) (by (with_reducible repeat (first | apply Kd.R_alloc | apply Kd.R_drewN | apply Kd.R_drew)); exact Kd.R_mono HO_6.out (fun _ hk => ⟨trivial, hk⟩)) hg (.inl rfl)); replace BK161 := Aside0.mk (blk_grown (zK BK161) hg (Kd.R_ne HO_4.out BK161.out (by decide))); replace HO_4 := Aside0.mk (hp_); replace HB := Aside0.mk ((by rw [hw]; exact below_set (HB.out) GB24.out : Below w.heap.size w w27)); clear hg hw hp_))
               (try simp only [← hl4_2])
               go_roundg k2
               case measure => have := HK1.out; have := HK2.out; omega
               case rel => exact ⟨(y170), (wrap64 (x7_2 + 1)), zT, H', ⟨by have := HK1.out; have := HK2.out; omega⟩, ⟨by (try simp only [hl4_2]); (with_reducible repeat (first | apply Kd.R_alloc | apply Kd.R_drewN | apply Kd.R_drew)); exact HO_4.out⟩, ⟨by (try simp only [hl4_2]); (with_reducible repeat (first | apply Kd.R_alloc | apply Kd.R_drewN | apply Kd.R_drew)); exact Kd.R_mono HO_6.out (fun _ hk => hk.2)⟩, ⟨by (try simp only [hl4_2]); exact zK BK161⟩, ⟨zB⟩⟩
              ·replace c23 := Bool.eq_false_iff.mpr c23
               subst c23
               have H1 : (if x7_2 < (t166.length : Int) then (sandpileref08_Parts.l1 k2 (wrap64 (x3_1 + 1)) (x4_2.set (x7_2 : Int).toNat (rdOf false t166 x7_2)) x5_1 t166 (wrap64 (x7_2 + 1)) a0_0 l0_1) else (none)) = some r := by rw [if_neg (show ¬ (false = true) by decide)] at H; exact H
               clear H
               have H := H1
               clear H1
               by_cases c28 : x7_2 < (t166.length : Int)
               ·rw [if_pos c28] at H
                have c28b0 : decide (x7_2 < (t166.length : Int)) = true := decide_eq_true c28
                clear c28
                obtain ⟨y172, hy172⟩ : ∃ y_ : List Bool, y_ = (x4_2.set (x7_2 : Int).toNat (rdOf false t166 x7_2)) := ⟨_, rfl⟩
                replace H : (sandpileref08_Parts.l1 k2 (wrap64 (x3_1 + 1)) y172 x5_1 t166 (wrap64 (x7_2 + 1)) a0_0 l0_1) = some r := by first | (rw [hy172]; with_reducible exact H) | (have H2_ := (Option.bind_some _ _).symm.trans H; rw [hy172]; with_reducible exact H2_) | (have H2_ := (Option.bind_some _ _).symm.trans H; with_reducible exact H2_) | with_reducible exact H | (rw [hy172]; exact H) | exact H
                have Ny172 := Aside0.mk hy172
                clear hy172
                have H' := Aside0.mk H
                clear H
                obtain ⟨hcz30_0, hcz30_1, hfz30_0, hfz30_1⟩ := zD2 BK161
                have p169 : 0 ≤ (x7_2 : Int) := of_decide_eq_true ‹_›
                have q169 : x7_2 < (x4_2.length : Int) := of_decide_eq_true ‹_›
                obtain ⟨ad169, e169, hx169_0⟩ := Kd.at_bool (Kd.R_reads' HO_4.out).2.2 x7_2 p169 q169
                (try rw [← Nbq11.out] at hx169_0)
                (try rw [← Nbq22.out] at hx169_0)
                obtain rfl : (⟨gq165, 0, none⟩ : Addr) = ad169 := (by injection e169)
                replace p169 := eq_true p169
                replace q169 := eq_true q169
                obtain ⟨Ao31, co31, eo31⟩ := Kd.R_slice HO_6.out
                subst eo31
                have p171 : 0 ≤ (x7_2 : Int) := of_decide_eq_true ‹_›
                have q171 : x7_2 < (t166.length : Int) := of_decide_eq_true ‹_›
                obtain ⟨ad171, e171, hx171_0⟩ := Kd.at_bool (Kd.R_reads' HO_6.out).2.2 x7_2 p171 q171
                (try rw [← Nbq11.out] at hx171_0)
                (try rw [← Nbq22.out] at hx171_0)
                cases e171
                replace p171 := eq_true p171
                replace q171 := eq_true q171
                have p29 : 0 ≤ (x7_2 : Int) := of_decide_eq_true ‹_›
                have q29 : (x7_2 : Int) < ((x4_2.length : Int) : Int) := of_decide_eq_true ‹_›
                obtain ⟨go29, co29, eo29, gb29, gl29, cl29, HG29⟩ := Kd.R_form HO_4.out (by omega)
                (first | (injection eo29 with ea_ en_ ec_; (first | subst ea_ | (injection ea_ with ea_; first | subst ea_ | (injection ea_ with ea_; have ea_ := ea_.symm; subst ea_))); subst ec_; clear en_))
                have GB29 := Aside0.mk gb29
                have GG29 := Aside0.mk HG29
                clear gb29 gl29 HG29
                (first | simp only [add_plain] at hx169_0 | skip)
                obtain ⟨hx29_0, hf29_0⟩ := Kd.R_celln false HO_4.out (x7_2 : Int) p29 q29
                replace p29 := eq_true p29
                replace q29 := eq_true q29
                have HP32 := Kd.R_putg HO_4.out (x7_2 : Int) (rdOf false t166 x7_2)
                go_wp2_with (first | ((with_reducible refine gate_store (t := 4) (p := 44) rfl ?_); refine store_event (t := 4) (p := 44) (v := ?vo_w33) (w1 := (wr.setCell ⟨go29, (x7_2 : Int).toNat, none⟩ (.bool (rdOf false t166 x7_2)))) ?hg ?ho ?hn ?hr ?_; (case ho => rfl); (case hg => rfl); (case hn => rfl); (case hr => first | (go_simp; done) | (go_simp; rfl)); intro w33 hw; have hg : wr.grownBy w33 (some go29) := (by rw [hw]; exact HP32.2); have hp_ : Kd.R Kd.bool 4 w33 w.heap.size (fun k_ => some k_ ≠ (.slice (some ad171) t166.length co31 : Value).ownBlock) (.slice (some ⟨go29, 0, none⟩) x4_2.length co17) y172 := (by rw [hw, Ny172.out]; exact HP32.1); clear HP32; replace HO_6 := Aside0.mk (Kd.R_after (v := (.slice (some ⟨go29, 0, none⟩) x4_2.length co17)) (v1 := (.slice (some ⟨go29, 0, none⟩) x4_2.length co17)) (ok := (fun _ => True)) (by (with_reducible repeat (first | apply Kd.R_alloc | apply Kd.R_drewN | apply Kd.R_drew)); exact Kd.R_mono HO_6.out (fun _ hk => ⟨trivial, hk⟩)) hg (.inl rfl)); replace BK161 := Aside0.mk (blk_grown (zK BK161) hg (Kd.R_ne HO_4.out BK161.out (by decide))); replace HO_4 := Aside0.mk (hp_); replace HB := Aside0.mk ((by rw [hw]; exact below_set (HB.out) GB29.out : Below w.heap.size w w33)); clear hg hw hp_))
                (try simp only [← hl4_2])
                go_roundg k2
                case measure => have := HK1.out; have := HK2.out; omega
                case rel => exact ⟨(y172), (wrap64 (x7_2 + 1)), zT, H', ⟨by have := HK1.out; have := HK2.out; omega⟩, ⟨by (try simp only [hl4_2]); (with_reducible repeat (first | apply Kd.R_alloc | apply Kd.R_drewN | apply Kd.R_drew)); exact HO_4.out⟩, ⟨by (try simp only [hl4_2]); (with_reducible repeat (first | apply Kd.R_alloc | apply Kd.R_drewN | apply Kd.R_drew)); exact Kd.R_mono HO_6.out (fun _ hk => hk.2)⟩, ⟨by (try simp only [hl4_2]); exact zK BK161⟩, ⟨zB⟩⟩
               ·rw [if_neg c28] at H
                exact absurd H (by simp)
             ·rw [if_neg c21] at H
              exact absurd H (by simp)
            ·rw [if_neg c20] at H
             exact absurd H (by simp)
           ·rw [if_neg c19] at H
            have c19b0 : decide (x7_2 < a0_0) = false := decide_eq_false c19
            clear c19
            have H' := Aside0.mk H
            clear H
            obtain ⟨hcz34_0, hcz34_1, hfz34_0, hfz34_1⟩ := zD2 BK161
            go_wp2
            (try simp only [← hl4_2])
            go_roundg k2
            case measure => have := HK1.out; have := HK2.out; omega
            case rel => exact ⟨((wrap64 (x3_1 + 1))), (x4_2), (wrap64 (x5_1 + 1)), zT, zT, H', ⟨by have := HK1.out; have := HK2.out; omega⟩, ⟨by (try simp only [hl4_2]); (with_reducible repeat (first | apply Kd.R_alloc | apply Kd.R_drewN | apply Kd.R_drew)); exact Kd.R_mono HO_4.out (fun _ hk => trivial)⟩, ⟨by (try simp only [hl4_2]); exact zK BK161⟩, ⟨zB⟩⟩
       ·rw [if_neg c10] at H
        exact absurd H (by simp)
      ·rw [if_neg c9] at H
       exact absurd H (by simp)
     ·rw [if_neg c8] at H
      have c8b0 : decide (x5_1 < a0_0) = false := decide_eq_false c8
      clear c8
      obtain rfl := Option.some.inj H
      obtain ⟨hcz35_0, hcz35_1, hfz35_0, hfz35_1⟩ := zD2 BK161
      go_wp2
      go_ret
      exact ⟨zE, zB⟩
  ·rw [if_neg c3] at H
   exact absurd H (by simp)
 ·rw [if_neg c2] at H
  exact absurd H (by simp)
def sandpileref08_Connected.f (k : Nat) (a0_0 : Int) (l0_1 : List (S66)) : Option (Bool) := (sandpileref08_Parts.f k a0_0 l0_1).bind fun t174 => (some (t174 == 1))
theorem sandpileref08_Connected.calls (k : Nat) (a0_0 : Int) (A0_1 : Option Addr) (c0_1 : Nat) (l0_1 : List (S66)) (r : Bool) (w : World) (hr0_1 : Kd.C k66 w A0_1 l0_1.length l0_1) (hc0_1 : l0_1.length ≤ c0_1) (h : sandpileref08_Connected.f k a0_0 l0_1 = some r) :
  Calls Try.prog 47 #[.agg #[.int .i64 a0_0, .slice A0_1 l0_1.length c0_1]] w fun e w' => e = .returned (.bool r) ∧ Below w.heap.size w w' := by
 have hu24 := Try.underlying24
 have HR0_1 := Aside0.mk hr0_1
 have HC0_1 := Aside0.mk hc0_1
 clear hr0_1 hc0_1
 have HB := Aside0.mk (Below.refl w.heap.size w)
 have H : ((sandpileref08_Parts.f k a0_0 l0_1).bind fun t174 => (some (t174 == 1))) = some r := h
 clear h
 replace H := Option.bind_eq_some_iff.mp H
 obtain ⟨t174, A20, H⟩ := H
 replace H : (some (t174 == 1)) = some r := H
 have A2 := Aside0.mk A20
 clear A20
 obtain rfl := Option.some.inj H
 go_enter Try.func47, Try.ntmps47
 go_wp2_with (first | ((with_reducible refine gate_dst (N := 1) rfl ?_); refine zX 1 #[.int .i64 a0_0, .slice A0_1 l0_1.length c0_1] 24 ?_; intro gb173 hg w3 hbox hb; have BK173 := Aside0.mk (hbox); have GW173 := zG HB hg; have GE173 := zG HB hg; replace HB := zS HB hb; clear hb hbox hg; obtain ⟨hcz4_0, hcz4_1, hfz4_0, hfz4_1⟩ := zD2 BK173) | ((with_reducible refine gate_callee (f := 60) rfl ?_); refine zL (some 4) Try.func60 #[.agg #[.int .i64 a0_0, .slice A0_1 l0_1.length c0_1]] ?_; (with_reducible refine (sandpileref08_Parts.calls k a0_0 _ _ l0_1 t174 _ ?side1 ?side2 A2.out).mono ?_); (case side1 => exact Kd.C_below HR0_1.out zB); (case side2 => exact HC0_1.out); rintro e w5 ⟨rfl, hb⟩; refine ⟨_, rfl, ?_⟩; replace BK173 := zb BK173 hb; replace HB := zS HB hb; (try clear hb)))
 go_ret
 exact ⟨zE, zB⟩
def sandpileref19_Rooted.f (k : Nat) (a0_0 : Int) (l0_1 : List (S66)) (a1 : Int) : Option (Int) := (sandpileref08_Check.f k a0_0 l0_1).bind fun t176 => (if t176 = 0 then ((sandpileref08_Connected.f k a0_0 l0_1).bind fun t177 => (if t177 = true then ((sandpileref08_Vertex.f a0_0 l0_1 a1).bind fun t178 => (if t178 = true then (some 0) else (some 2))) else (some 13))) else (some t176))
theorem sandpileref19_Rooted.calls (k : Nat) (a0_0 : Int) (A0_1 : Option Addr) (c0_1 : Nat) (l0_1 : List (S66)) (a1 : Int) (r : Int) (w : World) (hr0_1 : Kd.C k66 w A0_1 l0_1.length l0_1) (hc0_1 : l0_1.length ≤ c0_1) (h : sandpileref19_Rooted.f k a0_0 l0_1 a1 = some r) :
  Calls Try.prog 15 #[.agg #[.int .i64 a0_0, .slice A0_1 l0_1.length c0_1], .int .i64 a1] w fun e w' => e = .returned (.int .i64 r) ∧ Below w.heap.size w w' := by
 have hu24 := Try.underlying24
 have HR0_1 := Aside0.mk hr0_1
 have HC0_1 := Aside0.mk hc0_1
 clear hr0_1 hc0_1
 have HB := Aside0.mk (Below.refl w.heap.size w)
 have H : ((sandpileref08_Check.f k a0_0 l0_1).bind fun t176 => (if t176 = 0 then ((sandpileref08_Connected.f k a0_0 l0_1).bind fun t177 => (if t177 = true then ((sandpileref08_Vertex.f a0_0 l0_1 a1).bind fun t178 => (if t178 = true then (some 0) else (some 2))) else (some 13))) else (some t176))) = some r := h
 clear h
 replace H := Option.bind_eq_some_iff.mp H
 obtain ⟨t176, A30, H⟩ := H
 replace H : (if t176 = 0 then ((sandpileref08_Connected.f k a0_0 l0_1).bind fun t177 => (if t177 = true then ((sandpileref08_Vertex.f a0_0 l0_1 a1).bind fun t178 => (if t178 = true then (some 0) else (some 2))) else (some 13))) else (some t176)) = some r := H
 have A3 := Aside0.mk A30
 clear A30
 by_cases c4 : t176 = 0
 ·rw [if_pos c4] at H
  have c4b0 : (t176 == 0) = true := beq_iff_eq.mpr c4
  have c4b1 : (t176 != 0) = false := bne_eq_false_iff_eq.mpr c4
  clear c4
  replace H := Option.bind_eq_some_iff.mp H
  obtain ⟨t177, A50, H⟩ := H
  replace H : (if t177 = true then ((sandpileref08_Vertex.f a0_0 l0_1 a1).bind fun t178 => (if t178 = true then (some 0) else (some 2))) else (some 13)) = some r := H
  have A5 := Aside0.mk A50
  clear A50
  by_cases c6 : t177 = true
  ·subst c6
   have H1 : ((sandpileref08_Vertex.f a0_0 l0_1 a1).bind fun t178 => (if t178 = true then (some 0) else (some 2))) = some r := by rw [if_pos rfl] at H; exact H
   clear H
   have H := H1
   clear H1
   replace H := Option.bind_eq_some_iff.mp H
   obtain ⟨t178, A70, H⟩ := H
   replace H : (if t178 = true then (some 0) else (some 2)) = some r := H
   have A7 := Aside0.mk A70
   clear A70
   by_cases c8 : t178 = true
   ·subst c8
    have H1 : (some 0) = some r := by rw [if_pos rfl] at H; exact H
    clear H
    have H := H1
    clear H1
    obtain rfl := Option.some.inj H
    go_enter Try.func15, Try.ntmps15
    go_wp2_with (first | ((with_reducible refine gate_dst (N := 2) rfl ?_); refine zX 2 #[.int .i64 a0_0, .slice A0_1 l0_1.length c0_1] 24 ?_; intro gb175 hg w9 hbox hb; have BK175 := Aside0.mk (hbox); have GW175 := zG HB hg; have GE175 := zG HB hg; replace HB := zS HB hb; clear hb hbox hg; obtain ⟨hcz10_0, hcz10_1, hfz10_0, hfz10_1⟩ := zD2 BK175) | ((with_reducible refine gate_callee (f := 46) rfl ?_); refine zL (some 7) Try.func46 #[.agg #[.int .i64 a0_0, .slice A0_1 l0_1.length c0_1]] ?_; (with_reducible refine (sandpileref08_Check.calls k a0_0 _ _ l0_1 t176 _ ?side1 ?side2 A3.out).mono ?_); (case side1 => exact Kd.C_below HR0_1.out zB); (case side2 => exact HC0_1.out); rintro e w11 ⟨rfl, hb⟩; refine ⟨_, rfl, ?_⟩; replace BK175 := zb BK175 hb; replace HB := zS HB hb; (try clear hb); obtain ⟨hcz12_0, hcz12_1, hfz12_0, hfz12_1⟩ := zD2 BK175) | ((with_reducible refine gate_callee (f := 47) rfl ?_); refine zL (some 12) Try.func47 #[.agg #[.int .i64 a0_0, .slice A0_1 l0_1.length c0_1]] ?_; (with_reducible refine (sandpileref08_Connected.calls k a0_0 _ _ l0_1 true _ ?side1 ?side2 A5.out).mono ?_); (case side1 => exact Kd.C_below HR0_1.out zB); (case side2 => exact HC0_1.out); rintro e w13 ⟨rfl, hb⟩; refine ⟨_, rfl, ?_⟩; replace BK175 := zb BK175 hb; replace HB := zS HB hb; (try clear hb); obtain ⟨hcz14_0, hcz14_1, hfz14_0, hfz14_1⟩ := zD2 BK175) | ((with_reducible refine gate_callee (f := 48) rfl ?_); refine zL (some 16) Try.func48 #[.agg #[.int .i64 a0_0, .slice A0_1 l0_1.length c0_1], .int .i64 a1] ?_; (with_reducible refine (sandpileref08_Vertex.calls a0_0 _ _ l0_1 a1 true _ ?side1 ?side2 A7.out).mono ?_); (case side1 => exact Kd.C_below HR0_1.out zB); (case side2 => exact HC0_1.out); rintro e w15 ⟨rfl, hb⟩; refine ⟨_, rfl, ?_⟩; replace BK175 := zb BK175 hb; replace HB := zS HB hb; (try clear hb)))
    go_ret
    exact ⟨zE, zB⟩
   ·replace c8 := Bool.eq_false_iff.mpr c8
    subst c8
    have H1 : (some 2) = some r := by rw [if_neg (show ¬ (false = true) by decide)] at H; exact H
    clear H
    have H := H1
    clear H1
    obtain rfl := Option.some.inj H
    go_enter Try.func15, Try.ntmps15
    go_wp2_with (first | ((with_reducible refine gate_dst (N := 2) rfl ?_); refine zX 2 #[.int .i64 a0_0, .slice A0_1 l0_1.length c0_1] 24 ?_; intro gb175 hg w16 hbox hb; have BK175 := Aside0.mk (hbox); have GW175 := zG HB hg; have GE175 := zG HB hg; replace HB := zS HB hb; clear hb hbox hg; obtain ⟨hcz17_0, hcz17_1, hfz17_0, hfz17_1⟩ := zD2 BK175) | ((with_reducible refine gate_callee (f := 46) rfl ?_); refine zL (some 7) Try.func46 #[.agg #[.int .i64 a0_0, .slice A0_1 l0_1.length c0_1]] ?_; (with_reducible refine (sandpileref08_Check.calls k a0_0 _ _ l0_1 t176 _ ?side1 ?side2 A3.out).mono ?_); (case side1 => exact Kd.C_below HR0_1.out zB); (case side2 => exact HC0_1.out); rintro e w18 ⟨rfl, hb⟩; refine ⟨_, rfl, ?_⟩; replace BK175 := zb BK175 hb; replace HB := zS HB hb; (try clear hb); obtain ⟨hcz19_0, hcz19_1, hfz19_0, hfz19_1⟩ := zD2 BK175) | ((with_reducible refine gate_callee (f := 47) rfl ?_); refine zL (some 12) Try.func47 #[.agg #[.int .i64 a0_0, .slice A0_1 l0_1.length c0_1]] ?_; (with_reducible refine (sandpileref08_Connected.calls k a0_0 _ _ l0_1 true _ ?side1 ?side2 A5.out).mono ?_); (case side1 => exact Kd.C_below HR0_1.out zB); (case side2 => exact HC0_1.out); rintro e w20 ⟨rfl, hb⟩; refine ⟨_, rfl, ?_⟩; replace BK175 := zb BK175 hb; replace HB := zS HB hb; (try clear hb); obtain ⟨hcz21_0, hcz21_1, hfz21_0, hfz21_1⟩ := zD2 BK175) | ((with_reducible refine gate_callee (f := 48) rfl ?_); refine zL (some 16) Try.func48 #[.agg #[.int .i64 a0_0, .slice A0_1 l0_1.length c0_1], .int .i64 a1] ?_; (with_reducible refine (sandpileref08_Vertex.calls a0_0 _ _ l0_1 a1 false _ ?side1 ?side2 A7.out).mono ?_); (case side1 => exact Kd.C_below HR0_1.out zB); (case side2 => exact HC0_1.out); rintro e w22 ⟨rfl, hb⟩; refine ⟨_, rfl, ?_⟩; replace BK175 := zb BK175 hb; replace HB := zS HB hb; (try clear hb)))
    go_ret
    exact ⟨zE, zB⟩
  ·replace c6 := Bool.eq_false_iff.mpr c6
   subst c6
   have H1 : (some 13) = some r := by rw [if_neg (show ¬ (false = true) by decide)] at H; exact H
   clear H
   have H := H1
   clear H1
   obtain rfl := Option.some.inj H
   go_enter Try.func15, Try.ntmps15
   go_wp2_with (first | ((with_reducible refine gate_dst (N := 2) rfl ?_); refine zX 2 #[.int .i64 a0_0, .slice A0_1 l0_1.length c0_1] 24 ?_; intro gb175 hg w23 hbox hb; have BK175 := Aside0.mk (hbox); have GW175 := zG HB hg; have GE175 := zG HB hg; replace HB := zS HB hb; clear hb hbox hg; obtain ⟨hcz24_0, hcz24_1, hfz24_0, hfz24_1⟩ := zD2 BK175) | ((with_reducible refine gate_callee (f := 46) rfl ?_); refine zL (some 7) Try.func46 #[.agg #[.int .i64 a0_0, .slice A0_1 l0_1.length c0_1]] ?_; (with_reducible refine (sandpileref08_Check.calls k a0_0 _ _ l0_1 t176 _ ?side1 ?side2 A3.out).mono ?_); (case side1 => exact Kd.C_below HR0_1.out zB); (case side2 => exact HC0_1.out); rintro e w25 ⟨rfl, hb⟩; refine ⟨_, rfl, ?_⟩; replace BK175 := zb BK175 hb; replace HB := zS HB hb; (try clear hb); obtain ⟨hcz26_0, hcz26_1, hfz26_0, hfz26_1⟩ := zD2 BK175) | ((with_reducible refine gate_callee (f := 47) rfl ?_); refine zL (some 12) Try.func47 #[.agg #[.int .i64 a0_0, .slice A0_1 l0_1.length c0_1]] ?_; (with_reducible refine (sandpileref08_Connected.calls k a0_0 _ _ l0_1 false _ ?side1 ?side2 A5.out).mono ?_); (case side1 => exact Kd.C_below HR0_1.out zB); (case side2 => exact HC0_1.out); rintro e w27 ⟨rfl, hb⟩; refine ⟨_, rfl, ?_⟩; replace BK175 := zb BK175 hb; replace HB := zS HB hb; (try clear hb)))
   go_ret
   exact ⟨zE, zB⟩
 ·rw [if_neg c4] at H
  have c4b0 : (t176 == 0) = false := beq_eq_false_iff_ne.mpr c4
  have c4b1 : (t176 != 0) = true := bne_iff_ne.mpr c4
  obtain rfl := Option.some.inj H
  go_enter Try.func15, Try.ntmps15
  go_wp2_with (first | ((with_reducible refine gate_dst (N := 2) rfl ?_); refine zX 2 #[.int .i64 a0_0, .slice A0_1 l0_1.length c0_1] 24 ?_; intro gb175 hg w28 hbox hb; have BK175 := Aside0.mk (hbox); have GW175 := zG HB hg; have GE175 := zG HB hg; replace HB := zS HB hb; clear hb hbox hg; obtain ⟨hcz29_0, hcz29_1, hfz29_0, hfz29_1⟩ := zD2 BK175) | ((with_reducible refine gate_callee (f := 46) rfl ?_); refine zL (some 7) Try.func46 #[.agg #[.int .i64 a0_0, .slice A0_1 l0_1.length c0_1]] ?_; (with_reducible refine (sandpileref08_Check.calls k a0_0 _ _ l0_1 t176 _ ?side1 ?side2 A3.out).mono ?_); (case side1 => exact Kd.C_below HR0_1.out zB); (case side2 => exact HC0_1.out); rintro e w30 ⟨rfl, hb⟩; refine ⟨_, rfl, ?_⟩; replace BK175 := zb BK175 hb; replace HB := zS HB hb; (try clear hb)))
  go_ret
  exact ⟨zE, zB⟩
def sandpilelaw28_right.f (k : Nat) (a0_0 : Int) (l0_1 : List (S66)) (a1 : Int) : Option (Bool) := (sandpileref08_FewTrees.f k a0_0 l0_1).bind fun t380 => (if t380 = true then ((sandpileref19_Rooted.f k a0_0 l0_1 a1).bind fun t381 => (some (t381 == 0))) else (some false))
theorem sandpilelaw28_right.calls (k : Nat) (a0_0 : Int) (A0_1 : Option Addr) (c0_1 : Nat) (l0_1 : List (S66)) (a1 : Int) (r : Bool) (w : World) (hr0_1 : Kd.C k66 w A0_1 l0_1.length l0_1) (hc0_1 : l0_1.length ≤ c0_1) (h : sandpilelaw28_right.f k a0_0 l0_1 a1 = some r) :
  Calls Try.prog 27 #[.agg #[.int .i64 a0_0, .slice A0_1 l0_1.length c0_1], .int .i64 a1] w fun e w' => e = .returned (.bool r) ∧ Below w.heap.size w w' := by
 have hu24 := Try.underlying24
 have HR0_1 := Aside0.mk hr0_1
 have HC0_1 := Aside0.mk hc0_1
 clear hr0_1 hc0_1
 have HB := Aside0.mk (Below.refl w.heap.size w)
 have H : ((sandpileref08_FewTrees.f k a0_0 l0_1).bind fun t380 => (if t380 = true then ((sandpileref19_Rooted.f k a0_0 l0_1 a1).bind fun t381 => (some (t381 == 0))) else (some false))) = some r := h
 clear h
 replace H := Option.bind_eq_some_iff.mp H
 obtain ⟨t380, A30, H⟩ := H
 replace H : (if t380 = true then ((sandpileref19_Rooted.f k a0_0 l0_1 a1).bind fun t381 => (some (t381 == 0))) else (some false)) = some r := H
 have A3 := Aside0.mk A30
 clear A30
 by_cases c4 : t380 = true
 ·subst c4
  have H1 : ((sandpileref19_Rooted.f k a0_0 l0_1 a1).bind fun t381 => (some (t381 == 0))) = some r := by rw [if_pos rfl] at H; exact H
  clear H
  have H := H1
  clear H1
  replace H := Option.bind_eq_some_iff.mp H
  obtain ⟨t381, A50, H⟩ := H
  replace H : (some (t381 == 0)) = some r := H
  have A5 := Aside0.mk A50
  clear A50
  obtain rfl := Option.some.inj H
  go_enter Try.func27, Try.ntmps27
  go_wp2_with (first | ((with_reducible refine gate_dst (N := 2) rfl ?_); refine zX 2 #[.int .i64 a0_0, .slice A0_1 l0_1.length c0_1] 24 ?_; intro gb379 hg w6 hbox hb; have BK379 := Aside0.mk (hbox); have GW379 := zG HB hg; have GE379 := zG HB hg; replace HB := zS HB hb; clear hb hbox hg; obtain ⟨hcz7_0, hcz7_1, hfz7_0, hfz7_1⟩ := zD2 BK379) | ((with_reducible refine gate_callee (f := 10) rfl ?_); refine zL (some 6) Try.func10 #[.agg #[.int .i64 a0_0, .slice A0_1 l0_1.length c0_1]] ?_; (with_reducible refine (sandpileref08_FewTrees.calls k a0_0 _ _ l0_1 true _ ?side1 ?side2 A3.out).mono ?_); (case side1 => exact Kd.C_below HR0_1.out zB); (case side2 => exact HC0_1.out); rintro e w8 ⟨rfl, hb⟩; refine ⟨_, rfl, ?_⟩; replace BK379 := zb BK379 hb; replace HB := zS HB hb; (try clear hb); obtain ⟨hcz9_0, hcz9_1, hfz9_0, hfz9_1⟩ := zD2 BK379) | (go_at_call 15; (with_reducible refine (sandpileref19_Rooted.calls k a0_0 _ _ l0_1 a1 t381 _ ?side1 ?side2 A5.out).mono ?_); (case side1 => exact Kd.C_below HR0_1.out zB); (case side2 => exact HC0_1.out); rintro e w10 ⟨rfl, hb⟩; replace BK379 := zb BK379 hb; replace HB := zS HB hb; (try clear hb)))
  go_ret
  exact ⟨zE, zB⟩
 ·replace c4 := Bool.eq_false_iff.mpr c4
  subst c4
  have H1 : (some false) = some r := by rw [if_neg (show ¬ (false = true) by decide)] at H; exact H
  clear H
  have H := H1
  clear H1
  obtain rfl := Option.some.inj H
  go_enter Try.func27, Try.ntmps27
  go_wp2_with (first | ((with_reducible refine gate_dst (N := 2) rfl ?_); refine zX 2 #[.int .i64 a0_0, .slice A0_1 l0_1.length c0_1] 24 ?_; intro gb379 hg w11 hbox hb; have BK379 := Aside0.mk (hbox); have GW379 := zG HB hg; have GE379 := zG HB hg; replace HB := zS HB hb; clear hb hbox hg; obtain ⟨hcz12_0, hcz12_1, hfz12_0, hfz12_1⟩ := zD2 BK379) | ((with_reducible refine gate_callee (f := 10) rfl ?_); refine zL (some 6) Try.func10 #[.agg #[.int .i64 a0_0, .slice A0_1 l0_1.length c0_1]] ?_; (with_reducible refine (sandpileref08_FewTrees.calls k a0_0 _ _ l0_1 false _ ?side1 ?side2 A3.out).mono ?_); (case side1 => exact Kd.C_below HR0_1.out zB); (case side2 => exact HC0_1.out); rintro e w13 ⟨rfl, hb⟩; refine ⟨_, rfl, ?_⟩; replace BK379 := zb BK379 hb; replace HB := zS HB hb; (try clear hb)))
  go_ret
  exact ⟨zE, zB⟩
def api_Divisor_int_34.l0 : Nat → List Int → List Int → List Int → Int → Int → Option (Int)
 | 0, _, _, _, _, _ => none
 | k + 1, x0, x1, x9, x10, x11 => if x11 < x10 then (if 0 ≤ x11 then (if x11 < (x9.length : Int) then (if x11 ≥ (x1.length : Int) then (some 1) else (if x11 < (x1.length : Int) then ((cmp_Compare_int.f (rd x9 x11) (rd x1 x11)).bind fun t399 => (if t399 = 0 then (api_Divisor_int_34.l0 k x0 x1 x9 x10 (wrap64 (x11 + 1))) else (some t399))) else (none))) else (none)) else (none)) else (if (x0.length : Int) < (x1.length : Int) then (some (-1)) else (some 0))
def api_Divisor_int_34.f (k : Nat) (l0 : List Int) (l1 : List Int) : Option (Int) := api_Divisor_int_34.l0 k l0 l1 l0 (l0.length : Int) 0
theorem api_Divisor_int_34.calls (k : Nat) (A0 : Option Addr) (c0 : Nat) (l0 : List Int) (A1 : Option Addr) (c1 : Nat) (l1 : List Int) (r : Int) (w : World) (hr0 : Kd.C (Kd.int .i64) w A0 l0.length l0) (hc0 : l0.length ≤ c0) (hr1 : Kd.C (Kd.int .i64) w A1 l1.length l1) (hc1 : l1.length ≤ c1) (h : api_Divisor_int_34.f k l0 l1 = some r) :
  Calls Try.prog 34 #[.slice A0 l0.length c0, .slice A1 l1.length c1] w fun e w' => e = .returned (.int .i64 r) ∧ Drawn0 w w' := by
 have HR0 := Aside0.mk hr0
 have HC0 := Aside0.mk hc0
 clear hr0 hc0
 have HR1 := Aside0.mk hr1
 have HC1 := Aside0.mk hc1
 clear hr1 hc1
 have H : (api_Divisor_int_34.l0 k l0 l1 l0 (l0.length : Int) 0) = some r := h
 clear h
 have H' := Aside0.mk H
 clear H
 go_enter Try.func34, Try.ntmps34
 go_wp2
 go_loopg [11] k (fun kq v11 w' => ∃ (x11_1 : Int), v11 = .int .i64 x11_1 ∧ Aside0 (api_Divisor_int_34.l0 kq l0 l1 l0 (l0.length : Int) x11_1 = some r) ∧ Aside0 (kq ≤ k) ∧ Drawn0 w w')
 case atStart => exact ⟨(0), zT, H', ⟨Nat.le_refl _⟩, by repeat (first | exact Drawn0.refl _ | apply Drawn0.step)⟩
 case round =>
  clear H'
  try clear c1
  try clear p2
  obtain ⟨x11_1, rfl, HA, HK1, ⟨m1, rfl⟩⟩ := hrel
  cases gk with
  | zero => exact absurd HA.out (by simp [api_Divisor_int_34.l0])
  | succ k1 =>
   have H := HA.out
   clear HA
   simp only [api_Divisor_int_34.l0] at H
   by_cases c3 : x11_1 < (l0.length : Int)
   ·rw [if_pos c3] at H
    have c3b0 : decide (x11_1 < (l0.length : Int)) = true := decide_eq_true c3
    clear c3
    by_cases c4 : 0 ≤ x11_1
    ·rw [if_pos c4] at H
     have c4b0 : decide (0 ≤ x11_1) = true := decide_eq_true c4
     clear c4
     by_cases c5 : x11_1 < (l0.length : Int)
     ·rw [if_pos c5] at H
      have c5b0 : decide (x11_1 < (l0.length : Int)) = true := decide_eq_true c5
      clear c5
      by_cases c6 : x11_1 ≥ (l1.length : Int)
      ·rw [if_pos c6] at H
       have c6b0 : decide ((l1.length : Int) ≤ x11_1) = true := decide_eq_true c6
       clear c6
       obtain rfl := Option.some.inj H
       have p397 : 0 ≤ (x11_1 : Int) := of_decide_eq_true ‹_›
       have q397 : x11_1 < (l0.length : Int) := of_decide_eq_true ‹_›
       obtain ⟨ad397, e397, hx397_0⟩ := Kd.at_int HR0.out x11_1 p397 q397
       cases e397
       replace p397 := eq_true p397
       replace q397 := eq_true q397
       go_wp2
       go_ret
       exact ⟨zT, by repeat (first | exact Drawn0.refl _ | apply Drawn0.step)⟩
      ·rw [if_neg c6] at H
       have c6b0 : decide ((l1.length : Int) ≤ x11_1) = false := decide_eq_false c6
       clear c6
       by_cases c7 : x11_1 < (l1.length : Int)
       ·rw [if_pos c7] at H
        have c7b0 : decide (x11_1 < (l1.length : Int)) = true := decide_eq_true c7
        clear c7
        replace H := Option.bind_eq_some_iff.mp H
        obtain ⟨t399, A80, H⟩ := H
        replace H : (if t399 = 0 then (api_Divisor_int_34.l0 k1 l0 l1 l0 (l0.length : Int) (wrap64 (x11_1 + 1))) else (some t399)) = some r := H
        have A8 := Aside0.mk A80
        clear A80
        by_cases c9 : t399 = 0
        ·rw [if_pos c9] at H
         have c9b0 : (t399 == 0) = true := beq_iff_eq.mpr c9
         have c9b1 : (t399 != 0) = false := bne_eq_false_iff_eq.mpr c9
         clear c9
         have H' := Aside0.mk H
         clear H
         have p397 : 0 ≤ (x11_1 : Int) := of_decide_eq_true ‹_›
         have q397 : x11_1 < (l0.length : Int) := of_decide_eq_true ‹_›
         obtain ⟨ad397, e397, hx397_0⟩ := Kd.at_int HR0.out x11_1 p397 q397
         cases e397
         replace p397 := eq_true p397
         replace q397 := eq_true q397
         have p398 : 0 ≤ (x11_1 : Int) := of_decide_eq_true ‹_›
         have q398 : x11_1 < (l1.length : Int) := of_decide_eq_true ‹_›
         obtain ⟨ad398, e398, hx398_0⟩ := Kd.at_int HR1.out x11_1 p398 q398
         cases e398
         replace p398 := eq_true p398
         replace q398 := eq_true q398
         go_wp2_with (first | ((with_reducible refine gate_callee (f := 62) rfl ?_); refine zL (some 26) Try.func62 #[.int .i64 (rd l0 x11_1), .int .i64 (rd l1 x11_1)] ?_; (with_reducible refine (cmp_Compare_int.calls (rd l0 x11_1) (rd l1 x11_1) t399 _ A8.out).mono ?_); rintro e w' ⟨rfl, ⟨nd, rfl⟩⟩; refine ⟨_, rfl, ?_⟩))
         go_roundg k1
         case measure => have := HK1.out; omega
         case rel => exact ⟨(wrap64 (x11_1 + 1)), zT, H', ⟨by have := HK1.out; omega⟩, by repeat (first | exact Drawn0.refl _ | apply Drawn0.step)⟩
        ·rw [if_neg c9] at H
         have c9b0 : (t399 == 0) = false := beq_eq_false_iff_ne.mpr c9
         have c9b1 : (t399 != 0) = true := bne_iff_ne.mpr c9
         obtain rfl := Option.some.inj H
         have p397 : 0 ≤ (x11_1 : Int) := of_decide_eq_true ‹_›
         have q397 : x11_1 < (l0.length : Int) := of_decide_eq_true ‹_›
         obtain ⟨ad397, e397, hx397_0⟩ := Kd.at_int HR0.out x11_1 p397 q397
         cases e397
         replace p397 := eq_true p397
         replace q397 := eq_true q397
         have p398 : 0 ≤ (x11_1 : Int) := of_decide_eq_true ‹_›
         have q398 : x11_1 < (l1.length : Int) := of_decide_eq_true ‹_›
         obtain ⟨ad398, e398, hx398_0⟩ := Kd.at_int HR1.out x11_1 p398 q398
         cases e398
         replace p398 := eq_true p398
         replace q398 := eq_true q398
         go_wp2_with (first | ((with_reducible refine gate_callee (f := 62) rfl ?_); refine zL (some 26) Try.func62 #[.int .i64 (rd l0 x11_1), .int .i64 (rd l1 x11_1)] ?_; (with_reducible refine (cmp_Compare_int.calls (rd l0 x11_1) (rd l1 x11_1) t399 _ A8.out).mono ?_); rintro e w' ⟨rfl, ⟨nd, rfl⟩⟩; refine ⟨_, rfl, ?_⟩))
         go_ret
         exact ⟨zT, by repeat (first | exact Drawn0.refl _ | apply Drawn0.step)⟩
       ·rw [if_neg c7] at H
        exact absurd H (by simp)
     ·rw [if_neg c5] at H
      exact absurd H (by simp)
    ·rw [if_neg c4] at H
     exact absurd H (by simp)
   ·rw [if_neg c3] at H
    have c3b0 : decide (x11_1 < (l0.length : Int)) = false := decide_eq_false c3
    clear c3
    by_cases c10 : (l0.length : Int) < (l1.length : Int)
    ·rw [if_pos c10] at H
     have c10b0 : decide ((l0.length : Int) < (l1.length : Int)) = true := decide_eq_true c10
     have c10b1 : decide (l0.length < l1.length) = true := decide_eq_true (Int.ofNat_lt.mp c10)
     clear c10
     obtain rfl := Option.some.inj H
     go_wp2
     go_ret
     exact ⟨zT, by repeat (first | exact Drawn0.refl _ | apply Drawn0.step)⟩
    ·rw [if_neg c10] at H
     have c10b0 : decide ((l0.length : Int) < (l1.length : Int)) = false := decide_eq_false c10
     have c10b1 : decide (l0.length < l1.length) = false := decide_eq_false (fun h => c10 (Int.ofNat_lt.mpr h))
     clear c10
     obtain rfl := Option.some.inj H
     go_wp2
     go_ret
     exact ⟨zT, by repeat (first | exact Drawn0.refl _ | apply Drawn0.step)⟩
theorem below_bad (k : Nat) (N : Int) (A0 : Option Addr) (c0 : Nat) (E : List S66) (q : Int) (w : World) (hr0 : Kd.C k66 w A0 E.length E) (hc0 : E.length ≤ c0) (hf : sandpilelaw28_right.f k N E q = some false) :
  Calls Try.prog 8 #[.agg #[.int .i64 N, .slice A0 E.length c0], .int .i64 q] w fun e w' => e = .returned (.bool true) ∧ Below w.heap.size w w' := by
 have hu := Try.underlying24
 have Hf := Aside0.mk hf
 clear hf
 go_enter Try.func8, Try.ntmps8
 go_wp2_with (first | (go_at_call 27; refine (sandpilelaw28_right.calls k N A0 c0 E q false _ (Kd.C_alloc hr0 _) hc0 Hf.out).mono ?_; rintro e w1 ⟨rfl, hb⟩; have HB := Aside0.mk (below_step (below_alloc (Below.refl w.heap.size w) _) hb); clear hb) | (go_at_call 11; refine (sandpilelaw28_awake.calls true _ rfl).mono ?_; rintro e w2 ⟨rfl, hb2⟩; have HB2 := Aside0.mk (below_step HB.out hb2); clear hb2))
 go_ret
 exact ⟨rfl, HB2.out⟩
theorem below_good (k n : Nat) (A0 : Option Addr) (c0 : Nat) (E : List S66) (q : Int) (l : List (List Int)) (w : World) (hr0 : Kd.C k66 w A0 E.length E) (hc0 : E.length ≤ c0) (hf : sandpilelaw28_right.f k n E q = some true) (hall : superstable_All.f k n E q = some (l, 0)) (hl : 0 < l.length)
  (hlen : ∀ i : Nat, i < l.length → (rd_L2 l i).length = n) (hcmp : ∀ i : Nat, i + 1 < l.length → api_Divisor_int_34.f k (rd_L2 l i) (rd_L2 l (i + 1 : Nat)) = some (-1)) (hsup : ∀ i : Nat, i < l.length → burning_Superstable.f k n E q (rd_L2 l i) = some (true, 0)) (hbd : ∀ (i v : Nat), i < l.length → 0 ≤ rd (rd_L2 l i) v ∧ rd (rd_L2 l i) v ≤ 1048576)
  (hless : ∀ (i v : Nat), i < l.length → v < n → rd (rd_L2 l i) v ≠ 0 → (rd_L2 l i).set v (rd (rd_L2 l i) v - 1) ∈ l) (heq : ∀ x ∈ l, ∀ y ∈ l, api_Divisor_int_31.f k x y = some (decide (x = y))) (hn : n ≤ 1000) :
  Calls Try.prog 8 #[.agg #[.int .i64 n, .slice A0 E.length c0], .int .i64 q] w fun e w' => e = .returned (.bool true) ∧ Below w.heap.size w w' := by
 have hu := Try.underlying24
 have Hf := Aside0.mk hf
 have Hall := Aside0.mk hall
 have HLN := Aside0.mk hlen
 have HCM := Aside0.mk hcmp
 have HSU := Aside0.mk hsup
 have HBD := Aside0.mk hbd
 have HLS := Aside0.mk hless
 have HEQ := Aside0.mk heq
 clear hf hall hlen hcmp hsup hbd hless heq
 have hl0 : ((l.length : Int) == 0) = false := by rw [beq_eq_false_iff_ne]; omega
 go_enter Try.func8, Try.ntmps8
 go_upto_region 6 with (first
  | (go_at_call 27; refine (sandpilelaw28_right.calls k n A0 c0 E q true _ (Kd.C_alloc hr0 _) hc0 Hf.out).mono ?_; rintro e w1 ⟨rfl, hb⟩; have HX1 := Aside0.mk (blk_below (heap_alloc_new w (.cells #[.int .i64 n, .slice A0 E.length c0] 24)) hb); have HB1 := Aside0.mk (below_step (below_alloc (Below.refl w.heap.size w) _) hb); have g0 : w1.cell? ⟨w.heap.size, 0, none⟩ = some (.int .i64 n) := (blk_cell HX1.out 0).trans rfl; have g1 : w1.cell? ⟨w.heap.size, 1, none⟩ = some (.slice A0 E.length c0) := (blk_cell HX1.out 1).trans rfl; clear hb)
  | (go_at_call 12; refine (superstable_All.calls k n A0 c0 E q l 0 _ (Kd.C_below hr0 HB1.out) hc0 Hall.out).mono ?_; rintro e w2 ⟨v, rfl, hN, hb⟩; obtain ⟨Av, cv, rfl⟩ := Kd.N_slice hN; have HX2 := Aside0.mk (blk_below HX1.out hb); have HB2 := Aside0.mk (below_step HB1.out hb); have HN2 := Aside0.mk hN; clear hb hN))
 clear g0 g1 HX1 HB1
 have hlb : l.length ≤ 9223372036854775807 := Kd.C_max (Kd.N_reads' HN2.out).2.2
 generalize w1.heap.size = b1 at HN2
 go_wp2
 go_loopw [33] (fun iv wr => ∃ i : Nat, i ≤ l.length ∧ iv = .int .i64 i ∧ Aside0 (wr.heap[w.heap.size]? = some (.cells #[.int .i64 n, .slice A0 E.length c0] 24 (0, 0))) ∧ Aside0 (Below w.heap.size w wr) ∧ Aside0 ((Kd.slice 3 (Kd.int .i64)).N 42 wr b1 (fun _ => True) (.slice Av l.length cv) l)) (fun iv _ => l.length - (intOf iv).toNat)
 case atStart => exact ⟨0, by omega, rfl, HX2, HB2, ⟨Kd.N_mono HN2.out (fun _ _ => trivial)⟩⟩
 case round =>
  clear HX2 HB2 HN2
  obtain ⟨i, hi, rfl, HX, HB, HN⟩ := hrel
  have g0 : wr.cell? ⟨w.heap.size, 0, none⟩ = some (.int .i64 n) := (blk_cell HX.out 0).trans rfl
  have g1 : wr.cell? ⟨w.heap.size, 1, none⟩ = some (.slice A0 E.length c0) := (blk_cell HX.out 1).trans rfl
  by_cases hil : i < l.length
  ·obtain ⟨-, -, hC⟩ := Kd.N_reads' HN.out
   obtain ⟨ad, Ac, cc, rfl, hx0, hcc, hcr⟩ := at_L2 hC i (by omega) (by omega)
   rw [Int.toNat_natCast] at hx0
   have hi0 : (0 : Int) ≤ (i : Int) := by omega
   have hi1 : (i : Int) < (l.length : Int) := by omega
   have HCI := Aside0.mk (show ∃ c, c = rd_L2 l i from ⟨_, rfl⟩)
   have hcn := HLN.out i hil
   have hne : (((rd_L2 l i).length : Int) != (n : Int)) = false := by rw [bne_eq_false_iff_eq, hcn]
   have HCN := Aside0.mk hcn
   have HCR := Aside0.mk hcr
   have HSUI := Aside0.mk (HSU.out i hil)
   clear hcn hcr
   have hprev : 0 < i → ∃ (Ap : Option Addr) (cp : Nat) (p : List Int), wr.cell? (ad.add (i - 1)) = some (.slice Ap p.length cp) ∧ p.length ≤ cp ∧ Kd.C (Kd.int .i64) wr Ap p.length p ∧ api_Divisor_int_34.f k p (rd_L2 l i) = some (-1) := fun h0 => by
    obtain ⟨j, rfl⟩ : ∃ j, i = j + 1 := ⟨i - 1, by omega⟩
    obtain ⟨ad2, Ap, cp, e2, hx2, hcp, hCp⟩ := at_L2 hC j (by omega) (by omega)
    injection e2 with e2; subst e2
    rw [Int.toNat_natCast] at hx2
    exact ⟨Ap, cp, _, by simpa using hx2, hcp, hCp, HCM.out j hil⟩
   clear hC
   have hbdi := Aside0.mk (fun v => HBD.out i v hil)
   have hlsi := Aside0.mk (fun v => HLS.out i v hil)
   have hmem := Aside0.mk (rd_L2_mem hil)
   have hcase : i = 0 ∨ 0 < i := by omega
   rcases hcase with hgt0 | hpos
   ·clear hprev
    have hgt : decide ((i : Int) > 0) = false := decide_eq_false (by omega)
    have hgt1 : decide (0 < i) = false := decide_eq_false (by omega)
    have hgt2 : ¬ 0 < i := by omega
    have hgt3 : ¬ (0 : Int) < (i : Int) := by omega
    have HGT := Aside0.mk hgt0
    clear hgt0
    go_upto_region 11 with fail
    have HX1 := HX
    have HB1 := HB
    have HN1 := HN
    have HC1 := Aside0.mk hx0
    clear HX HB HN HCR g0 g1 hx0
    generalize wr = wr1 at HX1 HB1 HN1 HC1 ⊢
    have g0 : wr1.cell? ⟨w.heap.size, 0, none⟩ = some (.int .i64 n) := (blk_cell HX1.out 0).trans rfl
    have g1 : wr1.cell? ⟨w.heap.size, 1, none⟩ = some (.slice A0 E.length c0) := (blk_cell HX1.out 1).trans rfl
    have HCR1 : Aside0 (Kd.C (Kd.int .i64) wr1 Ac (rd_L2 l i).length (rd_L2 l i)) := ⟨by
     obtain ⟨ad2, A2, c2, e2, h2, -, h3⟩ := at_L2 (Kd.N_reads' HN1.out).2.2 i (by omega) (by omega)
     injection e2 with e2; subst e2
     rw [Int.toNat_natCast, HC1.out] at h2
     injection h2 with h2; injection h2 with h2; subst h2; exact h3⟩
    go_wp2_with (go_at_call 35; refine (burning_Superstable.calls k n A0 c0 E q Ac cc (rd_L2 l i) true 0 _ (Kd.C_below hr0 HB1.out) hc0 HCR1.out hcc HSUI.out).mono ?_; rintro e w2 ⟨rfl, hb⟩; have HX2 := Aside0.mk (blk_below HX1.out hb); have HB2 := Aside0.mk (below_step HB1.out hb); have HN2 := Aside0.mk (Kd.N_below HN1.out hb); have HC2 := Aside0.mk ((hb.cell (World.block_lt_of_cell? wr1 _ HC1.out)).trans HC1.out); clear hb)
    clear g0 g1 HX1 HB1 HN1 HC1 HCR1 hne
    have hclb : (rd_L2 l i).length ≤ 9223372036854775807 := by have := HCN.out; omega
    go_loopw [72] (fun vv wr => ∃ v : Nat, v ≤ (rd_L2 l i).length ∧ vv = .int .i64 v ∧ Aside0 (wr.heap[w.heap.size]? = some (.cells #[.int .i64 n, .slice A0 E.length c0] 24 (0, 0))) ∧ Aside0 (Below w.heap.size w wr) ∧ Aside0 ((Kd.slice 3 (Kd.int .i64)).N 42 wr b1 (fun _ => True) (.slice (some ad) l.length cv) l) ∧ Aside0 (wr.cell? (ad.add i) = some (.slice Ac (rd_L2 l i).length cc))) (fun vv _ => (rd_L2 l i).length - (intOf vv).toNat)
    case atStart => exact ⟨0, by omega, rfl, HX2, HB2, HN2, HC2⟩
    case round =>
     clear HX2 HB2 HN2 HC2
     obtain ⟨v, hv, rfl, HX, HB, HN, HC⟩ := hrel
     by_cases hvl : v < (rd_L2 l i).length
     ·obtain ⟨ad2, A2, c2, e2, h2, -, h3⟩ := at_L2 (Kd.N_reads' HN.out).2.2 i (by omega) (by omega)
      injection e2 with e2; subst e2
      rw [Int.toNat_natCast, HC.out] at h2
      injection h2 with h2; injection h2 with h2 h2b h2c; subst h2
      obtain ⟨av, ev, hy⟩ := Kd.at_int h3 v (by omega) (by omega)
      subst ev
      rw [Int.toNat_natCast] at hy
      have hv0 : (0 : Int) ≤ (v : Int) := by omega
      have hv1 : (v : Int) < ((rd_L2 l i).length : Int) := by omega
      have H3 := Aside0.mk h3
      clear h3 h2b h2c
      by_cases hz : rd (rd_L2 l i) v = 0
      ·have hzb : (rd (rd_L2 l i) v == 0) = true := by simpa using hz
       have HZ := Aside0.mk hz
       clear hz
       go_wp2
       go_roundw
       case rel => exact ⟨v + 1, by omega, by go_num, HX, HB, HN, HC⟩
       case measure => exact (show (rd_L2 l i).length - ((v : Int) + 1).toNat < (rd_L2 l i).length - ((v : Int)).toNat by omega)
      ·have hzb : (rd (rd_L2 l i) v == 0) = false := by simpa using hz
       have hbv := hbdi.out v
       have hmem2 := Aside0.mk (hlsi.out v (by have := HCN.out; omega) hz)
       have hle := HCN.out
       have HLE := Aside0.mk hle
       clear hz hle
       go_upto_region 19 with (go_at_call 36; go_loud (refine (api_Divisor_int_36.calls (some av) cc (rd_L2 l i) (rd_L2 l i) _ H3.out hcc (by unfold api_Divisor_int_36.f clone.f; rw [if_pos (by have := HLE.out; omega)])).mono ?_; rintro e w3 ⟨v0, rfl, hR, hb⟩; obtain ⟨g, cap, rfl, hge, hgl, -⟩ := Kd.R_form hR (by omega); have HR3 := Aside0.mk hR; have HX3 := Aside0.mk (blk_below HX.out hb); have HB3 := Aside0.mk (below_step HB.out hb); have HN3 := Aside0.mk (Kd.N_mono (Kd.N_below (Kd.N_bound HN.out) hb) (ok' := fun k => k ≠ g) (fun k hk => by have := hk.2; omega)); have HC3 := Aside0.mk ((hb.cell (World.block_lt_of_cell? _ _ HC.out)).trans HC.out); have HAG : Aside0 ((ad.add i).block ≠ g) := ⟨Nat.ne_of_lt (Nat.lt_of_lt_of_le (World.block_lt_of_cell? _ (ad.add i) HC.out) hge)⟩; have hwg := Aside0.mk (Nat.le_trans HB.out.size hge); clear hb hR hge))
       have HG4 := Aside0.mk (heap_alloc_new w3 (.cells #[.slice (some ⟨g, 0, none⟩) (rd_L2 l i).length cap] 42))
       have HX4 := Aside0.mk (blk_alloc HX3.out (.cells #[.slice (some ⟨g, 0, none⟩) (rd_L2 l i).length cap] 42))
       have HB4 := Aside0.mk (below_alloc HB3.out (.cells #[.slice (some ⟨g, 0, none⟩) (rd_L2 l i).length cap] 42))
       have HN4 := Aside0.mk (Kd.N_alloc HN3.out (.cells #[.slice (some ⟨g, 0, none⟩) (rd_L2 l i).length cap] 42))
       have HR4 := Aside0.mk (Kd.R_alloc HR3.out (.cells #[.slice (some ⟨g, 0, none⟩) (rd_L2 l i).length cap] 42))
       have HC4 : Aside0 ((w3.alloc (.cells #[.slice (some ⟨g, 0, none⟩) (rd_L2 l i).length cap] 42)).cell? (ad.add i) = some (.slice (some av) (rd_L2 l i).length cc)) := ⟨((below_alloc (Below.refl w3.heap.size w3) _).cell (World.block_lt_of_cell? _ _ HC3.out)).trans HC3.out⟩
       have hgw := Kd.R_lt HR3.out g rfl
       clear HX3 HB3 HN3 HC3 HR3
       generalize w3.alloc (.cells #[.slice (some ⟨g, 0, none⟩) (rd_L2 l i).length cap] 42) = W4 at HG4 HX4 HB4 HN4 HR4 HC4 ⊢
       generalize w3.heap.size = gl at HG4 hgw ⊢
       have g2 : W4.cell? ⟨gl, 0, none⟩ = some (.slice (some ⟨g, 0, none⟩) (rd_L2 l i).length cap) := (blk_cell HG4.out 0).trans rfl
       obtain ⟨hy4, hf4⟩ := Kd.R_celln 0 HR4.out (v : Int) (by omega) (by omega)
       rw [Int.toNat_natCast] at hy4 hf4
       have HP := Kd.R_putg HR4.out (v : Int) (rd (rd_L2 l i) v - 1)
       rw [Int.toNat_natCast] at HP
       have HP1 := Aside0.mk HP.1
       have HP2 := Aside0.mk HP.2
       have HY := Aside0.mk hy4
       have hy5 : W4.cell? ⟨g, v, none⟩ = some (.int .i64 (rd (rd_L2 l i) v)) := HY.out
       clear HP hy hy4 HY
       go_upto_region 20 with fail
       have hgn : g ≠ gl := by omega
       have HG5 := Aside0.mk (blk_grown (g := gl) HG4.out HP2.out (fun e => by injection e with e; exact hgn e.symm))
       have HX5 := Aside0.mk (blk_grown (g := w.heap.size) HX4.out HP2.out (Kd.R_ne HR4.out HX4.out (by decide)))
       have HB5 := Aside0.mk (Below.setCell (p := ⟨g, v, none⟩) HB4.out hwg.out (.int .i64 (rd (rd_L2 l i) v - 1)))
       have HN5 := Aside0.mk (Kd.N_mono (Kd.N_far HN4.out (p := ⟨g, v, none⟩) (fun k hk => hk) (.int .i64 (rd (rd_L2 l i) v - 1))) (ok' := fun _ => True) (fun _ _ => trivial))
       have HC5 := Aside0.mk ((HP2.out.cell_far (ad.add i) (World.block_lt_of_cell? _ _ HC4.out) (fun e => by injection e with e; exact HAG.out e)).trans HC4.out)
       have HR5 := HP1
       clear HG4 HX4 HB4 HN4 HC4 HP1 HP2 HR4 hf4 hy5 g2
       generalize W4.setCell ⟨g, v, none⟩ (.int .i64 (rd (rd_L2 l i) v - 1)) = W5 at HG5 HX5 HB5 HN5 HC5 HR5 ⊢
       have hsl : ((rd_L2 l i).set v (rd (rd_L2 l i) v - 1)).length = (rd_L2 l i).length := List.length_set ..
       have hcont := Aside0.mk (containsB_calls gl _ (some ad) cv _ l (fun x => decide (x = (rd_L2 l i).set v (rd (rd_L2 l i) v - 1))) W5 HN5.out (fun W' A1 c1 x hb hx hxc hxC => below1_calls k gl A1 c1 x (some ⟨g, 0, none⟩) cap ((rd_L2 l i).set v (rd (rd_L2 l i) v - 1)) (decide (x = (rd_L2 l i).set v (rd (rd_L2 l i) v - 1))) W' (by rw [hsl]; exact blk_below HG5.out hb) hxC hxc (Kd.R_reads' (Kd.R_below HR5.out hb)).2.2 (by rw [hsl]; exact (Kd.R_reads' HR5.out).2.1) (HEQ.out x hx _ hmem2.out)) (List.any_eq_true.2 ⟨_, hmem2.out, by simp⟩))
       clear hsl
       go_wp2_with (go_at_call 32; refine hcont.out.mono ?_; rintro e w8 ⟨rfl, hb⟩; have HX8 := Aside0.mk (blk_below HX5.out hb); have HB8 := Aside0.mk (below_step HB5.out hb); have HN8 := Aside0.mk (Kd.N_below HN5.out hb); have HC8 := Aside0.mk ((hb.cell (World.block_lt_of_cell? _ _ HC5.out)).trans HC5.out); clear hb)
       go_roundw
       case rel => exact ⟨v + 1, by omega, by go_num, HX8, HB8, HN8, HC8⟩
       case measure => exact (show (rd_L2 l i).length - ((v : Int) + 1).toNat < (rd_L2 l i).length - ((v : Int)).toNat by omega)
     ·obtain rfl : v = (rd_L2 l i).length := by omega
      go_wp2
      go_roundw
      case rel => exact ⟨i + 1, by omega, by go_num, HX, HB, HN⟩
      case measure => exact (show l.length - ((i : Int) + 1).toNat < l.length - ((i : Int)).toNat by omega)
   ·obtain ⟨Ap, cp, p, hxp, hcp, hCp, hcm⟩ := hprev hpos
    have HCp := Aside0.mk hCp
    have HCM2 := Aside0.mk hcm
    have hgt : decide ((i : Int) > 0) = true := decide_eq_true (by omega)
    have him : (i : Int) - 1 = ((i - 1 : Nat) : Int) := by omega
    have hm0 : 0 ≤ ((i - 1 : Nat) : Int) := by omega
    have hm1 : ((i - 1 : Nat) : Int) < (l.length : Int) := by omega
    clear hprev hpos hCp hcm
    go_upto_region 11 with (go_at_call 34; refine (api_Divisor_int_34.calls k Ap cp p Ac cc (rd_L2 l i) (-1) _ HCp.out hcp HCR.out hcc HCM2.out).mono ?_; rintro e w7 ⟨rfl, ⟨nd, rfl⟩⟩)
    have HX1 := Aside0.mk (blk_drewN HX.out nd)
    have HB1 := Aside0.mk (pw_below_drewN HB.out nd)
    have HN1 := Aside0.mk (Kd.N_drewN HN.out nd)
    have HC1 : Aside0 ((wr.drewN nd).cell? (ad.add i) = some (.slice Ac (rd_L2 l i).length cc)) := ⟨by simpa using hx0⟩
    clear HX HB HN HCR g0 g1 hx0 hxp hcp HCp HCM2
    generalize wr.drewN nd = wr1 at HX1 HB1 HN1 HC1 ⊢
    have g0 : wr1.cell? ⟨w.heap.size, 0, none⟩ = some (.int .i64 n) := (blk_cell HX1.out 0).trans rfl
    have g1 : wr1.cell? ⟨w.heap.size, 1, none⟩ = some (.slice A0 E.length c0) := (blk_cell HX1.out 1).trans rfl
    have HCR1 : Aside0 (Kd.C (Kd.int .i64) wr1 Ac (rd_L2 l i).length (rd_L2 l i)) := ⟨by
     obtain ⟨ad2, A2, c2, e2, h2, -, h3⟩ := at_L2 (Kd.N_reads' HN1.out).2.2 i (by omega) (by omega)
     injection e2 with e2; subst e2
     rw [Int.toNat_natCast, HC1.out] at h2
     injection h2 with h2; injection h2 with h2; subst h2; exact h3⟩
    go_wp2_with (go_at_call 35; refine (burning_Superstable.calls k n A0 c0 E q Ac cc (rd_L2 l i) true 0 _ (Kd.C_below hr0 HB1.out) hc0 HCR1.out hcc HSUI.out).mono ?_; rintro e w2 ⟨rfl, hb⟩; have HX2 := Aside0.mk (blk_below HX1.out hb); have HB2 := Aside0.mk (below_step HB1.out hb); have HN2 := Aside0.mk (Kd.N_below HN1.out hb); have HC2 := Aside0.mk ((hb.cell (World.block_lt_of_cell? wr1 _ HC1.out)).trans HC1.out); clear hb)
    clear g0 g1 HX1 HB1 HN1 HC1 HCR1 hne
    have hclb : (rd_L2 l i).length ≤ 9223372036854775807 := by have := HCN.out; omega
    go_loopw [72] (fun vv wr => ∃ v : Nat, v ≤ (rd_L2 l i).length ∧ vv = .int .i64 v ∧ Aside0 (wr.heap[w.heap.size]? = some (.cells #[.int .i64 n, .slice A0 E.length c0] 24 (0, 0))) ∧ Aside0 (Below w.heap.size w wr) ∧ Aside0 ((Kd.slice 3 (Kd.int .i64)).N 42 wr b1 (fun _ => True) (.slice (some ad) l.length cv) l) ∧ Aside0 (wr.cell? (ad.add i) = some (.slice Ac (rd_L2 l i).length cc))) (fun vv _ => (rd_L2 l i).length - (intOf vv).toNat)
    case atStart => exact ⟨0, by omega, rfl, HX2, HB2, HN2, HC2⟩
    case round =>
     clear HX2 HB2 HN2 HC2
     obtain ⟨v, hv, rfl, HX, HB, HN, HC⟩ := hrel
     by_cases hvl : v < (rd_L2 l i).length
     ·obtain ⟨ad2, A2, c2, e2, h2, -, h3⟩ := at_L2 (Kd.N_reads' HN.out).2.2 i (by omega) (by omega)
      injection e2 with e2; subst e2
      rw [Int.toNat_natCast, HC.out] at h2
      injection h2 with h2; injection h2 with h2 h2b h2c; subst h2
      obtain ⟨av, ev, hy⟩ := Kd.at_int h3 v (by omega) (by omega)
      subst ev
      rw [Int.toNat_natCast] at hy
      have hv0 : (0 : Int) ≤ (v : Int) := by omega
      have hv1 : (v : Int) < ((rd_L2 l i).length : Int) := by omega
      have H3 := Aside0.mk h3
      clear h3 h2b h2c
      by_cases hz : rd (rd_L2 l i) v = 0
      ·have hzb : (rd (rd_L2 l i) v == 0) = true := by simpa using hz
       have HZ := Aside0.mk hz
       clear hz
       go_wp2
       go_roundw
       case rel => exact ⟨v + 1, by omega, by go_num, HX, HB, HN, HC⟩
       case measure => exact (show (rd_L2 l i).length - ((v : Int) + 1).toNat < (rd_L2 l i).length - ((v : Int)).toNat by omega)
      ·have hzb : (rd (rd_L2 l i) v == 0) = false := by simpa using hz
       have hbv := hbdi.out v
       have hmem2 := Aside0.mk (hlsi.out v (by have := HCN.out; omega) hz)
       have hle := HCN.out
       have HLE := Aside0.mk hle
       clear hz hle
       go_upto_region 19 with (go_at_call 36; go_loud (refine (api_Divisor_int_36.calls (some av) cc (rd_L2 l i) (rd_L2 l i) _ H3.out hcc (by unfold api_Divisor_int_36.f clone.f; rw [if_pos (by have := HLE.out; omega)])).mono ?_; rintro e w3 ⟨v0, rfl, hR, hb⟩; obtain ⟨g, cap, rfl, hge, hgl, -⟩ := Kd.R_form hR (by omega); have HR3 := Aside0.mk hR; have HX3 := Aside0.mk (blk_below HX.out hb); have HB3 := Aside0.mk (below_step HB.out hb); have HN3 := Aside0.mk (Kd.N_mono (Kd.N_below (Kd.N_bound HN.out) hb) (ok' := fun k => k ≠ g) (fun k hk => by have := hk.2; omega)); have HC3 := Aside0.mk ((hb.cell (World.block_lt_of_cell? _ _ HC.out)).trans HC.out); have HAG : Aside0 ((ad.add i).block ≠ g) := ⟨Nat.ne_of_lt (Nat.lt_of_lt_of_le (World.block_lt_of_cell? _ (ad.add i) HC.out) hge)⟩; have hwg := Aside0.mk (Nat.le_trans HB.out.size hge); clear hb hR hge))
       have HG4 := Aside0.mk (heap_alloc_new w3 (.cells #[.slice (some ⟨g, 0, none⟩) (rd_L2 l i).length cap] 42))
       have HX4 := Aside0.mk (blk_alloc HX3.out (.cells #[.slice (some ⟨g, 0, none⟩) (rd_L2 l i).length cap] 42))
       have HB4 := Aside0.mk (below_alloc HB3.out (.cells #[.slice (some ⟨g, 0, none⟩) (rd_L2 l i).length cap] 42))
       have HN4 := Aside0.mk (Kd.N_alloc HN3.out (.cells #[.slice (some ⟨g, 0, none⟩) (rd_L2 l i).length cap] 42))
       have HR4 := Aside0.mk (Kd.R_alloc HR3.out (.cells #[.slice (some ⟨g, 0, none⟩) (rd_L2 l i).length cap] 42))
       have HC4 : Aside0 ((w3.alloc (.cells #[.slice (some ⟨g, 0, none⟩) (rd_L2 l i).length cap] 42)).cell? (ad.add i) = some (.slice (some av) (rd_L2 l i).length cc)) := ⟨((below_alloc (Below.refl w3.heap.size w3) _).cell (World.block_lt_of_cell? _ _ HC3.out)).trans HC3.out⟩
       have hgw := Kd.R_lt HR3.out g rfl
       clear HX3 HB3 HN3 HC3 HR3
       generalize w3.alloc (.cells #[.slice (some ⟨g, 0, none⟩) (rd_L2 l i).length cap] 42) = W4 at HG4 HX4 HB4 HN4 HR4 HC4 ⊢
       generalize w3.heap.size = gl at HG4 hgw ⊢
       have g2 : W4.cell? ⟨gl, 0, none⟩ = some (.slice (some ⟨g, 0, none⟩) (rd_L2 l i).length cap) := (blk_cell HG4.out 0).trans rfl
       obtain ⟨hy4, hf4⟩ := Kd.R_celln 0 HR4.out (v : Int) (by omega) (by omega)
       rw [Int.toNat_natCast] at hy4 hf4
       have HP := Kd.R_putg HR4.out (v : Int) (rd (rd_L2 l i) v - 1)
       rw [Int.toNat_natCast] at HP
       have HP1 := Aside0.mk HP.1
       have HP2 := Aside0.mk HP.2
       have HY := Aside0.mk hy4
       have hy5 : W4.cell? ⟨g, v, none⟩ = some (.int .i64 (rd (rd_L2 l i) v)) := HY.out
       clear HP hy hy4 HY
       go_upto_region 20 with fail
       have hgn : g ≠ gl := by omega
       have HG5 := Aside0.mk (blk_grown (g := gl) HG4.out HP2.out (fun e => by injection e with e; exact hgn e.symm))
       have HX5 := Aside0.mk (blk_grown (g := w.heap.size) HX4.out HP2.out (Kd.R_ne HR4.out HX4.out (by decide)))
       have HB5 := Aside0.mk (Below.setCell (p := ⟨g, v, none⟩) HB4.out hwg.out (.int .i64 (rd (rd_L2 l i) v - 1)))
       have HN5 := Aside0.mk (Kd.N_mono (Kd.N_far HN4.out (p := ⟨g, v, none⟩) (fun k hk => hk) (.int .i64 (rd (rd_L2 l i) v - 1))) (ok' := fun _ => True) (fun _ _ => trivial))
       have HC5 := Aside0.mk ((HP2.out.cell_far (ad.add i) (World.block_lt_of_cell? _ _ HC4.out) (fun e => by injection e with e; exact HAG.out e)).trans HC4.out)
       have HR5 := HP1
       clear HG4 HX4 HB4 HN4 HC4 HP1 HP2 HR4 hf4 hy5 g2
       generalize W4.setCell ⟨g, v, none⟩ (.int .i64 (rd (rd_L2 l i) v - 1)) = W5 at HG5 HX5 HB5 HN5 HC5 HR5 ⊢
       have hsl : ((rd_L2 l i).set v (rd (rd_L2 l i) v - 1)).length = (rd_L2 l i).length := List.length_set ..
       have hcont := Aside0.mk (containsB_calls gl _ (some ad) cv _ l (fun x => decide (x = (rd_L2 l i).set v (rd (rd_L2 l i) v - 1))) W5 HN5.out (fun W' A1 c1 x hb hx hxc hxC => below1_calls k gl A1 c1 x (some ⟨g, 0, none⟩) cap ((rd_L2 l i).set v (rd (rd_L2 l i) v - 1)) (decide (x = (rd_L2 l i).set v (rd (rd_L2 l i) v - 1))) W' (by rw [hsl]; exact blk_below HG5.out hb) hxC hxc (Kd.R_reads' (Kd.R_below HR5.out hb)).2.2 (by rw [hsl]; exact (Kd.R_reads' HR5.out).2.1) (HEQ.out x hx _ hmem2.out)) (List.any_eq_true.2 ⟨_, hmem2.out, by simp⟩))
       clear hsl
       go_wp2_with (go_at_call 32; refine hcont.out.mono ?_; rintro e w8 ⟨rfl, hb⟩; have HX8 := Aside0.mk (blk_below HX5.out hb); have HB8 := Aside0.mk (below_step HB5.out hb); have HN8 := Aside0.mk (Kd.N_below HN5.out hb); have HC8 := Aside0.mk ((hb.cell (World.block_lt_of_cell? _ _ HC5.out)).trans HC5.out); clear hb)
       go_roundw
       case rel => exact ⟨v + 1, by omega, by go_num, HX8, HB8, HN8, HC8⟩
       case measure => exact (show (rd_L2 l i).length - ((v : Int) + 1).toNat < (rd_L2 l i).length - ((v : Int)).toNat by omega)
     ·obtain rfl : v = (rd_L2 l i).length := by omega
      go_wp2
      go_roundw
      case rel => exact ⟨i + 1, by omega, by go_num, HX, HB, HN⟩
      case measure => exact (show l.length - ((i : Int) + 1).toNat < l.length - ((i : Int)).toNat by omega)
  ·obtain rfl : i = l.length := by omega
   go_wp2_with (go_at_call 11; refine (sandpilelaw28_awake.calls true _ rfl).mono ?_; rintro e w9 ⟨rfl, hb2⟩; have HB9 := Aside0.mk (below_step HB.out hb2); clear hb2)
   go_ret
   exact ⟨rfl, HB9.out⟩
def Ev {α : Type} (f : Nat → Option α) (r : α) : Prop := ∃ B, ∀ K, B ≤ K → f K = some r
theorem Ev.const {α : Type} (r : α) : Ev (fun _ => some r) r := ⟨0, fun _ _ => rfl⟩
theorem Ev.of_succ {α : Type} {f : Nat → Option α} {r : α} (h : Ev (fun k => f (k + 1)) r) : Ev f r := by
 obtain ⟨B, h⟩ := h
 refine ⟨B + 1, fun K hK => ?_⟩
 obtain ⟨k, rfl⟩ : ∃ k, K = k + 1 := ⟨K - 1, by omega⟩
 exact h k (by omega)
theorem Ev.bind {α β : Type} {f : Nat → Option α} {g : α → Nat → Option β} {a : α} {r : β} (h1 : Ev f a) (h2 : Ev (g a) r) : Ev (fun k => (f k).bind fun t => g t k) r := by
 obtain ⟨B, h1⟩ := h1
 obtain ⟨C, h2⟩ := h2
 refine ⟨max B C, fun K hK => ?_⟩
 show (f K).bind (fun t => g t K) = some r
 rw [h1 K (by omega), Option.bind_some]
 exact h2 K (by omega)
theorem Ev.get {α : Type} {f : Nat → Option α} {r : α} (h : Ev f r) : ∃ k, f k = some r := by
 obtain ⟨B, h⟩ := h
 exact ⟨B, h B (Nat.le_refl _)⟩
theorem wrap_succ {i : Nat} (h : i ≤ 1000000) : wrap64 ((i : Int) + 1) = ((i + 1 : Nat) : Int) := by
 rw [show wrap64 ((i : Int) + 1) = (i : Int) + 1 from by unfold wrap64; omega]; omega
theorem wrap_id {x : Int} (h : -1000000000 ≤ x ∧ x ≤ 1000000000) : wrap64 x = x := by unfold wrap64; omega
def edgeOk (N : Int) (x : S66) : Bool := decide (0 ≤ x.f0 ∧ x.f0 < N ∧ 0 ≤ x.f1 ∧ x.f1 < N ∧ 1 ≤ x.f2 ∧ x.f2 ≤ 50)
def edgeErr (N : Int) (p0 p1 : Int) (x : S66) : Int := if edgeOk N x = false then 2 else if x.f0 < p0 ∨ x.f0 = p0 ∧ x.f1 ≤ p1 ∨ x.f0 > x.f1 then 9 else 0
def checkFrom (N : Int) : Int → Int → List S66 → Int
 | _, _, [] => 0
 | p0, p1, x :: E => if edgeErr N p0 p1 x = 0 then checkFrom N x.f0 x.f1 E else edgeErr N p0 p1 x
def checkG (N : Int) (E : List S66) : Int := if N < 1 ∨ N > 12 then 2 else checkFrom N (-1) (-1) E
theorem rd_T_drop {E : List S66} {i : Nat} (h : i < E.length) : E.drop i = rd_T66 E i :: E.drop (i + 1) := by
 rw [List.drop_eq_getElem_cons h]
 simp [rd_T66, List.getD_eq_getElem?_getD, List.getElem?_eq_getElem h]
theorem vertex_ok (N v : Int) : graph_vertex.f N v = some (decide (0 ≤ v ∧ v < N)) := by
 unfold graph_vertex.f
 by_cases h : v ≥ 0
 ·rw [if_pos h]; congr 1; simp [show 0 ≤ v from h]
 ·rw [if_neg h]; congr 1; simp; omega
theorem cmp_ok (a b : Int) : cmp_Compare_int.f a b = some (if a < b then -1 else if a > b then 1 else 0) := by
 unfold cmp_Compare_int.f cmp_isNaN_int.f
 simp only [bne_self_eq_false, Option.bind_some, Bool.false_eq_true, if_false]
 split
 ·rfl
 ·split <;> rfl
theorem or_ok (a b : Int) : Ev (fun k => cmp_Or_int.f k [a, b]) (if a = 0 then b else a) := by
 unfold cmp_Or_int.f
 refine Ev.of_succ ?_
 simp only [cmp_Or_int.l0, List.length_cons, List.length_nil, rd]
 by_cases ha : a = 0
 ·subst ha
  refine Ev.of_succ ?_
  simp only [cmp_Or_int.l0, List.length_cons, List.length_nil, rd, wrap64]
  simp
  by_cases hb : b = 0
  ·subst hb
   refine Ev.of_succ ?_
   simp [cmp_Or_int.l0, wrap64]
   exact Ev.const _
  ·simp [hb]; exact Ev.const _
 ·simp [ha]; exact Ev.const _
theorem compare_ok (a b c d : Int) : Ev (fun k => graph_pair_compare.f k a b c d) (if a < c then -1 else if a > c then 1 else if b < d then -1 else if b > d then 1 else 0) := by
 unfold graph_pair_compare.f
 simp only [cmp_ok, Option.bind_some]
 refine Ev.bind (or_ok _ _) ?_
 have e : (if (if a < c then (-1 : Int) else if a > c then 1 else 0) = 0 then (if b < d then (-1 : Int) else if b > d then 1 else 0) else (if a < c then (-1 : Int) else if a > c then 1 else 0)) = (if a < c then -1 else if a > c then 1 else if b < d then -1 else if b > d then 1 else 0) := by
  by_cases h1 : a < c
  ·simp [h1]
  ·by_cases h2 : a > c
   ·simp [h1, h2]
   ·simp [h1, h2]
 rw [e]
 exact Ev.const _
theorem check_l0 (N : Int) (E : List S66) (hE : E.length ≤ 1000) : ∀ (m i : Nat) (p0 p1 : Int), i + m = E.length → Ev (fun k => graph_Check.l0 k E E.length i N E p0 p1) (checkFrom N p0 p1 (E.drop i))
 | 0, i, p0, p1, hi => by
  refine Ev.of_succ ?_
  simp only [graph_Check.l0, if_neg (show ¬ ((i : Int) < (E.length : Int)) by omega)]
  rw [List.drop_eq_nil_of_le (by omega)]
  exact Ev.const _
 | m + 1, i, p0, p1, hi => by
  have ih := check_l0 N E hE m (i + 1) (rd_T66 E i).f0 (rd_T66 E i).f1 (by omega)
  refine Ev.of_succ ?_
  simp only [graph_Check.l0, if_pos (show (i : Int) < (E.length : Int) by omega), if_pos (show (0 : Int) ≤ (i : Int) by omega), vertex_ok, Option.bind_some]
  rw [rd_T_drop (by omega), checkFrom]
  generalize hx : rd_T66 E i = x at ih ⊢
  have key : ∀ b : Bool, b = !edgeOk N x → Ev (fun k => graph_Check.j2 k E E.length i b N E p0 p1 x.f0 x.f1 x.f2 x.f0 x.f1) (if edgeErr N p0 p1 x = 0 then checkFrom N x.f0 x.f1 (E.drop (i + 1)) else edgeErr N p0 p1 x) := by
   rintro b rfl
   refine Ev.of_succ ?_
   simp only [graph_Check.j2]
   cases hok : edgeOk N x with
   | false => simp [edgeErr, hok]; exact Ev.const _
   | true =>
    simp only [Bool.not_true, Bool.false_eq_true, if_false]
    by_cases hab : x.f0 > x.f1
    ·have e : edgeErr N p0 p1 x = 9 := by simp [edgeErr, hok, hab]
     rw [e]; simp only [if_pos hab]; exact Ev.const _
    ·simp only [if_neg hab]
     refine Ev.bind (compare_ok _ _ _ _) ?_
     by_cases hc : x.f0 < p0 ∨ x.f0 = p0 ∧ x.f1 ≤ p1
     ·have e : edgeErr N p0 p1 x = 9 := by
       unfold edgeErr
       rw [hok, if_neg (by decide), if_pos (by rcases hc with h | h; exact .inl h; exact .inr (.inl h))]
      rw [e]
      have h3 : (if p0 < x.f0 then (-1 : Int) else if p0 > x.f0 then 1 else if p1 < x.f1 then -1 else if p1 > x.f1 then 1 else 0) ≥ 0 := by
       rw [if_neg (by omega)]
       split
       ·decide
       ·rw [if_neg (by omega)]; split <;> decide
      simp only [if_pos h3]; exact Ev.const _
     ·have e : edgeErr N p0 p1 x = 0 := by
       unfold edgeErr
       rw [hok, if_neg (by decide), if_neg (by omega)]
      rw [e]
      have h3 : ¬ (if p0 < x.f0 then (-1 : Int) else if p0 > x.f0 then 1 else if p1 < x.f1 then -1 else if p1 > x.f1 then 1 else 0) ≥ 0 := by
       split
       ·decide
       ·rw [if_neg (by omega), if_pos (by omega)]; decide
      simp only [if_neg h3, wrap_succ (show i ≤ 1000000 by omega), if_true]
      exact ih
  by_cases h0 : 0 ≤ x.f0 ∧ x.f0 < N
  ·simp only [decide_eq_true h0, if_true]
   by_cases h1 : 0 ≤ x.f1 ∧ x.f1 < N
   ·simp only [decide_eq_true h1, if_true]
    by_cases h2 : x.f2 < 1
    ·simp only [if_pos h2]
     exact key true (by simp [edgeOk]; omega)
    ·simp only [if_neg h2]
     exact key _ (by unfold edgeOk; by_cases h3 : x.f2 > 50 <;> simp [h3] <;> omega)
   ·simp only [decide_eq_false h1, Bool.false_eq_true, if_false]
    exact key true (by simp [edgeOk]; omega)
  ·simp only [decide_eq_false h0, Bool.false_eq_true, if_false]
   exact key true (by simp [edgeOk]; omega)
theorem graph_check_ev (N : Int) (E : List S66) (hE : E.length ≤ 1000) : Ev (fun k => graph_Check.f k N E) (checkG N E) := by
 unfold graph_Check.f checkG
 have key : ∀ b : Bool, b = decide (N < 1 ∨ N > 12) → Ev (fun k => graph_Check.j0 k b N E) (if N < 1 ∨ N > 12 then 2 else checkFrom N (-1) (-1) E) := by
  rintro b rfl
  refine Ev.of_succ ?_
  simp only [graph_Check.j0]
  by_cases h : N < 1 ∨ N > 12
  ·simp [h]; exact Ev.const _
  ·simp only [decide_eq_false h, Bool.false_eq_true, if_false, if_neg h]
   have := check_l0 N E hE E.length 0 (-1) (-1) (by omega)
   simpa using this
 by_cases h : N < 1
 ·simp only [if_pos h]; exact key true (by simp [h])
 ·simp only [if_neg h]; exact key _ (by simp [h])
theorem vertex08_ok (N : Int) (E : List S66) (v : Int) : sandpileref08_Vertex.f N E v = some (decide (0 ≤ v ∧ v < N)) := by
 unfold sandpileref08_Vertex.f
 by_cases h : v ≥ 0
 ·rw [if_pos h]; congr 1; simp [show 0 ≤ v from h]
 ·rw [if_neg h]; congr 1; simp; omega
def prev0 (E : List S66) (i : Nat) : Int := if i = 0 then -1 else (rd_T66 E (i - 1 : Nat)).f0
def prev1 (E : List S66) (i : Nat) : Int := if i = 0 then -1 else (rd_T66 E (i - 1 : Nat)).f1
theorem edge08_ev (N : Int) (E : List S66) (hE : E.length ≤ 1000) (i : Nat) (hi : i < E.length) : Ev (fun k => sandpileref08_edge.f k N E i) (edgeErr N (prev0 E i) (prev1 E i) (rd_T66 E i)) := by
 unfold sandpileref08_edge.f
 simp only [if_pos (show (0 : Int) ≤ (i : Int) by omega), if_pos (show (i : Int) < (E.length : Int) by omega), vertex08_ok, Option.bind_some]
 generalize hx : rd_T66 E i = x
 have key : ∀ b : Bool, b = !edgeOk N x → Ev (fun k => sandpileref08_edge.j0 k i b N E x.f0 x.f1 x.f2) (edgeErr N (prev0 E i) (prev1 E i) x) := by
  rintro b rfl
  refine Ev.of_succ ?_
  simp only [sandpileref08_edge.j0]
  cases hok : edgeOk N x with
  | false => simp [edgeErr, hok]; exact Ev.const _
  | true =>
   simp only [Bool.not_true, Bool.false_eq_true, if_false]
   have hx0 : 0 ≤ x.f0 := by simp [edgeOk] at hok; omega
   by_cases hab : x.f0 > x.f1
   ·have e : edgeErr N (prev0 E i) (prev1 E i) x = 9 := by simp [edgeErr, hok, hab]
    rw [e]; simp only [if_pos hab]; exact Ev.const _
   ·simp only [if_neg hab]
    by_cases h0 : i = 0
    ·subst h0
     have e : edgeErr N (prev0 E 0) (prev1 E 0) x = 0 := by
      unfold edgeErr prev0 prev1
      rw [hok, if_neg (by decide), if_neg (by simp; omega)]
     rw [e]; simp; exact Ev.const _
    ·simp only [if_pos (show (i : Int) > 0 by omega), show wrap64 ((i : Int) - 1) = ((i - 1 : Nat) : Int) by rw [wrap_id (by omega)]; omega, if_pos (show (0 : Int) ≤ ((i - 1 : Nat) : Int) by omega), if_pos (show ((i - 1 : Nat) : Int) < (E.length : Int) by omega)]
     unfold prev0 prev1
     rw [if_neg h0, if_neg h0]
     generalize rd_T66 E (i - 1 : Nat) = y
     unfold edgeErr
     rw [hok, if_neg (show ¬ (true = false) by decide)]
     by_cases h1 : x.f0 < y.f0
     ·simp only [if_pos h1]; rw [if_pos (.inl h1)]; exact Ev.const _
     ·simp only [if_neg h1]
      by_cases h2 : x.f0 = y.f0
      ·simp only [if_pos h2]
       by_cases h3 : x.f1 ≤ y.f1
       ·simp only [if_pos h3]; rw [if_pos (.inr (.inl ⟨h2, h3⟩))]; exact Ev.const _
       ·simp only [if_neg h3]; rw [if_neg (by omega)]; exact Ev.const _
      ·simp only [if_neg h2]; rw [if_neg (by omega)]; exact Ev.const _
 by_cases h0 : 0 ≤ x.f0 ∧ x.f0 < N
 ·simp only [decide_eq_true h0, if_true]
  by_cases h1 : 0 ≤ x.f1 ∧ x.f1 < N
  ·simp only [decide_eq_true h1, if_true]
   by_cases h2 : x.f2 < 1
   ·simp only [if_pos h2]
    exact key true (by simp [edgeOk]; omega)
   ·simp only [if_neg h2]
    exact key _ (by unfold edgeOk; by_cases h3 : x.f2 > 50 <;> simp [h3] <;> omega)
  ·simp only [decide_eq_false h1, Bool.false_eq_true, if_false]
   exact key true (by simp [edgeOk]; omega)
 ·simp only [decide_eq_false h0, Bool.false_eq_true, if_false]
  exact key true (by simp [edgeOk]; omega)
theorem check08_l0 (N : Int) (E : List S66) (hE : E.length ≤ 1000) : ∀ (m i : Nat), i + m = E.length → Ev (fun k => sandpileref08_Check.l0 k i N E) (checkFrom N (prev0 E i) (prev1 E i) (E.drop i))
 | 0, i, hi => by
  refine Ev.of_succ ?_
  simp only [sandpileref08_Check.l0, if_neg (show ¬ ((i : Int) < (E.length : Int)) by omega)]
  rw [List.drop_eq_nil_of_le (by omega)]
  exact Ev.const _
 | m + 1, i, hi => by
  have ih := check08_l0 N E hE m (i + 1) (by omega)
  refine Ev.of_succ ?_
  simp only [sandpileref08_Check.l0, if_pos (show (i : Int) < (E.length : Int) by omega)]
  rw [rd_T_drop (by omega), checkFrom]
  refine Ev.bind (edge08_ev N E hE i (by omega)) ?_
  have e0 : prev0 E (i + 1) = (rd_T66 E i).f0 := by simp [prev0]
  have e1 : prev1 E (i + 1) = (rd_T66 E i).f1 := by simp [prev1]
  rw [e0, e1] at ih
  by_cases h : edgeErr N (prev0 E i) (prev1 E i) (rd_T66 E i) = 0
  ·simp only [if_pos h, wrap_succ (show i ≤ 1000000 by omega)]; exact ih
  ·simp only [if_neg h]; exact Ev.const _
theorem check08_ev (N : Int) (E : List S66) (hE : E.length ≤ 1000) : Ev (fun k => sandpileref08_Check.f k N E) (checkG N E) := by
 unfold sandpileref08_Check.f checkG
 have key : ∀ b : Bool, b = decide (N < 1 ∨ N > 12) → Ev (fun k => sandpileref08_Check.j0 k b N E) (if N < 1 ∨ N > 12 then 2 else checkFrom N (-1) (-1) E) := by
  rintro b rfl
  refine Ev.of_succ ?_
  simp only [sandpileref08_Check.j0]
  by_cases h : N < 1 ∨ N > 12
  ·simp [h]; exact Ev.const _
  ·simp only [decide_eq_false h, Bool.false_eq_true, if_false, if_neg h]
   have := check08_l0 N E hE E.length 0 (by omega)
   simpa [prev0, prev1] using this
 by_cases h : N < 1
 ·simp only [if_pos h]; exact key true (by simp [h])
 ·simp only [if_neg h]; exact key _ (by simp [h])
def Before (x y : S66) : Prop := x.f0 < y.f0 ∨ x.f0 = y.f0 ∧ x.f1 < y.f1
structure RightE (N : Int) (E : List S66) : Prop where
 ok : ∀ x ∈ E, edgeOk N x = true
 le : ∀ x ∈ E, x.f0 ≤ x.f1
 order : E.Pairwise Before
theorem checkFrom_zero {N : Int} : ∀ {E : List S66} {p0 p1 : Int}, checkFrom N p0 p1 E = 0 → (∀ x ∈ E, edgeOk N x = true ∧ x.f0 ≤ x.f1 ∧ (p0 < x.f0 ∨ p0 = x.f0 ∧ p1 < x.f1)) ∧ E.Pairwise Before
 | [], _, _, _ => ⟨fun x hx => absurd hx (by simp), List.Pairwise.nil⟩
 | y :: E, p0, p1, h => by
  rw [checkFrom] at h
  by_cases he : edgeErr N p0 p1 y = 0
  ·rw [if_pos he] at h
   obtain ⟨h1, h2⟩ := checkFrom_zero h
   have hy : edgeOk N y = true ∧ y.f0 ≤ y.f1 ∧ (p0 < y.f0 ∨ p0 = y.f0 ∧ p1 < y.f1) := by
    unfold edgeErr at he
    cases hok : edgeOk N y with
    | false => rw [hok] at he; simp at he
    | true =>
     rw [hok, if_neg (show ¬ (true = false) by decide)] at he
     by_cases hc : y.f0 < p0 ∨ y.f0 = p0 ∧ y.f1 ≤ p1 ∨ y.f0 > y.f1
     ·rw [if_pos hc] at he; exact absurd he (by decide)
     ·exact ⟨rfl, by omega, by omega⟩
   refine ⟨fun x hx => ?_, List.Pairwise.cons (fun x hx => (h1 x hx).2.2) h2⟩
   rcases List.mem_cons.1 hx with rfl | hx
   ·exact hy
   ·have := h1 x hx
    exact ⟨this.1, this.2.1, by omega⟩
  ·rw [if_neg he] at h; exact absurd h he
theorem checkG_zero {N : Int} {E : List S66} (h : checkG N E = 0) : 1 ≤ N ∧ N ≤ 12 ∧ RightE N E := by
 unfold checkG at h
 by_cases hN : N < 1 ∨ N > 12
 ·rw [if_pos hN] at h; exact absurd h (by decide)
 ·rw [if_neg hN] at h
  obtain ⟨h1, h2⟩ := checkFrom_zero h
  exact ⟨by omega, by omega, fun x hx => (h1 x hx).1, fun x hx => (h1 x hx).2.1, h2⟩
theorem RightE.inB {N : Int} {E : List S66} (h : RightE N E) : edgesInB N E = true := by
 refine List.all_eq_true.2 fun x hx => ?_
 have := h.ok x hx
 simpa [edgeOk] using this
theorem RightE.mults {N : Int} {E : List S66} (h : RightE N E) (hl : E.length ≤ 40) : multsOk E = true := by
 unfold multsOk
 rw [decide_eq_true hl, Bool.true_and]
 refine List.all_eq_true.2 fun x hx => ?_
 have := h.ok x hx
 simp [edgeOk] at this ⊢
 omega
def fewB (N : Int) (E : List S66) : Bool := if E.length > 40 then false else if checkG N E = 0 then (if N ≤ 5 then decide (sizeTo E E.length ≤ 8) else false) else true
theorem few_ev (N : Int) (E : List S66) : Ev (fun k => sandpileref08_FewTrees.f k N E) (fewB N E) := by
 unfold sandpileref08_FewTrees.f sandpileref08_small.f fewB
 by_cases hl : E.length > 40
 ·simp only [if_pos hl, if_pos (show (E.length : Int) > 40 by omega)]
  exact Ev.const _
 ·simp only [if_neg hl, if_neg (show ¬ (E.length : Int) > 40 by omega)]
  refine Ev.bind (a := if checkG N E = 0 then (if N ≤ 5 then decide (sizeTo E E.length ≤ 8) else false) else true) ?_ (Ev.const _)
  refine Ev.bind (check08_ev N E (by omega)) ?_
  by_cases h0 : checkG N E = 0
  ·simp only [if_pos h0]
   by_cases h5 : N ≤ 5
   ·simp only [if_pos h5, sandpileref08_Size.f, (checkG_zero h0).2.2.mults (by omega), Option.bind_some, if_true]
    rw [show decide (((sizeTo E E.length : Nat) : Int) ≤ 8) = decide (sizeTo E E.length ≤ 8) by congr 1; exact propext (by omega)]
    exact Ev.const _
   ·simp only [if_neg h5]; exact Ev.const _
  ·simp only [if_neg h0]; exact Ev.const _
def hitB (a b : Int) (x : S66) : Bool := decide (x.f0 = min a b ∧ x.f1 = max a b)
def btw (E : List S66) (a b : Int) : Int := match E.find? (hitB a b) with | some x => x.f2 | none => 0
theorem btw_cons (x : S66) (E : List S66) (a b : Int) : btw (x :: E) a b = if x.f0 = min a b ∧ x.f1 = max a b then x.f2 else btw E a b := by
 unfold btw
 rw [List.find?_cons]
 unfold hitB
 by_cases h : x.f0 = min a b ∧ x.f1 = max a b
 ·simp [h]
 ·rw [decide_eq_false h, if_neg h]
theorem btw_comm (E : List S66) (a b : Int) : btw E a b = btw E b a := by
 unfold btw hitB
 rw [show min a b = min b a by omega, show max a b = max b a by omega]
theorem between_l0 (N : Int) (E : List S66) (a b : Int) (hE : E.length ≤ 1000) : ∀ (m i : Nat), i + m = E.length → Ev (fun k => sandpileref08_Between.l0 k a b i N E) (btw (E.drop i) a b)
 | 0, i, hi => by
  refine Ev.of_succ ?_
  simp only [sandpileref08_Between.l0, if_neg (show ¬ ((i : Int) < (E.length : Int)) by omega)]
  rw [List.drop_eq_nil_of_le (by omega)]
  exact Ev.const _
 | m + 1, i, hi => by
  have ih := between_l0 N E a b hE m (i + 1) (by omega)
  refine Ev.of_succ ?_
  simp only [sandpileref08_Between.l0, if_pos (show (i : Int) < (E.length : Int) by omega), if_pos (show (0 : Int) ≤ (i : Int) by omega), wrap_succ (show i ≤ 1000000 by omega)]
  rw [rd_T_drop (by omega), btw_cons]
  rw [show mn a b = min a b from by unfold mn; omega, show mx a b = max a b from by unfold mx; omega]
  by_cases h0 : (rd_T66 E i).f0 = min a b
  ·simp only [if_pos h0]
   by_cases h1 : (rd_T66 E i).f1 = max a b
   ·simp only [if_pos h1]; rw [if_pos ⟨h0, h1⟩]; exact Ev.const _
   ·simp only [if_neg h1]; rw [if_neg (fun h => h1 h.2)]; exact ih
  ·simp only [if_neg h0]; rw [if_neg (fun h => h0 h.1)]; exact ih
theorem between_ev (N : Int) (E : List S66) (a b : Int) (hE : E.length ≤ 1000) : Ev (fun k => sandpileref08_Between.f k N E a b) (btw E a b) := by
 unfold sandpileref08_Between.f
 have := between_l0 N E a b hE E.length 0 (by omega)
 simpa using this
theorem btw_none {E : List S66} {a b : Int} (h : ∀ x ∈ E, ¬ (x.f0 = min a b ∧ x.f1 = max a b)) : E.find? (hitB a b) = none := by
 rw [List.find?_eq_none]
 intro x hx
 simp [hitB, h x hx]
theorem times_fold (a b : Nat) (hab : a ≠ b) : ∀ (E : List S66) (f : Nat → Nat → Int), (∀ x ∈ E, 0 ≤ x.f0 ∧ x.f0 ≤ x.f1) → E.Pairwise Before → E.foldl timesStep f a b = match E.find? (hitB a b) with | some x => x.f2 | none => f a b
 | [], f, _, _ => rfl
 | x :: E, f, h, hp => by
  have hx := h x (List.mem_cons_self ..)
  obtain ⟨h1, h2⟩ := List.pairwise_cons.1 hp
  rw [List.foldl_cons, times_fold a b hab E _ (fun y hy => h y (List.mem_cons_of_mem _ hy)) h2, List.find?_cons]
  by_cases hh : x.f0 = min (a : Int) b ∧ x.f1 = max (a : Int) b
  ·rw [show hitB a b x = true from by simp [hitB, hh]]
   rw [btw_none (fun y hy hy2 => by have := h1 y hy; unfold Before at this; omega)]
   show timesStep f x a b = x.f2
   unfold timesStep
   rw [if_neg (by omega)]
   by_cases h3 : a = x.f1.toNat ∧ b = x.f0.toNat
   ·rw [if_pos h3]
   ·rw [if_neg h3, if_pos (by omega)]
  ·rw [show hitB a b x = false from by simp [hitB]; omega]
   have e : timesStep f x a b = f a b := by
    unfold timesStep
    split
    ·rfl
    ·dsimp only
     rw [if_neg (by omega), if_neg (by omega)]
   rw [e]
theorem times_btw {N : Int} {E : List S66} (h : RightE N E) (a b : Nat) (hab : a ≠ b) : timesOf E a b = btw E a b := by
 unfold timesOf btw
 exact times_fold a b hab E _ (fun x hx => ⟨by have := h.ok x hx; simp [edgeOk] at this; omega, h.le x hx⟩) h.order
theorem btw_nonneg {N : Int} {E : List S66} (h : RightE N E) (a b : Int) : 0 ≤ btw E a b ∧ btw E a b ≤ 50 := by
 unfold btw
 split
 ·rename_i x hx
  have := h.ok x (List.mem_of_find?_eq_some hx)
  simp [edgeOk] at this; omega
 ·omega
def EConn (n : Nat) (E : List S66) : Prop := ∀ S : Nat → Bool, (∃ v, v < n ∧ S v = true) → (∃ v, v < n ∧ S v = false) → ∃ x, x ∈ E ∧ S x.f0.toNat ≠ S x.f1.toNat
theorem rootOf_lt {p : Nat → Nat} {v : Nat} (h : p v < v) : rootOf p v = rootOf p (p v) := by rw [rootOf, dif_pos h]
theorem rootOf_ge {p : Nat → Nat} {v : Nat} (h : ¬ p v < v) : rootOf p v = v := by rw [rootOf, dif_neg h]
theorem root_ge {p : Nat → Nat} {v : Nat} (h : rootOf p v = v) : ¬ p v < v := fun hl => by
 have h1 := rootOf_lt hl
 have h2 := rootOf_le p (p v)
 omega
theorem rootOf_join (p : Nat → Nat) (a b v : Nat) : rootOf (joinOf p a b) v = if rootOf p v = max (rootOf p a) (rootOf p b) then min (rootOf p a) (rootOf p b) else rootOf p v := by
 have ha := rootOf_root p a
 have hb := rootOf_root p b
 have hM : rootOf p (max (rootOf p a) (rootOf p b)) = max (rootOf p a) (rootOf p b) := by rw [Nat.max_def]; split <;> assumption
 have hm : rootOf p (min (rootOf p a) (rootOf p b)) = min (rootOf p a) (rootOf p b) := by rw [Nat.min_def]; split <;> assumption
 have hle : min (rootOf p a) (rootOf p b) ≤ max (rootOf p a) (rootOf p b) := by omega
 have hj : ∀ j, joinOf p a b j = if j = max (rootOf p a) (rootOf p b) then min (rootOf p a) (rootOf p b) else p j := fun j => rfl
 generalize max (rootOf p a) (rootOf p b) = M at *
 generalize min (rootOf p a) (rootOf p b) = m at *
 generalize joinOf p a b = q at *
 induction v using Nat.strongRecOn with
 | ind v ih =>
  by_cases e : v = M
  ·subst e
   rw [hM, if_pos rfl]
   by_cases hl : m < v
   ·have h1 : q v = m := by rw [hj, if_pos rfl]
    rw [rootOf_lt (by omega), h1]
    refine rootOf_ge ?_
    rw [hj, if_neg (by omega)]
    exact root_ge hm
   ·rw [rootOf_ge (by rw [hj, if_pos rfl]; exact hl)]
    omega
  ·have h1 : q v = p v := by rw [hj, if_neg e]
   by_cases hl : p v < v
   ·rw [rootOf_lt (p := q) (by omega), h1, ih _ hl, rootOf_lt (p := p) hl]
   ·rw [rootOf_ge (p := q) (by omega), rootOf_ge (p := p) hl, if_neg e]
theorem forest_inside (S : Nat → Bool) : ∀ (E : List S66) (p : Nat → Nat), (∀ x ∈ E, S x.f0.toNat = S x.f1.toNat) → (∀ v, S (rootOf p v) = S v) → ∀ v, S (rootOf (E.foldl (fun p x => joinOf p x.f0.toNat x.f1.toNat) p) v) = S v := by
 intro E
 induction E with
 | nil => exact fun p _ h => h
 | cons x E ih =>
  intro p hE h
  refine ih _ (fun y hy => hE y (List.mem_cons_of_mem _ hy)) fun v => ?_
  rw [rootOf_join]
  split
  ·rename_i e
   have hx := hE x (List.mem_cons_self ..)
   have h1 := h x.f0.toNat
   have h2 := h x.f1.toNat
   have hv := h v
   rw [e] at hv
   rw [← hv]
   rw [Nat.min_def, Nat.max_def]
   split <;> simp_all
  ·exact h v
theorem forest_joined : ∀ (E : List S66) (p : Nat → Nat) (u v : Nat), rootOf p u = rootOf p v → rootOf (E.foldl (fun p x => joinOf p x.f0.toNat x.f1.toNat) p) u = rootOf (E.foldl (fun p x => joinOf p x.f0.toNat x.f1.toNat) p) v := by
 intro E
 induction E with
 | nil => exact fun p u v h => h
 | cons x E ih =>
  intro p u v h
  refine ih _ u v ?_
  rw [rootOf_join, rootOf_join, h]
theorem forest_edges : ∀ (E : List S66) (p : Nat → Nat), ∀ x ∈ E, rootOf (E.foldl (fun p x => joinOf p x.f0.toNat x.f1.toNat) p) x.f0.toNat = rootOf (E.foldl (fun p x => joinOf p x.f0.toNat x.f1.toNat) p) x.f1.toNat := by
 intro E
 induction E with
 | nil => exact fun p x hx => absurd hx (by simp)
 | cons y E ih =>
  intro p x hx
  rcases List.mem_cons.1 hx with rfl | hx
  ·refine forest_joined E _ _ _ ?_
   rw [rootOf_join, rootOf_join]
   by_cases h1 : rootOf p x.f0.toNat = max (rootOf p x.f0.toNat) (rootOf p x.f1.toNat) <;> by_cases h2 : rootOf p x.f1.toNat = max (rootOf p x.f0.toNat) (rootOf p x.f1.toNat)
   ·rw [if_pos h1, if_pos h2]
   ·rw [if_pos h1, if_neg h2]; omega
   ·rw [if_neg h1, if_pos h2]; omega
   ·omega
  ·exact ih _ x hx
theorem rootsTo_pos (p : Nat → Nat) (h0 : rootOf p 0 = 0) : ∀ u, 1 ≤ u → 1 ≤ rootsTo p u
 | 0, h => by omega
 | u + 1, _ => by
  by_cases e : u = 0
  ·subst e; simp [rootsTo, h0]
  ·have := rootsTo_pos p h0 u (by omega)
   simp only [rootsTo]
   omega
theorem rootsTo_one (p : Nat → Nat) (h0 : rootOf p 0 = 0) : ∀ u, rootsTo p u = 1 → ∀ v, v < u → rootOf p v = v → v = 0
 | 0, h => by simp [rootsTo] at h
 | u + 1, h => by
  intro v hv hr
  simp only [rootsTo] at h
  by_cases e : u = 0
  ·omega
  ·have h1 := rootsTo_pos p h0 u (by omega)
   by_cases hu : rootOf p u = u
   ·rw [if_pos hu] at h; omega
   ·rw [if_neg hu] at h
    by_cases ev : v = u
    ·subst ev; exact absurd hr hu
    ·exact rootsTo_one p h0 u (by omega) v (by omega) hr
theorem rootsTo_all (p : Nat → Nat) : ∀ u, 1 ≤ u → (∀ v, v < u → rootOf p v = 0) → rootsTo p u = 1
 | 0, h, _ => by omega
 | u + 1, _, h => by
  by_cases e : u = 0
  ·subst e; simp [rootsTo, h 0 (by omega)]
  ·have := rootsTo_all p u (by omega) (fun v hv => h v (by omega))
   simp only [rootsTo]
   rw [this, h u (by omega), if_neg (fun e2 => e e2.symm)]
theorem conn_iff {n : Nat} {E : List S66} (hn : 1 ≤ n) (hE : EdgesIn n E) : rootsTo (forestOf E) n = 1 ↔ EConn n E := by
 have h0 : rootOf (forestOf E) 0 = 0 := Nat.le_zero.1 (rootOf_le _ 0)
 constructor
 ·rintro h S ⟨u, hu, hsu⟩ ⟨v, hv, hsv⟩
  refine Classical.byContradiction fun hx => ?_
  have hS : ∀ x ∈ E, S x.f0.toNat = S x.f1.toNat := fun x hxE => Classical.byContradiction fun hne => hx ⟨x, hxE, hne⟩
  have hin := forest_inside S E id hS (fun v => by rw [rootOf_ge (by simp)])
  have hall : ∀ w, w < n → rootOf (forestOf E) w = 0 := fun w hw => rootsTo_one _ h0 n h _ (Nat.lt_of_le_of_lt (rootOf_le _ w) hw) (rootOf_root _ w)
  have h1 := hin u
  have h2 := hin v
  rw [show E.foldl (fun p x => joinOf p x.f0.toNat x.f1.toNat) id = forestOf E from rfl] at h1 h2
  rw [hall u hu] at h1
  rw [hall v hv] at h2
  rw [h1, hsu] at h2
  rw [hsv] at h2
  cases h2
 ·intro h
  refine rootsTo_all _ n hn fun v hv => ?_
  refine Classical.byContradiction fun hne => ?_
  obtain ⟨x, hx, hs⟩ := h (fun u => decide (rootOf (forestOf E) u = 0)) ⟨0, by omega, by simp [h0]⟩ ⟨v, hv, by simp [hne]⟩
  have := forest_edges E id x hx
  rw [show E.foldl (fun p x => joinOf p x.f0.toNat x.f1.toNat) id = forestOf E from rfl] at this
  simp only [this, ne_eq, not_true_eq_false] at hs
end Go.Proofs.Ytffdiakgjakngaa.P
