/- SuperstableLists answers true whatever the input (text 7 of 15): own walks and plain laws; no conditions. -/
import Derived.BigRegion
import Derived.Deep.RegionHeld3
import Derived.RegionTactic
import Derived.Test.YtffdiakgjakngaaLists6
namespace Go.Proofs.Ytffdiakgjakngaa.P
open Go.RowKit Go.Proofs.YtffdiakgjakngaaW.PrintWords Go.Proofs.YtffdiakgjakngaaW.PrintLast Go.Proofs.YtffdiakgjakngaaW.PrintMore
set_option linter.unusedVariables false
set_option linter.unusedSimpArgs false
mutual
def sandpileref08_Reached.l0 : Nat → List Bool → Int → Int → List (S66) → Option (List Bool)
  | 0, _, _, _, _ => none
  | k + 1, x5, x6, x154000, x154001 => if x6 < x154000 then (sandpileref08_Reached.l1 k x5 x6 0 x154000 x154001) else (some x5)
def sandpileref08_Reached.l1 : Nat → List Bool → Int → Int → Int → List (S66) → Option (List Bool)
  | 0, _, _, _, _, _ => none
  | k + 1, x5, x6, x7, x154000, x154001 => if x7 < x154000 then (sandpileref08_Reached.l2 k x5 x6 x7 0 x154000 x154001) else (sandpileref08_Reached.l0 k x5 (wrap64 (x6 + 1)) x154000 x154001)
def sandpileref08_Reached.l2 : Nat → List Bool → Int → Int → Int → Int → List (S66) → Option (List Bool)
  | 0, _, _, _, _, _, _ => none
  | k + 1, x5, x6, x7, x8, x154000, x154001 => if x8 < x154000 then (if 0 ≤ x7 then (if x7 < (x5.length : Int) then (if rdOf false x5 x7 = true then ((sandpileref08_Between.f k x154000 x154001 x7 x8).bind fun t159 => (if t159 > 0 then (if 0 ≤ x8 then (if x8 < (x5.length : Int) then (sandpileref08_Reached.l2 k (x5.set (x8 : Int).toNat true) x6 x7 (wrap64 (x8 + 1)) x154000 x154001) else (none)) else (none)) else (sandpileref08_Reached.l2 k x5 x6 x7 (wrap64 (x8 + 1)) x154000 x154001))) else (sandpileref08_Reached.l2 k x5 x6 x7 (wrap64 (x8 + 1)) x154000 x154001)) else (none)) else (none)) else (sandpileref08_Reached.l1 k x5 x6 (wrap64 (x7 + 1)) x154000 x154001)
end
def sandpileref08_Reached.f (k : Nat) (a0_0 : Int) (l0_1 : List (S66)) (a1 : Int) : Option (List Bool) := if 0 ≤ a0_0 then (if (a0_0 : Int).toNat ≤ 281474976710656 then ((some (List.replicate (a0_0 : Int).toNat false : List Bool)).bind fun y154 => (if 0 ≤ a1 then (if a1 < (y154.length : Int) then (sandpileref08_Reached.l0 k (y154.set (a1 : Int).toNat true) 0 a0_0 l0_1) else (none)) else (none))) else (none)) else (none)
set_option maxHeartbeats 8000000 in
set_option maxRecDepth 100000 in
theorem sandpileref08_Reached.calls (k : Nat) (a0_0 : Int) (A0_1 : Option Addr) (c0_1 : Nat) (l0_1 : List (S66)) (a1 : Int) (r : List Bool) (w : World) (hr0_1 : Kd.C k66 w A0_1 l0_1.length l0_1) (hc0_1 : l0_1.length ≤ c0_1) (h : sandpileref08_Reached.f k a0_0 l0_1 a1 = some r) :
    Calls Try.prog 80 #[.agg #[.int .i64 a0_0, .slice A0_1 l0_1.length c0_1], .int .i64 a1] w fun e w' => ∃ v0_ : Value, e = .returned (v0_) ∧ Kd.R Kd.bool 4 w' w.heap.size (fun _ => True) v0_ r ∧ Below w.heap.size w w' := by
  have hu24 := Try.underlying24
  have HR0_1 := Aside0.mk hr0_1
  have HC0_1 := Aside0.mk hc0_1
  clear hr0_1 hc0_1
  have HB := Aside0.mk (Below.refl w.heap.size w)
  have H : (if 0 ≤ a0_0 then (if (a0_0 : Int).toNat ≤ 281474976710656 then ((some (List.replicate (a0_0 : Int).toNat false : List Bool)).bind fun y154 => (if 0 ≤ a1 then (if a1 < (y154.length : Int) then (sandpileref08_Reached.l0 k (y154.set (a1 : Int).toNat true) 0 a0_0 l0_1) else (none)) else (none))) else (none)) else (none)) = some r := h
  clear h
  by_cases c3 : 0 ≤ a0_0
  · rw [if_pos c3] at H
    have c3b0 := eq_true c3
    have c3b1 : decide (0 ≤ a0_0) = true := decide_eq_true c3
    clear c3
    by_cases c4 : (a0_0 : Int).toNat ≤ 281474976710656
    · rw [if_pos c4] at H
      have c4b0 := eq_true c4
      have c4b1 : decide ((a0_0 : Int).toNat ≤ 281474976710656) = true := decide_eq_true c4
      clear c4
      obtain ⟨y154, hy154⟩ : ∃ y_ : List Bool, y_ = (List.replicate (a0_0 : Int).toNat false) := ⟨_, rfl⟩
      replace H : (if 0 ≤ a1 then (if a1 < (y154.length : Int) then (sandpileref08_Reached.l0 k (y154.set (a1 : Int).toNat true) 0 a0_0 l0_1) else (none)) else (none)) = some r := by first | (rw [hy154]; with_reducible exact H) | (have H2_ := (Option.bind_some _ _).symm.trans H; rw [hy154]; with_reducible exact H2_) | (have H2_ := (Option.bind_some _ _).symm.trans H; with_reducible exact H2_) | with_reducible exact H | (rw [hy154]; exact H) | exact H
      have Ny154 := Aside0.mk hy154
      clear hy154
      by_cases c5 : 0 ≤ a1
      · rw [if_pos c5] at H
        have c5b0 : decide (0 ≤ a1) = true := decide_eq_true c5
        clear c5
        by_cases c6 : a1 < (y154.length : Int)
        · rw [if_pos c6] at H
          have c6b0 : decide (a1 < (y154.length : Int)) = true := decide_eq_true c6
          clear c6
          obtain ⟨y157, hy157⟩ : ∃ y_ : List Bool, y_ = (y154.set (a1 : Int).toNat true) := ⟨_, rfl⟩
          replace H : (sandpileref08_Reached.l0 k y157 0 a0_0 l0_1) = some r := by first | (rw [hy157]; with_reducible exact H) | (have H2_ := (Option.bind_some _ _).symm.trans H; rw [hy157]; with_reducible exact H2_) | (have H2_ := (Option.bind_some _ _).symm.trans H; with_reducible exact H2_) | with_reducible exact H | (rw [hy157]; exact H) | exact H
          have Ny157 := Aside0.mk hy157
          clear hy157
          have H' := Aside0.mk H
          clear H
          go_enter Try.func80, Try.ntmps80
          go_wp2_with (first | ((with_reducible refine gate_dst (N := 2) rfl ?_); refine box_event ?hg (N := 2) ?hd (cs := #[.int .i64 a0_0, .slice A0_1 l0_1.length c0_1]) (t := 24) ?hr ?_; (case hd => rfl); (case hg => rfl); (case hr => first | (go_simp; done) | (go_simp; rfl)); intro gb153 hg w8 hbox hb; have BK153 := Aside0.mk (hbox); have GW153 := zG HB hg; have GE153 := zG HB hg; replace HB := zS HB hb; clear hb hbox hg; obtain ⟨hcz9_0, hcz9_1, hfz9_0, hfz9_1⟩ := zD2 BK153) | ((with_reducible refine gate_dst (N := 11) rfl ?_); refine Kd.R_make Kd.bool _ 4 rfl (N := 11) rfl 97 _ _ rfl a0_0 rfl rfl Try.underlying97 (.bool false) 1 info4 rfl (by decide) (by omega) false (ok := fun _ => True) (okp := fun _ => True) rfl (fun _ hk => hk) trivial (of_decide_eq_true ‹_›) (Nat.le_trans (Nat.mul_le_mul_right _ (of_decide_eq_true ‹_› : a0_0.toNat ≤ 281474976710656)) (by omega)) (Below.refl _ _) (Nat.le_refl _) ?_; intro v155 w10 ho11 hb hg_ hnew_; clear hg_ hnew_; (first | rw [← Ny154.out] at ho11 | (simp only [Int.reduceToNat] at ho11; rw [← Ny154.out] at ho11)); have HO156 := Aside0.mk (Kd.R_lower ho11 (below_size zB)); replace BK153 := Aside0.mk (blk_below (zK BK153) hb); replace HB := zS HB hb; clear hb ho11; have p7 : 0 ≤ (a1 : Int) := of_decide_eq_true ‹_›; have q7 : (a1 : Int) < ((y154.length : Int) : Int) := of_decide_eq_true ‹_›; obtain ⟨go7, co7, eo7, gb7, gl7, cl7, HG7⟩ := Kd.R_form HO156.out (by omega); (first | cases eo7 | (injection eo7 with ea_ en_ ec_; (first | subst ea_ | (injection ea_ with ea_; subst ea_)); subst ec_; clear en_)); have GB7 := Aside0.mk gb7; have GG7 := Aside0.mk HG7; clear gb7 gl7 HG7; obtain ⟨hx7_0, hf7_0⟩ := Kd.R_celln false HO156.out (a1 : Int) p7 q7; replace p7 := eq_true p7; replace q7 := eq_true q7; obtain ⟨hy12_, hz12_⟩ := Kd.R_celln false HO156.out (a1 : Int) (of_decide_eq_true ‹_›) (of_decide_eq_true ‹_›); have HP12 := Kd.R_putg HO156.out (a1 : Int) true) | ((with_reducible refine gate_store (t := 4) (p := 14) rfl ?_); refine store_event (t := 4) (p := 14) (v := ?vo_w13) (w1 := (w10.setCell ⟨go7, (a1 : Int).toNat, none⟩ (.bool true))) ?hg ?ho ?hn ?hr ?_; (case ho => rfl); (case hg => rfl); (case hn => rfl); (case hr => first | (go_simp; done) | (go_simp; rfl)); intro w13 hw; have hg : w10.grownBy w13 (some go7) := (by rw [hw]; exact HP12.2); have hp_ : Kd.R Kd.bool 4 w13 w.heap.size (fun _ => True) (.slice (some ⟨go7, 0, none⟩) y154.length co7) y157 := (by rw [hw, Ny157.out]; exact HP12.1); clear HP12; replace BK153 := Aside0.mk (blk_grown (zK BK153) hg (Kd.R_ne HO156.out BK153.out (by decide))); replace HO156 := Aside0.mk (hp_); replace HB := Aside0.mk ((by rw [hw]; exact below_set (HB.out) GB7.out : Below w.heap.size w w13)); clear hg hw hp_))
          go_loopg [6] k (fun kq v6 w' => ∃ (x5_1 : List Bool) (x6_1 : Int), v6 = .int .i64 x6_1 ∧ Aside0 (sandpileref08_Reached.l0 kq x5_1 x6_1 a0_0 l0_1 = some r) ∧ Aside0 (kq ≤ k) ∧ Aside0 (Kd.R Kd.bool 4 w' w.heap.size (fun _ => True) (.slice (some ⟨go7, 0, none⟩) y154.length co7) x5_1) ∧ Aside0 (w'.heap[gb153]? = some (.cells #[.int .i64 a0_0, (.slice A0_1 l0_1.length c0_1)] 24 (0, 0))) ∧ Aside0 (Below w.heap.size w w'))
          case atStart => exact ⟨(y157), (0), zT, H', ⟨Nat.le_refl _⟩, ⟨zR HO156⟩, ⟨zK BK153⟩, ⟨zB⟩⟩
          case round =>
            clear H'
            try clear p2
            try clear c3
            try clear c3b0
            try clear c3b1
            try clear c4
            try clear c4b0
            try clear c4b1
            try clear c5
            try clear c5b0
            try clear c6
            try clear c6b0
            try clear p7
            try clear q7
            try clear hx7
            try clear hf7
            try clear c8
            try clear hcz9_0
            try clear hcz9_1
            try clear hfz9_0
            try clear hfz9_1
            try clear hx7_0
            try clear p7
            try clear q7
            obtain ⟨x5_1, x6_1, rfl, HA, HK1, HO_5, BK153, HB⟩ := hrel
            have hl5_1 := (Kd.R_reads' HO_5.out).1
            rw [hl5_1] at HO_5
            (try simp only [hl5_1])
            (try simp only [hl5_1] at BK153)
            cases gk with
            | zero => exact absurd HA.out (by simp [sandpileref08_Reached.l0])
            | succ k1 =>
              have H := HA.out
              clear HA
              simp only [sandpileref08_Reached.l0] at H
              by_cases c14 : x6_1 < a0_0
              · rw [if_pos c14] at H
                have c14b0 : decide (x6_1 < a0_0) = true := decide_eq_true c14
                clear c14
                have H' := Aside0.mk H
                clear H
                have hcz15_0 := z0 BK153
                have hcz15_1 := z1 BK153
                have hfz15_0 := blk_frozen BK153.out 0
                have hfz15_1 := blk_frozen BK153.out 1
                go_wp2
                go_loopg [7] k1 (fun kq v7 w' => ∃ (x5_2 : List Bool) (x7_2 : Int), v7 = .int .i64 x7_2 ∧ Aside0 (sandpileref08_Reached.l1 kq x5_2 x6_1 x7_2 a0_0 l0_1 = some r) ∧ Aside0 (kq ≤ k1) ∧ Aside0 (Kd.R Kd.bool 4 w' w.heap.size (fun _ => True) (.slice (some ⟨go7, 0, none⟩) x5_1.length co7) x5_2) ∧ Aside0 (w'.heap[gb153]? = some (.cells #[.int .i64 a0_0, (.slice A0_1 l0_1.length c0_1)] 24 (0, 0))) ∧ Aside0 (Below w.heap.size w w'))
                case atStart => exact ⟨(x5_1), (0), zT, H', ⟨Nat.le_refl _⟩, ⟨by (try simp only [hl5_1]); (with_reducible repeat (first | apply Kd.R_alloc | apply Kd.R_drewN | apply Kd.R_drew)); exact HO_5.out⟩, ⟨by (try simp only [hl5_1]); exact zK BK153⟩, ⟨zB⟩⟩
                case round =>
                  clear H'
                  try clear c1
                  try clear p2
                  try clear c3
                  try clear c3b0
                  try clear c3b1
                  try clear c4
                  try clear c4b0
                  try clear c4b1
                  try clear c5
                  try clear c5b0
                  try clear c6
                  try clear c6b0
                  try clear p7
                  try clear q7
                  try clear hx7
                  try clear hf7
                  try clear c8
                  try clear c14
                  try clear c14b0
                  try clear hcz15_0
                  try clear hcz15_1
                  try clear hcz9_0
                  try clear hcz9_1
                  try clear hfz15_0
                  try clear hfz15_1
                  try clear hfz9_0
                  try clear hfz9_1
                  try clear hx7_0
                  try clear p2
                  try clear p7
                  try clear q7
                  obtain ⟨x5_2, x7_2, rfl, HA, HK2, HO_5, BK153, HB⟩ := hrel
                  have hl5_2 := (Kd.R_reads' HO_5.out).1
                  rw [hl5_2] at HO_5
                  (try simp only [hl5_2])
                  (try simp only [hl5_2] at BK153)
                  cases gk with
                  | zero => exact absurd HA.out (by simp [sandpileref08_Reached.l1])
                  | succ k2 =>
                    have H := HA.out
                    clear HA
                    simp only [sandpileref08_Reached.l1] at H
                    by_cases c16 : x7_2 < a0_0
                    · rw [if_pos c16] at H
                      have c16b0 : decide (x7_2 < a0_0) = true := decide_eq_true c16
                      clear c16
                      have H' := Aside0.mk H
                      clear H
                      have hcz17_0 := z0 BK153
                      have hcz17_1 := z1 BK153
                      have hfz17_0 := blk_frozen BK153.out 0
                      have hfz17_1 := blk_frozen BK153.out 1
                      go_wp2
                      go_loopg [8] k2 (fun kq v8 w' => ∃ (x5_3 : List Bool) (x8_3 : Int), v8 = .int .i64 x8_3 ∧ Aside0 (sandpileref08_Reached.l2 kq x5_3 x6_1 x7_2 x8_3 a0_0 l0_1 = some r) ∧ Aside0 (kq ≤ k2) ∧ Aside0 (Kd.R Kd.bool 4 w' w.heap.size (fun _ => True) (.slice (some ⟨go7, 0, none⟩) x5_2.length co7) x5_3) ∧ Aside0 (w'.heap[gb153]? = some (.cells #[.int .i64 a0_0, (.slice A0_1 l0_1.length c0_1)] 24 (0, 0))) ∧ Aside0 (Below w.heap.size w w'))
                      case atStart => exact ⟨(x5_2), (0), zT, H', ⟨Nat.le_refl _⟩, ⟨by (try simp only [hl5_1]); (try simp only [hl5_2]); (with_reducible repeat (first | apply Kd.R_alloc | apply Kd.R_drewN | apply Kd.R_drew)); exact HO_5.out⟩, ⟨by (try simp only [hl5_1]); (try simp only [hl5_2]); exact zK BK153⟩, ⟨zB⟩⟩
                      case round =>
                        clear H'
                        try clear c1
                        try clear p2
                        try clear c3
                        try clear c3b0
                        try clear c3b1
                        try clear c4
                        try clear c4b0
                        try clear c4b1
                        try clear c5
                        try clear c5b0
                        try clear c6
                        try clear c6b0
                        try clear p7
                        try clear q7
                        try clear hx7
                        try clear hf7
                        try clear c8
                        try clear c14
                        try clear c14b0
                        try clear c16
                        try clear c16b0
                        try clear hcz15_0
                        try clear hcz15_1
                        try clear hcz17_0
                        try clear hcz17_1
                        try clear hcz9_0
                        try clear hcz9_1
                        try clear hfz15_0
                        try clear hfz15_1
                        try clear hfz17_0
                        try clear hfz17_1
                        try clear hfz9_0
                        try clear hfz9_1
                        try clear hx7_0
                        try clear p2
                        try clear p7
                        try clear q7
                        obtain ⟨x5_3, x8_3, rfl, HA, HK3, HO_5, BK153, HB⟩ := hrel
                        have hl5_3 := (Kd.R_reads' HO_5.out).1
                        rw [hl5_3] at HO_5
                        (try simp only [hl5_3])
                        (try simp only [hl5_3] at BK153)
                        cases gk with
                        | zero => exact absurd HA.out (by simp [sandpileref08_Reached.l2])
                        | succ k3 =>
                          have H := HA.out
                          clear HA
                          simp only [sandpileref08_Reached.l2] at H
                          by_cases c18 : x8_3 < a0_0
                          · rw [if_pos c18] at H
                            have c18b0 : decide (x8_3 < a0_0) = true := decide_eq_true c18
                            clear c18
                            by_cases c19 : 0 ≤ x7_2
                            · rw [if_pos c19] at H
                              have c19b0 : decide (0 ≤ x7_2) = true := decide_eq_true c19
                              clear c19
                              by_cases c20 : x7_2 < (x5_3.length : Int)
                              · rw [if_pos c20] at H
                                have c20b0 : decide (x7_2 < (x5_3.length : Int)) = true := decide_eq_true c20
                                clear c20
                                obtain ⟨bq21, hbq21⟩ : ∃ b_ : Bool, b_ = (rdOf false x5_3 x7_2) := ⟨_, rfl⟩
                                replace H : (if bq21 = true then ((sandpileref08_Between.f k3 a0_0 l0_1 x7_2 x8_3).bind fun t159 => (if t159 > 0 then (if 0 ≤ x8_3 then (if x8_3 < (x5_3.length : Int) then (sandpileref08_Reached.l2 k3 (x5_3.set (x8_3 : Int).toNat true) x6_1 x7_2 (wrap64 (x8_3 + 1)) a0_0 l0_1) else (none)) else (none)) else (sandpileref08_Reached.l2 k3 x5_3 x6_1 x7_2 (wrap64 (x8_3 + 1)) a0_0 l0_1))) else (sandpileref08_Reached.l2 k3 x5_3 x6_1 x7_2 (wrap64 (x8_3 + 1)) a0_0 l0_1)) = some r := by rw [← hbq21] at H; exact H
                                have Nbq21 := Aside0.mk hbq21
                                clear hbq21
                                by_cases c22 : bq21 = true
                                · subst c22
                                  have H1 : ((sandpileref08_Between.f k3 a0_0 l0_1 x7_2 x8_3).bind fun t159 => (if t159 > 0 then (if 0 ≤ x8_3 then (if x8_3 < (x5_3.length : Int) then (sandpileref08_Reached.l2 k3 (x5_3.set (x8_3 : Int).toNat true) x6_1 x7_2 (wrap64 (x8_3 + 1)) a0_0 l0_1) else (none)) else (none)) else (sandpileref08_Reached.l2 k3 x5_3 x6_1 x7_2 (wrap64 (x8_3 + 1)) a0_0 l0_1))) = some r := by rw [if_pos rfl] at H; exact H
                                  clear H
                                  have H := H1
                                  clear H1
                                  replace H := Option.bind_eq_some_iff.mp H
                                  obtain ⟨t159, A230, H⟩ := H
                                  replace H : (if t159 > 0 then (if 0 ≤ x8_3 then (if x8_3 < (x5_3.length : Int) then (sandpileref08_Reached.l2 k3 (x5_3.set (x8_3 : Int).toNat true) x6_1 x7_2 (wrap64 (x8_3 + 1)) a0_0 l0_1) else (none)) else (none)) else (sandpileref08_Reached.l2 k3 x5_3 x6_1 x7_2 (wrap64 (x8_3 + 1)) a0_0 l0_1)) = some r := H
                                  have A23 := Aside0.mk A230
                                  clear A230
                                  by_cases c24 : t159 > 0
                                  · rw [if_pos c24] at H
                                    have c24b0 : decide (0 < t159) = true := decide_eq_true c24
                                    clear c24
                                    by_cases c25 : 0 ≤ x8_3
                                    · rw [if_pos c25] at H
                                      have c25b0 : decide (0 ≤ x8_3) = true := decide_eq_true c25
                                      clear c25
                                      by_cases c26 : x8_3 < (x5_3.length : Int)
                                      · rw [if_pos c26] at H
                                        have c26b0 : decide (x8_3 < (x5_3.length : Int)) = true := decide_eq_true c26
                                        clear c26
                                        obtain ⟨y160, hy160⟩ : ∃ y_ : List Bool, y_ = (x5_3.set (x8_3 : Int).toNat true) := ⟨_, rfl⟩
                                        replace H : (sandpileref08_Reached.l2 k3 y160 x6_1 x7_2 (wrap64 (x8_3 + 1)) a0_0 l0_1) = some r := by first | (rw [hy160]; with_reducible exact H) | (have H2_ := (Option.bind_some _ _).symm.trans H; rw [hy160]; with_reducible exact H2_) | (have H2_ := (Option.bind_some _ _).symm.trans H; with_reducible exact H2_) | with_reducible exact H | (rw [hy160]; exact H) | exact H
                                        have Ny160 := Aside0.mk hy160
                                        clear hy160
                                        have H' := Aside0.mk H
                                        clear H
                                        have hcz28_0 := z0 BK153
                                        have hcz28_1 := z1 BK153
                                        have hfz28_0 := blk_frozen BK153.out 0
                                        have hfz28_1 := blk_frozen BK153.out 1
                                        have p158 : 0 ≤ (x7_2 : Int) := of_decide_eq_true ‹_›
                                        have q158 : x7_2 < (x5_3.length : Int) := of_decide_eq_true ‹_›
                                        obtain ⟨ad158, e158, hx158_0⟩ := Kd.at_bool (Kd.R_reads' HO_5.out).2.2 x7_2 p158 q158
                                        (try rw [← Nbq21.out] at hx158_0)
                                        obtain rfl : (⟨go7, 0, none⟩ : Addr) = ad158 := (by injection e158)
                                        (first | simp only [add_plain] at hx158_0 | simp only [add_at] at hx158_0 | simp only [Addr.add, Nat.zero_add] at hx158_0 | skip)
                                        replace p158 := eq_true p158
                                        replace q158 := eq_true q158
                                        go_wp2_with (first | (go_at_call 97; (with_reducible refine (sandpileref08_Between.calls k3 a0_0 _ _ l0_1 x7_2 x8_3 t159 _ ?side1 ?side2 A23.out).mono ?_); (case side1 => exact Kd.C_below HR0_1.out zB); (case side2 => exact HC0_1.out); rintro e w29 ⟨rfl, hb⟩; replace HO_5 := Aside0.mk (Kd.R_below (zR HO_5) hb); replace BK153 := Aside0.mk (blk_below (zK BK153) hb); replace HB := zS HB hb; (try clear hb); have p27 : 0 ≤ (x8_3 : Int) := of_decide_eq_true ‹_›; have q27 : (x8_3 : Int) < ((x5_3.length : Int) : Int) := of_decide_eq_true ‹_›; obtain ⟨hx27_0, hf27_0⟩ := Kd.R_celln false HO_5.out (x8_3 : Int) p27 q27; replace p27 := eq_true p27; replace q27 := eq_true q27; obtain ⟨hy30_, hz30_⟩ := Kd.R_celln false HO_5.out (x8_3 : Int) (of_decide_eq_true ‹_›) (of_decide_eq_true ‹_›); have HP30 := Kd.R_putg HO_5.out (x8_3 : Int) true) | ((with_reducible refine gate_store (t := 4) (p := 46) rfl ?_); refine store_event (t := 4) (p := 46) (v := ?vo_w31) (w1 := (w29.setCell ⟨go7, (x8_3 : Int).toNat, none⟩ (.bool true))) ?hg ?ho ?hn ?hr ?_; (case ho => rfl); (case hg => rfl); (case hn => rfl); (case hr => first | (go_simp; done) | (go_simp; rfl)); intro w31 hw; have hg : w29.grownBy w31 (some go7) := (by rw [hw]; exact HP30.2); have hp_ : Kd.R Kd.bool 4 w31 w.heap.size (fun _ => True) (.slice (some ⟨go7, 0, none⟩) x5_3.length co7) y160 := (by rw [hw, Ny160.out]; exact HP30.1); clear HP30; replace BK153 := Aside0.mk (blk_grown (zK BK153) hg (Kd.R_ne HO_5.out BK153.out (by decide))); replace HO_5 := Aside0.mk (hp_); replace HB := Aside0.mk ((by rw [hw]; exact below_set (HB.out) GB7.out : Below w.heap.size w w31)); clear hg hw hp_))
                                        (try simp only [← hl5_3])
                                        go_roundg k3
                                        case measure => have := HK1.out; have := HK2.out; have := HK3.out; omega
                                        case rel => exact ⟨(y160), (wrap64 (x8_3 + 1)), zT, H', ⟨by have := HK1.out; have := HK2.out; have := HK3.out; omega⟩, ⟨by (try simp only [hl5_1]); (try simp only [hl5_2]); (try simp only [hl5_3]); (with_reducible repeat (first | apply Kd.R_alloc | apply Kd.R_drewN | apply Kd.R_drew)); exact HO_5.out⟩, ⟨by (try simp only [hl5_1]); (try simp only [hl5_2]); (try simp only [hl5_3]); exact zK BK153⟩, ⟨zB⟩⟩
                                      · rw [if_neg c26] at H
                                        exact absurd H (by simp)
                                    · rw [if_neg c25] at H
                                      exact absurd H (by simp)
                                  · rw [if_neg c24] at H
                                    have c24b0 : decide (0 < t159) = false := decide_eq_false c24
                                    clear c24
                                    have H' := Aside0.mk H
                                    clear H
                                    have hcz32_0 := z0 BK153
                                    have hcz32_1 := z1 BK153
                                    have hfz32_0 := blk_frozen BK153.out 0
                                    have hfz32_1 := blk_frozen BK153.out 1
                                    have p158 : 0 ≤ (x7_2 : Int) := of_decide_eq_true ‹_›
                                    have q158 : x7_2 < (x5_3.length : Int) := of_decide_eq_true ‹_›
                                    obtain ⟨ad158, e158, hx158_0⟩ := Kd.at_bool (Kd.R_reads' HO_5.out).2.2 x7_2 p158 q158
                                    (try rw [← Nbq21.out] at hx158_0)
                                    obtain rfl : (⟨go7, 0, none⟩ : Addr) = ad158 := (by injection e158)
                                    (first | simp only [add_plain] at hx158_0 | simp only [add_at] at hx158_0 | simp only [Addr.add, Nat.zero_add] at hx158_0 | skip)
                                    replace p158 := eq_true p158
                                    replace q158 := eq_true q158
                                    go_wp2_with (first | (go_at_call 97; (with_reducible refine (sandpileref08_Between.calls k3 a0_0 _ _ l0_1 x7_2 x8_3 t159 _ ?side1 ?side2 A23.out).mono ?_); (case side1 => exact Kd.C_below HR0_1.out zB); (case side2 => exact HC0_1.out); rintro e w33 ⟨rfl, hb⟩; replace HO_5 := Aside0.mk (Kd.R_below (zR HO_5) hb); replace BK153 := Aside0.mk (blk_below (zK BK153) hb); replace HB := zS HB hb; (try clear hb)))
                                    (try simp only [← hl5_3])
                                    go_roundg k3
                                    case measure => have := HK1.out; have := HK2.out; have := HK3.out; omega
                                    case rel => exact ⟨(x5_3), (wrap64 (x8_3 + 1)), zT, H', ⟨by have := HK1.out; have := HK2.out; have := HK3.out; omega⟩, ⟨by (try simp only [hl5_1]); (try simp only [hl5_2]); (try simp only [hl5_3]); (with_reducible repeat (first | apply Kd.R_alloc | apply Kd.R_drewN | apply Kd.R_drew)); exact HO_5.out⟩, ⟨by (try simp only [hl5_1]); (try simp only [hl5_2]); (try simp only [hl5_3]); exact zK BK153⟩, ⟨zB⟩⟩
                                · replace c22 := Bool.eq_false_iff.mpr c22
                                  subst c22
                                  have H1 : (sandpileref08_Reached.l2 k3 x5_3 x6_1 x7_2 (wrap64 (x8_3 + 1)) a0_0 l0_1) = some r := by rw [if_neg (show ¬ (false = true) by decide)] at H; exact H
                                  clear H
                                  have H := H1
                                  clear H1
                                  have H' := Aside0.mk H
                                  clear H
                                  have hcz34_0 := z0 BK153
                                  have hcz34_1 := z1 BK153
                                  have hfz34_0 := blk_frozen BK153.out 0
                                  have hfz34_1 := blk_frozen BK153.out 1
                                  have p158 : 0 ≤ (x7_2 : Int) := of_decide_eq_true ‹_›
                                  have q158 : x7_2 < (x5_3.length : Int) := of_decide_eq_true ‹_›
                                  obtain ⟨ad158, e158, hx158_0⟩ := Kd.at_bool (Kd.R_reads' HO_5.out).2.2 x7_2 p158 q158
                                  (try rw [← Nbq21.out] at hx158_0)
                                  obtain rfl : (⟨go7, 0, none⟩ : Addr) = ad158 := (by injection e158)
                                  (first | simp only [add_plain] at hx158_0 | simp only [add_at] at hx158_0 | simp only [Addr.add, Nat.zero_add] at hx158_0 | skip)
                                  replace p158 := eq_true p158
                                  replace q158 := eq_true q158
                                  go_wp2
                                  (try simp only [← hl5_3])
                                  go_roundg k3
                                  case measure => have := HK1.out; have := HK2.out; have := HK3.out; omega
                                  case rel => exact ⟨(x5_3), (wrap64 (x8_3 + 1)), zT, H', ⟨by have := HK1.out; have := HK2.out; have := HK3.out; omega⟩, ⟨by (try simp only [hl5_1]); (try simp only [hl5_2]); (try simp only [hl5_3]); (with_reducible repeat (first | apply Kd.R_alloc | apply Kd.R_drewN | apply Kd.R_drew)); exact HO_5.out⟩, ⟨by (try simp only [hl5_1]); (try simp only [hl5_2]); (try simp only [hl5_3]); exact zK BK153⟩, ⟨zB⟩⟩
                              · rw [if_neg c20] at H
                                exact absurd H (by simp)
                            · rw [if_neg c19] at H
                              exact absurd H (by simp)
                          · rw [if_neg c18] at H
                            have c18b0 : decide (x8_3 < a0_0) = false := decide_eq_false c18
                            clear c18
                            have H' := Aside0.mk H
                            clear H
                            have hcz35_0 := z0 BK153
                            have hcz35_1 := z1 BK153
                            have hfz35_0 := blk_frozen BK153.out 0
                            have hfz35_1 := blk_frozen BK153.out 1
                            go_wp2
                            (try simp only [← hl5_2, ← hl5_3])
                            go_roundg k3
                            case measure => have := HK1.out; have := HK2.out; have := HK3.out; omega
                            case rel => exact ⟨(x5_3), (wrap64 (x7_2 + 1)), zT, H', ⟨by have := HK1.out; have := HK2.out; have := HK3.out; omega⟩, ⟨by (try simp only [hl5_1]); (try simp only [hl5_2]); (try simp only [hl5_3]); (with_reducible repeat (first | apply Kd.R_alloc | apply Kd.R_drewN | apply Kd.R_drew)); exact HO_5.out⟩, ⟨by (try simp only [hl5_1]); (try simp only [hl5_2]); (try simp only [hl5_3]); exact zK BK153⟩, ⟨zB⟩⟩
                    · rw [if_neg c16] at H
                      have c16b0 : decide (x7_2 < a0_0) = false := decide_eq_false c16
                      clear c16
                      have H' := Aside0.mk H
                      clear H
                      have hcz36_0 := z0 BK153
                      have hcz36_1 := z1 BK153
                      have hfz36_0 := blk_frozen BK153.out 0
                      have hfz36_1 := blk_frozen BK153.out 1
                      go_wp2
                      (try simp only [← hl5_1, ← hl5_2])
                      go_roundg k2
                      case measure => have := HK1.out; have := HK2.out; omega
                      case rel => exact ⟨(x5_2), (wrap64 (x6_1 + 1)), zT, H', ⟨by have := HK1.out; have := HK2.out; omega⟩, ⟨by (try simp only [hl5_1]); (try simp only [hl5_2]); (with_reducible repeat (first | apply Kd.R_alloc | apply Kd.R_drewN | apply Kd.R_drew)); exact HO_5.out⟩, ⟨by (try simp only [hl5_1]); (try simp only [hl5_2]); exact zK BK153⟩, ⟨zB⟩⟩
              · rw [if_neg c14] at H
                have c14b0 : decide (x6_1 < a0_0) = false := decide_eq_false c14
                clear c14
                obtain rfl := Option.some.inj H
                have hcz37_0 := z0 BK153
                have hcz37_1 := z1 BK153
                have hfz37_0 := blk_frozen BK153.out 0
                have hfz37_1 := blk_frozen BK153.out 1
                go_wp2
                go_ret
                exact ⟨_, zE, by (with_reducible repeat (first | apply Kd.R_alloc | apply Kd.R_drewN | apply Kd.R_drew)); exact HO_5.out, zB⟩
        · rw [if_neg c6] at H
          exact absurd H (by simp)
      · rw [if_neg c5] at H
        exact absurd H (by simp)
    · rw [if_neg c4] at H
      exact absurd H (by simp)
  · rw [if_neg c3] at H
    exact absurd H (by simp)
mutual
def sandpileref08_Parts.l0 : Nat → Int → List Bool → Int → Int → List (S66) → Option (Int)
  | 0, _, _, _, _, _ => none
  | k + 1, x3, x4, x5, x162000, x162001 => if x5 < x162000 then (if 0 ≤ x5 then (if x5 < (x4.length : Int) then (if rdOf false x4 x5 = true then (sandpileref08_Parts.l0 k x3 x4 (wrap64 (x5 + 1)) x162000 x162001) else ((sandpileref08_Reached.f k x162000 x162001 x5).bind fun t166 => (sandpileref08_Parts.l1 k (wrap64 (x3 + 1)) x4 x5 t166 0 x162000 x162001))) else (none)) else (none)) else (some x3)
def sandpileref08_Parts.l1 : Nat → Int → List Bool → Int → List Bool → Int → Int → List (S66) → Option (Int)
  | 0, _, _, _, _, _, _, _ => none
  | k + 1, x3, x4, x5, x6, x7, x162000, x162001 => if x7 < x162000 then (if 0 ≤ x7 then (if x7 < (x4.length : Int) then (if rdOf false x4 x7 = true then (sandpileref08_Parts.l1 k x3 (x4.set (x7 : Int).toNat true) x5 x6 (wrap64 (x7 + 1)) x162000 x162001) else (if x7 < (x6.length : Int) then (sandpileref08_Parts.l1 k x3 (x4.set (x7 : Int).toNat (rdOf false x6 x7)) x5 x6 (wrap64 (x7 + 1)) x162000 x162001) else (none))) else (none)) else (none)) else (sandpileref08_Parts.l0 k x3 x4 (wrap64 (x5 + 1)) x162000 x162001)
end
def sandpileref08_Parts.f (k : Nat) (a0_0 : Int) (l0_1 : List (S66)) : Option (Int) := if 0 ≤ a0_0 then (if (a0_0 : Int).toNat ≤ 281474976710656 then (sandpileref08_Parts.l0 k 0 (List.replicate (a0_0 : Int).toNat false) 0 a0_0 l0_1) else (none)) else (none)
set_option maxHeartbeats 8000000 in
set_option maxRecDepth 100000 in
theorem sandpileref08_Parts.calls (k : Nat) (a0_0 : Int) (A0_1 : Option Addr) (c0_1 : Nat) (l0_1 : List (S66)) (r : Int) (w : World) (hr0_1 : Kd.C k66 w A0_1 l0_1.length l0_1) (hc0_1 : l0_1.length ≤ c0_1) (h : sandpileref08_Parts.f k a0_0 l0_1 = some r) :
    Calls Try.prog 60 #[.agg #[.int .i64 a0_0, .slice A0_1 l0_1.length c0_1]] w fun e w' => e = .returned (.int .i64 r) ∧ Below w.heap.size w w' := by
  have hu24 := Try.underlying24
  have HR0_1 := Aside0.mk hr0_1
  have HC0_1 := Aside0.mk hc0_1
  clear hr0_1 hc0_1
  have HB := Aside0.mk (Below.refl w.heap.size w)
  have H : (if 0 ≤ a0_0 then (if (a0_0 : Int).toNat ≤ 281474976710656 then (sandpileref08_Parts.l0 k 0 (List.replicate (a0_0 : Int).toNat false) 0 a0_0 l0_1) else (none)) else (none)) = some r := h
  clear h
  by_cases c2 : 0 ≤ a0_0
  · rw [if_pos c2] at H
    have c2b0 := eq_true c2
    have c2b1 : decide (0 ≤ a0_0) = true := decide_eq_true c2
    clear c2
    by_cases c3 : (a0_0 : Int).toNat ≤ 281474976710656
    · rw [if_pos c3] at H
      have c3b0 := eq_true c3
      have c3b1 : decide ((a0_0 : Int).toNat ≤ 281474976710656) = true := decide_eq_true c3
      clear c3
      obtain ⟨y162, hy162⟩ : ∃ y_ : List Bool, y_ = (List.replicate (a0_0 : Int).toNat false) := ⟨_, rfl⟩
      replace H : (sandpileref08_Parts.l0 k 0 y162 0 a0_0 l0_1) = some r := by first | (rw [hy162]; with_reducible exact H) | (have H2_ := (Option.bind_some _ _).symm.trans H; rw [hy162]; with_reducible exact H2_) | (have H2_ := (Option.bind_some _ _).symm.trans H; with_reducible exact H2_) | with_reducible exact H | (rw [hy162]; exact H) | exact H
      have Ny162 := Aside0.mk hy162
      clear hy162
      have H' := Aside0.mk H
      clear H
      go_enter Try.func60, Try.ntmps60
      go_wp2_with (first | ((with_reducible refine gate_dst (N := 1) rfl ?_); refine box_event ?hg (N := 1) ?hd (cs := #[.int .i64 a0_0, .slice A0_1 l0_1.length c0_1]) (t := 24) ?hr ?_; (case hd => rfl); (case hg => rfl); (case hr => first | (go_simp; done) | (go_simp; rfl)); intro gb161 hg w4 hbox hb; have BK161 := Aside0.mk (hbox); have GW161 := zG HB hg; have GE161 := zG HB hg; replace HB := zS HB hb; clear hb hbox hg; obtain ⟨hcz5_0, hcz5_1, hfz5_0, hfz5_1⟩ := zD2 BK161) | ((with_reducible refine gate_dst (N := 10) rfl ?_); refine Kd.R_make Kd.bool _ 4 rfl (N := 10) rfl 97 _ _ rfl a0_0 rfl rfl Try.underlying97 (.bool false) 1 info4 rfl (by decide) (by omega) false (ok := fun _ => True) (okp := fun _ => True) rfl (fun _ hk => hk) trivial (of_decide_eq_true ‹_›) (Nat.le_trans (Nat.mul_le_mul_right _ (of_decide_eq_true ‹_› : a0_0.toNat ≤ 281474976710656)) (by omega)) (Below.refl _ _) (Nat.le_refl _) ?_; intro v163 w6 ho7 hb hg_ hnew_; clear hg_ hnew_; (first | rw [← Ny162.out] at ho7 | (simp only [Int.reduceToNat] at ho7; rw [← Ny162.out] at ho7)); have HO164 := Aside0.mk (Kd.R_lower ho7 (below_size zB)); replace BK161 := Aside0.mk (blk_below (zK BK161) hb); replace HB := zS HB hb; clear hb ho7))
      go_loopg [3, 5] k (fun kq v3 v5 w' => ∃ (x3_1 : Int) (x4_1 : List Bool) (x5_1 : Int), v3 = .int .i64 x3_1 ∧ v5 = .int .i64 x5_1 ∧ Aside0 (sandpileref08_Parts.l0 kq x3_1 x4_1 x5_1 a0_0 l0_1 = some r) ∧ Aside0 (kq ≤ k) ∧ Aside0 (Kd.R Kd.bool 4 w' w.heap.size (fun _ => True) v163 x4_1) ∧ Aside0 (w'.heap[gb161]? = some (.cells #[.int .i64 a0_0, (.slice A0_1 l0_1.length c0_1)] 24 (0, 0))) ∧ Aside0 (Below w.heap.size w w'))
      case atStart => exact ⟨(0), (y162), (0), zT, zT, H', ⟨Nat.le_refl _⟩, ⟨zR HO164⟩, ⟨zK BK161⟩, ⟨zB⟩⟩
      case round =>
        clear H'
        try clear c2
        try clear c2b0
        try clear c2b1
        try clear p2
        try clear c3
        try clear c3b0
        try clear c3b1
        try clear c6
        try clear hcz5_0
        try clear hcz5_1
        try clear hfz5_0
        try clear hfz5_1
        obtain ⟨x3_1, x4_1, x5_1, rfl, rfl, HA, HK1, HO_4, BK161, HB⟩ := hrel
        cases gk with
        | zero => exact absurd HA.out (by simp [sandpileref08_Parts.l0])
        | succ k1 =>
          have H := HA.out
          clear HA
          simp only [sandpileref08_Parts.l0] at H
          by_cases c8 : x5_1 < a0_0
          · rw [if_pos c8] at H
            have c8b0 : decide (x5_1 < a0_0) = true := decide_eq_true c8
            clear c8
            by_cases c9 : 0 ≤ x5_1
            · rw [if_pos c9] at H
              have c9b0 : decide (0 ≤ x5_1) = true := decide_eq_true c9
              clear c9
              by_cases c10 : x5_1 < (x4_1.length : Int)
              · rw [if_pos c10] at H
                have c10b0 : decide (x5_1 < (x4_1.length : Int)) = true := decide_eq_true c10
                clear c10
                obtain ⟨bq11, hbq11⟩ : ∃ b_ : Bool, b_ = (rdOf false x4_1 x5_1) := ⟨_, rfl⟩
                replace H : (if bq11 = true then (sandpileref08_Parts.l0 k1 x3_1 x4_1 (wrap64 (x5_1 + 1)) a0_0 l0_1) else ((sandpileref08_Reached.f k1 a0_0 l0_1 x5_1).bind fun t166 => (sandpileref08_Parts.l1 k1 (wrap64 (x3_1 + 1)) x4_1 x5_1 t166 0 a0_0 l0_1))) = some r := by rw [← hbq11] at H; exact H
                have Nbq11 := Aside0.mk hbq11
                clear hbq11
                by_cases c12 : bq11 = true
                · subst c12
                  have H1 : (sandpileref08_Parts.l0 k1 x3_1 x4_1 (wrap64 (x5_1 + 1)) a0_0 l0_1) = some r := by rw [if_pos rfl] at H; exact H
                  clear H
                  have H := H1
                  clear H1
                  have H' := Aside0.mk H
                  clear H
                  have hcz13_0 := z0 BK161
                  have hcz13_1 := z1 BK161
                  have hfz13_0 := blk_frozen BK161.out 0
                  have hfz13_1 := blk_frozen BK161.out 1
                  obtain ⟨Ao14, co14, eo14⟩ := Kd.R_slice HO_4.out
                  subst eo14
                  have p165 : 0 ≤ (x5_1 : Int) := of_decide_eq_true ‹_›
                  have q165 : x5_1 < (x4_1.length : Int) := of_decide_eq_true ‹_›
                  obtain ⟨ad165, e165, hx165_0⟩ := Kd.at_bool (Kd.R_reads' HO_4.out).2.2 x5_1 p165 q165
                  (try rw [← Nbq11.out] at hx165_0)
                  cases e165
                  replace p165 := eq_true p165
                  replace q165 := eq_true q165
                  go_wp2
                  go_roundg k1
                  case measure => have := HK1.out; omega
                  case rel => exact ⟨(x3_1), (x4_1), (wrap64 (x5_1 + 1)), zT, zT, H', ⟨by have := HK1.out; omega⟩, ⟨zR HO_4⟩, ⟨zK BK161⟩, ⟨zB⟩⟩
                · replace c12 := Bool.eq_false_iff.mpr c12
                  subst c12
                  have H1 : ((sandpileref08_Reached.f k1 a0_0 l0_1 x5_1).bind fun t166 => (sandpileref08_Parts.l1 k1 (wrap64 (x3_1 + 1)) x4_1 x5_1 t166 0 a0_0 l0_1)) = some r := by rw [if_neg (show ¬ (false = true) by decide)] at H; exact H
                  clear H
                  have H := H1
                  clear H1
                  replace H := Option.bind_eq_some_iff.mp H
                  obtain ⟨t166, A150, H⟩ := H
                  replace H : (sandpileref08_Parts.l1 k1 (wrap64 (x3_1 + 1)) x4_1 x5_1 t166 0 a0_0 l0_1) = some r := H
                  have A15 := Aside0.mk A150
                  clear A150
                  have H' := Aside0.mk H
                  clear H
                  have hcz16_0 := z0 BK161
                  have hcz16_1 := z1 BK161
                  have hfz16_0 := blk_frozen BK161.out 0
                  have hfz16_1 := blk_frozen BK161.out 1
                  obtain ⟨Ao17, co17, eo17⟩ := Kd.R_slice HO_4.out
                  subst eo17
                  have p165 : 0 ≤ (x5_1 : Int) := of_decide_eq_true ‹_›
                  have q165 : x5_1 < (x4_1.length : Int) := of_decide_eq_true ‹_›
                  obtain ⟨ad165, e165, hx165_0⟩ := Kd.at_bool (Kd.R_reads' HO_4.out).2.2 x5_1 p165 q165
                  (try rw [← Nbq11.out] at hx165_0)
                  cases e165
                  obtain ⟨gq165, hgq165⟩ := Kd.R_head HO_4.out
                  subst hgq165
                  simp only [add_plain] at hx165_0
                  replace p165 := eq_true p165
                  replace q165 := eq_true q165
                  go_wp2_with (first | ((with_reducible refine gate_callee (f := 80) rfl ?_); refine zL (some 25) Try.func80 #[.agg #[.int .i64 a0_0, .slice A0_1 l0_1.length c0_1], .int .i64 x5_1] ?_; (with_reducible refine (sandpileref08_Reached.calls k1 a0_0 _ _ l0_1 x5_1 t166 _ ?side1 ?side2 A15.out).mono ?_); (case side1 => exact Kd.C_below HR0_1.out zB); (case side2 => exact HC0_1.out); rintro e w18 ⟨v167, rfl, ho0, hb⟩; refine ⟨_, rfl, ?_⟩; have HO168 := Aside0.mk (Kd.R_lower (Kd.R_new' ho0 (Kd.R_lt (zR HO_4))) (below_size zB)); replace HO_4 := Aside0.mk (Kd.R_elder' (zR HO_4) (Kd.R_base ho0) hb); replace BK161 := Aside0.mk (blk_below (zK BK161) hb); replace HB := zS HB hb; (try clear hb); (try clear ho0)))
                  go_loopg [7] k1 (fun kq v7 w' => ∃ (x4_2 : List Bool) (x7_2 : Int), v7 = .int .i64 x7_2 ∧ Aside0 (sandpileref08_Parts.l1 kq (wrap64 (x3_1 + 1)) x4_2 x5_1 t166 x7_2 a0_0 l0_1 = some r) ∧ Aside0 (kq ≤ k1) ∧ Aside0 (Kd.R Kd.bool 4 w' w.heap.size (fun k_ => some k_ ≠ (v167 : Value).ownBlock) (.slice (some ⟨gq165, 0, none⟩) x4_1.length co17) x4_2) ∧ Aside0 (Kd.R Kd.bool 4 w' w.heap.size (fun k_ => some k_ ≠ ((.slice (some ⟨gq165, 0, none⟩) x4_1.length co17) : Value).ownBlock) v167 t166) ∧ Aside0 (w'.heap[gb161]? = some (.cells #[.int .i64 a0_0, (.slice A0_1 l0_1.length c0_1)] 24 (0, 0))) ∧ Aside0 (Below w.heap.size w w'))
                  case atStart => exact ⟨(x4_1), (0), zT, H', ⟨Nat.le_refl _⟩, ⟨by (with_reducible repeat (first | apply Kd.R_alloc | apply Kd.R_drewN | apply Kd.R_drew)); exact Kd.R_mono HO_4.out (fun _ hk => hk.2)⟩, ⟨by (with_reducible repeat (first | apply Kd.R_alloc | apply Kd.R_drewN | apply Kd.R_drew)); exact Kd.R_mono HO168.out (fun _ hk => hk.2)⟩, ⟨zK BK161⟩, ⟨zB⟩⟩
                  case round =>
                    clear H'
                    try clear c1
                    try clear p1
                    try clear q1
                    try clear hx1
                    try clear c2
                    try clear c2b0
                    try clear c2b1
                    try clear p2
                    try clear c3
                    try clear c3b0
                    try clear c3b1
                    try clear c6
                    try clear p6
                    try clear c8
                    try clear c8b0
                    try clear c9
                    try clear c9b0
                    try clear c10
                    try clear c10b0
                    try clear q11
                    try clear c12
                    try clear p16
                    try clear q16
                    try clear hx16
                    try clear hcz13_0
                    try clear hcz13_1
                    try clear hcz16_0
                    try clear hcz16_1
                    try clear hcz5_0
                    try clear hcz5_1
                    try clear hfz13_0
                    try clear hfz13_1
                    try clear hfz16_0
                    try clear hfz16_1
                    try clear hfz5_0
                    try clear hfz5_1
                    try clear hx165_0
                    try clear p165
                    try clear p2
                    try clear q165
                    obtain ⟨x4_2, x7_2, rfl, HA, HK2, HO_4, HO_6, BK161, HB⟩ := hrel
                    have hl4_2 := (Kd.R_reads' HO_4.out).1
                    rw [hl4_2] at HO_4
                    (try simp only [hl4_2])
                    (try simp only [hl4_2] at BK161)
                    (try simp only [hl4_2] at HO_6)
                    cases gk with
                    | zero => exact absurd HA.out (by simp [sandpileref08_Parts.l1])
                    | succ k2 =>
                      have H := HA.out
                      clear HA
                      simp only [sandpileref08_Parts.l1] at H
                      by_cases c19 : x7_2 < a0_0
                      · rw [if_pos c19] at H
                        have c19b0 : decide (x7_2 < a0_0) = true := decide_eq_true c19
                        clear c19
                        by_cases c20 : 0 ≤ x7_2
                        · rw [if_pos c20] at H
                          have c20b0 : decide (0 ≤ x7_2) = true := decide_eq_true c20
                          clear c20
                          by_cases c21 : x7_2 < (x4_2.length : Int)
                          · rw [if_pos c21] at H
                            have c21b0 : decide (x7_2 < (x4_2.length : Int)) = true := decide_eq_true c21
                            clear c21
                            obtain ⟨bq22, hbq22⟩ : ∃ b_ : Bool, b_ = (rdOf false x4_2 x7_2) := ⟨_, rfl⟩
                            replace H : (if bq22 = true then (sandpileref08_Parts.l1 k2 (wrap64 (x3_1 + 1)) (x4_2.set (x7_2 : Int).toNat true) x5_1 t166 (wrap64 (x7_2 + 1)) a0_0 l0_1) else (if x7_2 < (t166.length : Int) then (sandpileref08_Parts.l1 k2 (wrap64 (x3_1 + 1)) (x4_2.set (x7_2 : Int).toNat (rdOf false t166 x7_2)) x5_1 t166 (wrap64 (x7_2 + 1)) a0_0 l0_1) else (none))) = some r := by rw [← hbq22] at H; exact H
                            have Nbq22 := Aside0.mk hbq22
                            clear hbq22
                            by_cases c23 : bq22 = true
                            · subst c23
                              have H1 : (sandpileref08_Parts.l1 k2 (wrap64 (x3_1 + 1)) (x4_2.set (x7_2 : Int).toNat true) x5_1 t166 (wrap64 (x7_2 + 1)) a0_0 l0_1) = some r := by rw [if_pos rfl] at H; exact H
                              clear H
                              have H := H1
                              clear H1
                              obtain ⟨y170, hy170⟩ : ∃ y_ : List Bool, y_ = (x4_2.set (x7_2 : Int).toNat true) := ⟨_, rfl⟩
                              replace H : (sandpileref08_Parts.l1 k2 (wrap64 (x3_1 + 1)) y170 x5_1 t166 (wrap64 (x7_2 + 1)) a0_0 l0_1) = some r := by first | (rw [hy170]; with_reducible exact H) | (have H2_ := (Option.bind_some _ _).symm.trans H; rw [hy170]; with_reducible exact H2_) | (have H2_ := (Option.bind_some _ _).symm.trans H; with_reducible exact H2_) | with_reducible exact H | (rw [hy170]; exact H) | exact H
                              have Ny170 := Aside0.mk hy170
                              clear hy170
                              have H' := Aside0.mk H
                              clear H
                              have hcz25_0 := z0 BK161
                              have hcz25_1 := z1 BK161
                              have hfz25_0 := blk_frozen BK161.out 0
                              have hfz25_1 := blk_frozen BK161.out 1
                              have p169 : 0 ≤ (x7_2 : Int) := of_decide_eq_true ‹_›
                              have q169 : x7_2 < (x4_2.length : Int) := of_decide_eq_true ‹_›
                              obtain ⟨ad169, e169, hx169_0⟩ := Kd.at_bool (Kd.R_reads' HO_4.out).2.2 x7_2 p169 q169
                              (try rw [← Nbq11.out] at hx169_0)
                              (try rw [← Nbq22.out] at hx169_0)
                              obtain rfl : (⟨gq165, 0, none⟩ : Addr) = ad169 := (by injection e169)
                              replace p169 := eq_true p169
                              replace q169 := eq_true q169
                              have p24 : 0 ≤ (x7_2 : Int) := of_decide_eq_true ‹_›
                              have q24 : (x7_2 : Int) < ((x4_2.length : Int) : Int) := of_decide_eq_true ‹_›
                              obtain ⟨go24, co24, eo24, gb24, gl24, cl24, HG24⟩ := Kd.R_form HO_4.out (by omega)
                              (first | (injection eo24 with ea_ en_ ec_; (first | subst ea_ | (injection ea_ with ea_; first | subst ea_ | (injection ea_ with ea_; have ea_ := ea_.symm; subst ea_))); subst ec_; clear en_))
                              have GB24 := Aside0.mk gb24
                              have GG24 := Aside0.mk HG24
                              clear gb24 gl24 HG24
                              (first | simp only [add_plain] at hx165_0 | skip)
                              (first | simp only [add_plain] at hx169_0 | skip)
                              obtain ⟨hx24_0, hf24_0⟩ := Kd.R_celln false HO_4.out (x7_2 : Int) p24 q24
                              replace p24 := eq_true p24
                              replace q24 := eq_true q24
                              have HP26 := Kd.R_putg HO_4.out (x7_2 : Int) true
                              go_wp2_with (first | ((with_reducible refine gate_store (t := 4) (p := 44) rfl ?_); refine store_event (t := 4) (p := 44) (v := ?vo_w27) (w1 := (wr.setCell ⟨go24, (x7_2 : Int).toNat, none⟩ (.bool true))) ?hg ?ho ?hn ?hr ?_; (case ho => rfl); (case hg => rfl); (case hn => rfl); (case hr => first | (go_simp; done) | (go_simp; rfl)); intro w27 hw; have hg : wr.grownBy w27 (some go24) := (by rw [hw]; exact HP26.2); have hp_ : Kd.R Kd.bool 4 w27 w.heap.size (fun k_ => some k_ ≠ (v167 : Value).ownBlock) (.slice (some ⟨go24, 0, none⟩) x4_2.length co17) y170 := (by rw [hw, Ny170.out]; exact HP26.1); clear HP26; replace HO_6 := Aside0.mk (Kd.R_after (v := (.slice (some ⟨go24, 0, none⟩) x4_2.length co17)) (v1 := (.slice (some ⟨go24, 0, none⟩) x4_2.length co17)) (ok := (fun _ => True)) (by (with_reducible repeat (first | apply Kd.R_alloc | apply Kd.R_drewN | apply Kd.R_drew)); exact Kd.R_mono HO_6.out (fun _ hk => ⟨trivial, hk⟩)) hg (.inl rfl)); replace BK161 := Aside0.mk (blk_grown (zK BK161) hg (Kd.R_ne HO_4.out BK161.out (by decide))); replace HO_4 := Aside0.mk (hp_); replace HB := Aside0.mk ((by rw [hw]; exact below_set (HB.out) GB24.out : Below w.heap.size w w27)); clear hg hw hp_))
                              (try simp only [← hl4_2])
                              go_roundg k2
                              case measure => have := HK1.out; have := HK2.out; omega
                              case rel => exact ⟨(y170), (wrap64 (x7_2 + 1)), zT, H', ⟨by have := HK1.out; have := HK2.out; omega⟩, ⟨by (try simp only [hl4_2]); (with_reducible repeat (first | apply Kd.R_alloc | apply Kd.R_drewN | apply Kd.R_drew)); exact HO_4.out⟩, ⟨by (try simp only [hl4_2]); (with_reducible repeat (first | apply Kd.R_alloc | apply Kd.R_drewN | apply Kd.R_drew)); exact Kd.R_mono HO_6.out (fun _ hk => hk.2)⟩, ⟨by (try simp only [hl4_2]); exact zK BK161⟩, ⟨zB⟩⟩
                            · replace c23 := Bool.eq_false_iff.mpr c23
                              subst c23
                              have H1 : (if x7_2 < (t166.length : Int) then (sandpileref08_Parts.l1 k2 (wrap64 (x3_1 + 1)) (x4_2.set (x7_2 : Int).toNat (rdOf false t166 x7_2)) x5_1 t166 (wrap64 (x7_2 + 1)) a0_0 l0_1) else (none)) = some r := by rw [if_neg (show ¬ (false = true) by decide)] at H; exact H
                              clear H
                              have H := H1
                              clear H1
                              by_cases c28 : x7_2 < (t166.length : Int)
                              · rw [if_pos c28] at H
                                have c28b0 : decide (x7_2 < (t166.length : Int)) = true := decide_eq_true c28
                                clear c28
                                obtain ⟨y172, hy172⟩ : ∃ y_ : List Bool, y_ = (x4_2.set (x7_2 : Int).toNat (rdOf false t166 x7_2)) := ⟨_, rfl⟩
                                replace H : (sandpileref08_Parts.l1 k2 (wrap64 (x3_1 + 1)) y172 x5_1 t166 (wrap64 (x7_2 + 1)) a0_0 l0_1) = some r := by first | (rw [hy172]; with_reducible exact H) | (have H2_ := (Option.bind_some _ _).symm.trans H; rw [hy172]; with_reducible exact H2_) | (have H2_ := (Option.bind_some _ _).symm.trans H; with_reducible exact H2_) | with_reducible exact H | (rw [hy172]; exact H) | exact H
                                have Ny172 := Aside0.mk hy172
                                clear hy172
                                have H' := Aside0.mk H
                                clear H
                                have hcz30_0 := z0 BK161
                                have hcz30_1 := z1 BK161
                                have hfz30_0 := blk_frozen BK161.out 0
                                have hfz30_1 := blk_frozen BK161.out 1
                                have p169 : 0 ≤ (x7_2 : Int) := of_decide_eq_true ‹_›
                                have q169 : x7_2 < (x4_2.length : Int) := of_decide_eq_true ‹_›
                                obtain ⟨ad169, e169, hx169_0⟩ := Kd.at_bool (Kd.R_reads' HO_4.out).2.2 x7_2 p169 q169
                                (try rw [← Nbq11.out] at hx169_0)
                                (try rw [← Nbq22.out] at hx169_0)
                                obtain rfl : (⟨gq165, 0, none⟩ : Addr) = ad169 := (by injection e169)
                                replace p169 := eq_true p169
                                replace q169 := eq_true q169
                                obtain ⟨Ao31, co31, eo31⟩ := Kd.R_slice HO_6.out
                                subst eo31
                                have p171 : 0 ≤ (x7_2 : Int) := of_decide_eq_true ‹_›
                                have q171 : x7_2 < (t166.length : Int) := of_decide_eq_true ‹_›
                                obtain ⟨ad171, e171, hx171_0⟩ := Kd.at_bool (Kd.R_reads' HO_6.out).2.2 x7_2 p171 q171
                                (try rw [← Nbq11.out] at hx171_0)
                                (try rw [← Nbq22.out] at hx171_0)
                                cases e171
                                replace p171 := eq_true p171
                                replace q171 := eq_true q171
                                have p29 : 0 ≤ (x7_2 : Int) := of_decide_eq_true ‹_›
                                have q29 : (x7_2 : Int) < ((x4_2.length : Int) : Int) := of_decide_eq_true ‹_›
                                obtain ⟨go29, co29, eo29, gb29, gl29, cl29, HG29⟩ := Kd.R_form HO_4.out (by omega)
                                (first | (injection eo29 with ea_ en_ ec_; (first | subst ea_ | (injection ea_ with ea_; first | subst ea_ | (injection ea_ with ea_; have ea_ := ea_.symm; subst ea_))); subst ec_; clear en_))
                                have GB29 := Aside0.mk gb29
                                have GG29 := Aside0.mk HG29
                                clear gb29 gl29 HG29
                                (first | simp only [add_plain] at hx169_0 | skip)
                                obtain ⟨hx29_0, hf29_0⟩ := Kd.R_celln false HO_4.out (x7_2 : Int) p29 q29
                                replace p29 := eq_true p29
                                replace q29 := eq_true q29
                                have HP32 := Kd.R_putg HO_4.out (x7_2 : Int) (rdOf false t166 x7_2)
                                go_wp2_with (first | ((with_reducible refine gate_store (t := 4) (p := 44) rfl ?_); refine store_event (t := 4) (p := 44) (v := ?vo_w33) (w1 := (wr.setCell ⟨go29, (x7_2 : Int).toNat, none⟩ (.bool (rdOf false t166 x7_2)))) ?hg ?ho ?hn ?hr ?_; (case ho => rfl); (case hg => rfl); (case hn => rfl); (case hr => first | (go_simp; done) | (go_simp; rfl)); intro w33 hw; have hg : wr.grownBy w33 (some go29) := (by rw [hw]; exact HP32.2); have hp_ : Kd.R Kd.bool 4 w33 w.heap.size (fun k_ => some k_ ≠ (.slice (some ad171) t166.length co31 : Value).ownBlock) (.slice (some ⟨go29, 0, none⟩) x4_2.length co17) y172 := (by rw [hw, Ny172.out]; exact HP32.1); clear HP32; replace HO_6 := Aside0.mk (Kd.R_after (v := (.slice (some ⟨go29, 0, none⟩) x4_2.length co17)) (v1 := (.slice (some ⟨go29, 0, none⟩) x4_2.length co17)) (ok := (fun _ => True)) (by (with_reducible repeat (first | apply Kd.R_alloc | apply Kd.R_drewN | apply Kd.R_drew)); exact Kd.R_mono HO_6.out (fun _ hk => ⟨trivial, hk⟩)) hg (.inl rfl)); replace BK161 := Aside0.mk (blk_grown (zK BK161) hg (Kd.R_ne HO_4.out BK161.out (by decide))); replace HO_4 := Aside0.mk (hp_); replace HB := Aside0.mk ((by rw [hw]; exact below_set (HB.out) GB29.out : Below w.heap.size w w33)); clear hg hw hp_))
                                (try simp only [← hl4_2])
                                go_roundg k2
                                case measure => have := HK1.out; have := HK2.out; omega
                                case rel => exact ⟨(y172), (wrap64 (x7_2 + 1)), zT, H', ⟨by have := HK1.out; have := HK2.out; omega⟩, ⟨by (try simp only [hl4_2]); (with_reducible repeat (first | apply Kd.R_alloc | apply Kd.R_drewN | apply Kd.R_drew)); exact HO_4.out⟩, ⟨by (try simp only [hl4_2]); (with_reducible repeat (first | apply Kd.R_alloc | apply Kd.R_drewN | apply Kd.R_drew)); exact Kd.R_mono HO_6.out (fun _ hk => hk.2)⟩, ⟨by (try simp only [hl4_2]); exact zK BK161⟩, ⟨zB⟩⟩
                              · rw [if_neg c28] at H
                                exact absurd H (by simp)
                          · rw [if_neg c21] at H
                            exact absurd H (by simp)
                        · rw [if_neg c20] at H
                          exact absurd H (by simp)
                      · rw [if_neg c19] at H
                        have c19b0 : decide (x7_2 < a0_0) = false := decide_eq_false c19
                        clear c19
                        have H' := Aside0.mk H
                        clear H
                        have hcz34_0 := z0 BK161
                        have hcz34_1 := z1 BK161
                        have hfz34_0 := blk_frozen BK161.out 0
                        have hfz34_1 := blk_frozen BK161.out 1
                        go_wp2
                        (try simp only [← hl4_2])
                        go_roundg k2
                        case measure => have := HK1.out; have := HK2.out; omega
                        case rel => exact ⟨((wrap64 (x3_1 + 1))), (x4_2), (wrap64 (x5_1 + 1)), zT, zT, H', ⟨by have := HK1.out; have := HK2.out; omega⟩, ⟨by (try simp only [hl4_2]); (with_reducible repeat (first | apply Kd.R_alloc | apply Kd.R_drewN | apply Kd.R_drew)); exact Kd.R_mono HO_4.out (fun _ hk => trivial)⟩, ⟨by (try simp only [hl4_2]); exact zK BK161⟩, ⟨zB⟩⟩
              · rw [if_neg c10] at H
                exact absurd H (by simp)
            · rw [if_neg c9] at H
              exact absurd H (by simp)
          · rw [if_neg c8] at H
            have c8b0 : decide (x5_1 < a0_0) = false := decide_eq_false c8
            clear c8
            obtain rfl := Option.some.inj H
            have hcz35_0 := z0 BK161
            have hcz35_1 := z1 BK161
            have hfz35_0 := blk_frozen BK161.out 0
            have hfz35_1 := blk_frozen BK161.out 1
            go_wp2
            go_ret
            exact ⟨zE, zB⟩
    · rw [if_neg c3] at H
      exact absurd H (by simp)
  · rw [if_neg c2] at H
    exact absurd H (by simp)
def sandpileref08_Connected.f (k : Nat) (a0_0 : Int) (l0_1 : List (S66)) : Option (Bool) := (sandpileref08_Parts.f k a0_0 l0_1).bind fun t174 => (some (t174 == 1))
set_option maxHeartbeats 8000000 in
set_option maxRecDepth 100000 in
theorem sandpileref08_Connected.calls (k : Nat) (a0_0 : Int) (A0_1 : Option Addr) (c0_1 : Nat) (l0_1 : List (S66)) (r : Bool) (w : World) (hr0_1 : Kd.C k66 w A0_1 l0_1.length l0_1) (hc0_1 : l0_1.length ≤ c0_1) (h : sandpileref08_Connected.f k a0_0 l0_1 = some r) :
    Calls Try.prog 47 #[.agg #[.int .i64 a0_0, .slice A0_1 l0_1.length c0_1]] w fun e w' => e = .returned (.bool r) ∧ Below w.heap.size w w' := by
  have hu24 := Try.underlying24
  have HR0_1 := Aside0.mk hr0_1
  have HC0_1 := Aside0.mk hc0_1
  clear hr0_1 hc0_1
  have HB := Aside0.mk (Below.refl w.heap.size w)
  have H : ((sandpileref08_Parts.f k a0_0 l0_1).bind fun t174 => (some (t174 == 1))) = some r := h
  clear h
  replace H := Option.bind_eq_some_iff.mp H
  obtain ⟨t174, A20, H⟩ := H
  replace H : (some (t174 == 1)) = some r := H
  have A2 := Aside0.mk A20
  clear A20
  obtain rfl := Option.some.inj H
  go_enter Try.func47, Try.ntmps47
  go_wp2_with (first | ((with_reducible refine gate_dst (N := 1) rfl ?_); refine box_event ?hg (N := 1) ?hd (cs := #[.int .i64 a0_0, .slice A0_1 l0_1.length c0_1]) (t := 24) ?hr ?_; (case hd => rfl); (case hg => rfl); (case hr => first | (go_simp; done) | (go_simp; rfl)); intro gb173 hg w3 hbox hb; have BK173 := Aside0.mk (hbox); have GW173 := zG HB hg; have GE173 := zG HB hg; replace HB := zS HB hb; clear hb hbox hg; obtain ⟨hcz4_0, hcz4_1, hfz4_0, hfz4_1⟩ := zD2 BK173) | ((with_reducible refine gate_callee (f := 60) rfl ?_); refine zL (some 4) Try.func60 #[.agg #[.int .i64 a0_0, .slice A0_1 l0_1.length c0_1]] ?_; (with_reducible refine (sandpileref08_Parts.calls k a0_0 _ _ l0_1 t174 _ ?side1 ?side2 A2.out).mono ?_); (case side1 => exact Kd.C_below HR0_1.out zB); (case side2 => exact HC0_1.out); rintro e w5 ⟨rfl, hb⟩; refine ⟨_, rfl, ?_⟩; replace BK173 := Aside0.mk (blk_below (zK BK173) hb); replace HB := zS HB hb; (try clear hb)))
  go_ret
  exact ⟨zE, zB⟩
def at1 (o : List Bool) (i : Nat) : Bool := o.getD i false
theorem rdOf_at (o : List Bool) (i : Nat) : rdOf false o (i : Int) = at1 o i := by simp [rdOf, at1]
theorem at1_set (o : List Bool) (i j : Nat) (b : Bool) : at1 (o.set i b) j = if i = j ∧ j < o.length then b else at1 o j := by
  unfold at1
  rw [List.getD_eq_getElem?_getD, List.getD_eq_getElem?_getD, List.getElem?_set]
  by_cases h : i = j
  · subst h
    by_cases h2 : i < o.length
    · simp [h2]
    · simp [h2]
  · simp [h]
def rstep (E : List S66) (a : Nat) (o : List Bool) (b : Nat) : List Bool := if at1 o a = true ∧ btw E a b > 0 then o.set b true else o
def rrow (E : List S66) (n : Nat) (o : List Bool) (a : Nat) : List Bool := (List.range' 0 n).foldl (rstep E a) o
def rround (E : List S66) (n : Nat) (o : List Bool) : List Bool := (List.range' 0 n).foldl (rrow E n) o
def rrounds (E : List S66) (n : Nat) : Nat → List Bool → List Bool
  | 0, o => o
  | m + 1, o => rrounds E n m (rround E n o)
def reachOf (E : List S66) (n v : Nat) : List Bool := rrounds E n n ((List.replicate n false).set v true)
theorem rstep_length (E : List S66) (a b : Nat) (o : List Bool) : (rstep E a o b).length = o.length := by unfold rstep; split <;> simp
theorem foldl_length {f : List Bool → Nat → List Bool} (h : ∀ o b, (f o b).length = o.length) : ∀ (l : List Nat) (o : List Bool), (l.foldl f o).length = o.length
  | [], _ => rfl
  | x :: l, o => by rw [List.foldl_cons, foldl_length h l, h]
theorem rrow_length (E : List S66) (n a : Nat) (o : List Bool) : (rrow E n o a).length = o.length := foldl_length (fun o b => rstep_length E a b o) _ _
theorem rround_length (E : List S66) (n : Nat) (o : List Bool) : (rround E n o).length = o.length := foldl_length (fun o a => rrow_length E n a o) _ _
theorem rrounds_length (E : List S66) (n : Nat) : ∀ m o, (rrounds E n m o).length = o.length
  | 0, _ => rfl
  | m + 1, o => by rw [rrounds, rrounds_length E n m, rround_length]
theorem reach_l2 (E : List S66) (hE : E.length ≤ 1000) (n a x6 : Nat) (hn : n ≤ 1000) (ha : a < n) (r : List Bool) : ∀ (m j : Nat) (o : List Bool), j + m = n → o.length = n → Ev (fun k => sandpileref08_Reached.l1 k ((List.range' j m).foldl (rstep E a) o) x6 ((a + 1 : Nat) : Int) n E) r → Ev (fun k => sandpileref08_Reached.l2 k o x6 a j n E) r
  | 0, j, o, hj, ho, h => by
    refine Ev.of_succ ?_
    simp only [sandpileref08_Reached.l2, if_neg (show ¬ ((j : Int) < (n : Int)) by omega), wrap_succ (show a ≤ 1000000 by omega)]
    exact h
  | m + 1, j, o, hj, ho, h => by
    rw [List.range'_succ, List.foldl_cons] at h
    have ih := reach_l2 E hE n a x6 hn ha r m (j + 1) (rstep E a o j) (by omega) (by rw [rstep_length]; exact ho) h
    refine Ev.of_succ ?_
    simp only [sandpileref08_Reached.l2, if_pos (show (j : Int) < (n : Int) by omega), if_pos (show (0 : Int) ≤ (a : Int) by omega), if_pos (show (a : Int) < (o.length : Int) by omega), if_pos (show (0 : Int) ≤ (j : Int) by omega), if_pos (show (j : Int) < (o.length : Int) by omega), wrap_succ (show j ≤ 1000000 by omega), rdOf_at, Int.toNat_natCast]
    unfold rstep at ih
    by_cases h1 : at1 o a = true
    · simp only [if_pos h1]
      refine Ev.bind (between_ev n E a j hE) ?_
      by_cases h2 : btw E a j > 0
      · simp only [if_pos h2]; rw [if_pos ⟨h1, h2⟩] at ih; exact ih
      · simp only [if_neg h2]; rw [if_neg (fun h => h2 h.2)] at ih; exact ih
    · simp only [if_neg h1]; rw [if_neg (fun h => h1 h.1)] at ih; exact ih
theorem reach_l1 (E : List S66) (hE : E.length ≤ 1000) (n x6 : Nat) (hn : n ≤ 1000) (hx : x6 ≤ 1000) (r : List Bool) : ∀ (m a : Nat) (o : List Bool), a + m = n → o.length = n → Ev (fun k => sandpileref08_Reached.l0 k ((List.range' a m).foldl (rrow E n) o) ((x6 + 1 : Nat) : Int) n E) r → Ev (fun k => sandpileref08_Reached.l1 k o x6 a n E) r
  | 0, a, o, ha, ho, h => by
    refine Ev.of_succ ?_
    simp only [sandpileref08_Reached.l1, if_neg (show ¬ ((a : Int) < (n : Int)) by omega), wrap_succ (show x6 ≤ 1000000 by omega)]
    exact h
  | m + 1, a, o, ha, ho, h => by
    rw [List.range'_succ, List.foldl_cons] at h
    have ih := reach_l1 E hE n x6 hn hx r m (a + 1) (rrow E n o a) (by omega) (by rw [rrow_length]; exact ho) h
    refine Ev.of_succ ?_
    simp only [sandpileref08_Reached.l1, if_pos (show (a : Int) < (n : Int) by omega)]
    exact reach_l2 E hE n a x6 hn (by omega) r n 0 o (by omega) ho ih
theorem reach_l0 (E : List S66) (hE : E.length ≤ 1000) (n : Nat) (hn : n ≤ 1000) : ∀ (m i : Nat) (o : List Bool), i + m = n → o.length = n → Ev (fun k => sandpileref08_Reached.l0 k o i n E) (rrounds E n m o)
  | 0, i, o, hi, ho => by
    refine Ev.of_succ ?_
    simp only [sandpileref08_Reached.l0, if_neg (show ¬ ((i : Int) < (n : Int)) by omega)]
    exact Ev.const _
  | m + 1, i, o, hi, ho => by
    have ih := reach_l0 E hE n hn m (i + 1) (rround E n o) (by omega) (by rw [rround_length]; exact ho)
    refine Ev.of_succ ?_
    simp only [sandpileref08_Reached.l0, if_pos (show (i : Int) < (n : Int) by omega)]
    exact reach_l1 E hE n i hn (by omega) _ n 0 o (by omega) ho ih
theorem reached_ev (E : List S66) (hE : E.length ≤ 1000) (n v : Nat) (hn : n ≤ 1000) (hv : v < n) : Ev (fun k => sandpileref08_Reached.f k n E v) (reachOf E n v) := by
  unfold sandpileref08_Reached.f
  simp only [if_pos (show (0 : Int) ≤ (n : Int) by omega), Int.toNat_natCast, if_pos (show n ≤ 281474976710656 by omega), Option.bind_some, if_pos (show (0 : Int) ≤ (v : Int) by omega), List.length_replicate, if_pos (show (v : Int) < (n : Int) by omega)]
  exact reach_l0 E hE n hn n 0 _ (by omega) (by simp)
def orAll (s r : List Bool) : List Bool := (List.range' 0 s.length).foldl (fun s u => s.set u (at1 s u || at1 r u)) s
def partsFrom (E : List S66) (n : Nat) : Nat → Nat → Nat → List Bool → Nat
  | 0, _, c, _ => c
  | m + 1, v, c, s => if at1 s v = true then partsFrom E n m (v + 1) c s else partsFrom E n m (v + 1) (c + 1) (orAll s (reachOf E n v))
theorem orStep_length (r : List Bool) (o : List Bool) (u : Nat) : (o.set u (at1 o u || at1 r u)).length = o.length := by simp
theorem parts_l1 (E : List S66) (n : Nat) (hn : n ≤ 1000) (c v : Nat) (hv : v ≤ 1000) (q : List Bool) (hq : q.length = n) (r : Int) : ∀ (m j : Nat) (s : List Bool), j + m = n → s.length = n → Ev (fun k => sandpileref08_Parts.l0 k c ((List.range' j m).foldl (fun s u => s.set u (at1 s u || at1 q u)) s) ((v + 1 : Nat) : Int) n E) r → Ev (fun k => sandpileref08_Parts.l1 k c s v q j n E) r
  | 0, j, s, hj, hs, h => by
    refine Ev.of_succ ?_
    simp only [sandpileref08_Parts.l1, if_neg (show ¬ ((j : Int) < (n : Int)) by omega), wrap_succ (show v ≤ 1000000 by omega)]
    exact h
  | m + 1, j, s, hj, hs, h => by
    rw [List.range'_succ, List.foldl_cons] at h
    have ih := parts_l1 E n hn c v hv q hq r m (j + 1) _ (by omega) (by rw [List.length_set]; exact hs) h
    refine Ev.of_succ ?_
    simp only [sandpileref08_Parts.l1, if_pos (show (j : Int) < (n : Int) by omega), if_pos (show (0 : Int) ≤ (j : Int) by omega), if_pos (show (j : Int) < (s.length : Int) by omega), if_pos (show (j : Int) < (q.length : Int) by omega), wrap_succ (show j ≤ 1000000 by omega), rdOf_at, Int.toNat_natCast]
    by_cases h1 : at1 s j = true
    · simp only [if_pos h1]; rw [h1, Bool.true_or] at ih; exact ih
    · simp only [if_neg h1]; rw [Bool.eq_false_iff.2 h1, Bool.false_or] at ih; exact ih
theorem parts_l0 (E : List S66) (hE : E.length ≤ 1000) (n : Nat) (hn : n ≤ 1000) : ∀ (m v c : Nat) (s : List Bool), v + m = n → c ≤ v → s.length = n → Ev (fun k => sandpileref08_Parts.l0 k c s v n E) ((partsFrom E n m v c s : Nat) : Int)
  | 0, v, c, s, hv, hc, hs => by
    refine Ev.of_succ ?_
    simp only [sandpileref08_Parts.l0, if_neg (show ¬ ((v : Int) < (n : Int)) by omega)]
    exact Ev.const _
  | m + 1, v, c, s, hv, hc, hs => by
    refine Ev.of_succ ?_
    simp only [sandpileref08_Parts.l0, if_pos (show (v : Int) < (n : Int) by omega), if_pos (show (0 : Int) ≤ (v : Int) by omega), if_pos (show (v : Int) < (s.length : Int) by omega), wrap_succ (show v ≤ 1000000 by omega), rdOf_at, partsFrom]
    by_cases h1 : at1 s v = true
    · simp only [if_pos h1]
      exact parts_l0 E hE n hn m (v + 1) c s (by omega) (by omega) hs
    · simp only [if_neg h1]
      refine Ev.bind (reached_ev E hE n v hn (by omega)) ?_
      have hrl : (reachOf E n v).length = n := by unfold reachOf; rw [rrounds_length]; simp
      have ih := parts_l0 E hE n hn m (v + 1) (c + 1) (orAll s (reachOf E n v)) (by omega) (by omega) (by unfold orAll; rw [foldl_length (fun o b => orStep_length _ o b)]; exact hs)
      rw [wrap_succ (show c ≤ 1000000 by omega)]
      refine parts_l1 E n hn (c + 1) v (by omega) _ hrl _ n 0 s (by omega) hs ?_
      rw [show (List.range' 0 n).foldl (fun s u => s.set u (at1 s u || at1 (reachOf E n v) u)) s = orAll s (reachOf E n v) from by unfold orAll; rw [hs]]
      exact ih
def partsOf (E : List S66) (n : Nat) : Nat := partsFrom E n n 0 0 (List.replicate n false)
theorem parts_ev (E : List S66) (hE : E.length ≤ 1000) (n : Nat) (hn : n ≤ 1000) : Ev (fun k => sandpileref08_Parts.f k n E) ((partsOf E n : Nat) : Int) := by
  unfold sandpileref08_Parts.f
  simp only [if_pos (show (0 : Int) ≤ (n : Int) by omega), Int.toNat_natCast, if_pos (show n ≤ 281474976710656 by omega)]
  exact parts_l0 E hE n hn n 0 0 _ (by omega) (by omega) (by simp)
theorem rstep_mono {E : List S66} {a b : Nat} {o : List Bool} {i : Nat} (h : at1 o i = true) : at1 (rstep E a o b) i = true := by
  unfold rstep
  split
  · rw [at1_set]; split <;> simp_all
  · exact h
theorem fold_mono {f : List Bool → Nat → List Bool} (hf : ∀ o b i, at1 o i = true → at1 (f o b) i = true) : ∀ (l : List Nat) (o : List Bool) (i : Nat), at1 o i = true → at1 (l.foldl f o) i = true
  | [], _, _, h => h
  | x :: l, o, i, h => by rw [List.foldl_cons]; exact fold_mono hf l _ i (hf _ _ _ h)
theorem rrow_mono {E : List S66} {n a : Nat} {o : List Bool} {i : Nat} (h : at1 o i = true) : at1 (rrow E n o a) i = true := fold_mono (fun o b i h => rstep_mono h) _ _ _ h
theorem rround_mono {E : List S66} {n : Nat} {o : List Bool} {i : Nat} (h : at1 o i = true) : at1 (rround E n o) i = true := fold_mono (fun o b i h => rrow_mono h) _ _ _ h
theorem rrounds_mono {E : List S66} {n : Nat} : ∀ {m : Nat} {o : List Bool} {i : Nat}, at1 o i = true → at1 (rrounds E n m o) i = true
  | 0, _, _, h => h
  | m + 1, o, i, h => rrounds_mono (m := m) (rround_mono h)
def Closed (E : List S66) (n : Nat) (S : Nat → Bool) : Prop := ∀ a b : Nat, a < n → b < n → S a = true → btw E a b > 0 → S b = true
theorem fold_keeps {P : List Bool → Prop} {f : List Bool → Nat → List Bool} {n : Nat} (hf : ∀ o b, b < n → P o → P (f o b)) : ∀ (m j : Nat) (o : List Bool), j + m ≤ n → P o → P ((List.range' j m).foldl f o)
  | 0, _, _, _, h => h
  | m + 1, j, o, hj, h => by rw [List.range'_succ, List.foldl_cons]; exact fold_keeps hf m (j + 1) _ (by omega) (hf _ _ (by omega) h)
theorem rround_sound {E : List S66} {n : Nat} {S : Nat → Bool} (hS : Closed E n S) {o : List Bool} (h : ∀ i, at1 o i = true → S i = true) : ∀ i, at1 (rround E n o) i = true → S i = true := by
  refine fold_keeps (P := fun o => ∀ i, at1 o i = true → S i = true) (n := n) (fun o a ha h => ?_) n 0 o (by omega) h
  refine fold_keeps (P := fun o => ∀ i, at1 o i = true → S i = true) (n := n) (fun o b hb h => ?_) n 0 o (by omega) h
  intro i hi
  unfold rstep at hi
  split at hi
  · rename_i hc
    rw [at1_set] at hi
    split at hi
    · rename_i h2
      obtain ⟨rfl, _⟩ := h2
      exact hS a b ha hb (h a hc.1) hc.2
    · exact h i hi
  · exact h i hi
theorem rrounds_sound {E : List S66} {n : Nat} {S : Nat → Bool} (hS : Closed E n S) : ∀ (m : Nat) {o : List Bool}, (∀ i, at1 o i = true → S i = true) → ∀ i, at1 (rrounds E n m o) i = true → S i = true
  | 0, _, h => h
  | m + 1, o, h => rrounds_sound hS m (rround_sound hS h)
theorem set_same {o : List Bool} {b : Nat} (h : at1 o b = true) : o.set b true = o := by
  refine List.ext_getElem (by simp) fun i h1 h2 => ?_
  rw [List.getElem_set]
  by_cases e : b = i
  · subst e
    rw [if_pos rfl]
    simp only [at1, List.getD_eq_getElem?_getD, List.getElem?_eq_getElem h2, Option.getD_some] at h
    exact h.symm
  · rw [if_neg e]
theorem rround_same {E : List S66} {n : Nat} {o : List Bool} (h : Closed E n (at1 o)) : rround E n o = o := by
  refine fold_keeps (P := fun x => x = o) (n := n) (fun x a ha hx => ?_) n 0 o (by omega) rfl
  subst hx
  refine fold_keeps (P := fun y => y = x) (n := n) (fun y b hb hy => ?_) n 0 x (by omega) rfl
  subst hy
  unfold rstep
  split
  · rename_i hc
    exact set_same (h a b ha hb hc.1 hc.2)
  · rfl
theorem rrounds_same {E : List S66} {n : Nat} : ∀ (m : Nat) {o : List Bool}, Closed E n (at1 o) → rrounds E n m o = o
  | 0, _, _ => rfl
  | m + 1, o, h => by rw [rrounds, rround_same h, rrounds_same m h]
def trues (o : List Bool) (n : Nat) : Nat := (List.range n).countP (at1 o)
theorem trues_le (o : List Bool) (n : Nat) : trues o n ≤ n := by
  unfold trues
  exact Nat.le_trans List.countP_le_length (by simp)
theorem trues_lt {o p : List Bool} {b : Nat} : ∀ {n : Nat}, (∀ i, at1 o i = true → at1 p i = true) → b < n → at1 o b = false → at1 p b = true → trues o n < trues p n
  | 0, _, hb, _, _ => by omega
  | n + 1, h, hb, h1, h2 => by
    have mono : ∀ m, trues o m ≤ trues p m := fun m => List.countP_mono_left (fun x _ hx => h x hx)
    unfold trues at *
    rw [List.range_succ, List.countP_append, List.countP_append]
    by_cases e : b = n
    · subst e
      have := mono b
      simp [h1, h2]; omega
    · have := trues_lt (n := n) h (by omega) h1 h2
      unfold trues at this
      have h3 : (if at1 o n = true then 1 else 0) ≤ (if at1 p n = true then 1 else 0) := by
        by_cases h4 : at1 o n = true
        · rw [if_pos h4, if_pos (h n h4)]; exact Nat.le_refl _
        · rw [if_neg h4]; exact Nat.zero_le _
      simp only [List.countP_cons, List.countP_nil, Nat.zero_add]
      omega
theorem rround_more {E : List S66} {n : Nat} {o : List Bool} (ho : o.length = n) {a b : Nat} (ha : a < n) (hb : b < n) (h1 : at1 o a = true) (h2 : btw E a b > 0) : at1 (rround E n o) b = true := by
  unfold rround
  have hs : List.range' 0 n = List.range' 0 a ++ a :: List.range' (a + 1) (n - a - 1) := by
    rw [← List.range'_succ, show n - a - 1 + 1 = n - a by omega]
    rw [show List.range' 0 a ++ List.range' a (n - a) = List.range' 0 a ++ List.range' (0 + a) (n - a) by rw [Nat.zero_add], List.range'_append_1]
    rw [show a + (n - a) = n by omega]
  have hs2 : List.range' 0 n = List.range' 0 b ++ b :: List.range' (b + 1) (n - b - 1) := by
    rw [← List.range'_succ, show n - b - 1 + 1 = n - b by omega]
    rw [show List.range' 0 b ++ List.range' b (n - b) = List.range' 0 b ++ List.range' (0 + b) (n - b) by rw [Nat.zero_add], List.range'_append_1]
    rw [show b + (n - b) = n by omega]
  rw [hs, List.foldl_append, List.foldl_cons]
  refine fold_mono (fun o b i h => rrow_mono h) _ _ _ ?_
  have h3 := fold_mono (f := rrow E n) (fun o b i h => rrow_mono h) (List.range' 0 a) o a h1
  have hl := foldl_length (f := rrow E n) (fun o a => rrow_length E n a o) (List.range' 0 a) o
  generalize (List.range' 0 a).foldl (rrow E n) o = o1 at h3 hl ⊢
  unfold rrow
  rw [hs2, List.foldl_append, List.foldl_cons]
  refine fold_mono (fun o b i h => rstep_mono h) _ _ _ ?_
  have h4 := fold_mono (f := rstep E a) (fun o b i h => rstep_mono h) (List.range' 0 b) o1 a h3
  have hl2 := foldl_length (f := rstep E a) (fun o b => rstep_length E a b o) (List.range' 0 b) o1
  generalize (List.range' 0 b).foldl (rstep E a) o1 = o2 at h4 hl2 ⊢
  unfold rstep
  rw [if_pos ⟨h4, h2⟩, at1_set, if_pos ⟨rfl, by omega⟩]
theorem rrounds_closed {E : List S66} {n : Nat} : ∀ (m : Nat) (o : List Bool), o.length = n → n < trues o n + m → Closed E n (at1 (rrounds E n m o))
  | 0, o, ho, h => by have := trues_le o n; omega
  | m + 1, o, ho, h => by
    by_cases hc : Closed E n (at1 o)
    · rw [rrounds_same (m + 1) hc]; exact hc
    · rw [rrounds]
      refine rrounds_closed m _ (by rw [rround_length]; exact ho) ?_
      unfold Closed at hc
      simp only [Classical.not_forall] at hc
      obtain ⟨a, b, ha, hb, h1, h2, h3⟩ := hc
      have := trues_lt (o := o) (p := rround E n o) (b := b) (n := n) (fun i hi => rround_mono hi) hb (Bool.eq_false_iff.2 h3) (rround_more ho ha hb h1 h2)
      omega
theorem reachOf_facts {E : List S66} {n v : Nat} (hv : v < n) : at1 (reachOf E n v) v = true ∧ Closed E n (at1 (reachOf E n v)) ∧ ∀ S : Nat → Bool, Closed E n S → S v = true → ∀ i, at1 (reachOf E n v) i = true → S i = true := by
  have h0 : at1 ((List.replicate n false).set v true) v = true := by rw [at1_set, if_pos ⟨rfl, by simpa using hv⟩]
  have hz : ∀ i, at1 (List.replicate n false) i = false := fun i => by simp [at1, List.getD_eq_getElem?_getD, List.getElem?_replicate]; split <;> rfl
  refine ⟨rrounds_mono h0, rrounds_closed n _ (by simp) ?_, fun S hS hSv => rrounds_sound hS n (fun i hi => ?_)⟩
  · have := trues_lt (o := List.replicate n false) (p := (List.replicate n false).set v true) (b := v) (n := n) (fun i hi => by rw [hz] at hi; cases hi) hv (hz v) h0
    omega
  · rw [at1_set] at hi
    split at hi
    · rename_i h; rw [← h.1]; exact hSv
    · rw [hz] at hi; cases hi
def sandpileref19_Rooted.f (k : Nat) (a0_0 : Int) (l0_1 : List (S66)) (a1 : Int) : Option (Int) := (sandpileref08_Check.f k a0_0 l0_1).bind fun t176 => (if t176 = 0 then ((sandpileref08_Connected.f k a0_0 l0_1).bind fun t177 => (if t177 = true then ((sandpileref08_Vertex.f a0_0 l0_1 a1).bind fun t178 => (if t178 = true then (some 0) else (some 2))) else (some 13))) else (some t176))
set_option maxHeartbeats 8000000 in
set_option maxRecDepth 100000 in
theorem sandpileref19_Rooted.calls (k : Nat) (a0_0 : Int) (A0_1 : Option Addr) (c0_1 : Nat) (l0_1 : List (S66)) (a1 : Int) (r : Int) (w : World) (hr0_1 : Kd.C k66 w A0_1 l0_1.length l0_1) (hc0_1 : l0_1.length ≤ c0_1) (h : sandpileref19_Rooted.f k a0_0 l0_1 a1 = some r) :
    Calls Try.prog 15 #[.agg #[.int .i64 a0_0, .slice A0_1 l0_1.length c0_1], .int .i64 a1] w fun e w' => e = .returned (.int .i64 r) ∧ Below w.heap.size w w' := by
  have hu24 := Try.underlying24
  have HR0_1 := Aside0.mk hr0_1
  have HC0_1 := Aside0.mk hc0_1
  clear hr0_1 hc0_1
  have HB := Aside0.mk (Below.refl w.heap.size w)
  have H : ((sandpileref08_Check.f k a0_0 l0_1).bind fun t176 => (if t176 = 0 then ((sandpileref08_Connected.f k a0_0 l0_1).bind fun t177 => (if t177 = true then ((sandpileref08_Vertex.f a0_0 l0_1 a1).bind fun t178 => (if t178 = true then (some 0) else (some 2))) else (some 13))) else (some t176))) = some r := h
  clear h
  replace H := Option.bind_eq_some_iff.mp H
  obtain ⟨t176, A30, H⟩ := H
  replace H : (if t176 = 0 then ((sandpileref08_Connected.f k a0_0 l0_1).bind fun t177 => (if t177 = true then ((sandpileref08_Vertex.f a0_0 l0_1 a1).bind fun t178 => (if t178 = true then (some 0) else (some 2))) else (some 13))) else (some t176)) = some r := H
  have A3 := Aside0.mk A30
  clear A30
  by_cases c4 : t176 = 0
  · rw [if_pos c4] at H
    have c4b0 : (t176 == 0) = true := beq_iff_eq.mpr c4
    have c4b1 : (t176 != 0) = false := bne_eq_false_iff_eq.mpr c4
    clear c4
    replace H := Option.bind_eq_some_iff.mp H
    obtain ⟨t177, A50, H⟩ := H
    replace H : (if t177 = true then ((sandpileref08_Vertex.f a0_0 l0_1 a1).bind fun t178 => (if t178 = true then (some 0) else (some 2))) else (some 13)) = some r := H
    have A5 := Aside0.mk A50
    clear A50
    by_cases c6 : t177 = true
    · subst c6
      have H1 : ((sandpileref08_Vertex.f a0_0 l0_1 a1).bind fun t178 => (if t178 = true then (some 0) else (some 2))) = some r := by rw [if_pos rfl] at H; exact H
      clear H
      have H := H1
      clear H1
      replace H := Option.bind_eq_some_iff.mp H
      obtain ⟨t178, A70, H⟩ := H
      replace H : (if t178 = true then (some 0) else (some 2)) = some r := H
      have A7 := Aside0.mk A70
      clear A70
      by_cases c8 : t178 = true
      · subst c8
        have H1 : (some 0) = some r := by rw [if_pos rfl] at H; exact H
        clear H
        have H := H1
        clear H1
        obtain rfl := Option.some.inj H
        go_enter Try.func15, Try.ntmps15
        go_wp2_with (first | ((with_reducible refine gate_dst (N := 2) rfl ?_); refine box_event ?hg (N := 2) ?hd (cs := #[.int .i64 a0_0, .slice A0_1 l0_1.length c0_1]) (t := 24) ?hr ?_; (case hd => rfl); (case hg => rfl); (case hr => first | (go_simp; done) | (go_simp; rfl)); intro gb175 hg w9 hbox hb; have BK175 := Aside0.mk (hbox); have GW175 := zG HB hg; have GE175 := zG HB hg; replace HB := zS HB hb; clear hb hbox hg; obtain ⟨hcz10_0, hcz10_1, hfz10_0, hfz10_1⟩ := zD2 BK175) | ((with_reducible refine gate_callee (f := 46) rfl ?_); refine zL (some 7) Try.func46 #[.agg #[.int .i64 a0_0, .slice A0_1 l0_1.length c0_1]] ?_; (with_reducible refine (sandpileref08_Check.calls k a0_0 _ _ l0_1 t176 _ ?side1 ?side2 A3.out).mono ?_); (case side1 => exact Kd.C_below HR0_1.out zB); (case side2 => exact HC0_1.out); rintro e w11 ⟨rfl, hb⟩; refine ⟨_, rfl, ?_⟩; replace BK175 := Aside0.mk (blk_below (zK BK175) hb); replace HB := zS HB hb; (try clear hb); obtain ⟨hcz12_0, hcz12_1, hfz12_0, hfz12_1⟩ := zD2 BK175) | ((with_reducible refine gate_callee (f := 47) rfl ?_); refine zL (some 12) Try.func47 #[.agg #[.int .i64 a0_0, .slice A0_1 l0_1.length c0_1]] ?_; (with_reducible refine (sandpileref08_Connected.calls k a0_0 _ _ l0_1 true _ ?side1 ?side2 A5.out).mono ?_); (case side1 => exact Kd.C_below HR0_1.out zB); (case side2 => exact HC0_1.out); rintro e w13 ⟨rfl, hb⟩; refine ⟨_, rfl, ?_⟩; replace BK175 := Aside0.mk (blk_below (zK BK175) hb); replace HB := zS HB hb; (try clear hb); obtain ⟨hcz14_0, hcz14_1, hfz14_0, hfz14_1⟩ := zD2 BK175) | ((with_reducible refine gate_callee (f := 48) rfl ?_); refine zL (some 16) Try.func48 #[.agg #[.int .i64 a0_0, .slice A0_1 l0_1.length c0_1], .int .i64 a1] ?_; (with_reducible refine (sandpileref08_Vertex.calls a0_0 _ _ l0_1 a1 true _ ?side1 ?side2 A7.out).mono ?_); (case side1 => exact Kd.C_below HR0_1.out zB); (case side2 => exact HC0_1.out); rintro e w15 ⟨rfl, hb⟩; refine ⟨_, rfl, ?_⟩; replace BK175 := Aside0.mk (blk_below (zK BK175) hb); replace HB := zS HB hb; (try clear hb)))
        go_ret
        exact ⟨zE, zB⟩
      · replace c8 := Bool.eq_false_iff.mpr c8
        subst c8
        have H1 : (some 2) = some r := by rw [if_neg (show ¬ (false = true) by decide)] at H; exact H
        clear H
        have H := H1
        clear H1
        obtain rfl := Option.some.inj H
        go_enter Try.func15, Try.ntmps15
        go_wp2_with (first | ((with_reducible refine gate_dst (N := 2) rfl ?_); refine box_event ?hg (N := 2) ?hd (cs := #[.int .i64 a0_0, .slice A0_1 l0_1.length c0_1]) (t := 24) ?hr ?_; (case hd => rfl); (case hg => rfl); (case hr => first | (go_simp; done) | (go_simp; rfl)); intro gb175 hg w16 hbox hb; have BK175 := Aside0.mk (hbox); have GW175 := zG HB hg; have GE175 := zG HB hg; replace HB := zS HB hb; clear hb hbox hg; obtain ⟨hcz17_0, hcz17_1, hfz17_0, hfz17_1⟩ := zD2 BK175) | ((with_reducible refine gate_callee (f := 46) rfl ?_); refine zL (some 7) Try.func46 #[.agg #[.int .i64 a0_0, .slice A0_1 l0_1.length c0_1]] ?_; (with_reducible refine (sandpileref08_Check.calls k a0_0 _ _ l0_1 t176 _ ?side1 ?side2 A3.out).mono ?_); (case side1 => exact Kd.C_below HR0_1.out zB); (case side2 => exact HC0_1.out); rintro e w18 ⟨rfl, hb⟩; refine ⟨_, rfl, ?_⟩; replace BK175 := Aside0.mk (blk_below (zK BK175) hb); replace HB := zS HB hb; (try clear hb); obtain ⟨hcz19_0, hcz19_1, hfz19_0, hfz19_1⟩ := zD2 BK175) | ((with_reducible refine gate_callee (f := 47) rfl ?_); refine zL (some 12) Try.func47 #[.agg #[.int .i64 a0_0, .slice A0_1 l0_1.length c0_1]] ?_; (with_reducible refine (sandpileref08_Connected.calls k a0_0 _ _ l0_1 true _ ?side1 ?side2 A5.out).mono ?_); (case side1 => exact Kd.C_below HR0_1.out zB); (case side2 => exact HC0_1.out); rintro e w20 ⟨rfl, hb⟩; refine ⟨_, rfl, ?_⟩; replace BK175 := Aside0.mk (blk_below (zK BK175) hb); replace HB := zS HB hb; (try clear hb); obtain ⟨hcz21_0, hcz21_1, hfz21_0, hfz21_1⟩ := zD2 BK175) | ((with_reducible refine gate_callee (f := 48) rfl ?_); refine zL (some 16) Try.func48 #[.agg #[.int .i64 a0_0, .slice A0_1 l0_1.length c0_1], .int .i64 a1] ?_; (with_reducible refine (sandpileref08_Vertex.calls a0_0 _ _ l0_1 a1 false _ ?side1 ?side2 A7.out).mono ?_); (case side1 => exact Kd.C_below HR0_1.out zB); (case side2 => exact HC0_1.out); rintro e w22 ⟨rfl, hb⟩; refine ⟨_, rfl, ?_⟩; replace BK175 := Aside0.mk (blk_below (zK BK175) hb); replace HB := zS HB hb; (try clear hb)))
        go_ret
        exact ⟨zE, zB⟩
    · replace c6 := Bool.eq_false_iff.mpr c6
      subst c6
      have H1 : (some 13) = some r := by rw [if_neg (show ¬ (false = true) by decide)] at H; exact H
      clear H
      have H := H1
      clear H1
      obtain rfl := Option.some.inj H
      go_enter Try.func15, Try.ntmps15
      go_wp2_with (first | ((with_reducible refine gate_dst (N := 2) rfl ?_); refine box_event ?hg (N := 2) ?hd (cs := #[.int .i64 a0_0, .slice A0_1 l0_1.length c0_1]) (t := 24) ?hr ?_; (case hd => rfl); (case hg => rfl); (case hr => first | (go_simp; done) | (go_simp; rfl)); intro gb175 hg w23 hbox hb; have BK175 := Aside0.mk (hbox); have GW175 := zG HB hg; have GE175 := zG HB hg; replace HB := zS HB hb; clear hb hbox hg; obtain ⟨hcz24_0, hcz24_1, hfz24_0, hfz24_1⟩ := zD2 BK175) | ((with_reducible refine gate_callee (f := 46) rfl ?_); refine zL (some 7) Try.func46 #[.agg #[.int .i64 a0_0, .slice A0_1 l0_1.length c0_1]] ?_; (with_reducible refine (sandpileref08_Check.calls k a0_0 _ _ l0_1 t176 _ ?side1 ?side2 A3.out).mono ?_); (case side1 => exact Kd.C_below HR0_1.out zB); (case side2 => exact HC0_1.out); rintro e w25 ⟨rfl, hb⟩; refine ⟨_, rfl, ?_⟩; replace BK175 := Aside0.mk (blk_below (zK BK175) hb); replace HB := zS HB hb; (try clear hb); obtain ⟨hcz26_0, hcz26_1, hfz26_0, hfz26_1⟩ := zD2 BK175) | ((with_reducible refine gate_callee (f := 47) rfl ?_); refine zL (some 12) Try.func47 #[.agg #[.int .i64 a0_0, .slice A0_1 l0_1.length c0_1]] ?_; (with_reducible refine (sandpileref08_Connected.calls k a0_0 _ _ l0_1 false _ ?side1 ?side2 A5.out).mono ?_); (case side1 => exact Kd.C_below HR0_1.out zB); (case side2 => exact HC0_1.out); rintro e w27 ⟨rfl, hb⟩; refine ⟨_, rfl, ?_⟩; replace BK175 := Aside0.mk (blk_below (zK BK175) hb); replace HB := zS HB hb; (try clear hb)))
      go_ret
      exact ⟨zE, zB⟩
  · rw [if_neg c4] at H
    have c4b0 : (t176 == 0) = false := beq_eq_false_iff_ne.mpr c4
    have c4b1 : (t176 != 0) = true := bne_iff_ne.mpr c4
    obtain rfl := Option.some.inj H
    go_enter Try.func15, Try.ntmps15
    go_wp2_with (first | ((with_reducible refine gate_dst (N := 2) rfl ?_); refine box_event ?hg (N := 2) ?hd (cs := #[.int .i64 a0_0, .slice A0_1 l0_1.length c0_1]) (t := 24) ?hr ?_; (case hd => rfl); (case hg => rfl); (case hr => first | (go_simp; done) | (go_simp; rfl)); intro gb175 hg w28 hbox hb; have BK175 := Aside0.mk (hbox); have GW175 := zG HB hg; have GE175 := zG HB hg; replace HB := zS HB hb; clear hb hbox hg; obtain ⟨hcz29_0, hcz29_1, hfz29_0, hfz29_1⟩ := zD2 BK175) | ((with_reducible refine gate_callee (f := 46) rfl ?_); refine zL (some 7) Try.func46 #[.agg #[.int .i64 a0_0, .slice A0_1 l0_1.length c0_1]] ?_; (with_reducible refine (sandpileref08_Check.calls k a0_0 _ _ l0_1 t176 _ ?side1 ?side2 A3.out).mono ?_); (case side1 => exact Kd.C_below HR0_1.out zB); (case side2 => exact HC0_1.out); rintro e w30 ⟨rfl, hb⟩; refine ⟨_, rfl, ?_⟩; replace BK175 := Aside0.mk (blk_below (zK BK175) hb); replace HB := zS HB hb; (try clear hb)))
    go_ret
    exact ⟨zE, zB⟩
theorem btw_hit {E : List S66} {a b : Int} (h : btw E a b > 0) : ∃ x ∈ E, x.f0 = min a b ∧ x.f1 = max a b := by
  unfold btw at h
  split at h
  · rename_i x hx
    refine ⟨x, List.mem_of_find?_eq_some hx, ?_⟩
    have := List.find?_some hx
    simpa [hitB] using this
  · omega
theorem btw_edge {N : Int} {E : List S66} (h : RightE N E) {x : S66} (hx : x ∈ E) : btw E x.f0 x.f1 > 0 := by
  unfold btw
  split
  · rename_i y hy
    have := h.ok y (List.mem_of_find?_eq_some hy)
    simp [edgeOk] at this; omega
  · rename_i hn
    rw [List.find?_eq_none] at hn
    have := hn x hx
    have hle := h.le x hx
    simp [hitB] at this; omega
theorem closed_of_edges {E : List S66} {n : Nat} {S : Nat → Bool} (h : ∀ x ∈ E, S x.f0.toNat = S x.f1.toNat) : Closed E n S := by
  intro a b ha hb hSa hbt
  obtain ⟨x, hx, h0, h1⟩ := btw_hit hbt
  have := h x hx
  rcases Nat.le_total a b with hab | hab
  · rw [show x.f0.toNat = a by omega, show x.f1.toNat = b by omega] at this
    rw [← this]; exact hSa
  · rw [show x.f0.toNat = b by omega, show x.f1.toNat = a by omega] at this
    rw [this]; exact hSa
theorem edges_of_closed {n : Nat} {E : List S66} (hR : RightE n E) {S : Nat → Bool} (h : Closed E n S) : ∀ x ∈ E, S x.f0.toNat = S x.f1.toNat := by
  intro x hx
  have hb := btw_edge hR hx
  have hok := hR.ok x hx
  simp [edgeOk] at hok
  have e0 : ((x.f0.toNat : Nat) : Int) = x.f0 := by omega
  have e1 : ((x.f1.toNat : Nat) : Int) = x.f1 := by omega
  have h1 := h x.f0.toNat x.f1.toNat (by omega) (by omega)
  have h2 := h x.f1.toNat x.f0.toNat (by omega) (by omega)
  rw [e0, e1] at h1
  rw [e0, e1, btw_comm] at h2
  cases hs0 : S x.f0.toNat with
  | true => exact (h1 hs0 hb).symm
  | false =>
    cases hs1 : S x.f1.toNat with
    | false => rfl
    | true => rw [h2 hs1 hb] at hs0; cases hs0
theorem orAll_at (s r : List Bool) (i : Nat) (hi : i < s.length) : at1 (orAll s r) i = (at1 s i || at1 r i) := by
  unfold orAll
  have key : ∀ (m j : Nat) (o : List Bool), o.length = s.length → at1 ((List.range' j m).foldl (fun s u => s.set u (at1 s u || at1 r u)) o) i = if j ≤ i ∧ i < j + m then (at1 o i || at1 r i) else at1 o i := by
    intro m
    induction m with
    | zero => intro j o _; rw [if_neg (by omega)]; rfl
    | succ m ih =>
      intro j o ho
      rw [List.range'_succ, List.foldl_cons, ih _ _ (by rw [List.length_set]; exact ho), at1_set]
      by_cases h1 : j = i
      · subst h1
        rw [if_neg (by omega), if_pos ⟨rfl, by omega⟩, if_pos (by omega)]
      · rw [if_neg (show ¬ (j = i ∧ i < o.length) from fun h => h1 h.1)]
        by_cases h2 : j + 1 ≤ i ∧ i < j + 1 + m
        · rw [if_pos h2, if_pos (by omega)]
        · rw [if_neg h2, if_neg (by omega)]
  rw [key s.length 0 s rfl, if_pos (by omega)]
theorem partsFrom_all (E : List S66) (n : Nat) : ∀ (m v c : Nat) (s : List Bool), (∀ i, v ≤ i → i < v + m → at1 s i = true) → partsFrom E n m v c s = c
  | 0, _, _, _, _ => rfl
  | m + 1, v, c, s, h => by
    rw [partsFrom, if_pos (h v (Nat.le_refl _) (by omega))]
    exact partsFrom_all E n m (v + 1) c s (fun i h1 h2 => h i (by omega) (by omega))
theorem partsFrom_ge (E : List S66) (n : Nat) : ∀ (m v c : Nat) (s : List Bool), c ≤ partsFrom E n m v c s
  | 0, _, _, _ => Nat.le_refl _
  | m + 1, v, c, s => by
    rw [partsFrom]
    split
    · exact partsFrom_ge E n m _ _ _
    · exact Nat.le_trans (Nat.le_succ c) (partsFrom_ge E n m _ _ _)
theorem partsFrom_gt (E : List S66) (n : Nat) : ∀ (m v c : Nat) (s : List Bool) (u : Nat), v ≤ u → u < v + m → at1 s u = false → c + 1 ≤ partsFrom E n m v c s
  | 0, _, _, _, _, _, h, _ => by omega
  | m + 1, v, c, s, u, h1, h2, h3 => by
    rw [partsFrom]
    split
    · rename_i hv
      exact partsFrom_gt E n m (v + 1) c s u (by rcases Nat.lt_or_ge v u with h | h; exact h; exfalso; have : v = u := by omega
                                                 subst this; rw [h3] at hv; cases hv) (by omega) h3
    · exact partsFrom_ge E n m _ _ _
theorem parts_conn {n : Nat} {E : List S66} (hn : 1 ≤ n) (hR : RightE n E) : partsOf E n = 1 ↔ EConn n E := by
  obtain ⟨m, rfl⟩ : ∃ m, n = m + 1 := ⟨n - 1, by omega⟩
  obtain ⟨r1, r2, r3⟩ := reachOf_facts (E := E) (n := m + 1) (v := 0) (by omega)
  have hz : ∀ i, at1 (List.replicate (m + 1) false) i = false := fun i => by simp [at1, List.getD_eq_getElem?_getD, List.getElem?_replicate]; split <;> rfl
  have e : partsOf E (m + 1) = partsFrom E (m + 1) m 1 1 (orAll (List.replicate (m + 1) false) (reachOf E (m + 1) 0)) := by
    unfold partsOf
    rw [partsFrom, if_neg (by rw [hz]; decide)]
  have hor : ∀ i, i < m + 1 → at1 (orAll (List.replicate (m + 1) false) (reachOf E (m + 1) 0)) i = at1 (reachOf E (m + 1) 0) i := fun i hi => by
    rw [orAll_at _ _ _ (by simpa using hi), hz, Bool.false_or]
  rw [e]
  constructor
  · intro h S hS1 hS0
    refine Classical.byContradiction fun hx => ?_
    have hS : ∀ x ∈ E, S x.f0.toNat = S x.f1.toNat := fun x hxE => Classical.byContradiction fun hne => hx ⟨x, hxE, hne⟩
    have main : ∀ T : Nat → Bool, (∀ x ∈ E, T x.f0.toNat = T x.f1.toNat) → T 0 = true → (∃ u, u < m + 1 ∧ T u = false) → False := by
      rintro T hT hT0 ⟨u, hu, hTu⟩
      have h1 : at1 (reachOf E (m + 1) 0) u = false := by
        cases h2 : at1 (reachOf E (m + 1) 0) u with
        | false => rfl
        | true => have := r3 T (closed_of_edges hT) hT0 u h2; rw [hTu] at this; cases this
      have hu0 : u ≠ 0 := fun e => by subst e; rw [hT0] at hTu; cases hTu
      have := partsFrom_gt E (m + 1) m 1 1 _ u (by omega) (by omega) (by rw [hor u hu]; exact h1)
      omega
    cases h0 : S 0 with
    | true => exact main S hS h0 hS0
    | false =>
      refine main (fun u => !S u) (fun x hx => by simp [hS x hx]) (by simp [h0]) ?_
      obtain ⟨u, hu, hSu⟩ := hS1
      exact ⟨u, hu, by simp [hSu]⟩
  · intro h
    refine partsFrom_all E _ m 1 1 _ fun i h1 h2 => ?_
    rw [hor i (by omega)]
    cases hi : at1 (reachOf E (m + 1) 0) i with
    | true => rfl
    | false =>
      obtain ⟨x, hx, hne⟩ := h (at1 (reachOf E (m + 1) 0)) ⟨0, by omega, r1⟩ ⟨i, by omega, hi⟩
      exact absurd (edges_of_closed hR r2 x hx) hne
def rootG (N : Int) (E : List S66) (q : Int) : Int := if checkG N E = 0 then (if partsOf E N.toNat = 1 then (if 0 ≤ q ∧ q < N then 0 else 2) else 13) else checkG N E
theorem rooted19_ev (N : Int) (E : List S66) (q : Int) (hE : E.length ≤ 1000) : Ev (fun k => sandpileref19_Rooted.f k N E q) (rootG N E q) := by
  unfold sandpileref19_Rooted.f rootG
  refine Ev.bind (check08_ev N E hE) ?_
  by_cases h0 : checkG N E = 0
  · simp only [if_pos h0]
    obtain ⟨h1, h12, hR⟩ := checkG_zero h0
    obtain ⟨n, rfl⟩ := Int.eq_ofNat_of_zero_le (show 0 ≤ N by omega)
    refine Ev.bind (a := decide (partsOf E n = 1)) ?_ ?_
    · unfold sandpileref08_Connected.f
      refine Ev.bind (parts_ev E hE n (by omega)) ?_
      rw [show (((partsOf E n : Nat) : Int) == 1) = decide (partsOf E n = 1) by rw [Bool.eq_iff_iff]; simp; omega]
      exact Ev.const _
    · rw [Int.toNat_natCast]
      by_cases hp : partsOf E n = 1
      · simp only [decide_eq_true hp, if_true, if_pos hp, vertex08_ok, Option.bind_some]
        by_cases hq : 0 ≤ q ∧ q < (n : Int)
        · simp only [decide_eq_true hq, if_true, if_pos hq]; exact Ev.const _
        · simp only [decide_eq_false hq, Bool.false_eq_true, if_false, if_neg hq]; exact Ev.const _
      · simp only [decide_eq_false hp, Bool.false_eq_true, if_false, if_neg hp]; exact Ev.const _
  · simp only [if_neg h0]; exact Ev.const _
theorem rooted_ev (N : Int) (E : List S66) (q : Int) (hE : E.length ≤ 1000) : Ev (fun k => stabilize_rooted.f k N E q) (rootG N E q) := by
  unfold stabilize_rooted.f rootG
  by_cases h0 : checkG N E = 0
  · obtain ⟨h1, h12, hR⟩ := checkG_zero h0
    obtain ⟨n, rfl⟩ := Int.eq_ofNat_of_zero_le (show 0 ≤ N by omega)
    refine Ev.bind (a := (decide (partsOf E n = 1), (0 : Int))) ?_ ?_
    · unfold connect_Connected.f
      have hg := graph_check_ev (n : Int) E hE
      rw [h0] at hg
      refine Ev.bind hg ?_
      have hok : okConn (n : Int) E = true := by
        unfold okConn
        rw [decide_eq_true (by omega), Bool.true_and]
        refine List.all_eq_true.2 fun x hx => ?_
        have := hR.ok x hx
        simp [edgeOk] at this ⊢; omega
      simp only [if_true, if_pos hok, Int.toNat_natCast]
      rw [show decide (rootsTo (forestOf E) n = 1) = decide (partsOf E n = 1) by
        congr 1; exact propext ((conn_iff (by omega) (edgesIn_of hR.inB)).trans (parts_conn (by omega) hR).symm)]
      exact Ev.const _
    · simp only [if_pos h0, if_true, Int.toNat_natCast]
      by_cases hp : partsOf E n = 1
      · simp only [decide_eq_true hp, if_true, if_pos hp]
        by_cases hq : 0 ≤ q ∧ q < (n : Int)
        · simp only [if_neg (show ¬ q < 0 by omega), if_neg (show ¬ q ≥ (n : Int) by omega), if_pos hq]; exact Ev.const _
        · simp only [if_neg hq]
          by_cases h1 : q < 0
          · simp only [if_pos h1]; exact Ev.const _
          · simp only [if_neg h1, if_pos (show q ≥ (n : Int) by omega)]; exact Ev.const _
      · simp only [decide_eq_false hp, Bool.false_eq_true, if_false, if_neg hp]; exact Ev.const _
  · refine Ev.bind (a := (false, checkG N E)) ?_ ?_
    · unfold connect_Connected.f
      refine Ev.bind (graph_check_ev N E hE) ?_
      simp only [if_neg h0]; exact Ev.const _
    · simp only [if_neg h0]; exact Ev.const _
theorem zero_wood : Try.zeroCells120 = ((List.replicate 145 (Value.int .i64 0)) ++ [Value.slice none 0 0] ++ List.replicate 12 (Value.bool false)).toArray := by kernel_rfl
theorem WoodCells.new (n : Int) (chips : Value) : WoodCells ((Try.zeroCells120.setIfInBounds 0 (.int .i64 n)).setIfInBounds 145 chips) n (fun _ _ => 0) chips (fun _ => false) := by
  have hs : Try.zeroCells120.size = 158 := by rw [zero_wood]; simp
  refine ⟨by simp [hs], ?_, ?_, ?_, ?_⟩
  · rw [Array.getElem?_setIfInBounds_ne (by omega), Array.getElem?_setIfInBounds_self_of_lt (by omega)]
  · intro i j hi hj
    rw [Array.getElem?_setIfInBounds_ne (by omega), Array.getElem?_setIfInBounds_ne (by omega), zero_wood]
    rw [List.getElem?_toArray, List.getElem?_append_left (by simp; omega), List.getElem?_append_left (by simp; omega), List.getElem?_replicate, if_pos (by omega)]
  · rw [Array.getElem?_setIfInBounds_self_of_lt (by simp [hs])]
  · intro i hi
    rw [Array.getElem?_setIfInBounds_ne (by omega), Array.getElem?_setIfInBounds_ne (by omega), zero_wood]
    rw [List.getElem?_toArray, List.getElem?_append_right (by simp), List.getElem?_replicate, if_pos (by simp; omega)]
set_option maxHeartbeats 4000000 in
set_option maxRecDepth 100000 in
theorem kindled_calls (n q : Nat) (A0 : Option Addr) (c0 : Nat) (E : List S66) (A2 : Option Addr) (c2 : Nat) (l : List Int) (w : World) (hr0 : Kd.C k66 w A0 E.length E) (hc0 : E.length ≤ c0) (hr2 : Kd.C (Kd.int .i64) w A2 l.length l) (hc2 : l.length ≤ c2) (hn : n ≤ 12) (hq : q < n) (hE : EdgesIn n E) (hl1 : l.length ≤ n) (hl2 : n ≤ l.length) :
    Calls Try.prog 83 #[.agg #[.int .i64 n, .slice A0 E.length c0], .int .i64 q, .slice A2 l.length c2] w (fun e w' => ∃ g Av cv, e = .returned (.pointer (some ⟨g, 0, none⟩)) ∧ WoodAt w' g n (timesOf E) (.slice Av l.length cv) (fun i => if i = q then true else false) ∧ Kd.R (Kd.int .i64) 3 w' w.heap.size (fun _ => True) (.slice Av l.length cv) l ∧ Below w.heap.size w w' ∧ w.heap.size ≤ g) := by
  have hu := Try.underlying24
  go_enter Try.func83, Try.ntmps83
  go_wp2_with fail
  go_region_held3 (fun w' => w'.cell? ⟨w.heap.size, 0, none⟩ = some (.int .i64 n) ∧ w'.cell? ⟨w.heap.size, 1, none⟩ = some (.slice A0 E.length c0)) (first | go_keep | (go_split_ands; exact ⟨(hB.cell (p := ⟨w.heap.size, 0, none⟩) (by simp)).trans (by go_simp), (hB.cell (p := ⟨w.heap.size, 1, none⟩) (by simp)).trans (by go_simp)⟩))
    (first | (go_at_call 36; refine (api_Divisor_int_36.calls A2 c2 l l _ (Kd.C_below hr2 (below_drew (below_alloc (Below.refl _ _) _))) hc2 (by unfold api_Divisor_int_36.f clone.f; rw [if_pos (by omega)])).mono ?_; rintro e w1 ⟨v0, rfl, hR, hB⟩; obtain ⟨Av, cv, rfl⟩ := Kd.R_slice hR))
  rename_i hHeld
  have hW0 : WoodAt (w1.alloc (.cells ((Try.zeroCells120.setIfInBounds 0 (.int .i64 n)).setIfInBounds 145 (.slice Av l.length cv)) 120)) w1.heap.size n (fun _ _ => 0) (.slice Av l.length cv) (fun _ => false) := ⟨_, by simpa using heap_alloc_new w1 _, WoodCells.new _ _⟩
  have hB0 : Below w.heap.size w (w1.alloc (.cells ((Try.zeroCells120.setIfInBounds 0 (.int .i64 n)).setIfInBounds 145 (.slice Av l.length cv)) 120)) := below_alloc (below_then (below_drew (below_alloc (Below.refl _ _) _)) (by simp) hB) _
  have hR0 : Kd.R (Kd.int .i64) 3 (w1.alloc (.cells ((Try.zeroCells120.setIfInBounds 0 (.int .i64 n)).setIfInBounds 145 (.slice Av l.length cv)) 120)) w.heap.size (fun _ => True) (.slice Av l.length cv) l := Kd.R_lower (Kd.R_alloc hR _) (by simp)
  have hg : w.heap.size < w1.heap.size := by have := hB.size; simp at this; omega
  clear hB hR
  generalize hgg : w1.heap.size = g at hW0 hg ⊢
  generalize (w1.alloc (.cells ((Try.zeroCells120.setIfInBounds 0 (.int .i64 n)).setIfInBounds 145 (.slice Av l.length cv)) 120)) = W0 at hW0 hHeld hB0 hR0 ⊢
  clear hgg
  obtain ⟨hs0, hs1⟩ := hHeld
  go_wp2
  go_loopw [19] (fun u wr => ∃ k : Nat, k ≤ E.length ∧ u = .int .i64 k ∧ Aside0 (WoodAt wr g n (timesOf (E.take k)) (.slice Av l.length cv) (fun _ => false)) ∧ Aside0 (Kd.R (Kd.int .i64) 3 wr w.heap.size (fun _ => True) (.slice Av l.length cv) l) ∧ Aside0 (Below w.heap.size w wr)) (fun u _ => E.length - (intOf u).toNat)
  case atStart => exact ⟨0, Nat.zero_le _, rfl, ⟨by simpa [timesOf] using hW0⟩, ⟨hR0⟩, ⟨hB0⟩⟩
  case round =>
    obtain ⟨k, hk, rfl, HW, HR, HB⟩ := hrel
    have hlE := hr0.2.1
    by_cases hlt : k < E.length
    · obtain ⟨e0, e1, e2, e3, e4, e5⟩ := hE.get k hlt
      have hst := timesOf_snoc E k hlt
      have Hst := Lib.hid hst
      clear hst
      obtain ⟨ad, rfl, hx0, hx1, hx2⟩ := at_T66 hr0 k (by omega) (by omega)
      rw [Int.toNat_natCast] at hx0 hx1 hx2
      replace hx0 := (HB.out.cell (World.block_lt_of_cell? w _ hx0)).trans hx0
      replace hx1 := (HB.out.cell (World.block_lt_of_cell? w _ hx1)).trans hx1
      replace hx2 := (HB.out.cell (World.block_lt_of_cell? w _ hx2)).trans hx2
      generalize rd_T66 E k = x at e0 e1 e2 e3 e4 e5 hx0 hx1 hx2 Hst
      obtain ⟨a, b, m⟩ := x
      simp only at e0 e1 e2 e3 e4 e5 hx0 hx1 hx2
      obtain ⟨a, rfl⟩ := Int.eq_ofNat_of_zero_le e0
      obtain ⟨b, rfl⟩ := Int.eq_ofNat_of_zero_le e2
      have a12 : a < 12 := by omega
      have b12 : b < 12 := by omega
      by_cases hab : a = b
      · have hb0 : ((a : Int) != (b : Int)) = false := by rw [hab]; simp
        have Hab := Lib.hid hab
        clear hab
        go_wp2
        go_roundw
        case rel => exact ⟨k + 1, by omega, by go_num, ⟨by rw [Hst.out]; simp only [timesStep]; rw [if_pos (by rw [Hab.out])]; exact HW.out.below (below_alloc (Below.refl _ _) _)⟩, ⟨Kd.R_alloc HR.out _⟩, ⟨below_alloc HB.out _⟩⟩
        case measure => simp [intOf]; omega
      · have hb0 : ((a : Int) != (b : Int)) = true := by rw [bne_iff_ne]; omega
        have hne : 1 + a * 12 + b ≠ 1 + b * 12 + a := by omega
        have hne' : 1 + b * 12 + a ≠ 1 + a * 12 + b := by omega
        have Hab := Lib.hid hab
        clear hab
        have hgl := HW.out.lt
        have HW2 := Aside0.mk (HW.out.below (below_alloc (Below.refl _ _) (.cells #[.int .i64 a, .int .i64 b, .int .i64 m] 66)))
        have f1 := HW2.out.frozen (1 + a * 12 + b)
        have f2 := HW2.out.frozen (1 + b * 12 + a)
        have c1 := HW2.out.cell_times a b a12 b12
        have c2 := HW2.out.cell_times b a b12 a12
        go_wp2
        have s0 : (wr.alloc (.cells #[.int .i64 a, .int .i64 b, .int .i64 m] 66)).cell? ⟨wr.heap.size, 0, none⟩ = some (.int .i64 a) := by go_simp
        have s1 : (wr.alloc (.cells #[.int .i64 a, .int .i64 b, .int .i64 m] 66)).cell? ⟨wr.heap.size, 1, none⟩ = some (.int .i64 b) := by go_simp
        have s2 : (wr.alloc (.cells #[.int .i64 a, .int .i64 b, .int .i64 m] 66)).cell? ⟨wr.heap.size, 2, none⟩ = some (.int .i64 m) := by go_simp
        have HR2 := Aside0.mk (Kd.R_alloc HR.out (.cells #[.int .i64 a, .int .i64 b, .int .i64 m] 66))
        have HB2 := Aside0.mk (below_alloc HB.out (.cells #[.int .i64 a, .int .i64 b, .int .i64 m] 66))
        have hge : g ≠ wr.heap.size := by omega
        have hge' : wr.heap.size ≠ g := by omega
        generalize (wr.alloc (.cells #[.int .i64 a, .int .i64 b, .int .i64 m] 66)) = W2 at s0 s1 s2 HW2 HR2 HB2 f1 f2 c1 c2 ⊢
        generalize wr.heap.size = eb at hge hge' s0 s1 s2 ⊢
        have d1 := (HW2.out.set_times b a b12 a12 m).cell_times a b a12 b12
        have d2 := (HW2.out.set_times a b a12 b12 m).cell_times b a b12 a12
        go_region
        have HW3 := (HW2.out.set_times a b a12 b12 m).set_times b a b12 a12 m
        have HR3 := (HW2.out.set_times a b a12 b12 m).R_set (HW2.out.R_set HR2.out (by decide) (1 + a * 12 + b) (.int .i64 m)) (by decide) (1 + b * 12 + a) (.int .i64 m)
        have HB3 := below_set (below_set HB2.out (g := g) (j := 1 + a * 12 + b) (v := .int .i64 m) (by omega)) (g := g) (j := 1 + b * 12 + a) (v := .int .i64 m) (by omega)
        generalize ((W2.setCell ⟨g, 1 + a * 12 + b, none⟩ (.int .i64 m)).setCell ⟨g, 1 + b * 12 + a, none⟩ (.int .i64 m)) = W3 at HW3 HR3 HB3 ⊢
        replace HW3 := Aside0.mk HW3
        replace HR3 := Aside0.mk HR3
        replace HB3 := Aside0.mk HB3
        go_wp2
        go_roundw
        case rel => exact ⟨k + 1, by omega, by go_num, ⟨by rw [Hst.out]; simp only [timesStep]; rw [if_neg (by have := Hab.out; omega)]; exact HW3.out.drew⟩, ⟨Kd.R_drew HR3.out⟩, ⟨below_drew HB3.out⟩⟩
        case measure => simp [intOf]; omega
    · obtain rfl : k = E.length := by omega
      have fq := HW.out.frozen (146 + q)
      have cq := HW.out.cell_burnt q (by omega)
      have HW4 := Aside0.mk (HW.out.set_burnt q (by omega) true)
      have HR4 := Aside0.mk (HW.out.R_set HR.out (by decide) (146 + q) (.bool true))
      have HB4 := Aside0.mk (below_set HB.out (g := g) (j := 146 + q) (v := .bool true) (by omega))
      go_wp2
      go_ret
      exact ⟨g, Av, cv, rfl, by simpa using HW4.out, HR4.out, HB4.out, by omega⟩
end Go.Proofs.Ytffdiakgjakngaa.P
