/- SuperstableLists answers true whatever the input (text 10 of 15): own walks and plain laws; no conditions. -/
import Derived.Test.YtffdiakgjakngaaLists9
namespace Go.Proofs.Ytffdiakgjakngaa.P
open Go.RowKit Go.Proofs.YtffdiakgjakngaaW.PrintWords Go.Proofs.YtffdiakgjakngaaW.PrintLast Go.Proofs.YtffdiakgjakngaaW.PrintMore
set_option linter.unusedVariables false
set_option linter.unusedSimpArgs false
def sandpileref19_Top.l0 : Nat → Int → List Int → Int → Int → List (S66) → Option (List Int)
  | 0, _, _, _, _, _ => none
  | k + 1, x1, x5, x6, x182000, x182001 => if x6 < x182000 then (if x6 = x1 then (sandpileref19_Top.l0 k x1 x5 (wrap64 (x6 + 1)) x182000 x182001) else ((sandpileref08_Valence.f k x182000 x182001 x6).bind fun t185 => (if 0 ≤ x6 then (if x6 < (x5.length : Int) then (sandpileref19_Top.l0 k x1 (x5.set (x6 : Int).toNat (wrap64 (t185 - 1))) (wrap64 (x6 + 1)) x182000 x182001) else (none)) else (none)))) else (some x5)
def sandpileref19_Top.f (k : Nat) (a0_0 : Int) (l0_1 : List (S66)) (a1 : Int) : Option (List Int) := if 0 ≤ a0_0 then (if (a0_0 : Int).toNat ≤ 35184372088832 then (sandpileref19_Top.l0 k a1 (List.replicate (a0_0 : Int).toNat 0) 0 a0_0 l0_1) else (none)) else (none)
set_option maxHeartbeats 8000000 in
set_option maxRecDepth 100000 in
theorem sandpileref19_Top.calls (k : Nat) (a0_0 : Int) (A0_1 : Option Addr) (c0_1 : Nat) (l0_1 : List (S66)) (a1 : Int) (r : List Int) (w : World) (hr0_1 : Kd.C k66 w A0_1 l0_1.length l0_1) (hc0_1 : l0_1.length ≤ c0_1) (h : sandpileref19_Top.f k a0_0 l0_1 a1 = some r) :
    Calls Try.prog 74 #[.agg #[.int .i64 a0_0, .slice A0_1 l0_1.length c0_1], .int .i64 a1] w fun e w' => ∃ v0_ : Value, e = .returned (v0_) ∧ Kd.R (Kd.int .i64) 3 w' w.heap.size (fun _ => True) v0_ r ∧ Below w.heap.size w w' := by
  have hu24 := Try.underlying24
  have HR0_1 := Aside0.mk hr0_1
  have HC0_1 := Aside0.mk hc0_1
  clear hr0_1 hc0_1
  have HB := Aside0.mk (Below.refl w.heap.size w)
  have H : (if 0 ≤ a0_0 then (if (a0_0 : Int).toNat ≤ 35184372088832 then (sandpileref19_Top.l0 k a1 (List.replicate (a0_0 : Int).toNat 0) 0 a0_0 l0_1) else (none)) else (none)) = some r := h
  clear h
  by_cases c3 : 0 ≤ a0_0
  · rw [if_pos c3] at H
    have c3b0 := eq_true c3
    have c3b1 : decide (0 ≤ a0_0) = true := decide_eq_true c3
    clear c3
    by_cases c4 : (a0_0 : Int).toNat ≤ 35184372088832
    · rw [if_pos c4] at H
      have c4b0 := eq_true c4
      have c4b1 : decide ((a0_0 : Int).toNat ≤ 35184372088832) = true := decide_eq_true c4
      clear c4
      obtain ⟨y182, hy182⟩ : ∃ y_ : List Int, y_ = (List.replicate (a0_0 : Int).toNat 0) := ⟨_, rfl⟩
      replace H : (sandpileref19_Top.l0 k a1 y182 0 a0_0 l0_1) = some r := by first | (rw [hy182]; with_reducible exact H) | (have H2_ := (Option.bind_some _ _).symm.trans H; rw [hy182]; with_reducible exact H2_) | (have H2_ := (Option.bind_some _ _).symm.trans H; with_reducible exact H2_) | with_reducible exact H | (rw [hy182]; exact H) | exact H
      have Ny182 := Aside0.mk hy182
      clear hy182
      have H' := Aside0.mk H
      clear H
      go_enter Try.func74, Try.ntmps74
      go_wp2_with (first | ((with_reducible refine gate_dst (N := 2) rfl ?_); refine box_event ?hg (N := 2) ?hd (cs := #[.int .i64 a0_0, .slice A0_1 l0_1.length c0_1]) (t := 24) ?hr ?_; (case hd => rfl); (case hg => rfl); (case hr => first | (go_simp; done) | (go_simp; rfl)); intro gb181 hg w5 hbox hb; have BK181 := Aside0.mk (hbox); have GW181 := zG HB hg; have GE181 := zG HB hg; replace HB := zS HB hb; clear hb hbox hg; obtain ⟨hcz6_0, hcz6_1, hfz6_0, hfz6_1⟩ := zD2 BK181) | ((with_reducible refine gate_dst (N := 9) rfl ?_); refine Kd.R_make (Kd.int .i64) _ 3 rfl (N := 9) rfl 42 _ _ rfl a0_0 rfl rfl Try.underlying42 (.int .i64 0) 8 info3 rfl (by decide) (by omega) 0 (ok := fun _ => True) (okp := fun _ => True) rfl (fun _ hk => hk) trivial (of_decide_eq_true ‹_›) (Nat.le_trans (Nat.mul_le_mul_right _ (of_decide_eq_true ‹_› : a0_0.toNat ≤ 35184372088832)) (by omega)) (Below.refl _ _) (Nat.le_refl _) ?_; intro v183 w7 ho8 hb hg_ hnew_; clear hg_ hnew_; (first | rw [← Ny182.out] at ho8 | (simp only [Int.reduceToNat] at ho8; rw [← Ny182.out] at ho8)); have HO184 := Aside0.mk (Kd.R_lower ho8 (below_size zB)); replace BK181 := Aside0.mk (blk_below (zK BK181) hb); replace HB := zS HB hb; clear hb ho8))
      go_loopg [6] k (fun kq v6 w' => ∃ (x5_1 : List Int) (x6_1 : Int), v6 = .int .i64 x6_1 ∧ Aside0 (sandpileref19_Top.l0 kq a1 x5_1 x6_1 a0_0 l0_1 = some r) ∧ Aside0 (kq ≤ k) ∧ Aside0 (Kd.R (Kd.int .i64) 3 w' w.heap.size (fun _ => True) v183 x5_1) ∧ Aside0 (w'.heap[gb181]? = some (.cells #[.int .i64 a0_0, (.slice A0_1 l0_1.length c0_1)] 24 (0, 0))) ∧ Aside0 (Below w.heap.size w w'))
      case atStart => exact ⟨(y182), (0), zT, H', ⟨Nat.le_refl _⟩, ⟨zR HO184⟩, ⟨zK BK181⟩, ⟨zB⟩⟩
      case round =>
        clear H'
        try clear p2
        try clear c3
        try clear c3b0
        try clear c3b1
        try clear c4
        try clear c4b0
        try clear c4b1
        try clear c7
        try clear hcz6_0
        try clear hcz6_1
        try clear hfz6_0
        try clear hfz6_1
        obtain ⟨x5_1, x6_1, rfl, HA, HK1, HO_5, BK181, HB⟩ := hrel
        cases gk with
        | zero => exact absurd HA.out (by simp [sandpileref19_Top.l0])
        | succ k1 =>
          have H := HA.out
          clear HA
          simp only [sandpileref19_Top.l0] at H
          by_cases c9 : x6_1 < a0_0
          · rw [if_pos c9] at H
            have c9b0 : decide (x6_1 < a0_0) = true := decide_eq_true c9
            clear c9
            by_cases c10 : x6_1 = a1
            · rw [if_pos c10] at H
              have c10b0 : (x6_1 == a1) = true := beq_iff_eq.mpr c10
              have c10b1 : (x6_1 != a1) = false := bne_eq_false_iff_eq.mpr c10
              clear c10
              have H' := Aside0.mk H
              clear H
              have hcz11_0 := z0 BK181
              have hcz11_1 := z1 BK181
              have hfz11_0 := blk_frozen BK181.out 0
              have hfz11_1 := blk_frozen BK181.out 1
              go_wp2
              go_roundg k1
              case measure => have := HK1.out; omega
              case rel => exact ⟨(x5_1), (wrap64 (x6_1 + 1)), zT, H', ⟨by have := HK1.out; omega⟩, ⟨zR HO_5⟩, ⟨zK BK181⟩, ⟨zB⟩⟩
            · rw [if_neg c10] at H
              have c10b0 : (x6_1 == a1) = false := beq_eq_false_iff_ne.mpr c10
              have c10b1 : (x6_1 != a1) = true := bne_iff_ne.mpr c10
              replace H := Option.bind_eq_some_iff.mp H
              obtain ⟨t185, A120, H⟩ := H
              replace H : (if 0 ≤ x6_1 then (if x6_1 < (x5_1.length : Int) then (sandpileref19_Top.l0 k1 a1 (x5_1.set (x6_1 : Int).toNat (wrap64 (t185 - 1))) (wrap64 (x6_1 + 1)) a0_0 l0_1) else (none)) else (none)) = some r := H
              have A12 := Aside0.mk A120
              clear A120
              by_cases c13 : 0 ≤ x6_1
              · rw [if_pos c13] at H
                have c13b0 : decide (0 ≤ x6_1) = true := decide_eq_true c13
                clear c13
                by_cases c14 : x6_1 < (x5_1.length : Int)
                · rw [if_pos c14] at H
                  have c14b0 : decide (x6_1 < (x5_1.length : Int)) = true := decide_eq_true c14
                  clear c14
                  obtain ⟨y186, hy186⟩ : ∃ y_ : List Int, y_ = (x5_1.set (x6_1 : Int).toNat (wrap64 (t185 - 1))) := ⟨_, rfl⟩
                  replace H : (sandpileref19_Top.l0 k1 a1 y186 (wrap64 (x6_1 + 1)) a0_0 l0_1) = some r := by first | (rw [hy186]; with_reducible exact H) | (have H2_ := (Option.bind_some _ _).symm.trans H; rw [hy186]; with_reducible exact H2_) | (have H2_ := (Option.bind_some _ _).symm.trans H; with_reducible exact H2_) | with_reducible exact H | (rw [hy186]; exact H) | exact H
                  have Ny186 := Aside0.mk hy186
                  clear hy186
                  have H' := Aside0.mk H
                  clear H
                  have hcz16_0 := z0 BK181
                  have hcz16_1 := z1 BK181
                  have hfz16_0 := blk_frozen BK181.out 0
                  have hfz16_1 := blk_frozen BK181.out 1
                  go_wp2_with (first | ((with_reducible refine gate_callee (f := 87) rfl ?_); refine zL (some 23) Try.func87 #[.agg #[.int .i64 a0_0, .slice A0_1 l0_1.length c0_1], .int .i64 x6_1] ?_; (with_reducible refine (sandpileref08_Valence.calls k1 a0_0 _ _ l0_1 x6_1 t185 _ ?side1 ?side2 A12.out).mono ?_); (case side1 => exact Kd.C_below HR0_1.out zB); (case side2 => exact HC0_1.out); rintro e w17 ⟨rfl, hb⟩; refine ⟨_, rfl, ?_⟩; replace HO_5 := Aside0.mk (Kd.R_below (zR HO_5) hb); replace BK181 := Aside0.mk (blk_below (zK BK181) hb); replace HB := zS HB hb; (try clear hb); have p15 : 0 ≤ (x6_1 : Int) := of_decide_eq_true ‹_›; have q15 : (x6_1 : Int) < ((x5_1.length : Int) : Int) := of_decide_eq_true ‹_›; obtain ⟨go15, co15, eo15, gb15, gl15, cl15, HG15⟩ := Kd.R_form HO_5.out (by omega); (first | cases eo15 | (injection eo15 with ea_ en_ ec_; (first | subst ea_ | (injection ea_ with ea_; subst ea_)); subst ec_; clear en_)); have GB15 := Aside0.mk gb15; have GG15 := Aside0.mk HG15; clear gb15 gl15 HG15; obtain ⟨hx15_0, hf15_0⟩ := Kd.R_celln 0 HO_5.out (x6_1 : Int) p15 q15; replace p15 := eq_true p15; replace q15 := eq_true q15; obtain ⟨hy18_, hz18_⟩ := Kd.R_celln 0 HO_5.out (x6_1 : Int) (of_decide_eq_true ‹_›) (of_decide_eq_true ‹_›); have HP18 := Kd.R_putg HO_5.out (x6_1 : Int) (wrap64 (t185 - 1))) | ((with_reducible refine gate_store (t := 3) (p := 25) rfl ?_); refine store_event (t := 3) (p := 25) (v := ?vo_w19) (w1 := (w17.setCell ⟨go15, (x6_1 : Int).toNat, none⟩ (.int .i64 (wrap64 (t185 - 1))))) ?hg ?ho ?hn ?hr ?_; (case ho => rfl); (case hg => rfl); (case hn => rfl); (case hr => first | (go_simp; done) | (go_simp; rfl)); intro w19 hw; have hg : w17.grownBy w19 (some go15) := (by rw [hw]; exact HP18.2); have hp_ : Kd.R (Kd.int .i64) 3 w19 w.heap.size (fun _ => True) (.slice (some ⟨go15, 0, none⟩) x5_1.length co15) y186 := (by rw [hw, Ny186.out]; exact HP18.1); clear HP18; replace BK181 := Aside0.mk (blk_grown (zK BK181) hg (Kd.R_ne HO_5.out BK181.out (by decide))); replace HO_5 := Aside0.mk (hp_); replace HB := Aside0.mk ((by rw [hw]; exact below_set (HB.out) GB15.out : Below w.heap.size w w19)); clear hg hw hp_))
                  go_roundg k1
                  case measure => have := HK1.out; omega
                  case rel => exact ⟨(y186), (wrap64 (x6_1 + 1)), zT, H', ⟨by have := HK1.out; omega⟩, ⟨zR HO_5⟩, ⟨zK BK181⟩, ⟨zB⟩⟩
                · rw [if_neg c14] at H
                  exact absurd H (by simp)
              · rw [if_neg c13] at H
                exact absurd H (by simp)
          · rw [if_neg c9] at H
            have c9b0 : decide (x6_1 < a0_0) = false := decide_eq_false c9
            clear c9
            obtain rfl := Option.some.inj H
            have hcz20_0 := z0 BK181
            have hcz20_1 := z1 BK181
            have hfz20_0 := blk_frozen BK181.out 0
            have hfz20_1 := blk_frozen BK181.out 1
            go_wp2
            go_ret
            exact ⟨_, zE, by (with_reducible repeat (first | apply Kd.R_alloc | apply Kd.R_drewN | apply Kd.R_drew)); exact HO_5.out, zB⟩
    · rw [if_neg c4] at H
      exact absurd H (by simp)
  · rw [if_neg c3] at H
    exact absurd H (by simp)
mutual
def sandpileref28_Stables.l0 : Nat → Int → List Int → List (List Int) → Int → Int → List (S66) → Option ((List (List Int)))
  | 0, _, _, _, _, _, _ => none
  | k + 1, x1, x5, x6, x7, x188000, x188001 => if x7 < x188000 then (if 0 ≤ x7 then (if x7 < (x5.length : Int) then (if x7 = x1 then (sandpileref28_Stables.j1 k x1 x5 x6 x7 0 x188000 x188001) else (sandpileref28_Stables.j1 k x1 x5 x6 x7 (rd x5 x7) x188000 x188001)) else (none)) else (none)) else (some x6)
def sandpileref28_Stables.j1 : Nat → Int → List Int → List (List Int) → Int → Int → Int → List (S66) → Option ((List (List Int)))
  | 0, _, _, _, _, _, _, _ => none
  | k + 1, x1, x5, x6, x7, x8, x188000, x188001 => sandpileref28_Stables.l1 k x1 x5 x6 x7 x8 ([] : List (List Int)) 0 x188000 x188001
def sandpileref28_Stables.l1 : Nat → Int → List Int → List (List Int) → Int → Int → List (List Int) → Int → Int → List (S66) → Option ((List (List Int)))
  | 0, _, _, _, _, _, _, _, _, _ => none
  | k + 1, x1, x5, x6, x7, x8, x9, x10, x188000, x188001 => if x10 < (x6.length : Int) then (sandpileref28_Stables.l2 k x1 x5 x6 x7 x8 x9 x10 0 x188000 x188001) else (sandpileref28_Stables.l0 k x1 x5 x9 (wrap64 (x7 + 1)) x188000 x188001)
def sandpileref28_Stables.l2 : Nat → Int → List Int → List (List Int) → Int → Int → List (List Int) → Int → Int → Int → List (S66) → Option ((List (List Int)))
  | 0, _, _, _, _, _, _, _, _, _, _ => none
  | k + 1, x1, x5, x6, x7, x8, x9, x10, x11, x188000, x188001 => if x11 ≤ x8 then ((some (([] : List Int) : List Int)).bind fun y198 => (if 0 ≤ x10 then (if x10 < (x6.length : Int) then (if y198.length + (rd_L2 x6 x10).length < 17592186044416 then ((some (y198 ++ (rd_L2 x6 x10) : List Int)).bind fun y202 => (if y202.length < 17592186044416 then (if x9.length < 5864062014805 then (sandpileref28_Stables.l2 k x1 x5 x6 x7 x8 (x9 ++ [(y202 ++ [x11])]) x10 (wrap64 (x11 + 1)) x188000 x188001) else (none)) else (none))) else (none)) else (none)) else (none))) else (sandpileref28_Stables.l1 k x1 x5 x6 x7 x8 x9 (wrap64 (x10 + 1)) x188000 x188001)
end
def sandpileref28_Stables.f (k : Nat) (a0_0 : Int) (l0_1 : List (S66)) (a1 : Int) : Option ((List (List Int))) := (sandpileref19_Top.f k a0_0 l0_1 a1).bind fun t188 => (sandpileref28_Stables.l0 k a1 t188 (([(([] : List Int))] : List (List Int))) 0 a0_0 l0_1)
set_option maxHeartbeats 8000000 in
set_option maxRecDepth 100000 in
theorem sandpileref28_Stables.calls (k : Nat) (a0_0 : Int) (A0_1 : Option Addr) (c0_1 : Nat) (l0_1 : List (S66)) (a1 : Int) (r : List (List Int)) (w : World) (hr0_1 : Kd.C k66 w A0_1 l0_1.length l0_1) (hc0_1 : l0_1.length ≤ c0_1) (h : sandpileref28_Stables.f k a0_0 l0_1 a1 = some r) :
    Calls Try.prog 49 #[.agg #[.int .i64 a0_0, .slice A0_1 l0_1.length c0_1], .int .i64 a1] w fun e w' => ∃ v0_ : Value, e = .returned (v0_) ∧ Kd.N (Kd.slice 3 (Kd.int .i64)) 42 w' w.heap.size (fun k_ => (w.heap.size ≤ k_)) v0_ r ∧ Below w.heap.size w w' := by
  have hu24 := Try.underlying24
  have HR0_1 := Aside0.mk hr0_1
  have HC0_1 := Aside0.mk hc0_1
  clear hr0_1 hc0_1
  have HB := Aside0.mk (Below.refl w.heap.size w)
  have H : ((sandpileref19_Top.f k a0_0 l0_1 a1).bind fun t188 => (sandpileref28_Stables.l0 k a1 t188 (([(([] : List Int))] : List (List Int))) 0 a0_0 l0_1)) = some r := h
  clear h
  replace H := Option.bind_eq_some_iff.mp H
  obtain ⟨t188, A30, H⟩ := H
  replace H : (sandpileref28_Stables.l0 k a1 t188 (([(([] : List Int))] : List (List Int))) 0 a0_0 l0_1) = some r := H
  have A3 := Aside0.mk A30
  clear A30
  obtain ⟨y191, hy191⟩ : ∃ y_ : List Int, y_ = (([] : List Int)) := ⟨_, rfl⟩
  replace H : (sandpileref28_Stables.l0 k a1 t188 (([y191] : List (List Int))) 0 a0_0 l0_1) = some r := by first | (rw [hy191]; with_reducible exact H) | (have H2_ := (Option.bind_some _ _).symm.trans H; rw [hy191]; with_reducible exact H2_) | (have H2_ := (Option.bind_some _ _).symm.trans H; with_reducible exact H2_) | with_reducible exact H | (rw [hy191]; exact H) | exact H
  have Ny191 := Aside0.mk hy191
  clear hy191
  obtain ⟨y194, hy194⟩ : ∃ y_ : List (List Int), y_ = (([y191] : List (List Int))) := ⟨_, rfl⟩
  replace H : (sandpileref28_Stables.l0 k a1 t188 y194 0 a0_0 l0_1) = some r := by first | (rw [hy194]; with_reducible exact H) | (have H2_ := (Option.bind_some _ _).symm.trans H; rw [hy194]; with_reducible exact H2_) | (have H2_ := (Option.bind_some _ _).symm.trans H; with_reducible exact H2_) | with_reducible exact H | (rw [hy194]; exact H) | exact H
  have Ny194 := Aside0.mk hy194
  clear hy194
  have H' := Aside0.mk H
  clear H
  go_enter Try.func49, Try.ntmps49
  go_wp2_with (first | ((with_reducible refine gate_dst (N := 2) rfl ?_); refine box_event ?hg (N := 2) ?hd (cs := #[.int .i64 a0_0, .slice A0_1 l0_1.length c0_1]) (t := 24) ?hr ?_; (case hd => rfl); (case hg => rfl); (case hr => first | (go_simp; done) | (go_simp; rfl)); intro gb187 hg w4 hbox hb; have BK187 := Aside0.mk (hbox); have GW187 := zG HB hg; have GE187 := zG HB hg; replace HB := zS HB hb; clear hb hbox hg; obtain ⟨hcz5_0, hcz5_1, hfz5_0, hfz5_1⟩ := zD2 BK187) | ((with_reducible refine gate_callee (f := 74) rfl ?_); refine zL (some 14) Try.func74 #[.agg #[.int .i64 a0_0, .slice A0_1 l0_1.length c0_1], .int .i64 a1] ?_; (with_reducible refine (sandpileref19_Top.calls k a0_0 _ _ l0_1 a1 t188 _ ?side1 ?side2 A3.out).mono ?_); (case side1 => exact Kd.C_below HR0_1.out zB); (case side2 => exact HC0_1.out); rintro e w6 ⟨v189, rfl, ho0, hb⟩; refine ⟨_, rfl, ?_⟩; have HO190 := Aside0.mk (Kd.R_lower (Kd.R_newM (M := fun k_ => (w.heap.size ≤ k_)) ho0 (below_size zB) (fun k_ h_ => h_)) (below_size zB)); replace BK187 := Aside0.mk (blk_below (zK BK187) hb); replace HB := zS HB hb; (try clear hb); (try clear ho0)) | ((with_reducible refine gate_dst (N := 15) rfl ?_); refine Kd.R_lit (Kd.int .i64) _ 3 ?hg (N := 15) ?hd (xs := ([] : List Int)) (inner := []) (ok := fun _ => True) (okp := fun _ => True) ?hr ?hp (fun _ hk => hk) trivial (Below.refl _ _) (Nat.le_refl _) (by simp) ?_; (case hd => rfl); (case hg => rfl); (case hr => first | (go_simp; done) | (go_simp; rfl)); (case hp => exact (Reps.none _ _)); intro v192 w7 ho8 hb hg_ hnew_; clear hg_ hnew_; (first | rw [← Ny191.out] at ho8 | (simp only [Int.reduceToNat] at ho8; rw [← Ny191.out] at ho8)); have HO193 := Aside0.mk (Kd.R_lower (Kd.R_new' (Kd.R_newM (M := fun k_ => (w.heap.size ≤ k_)) ho8 (below_size zB) (fun k_ h_ => h_)) (Kd.R_lt (zR HO190))) (below_size zB)); replace HO190 := Aside0.mk (Kd.R_elder' (zR HO190) (Kd.R_base ho8) hb); replace BK187 := Aside0.mk (blk_below (zK BK187) hb); replace HB := zS HB hb; clear hb ho8; obtain ⟨Ao9, co9, eo9⟩ := Kd.R_slice HO193.out; subst eo9) | ((with_reducible refine gate_dst (N := 16) rfl ?_); refine Kd.N_lit (Kd.slice 3 (Kd.int .i64)) _ 42 ?hg (N' := 16) ?hd (xs := ([y191] : List (List Int))) (inner := [.slice Ao9 y191.length co9]) (ok := (fun k_ => (w.heap.size ≤ k_) ∧ some k_ ≠ (v189 : Value).ownBlock ∧ k_ ≠ gb187)) (okp := (fun k_ => (w.heap.size ≤ k_) ∧ some k_ ≠ (v189 : Value).ownBlock ∧ k_ ≠ gb187)) ?hr ?hp (fun _ hk => hk) ((show ∀ k_, w7.heap.size ≤ k_ → (fun k_ => (w.heap.size ≤ k_) ∧ some k_ ≠ (v189 : Value).ownBlock ∧ k_ ≠ gb187) k_ from fun k_ hk => ⟨(Nat.le_trans (below_size zB) hk), Kd.fresh' (Kd.R_lt (zR HO190)) k_ hk, Kd.freshB (zK BK187) k_ hk⟩) _ (Nat.le_refl _)) (Below.refl _ _) (Nat.le_refl _) (by simp) ?_; (case hd => rfl); (case hg => rfl); (case hr => first | (go_simp; done) | (go_simp; rfl)); (case hp => exact (Reps.one (show Kd.FK (Kd.slice 3 (Kd.int .i64)) _ _ y191 [.slice Ao9 y191.length co9] from (Kd.FK_slice_mk (Kd.R_reads' (Kd.R_mono (ok' := (fun k_ => (w.heap.size ≤ k_) ∧ some k_ ≠ (v189 : Value).ownBlock ∧ k_ ≠ gb187)) (Kd.R_types (HO193.out) BK187.out (by decide)) (fun k_ hk => ⟨hk.1.1.1, ⟨hk.1.2, hk.2⟩⟩))).2.1 (Kd.R_F (Kd.R_mono (ok' := (fun k_ => (w.heap.size ≤ k_) ∧ some k_ ≠ (v189 : Value).ownBlock ∧ k_ ≠ gb187)) (Kd.R_types (HO193.out) BK187.out (by decide)) (fun k_ hk => ⟨hk.1.1.1, ⟨hk.1.2, hk.2⟩⟩))))) (Reps.none _ _))); intro v195 w10 ho11 hb hg_ hnew_; clear hg_ hnew_; (first | rw [← Ny194.out] at ho11 | (simp only [Int.reduceToNat] at ho11; rw [← Ny194.out] at ho11)); replace HO190 := Aside0.mk (Kd.R_below (zR HO190) hb); have HO196 := Aside0.mk (Kd.N_lower ho11 (below_size zB)); replace BK187 := Aside0.mk (blk_below (zK BK187) hb); replace HB := zS HB hb; clear HO193; clear hb ho11))
  go_loopg [6, 7] k (fun kq v6 v7 w' => ∃ (x6_1 : List (List Int)) (x7_1 : Int), v7 = .int .i64 x7_1 ∧ Aside0 (sandpileref28_Stables.l0 kq a1 t188 x6_1 x7_1 a0_0 l0_1 = some r) ∧ Aside0 (kq ≤ k) ∧ Aside0 (Kd.R (Kd.int .i64) 3 w' w.heap.size (fun k_ => (w.heap.size ≤ k_)) v189 t188) ∧ Aside0 (Kd.N (Kd.slice 3 (Kd.int .i64)) 42 w' w.heap.size (fun k_ => (w.heap.size ≤ k_) ∧ some k_ ≠ (v189 : Value).ownBlock ∧ k_ ≠ gb187) v6 x6_1) ∧ Aside0 (w'.heap[gb187]? = some (.cells #[.int .i64 a0_0, (.slice A0_1 l0_1.length c0_1)] 24 (0, 0))) ∧ Aside0 (Below w.heap.size w w'))
  case atStart => exact ⟨(y194), (0), zT, H', ⟨Nat.le_refl _⟩, ⟨by (with_reducible repeat (first | apply Kd.R_alloc | apply Kd.R_drewN | apply Kd.R_drew)); exact Kd.R_mono HO190.out (fun _ hk => hk.1.1)⟩, ⟨zN HO196⟩, ⟨zK BK187⟩, ⟨zB⟩⟩
  case round =>
    clear H'
    try clear p2
    try clear c4
    try clear c7
    try clear hcz5_0
    try clear hcz5_1
    try clear hfz5_0
    try clear hfz5_1
    obtain ⟨x6_1, x7_1, rfl, HA, HK1, HO_5, HO_6, BK187, HB⟩ := hrel
    cases gk with
    | zero => exact absurd HA.out (by simp [sandpileref28_Stables.l0])
    | succ k1 =>
      have H := HA.out
      clear HA
      simp only [sandpileref28_Stables.l0] at H
      by_cases c12 : x7_1 < a0_0
      · rw [if_pos c12] at H
        have c12b0 : decide (x7_1 < a0_0) = true := decide_eq_true c12
        clear c12
        by_cases c13 : 0 ≤ x7_1
        · rw [if_pos c13] at H
          have c13b0 : decide (0 ≤ x7_1) = true := decide_eq_true c13
          clear c13
          by_cases c14 : x7_1 < (t188.length : Int)
          · rw [if_pos c14] at H
            have c14b0 : decide (x7_1 < (t188.length : Int)) = true := decide_eq_true c14
            clear c14
            have HC15 := Aside0.mk H
            clear H
            have hcz16_0 := z0 BK187
            have hcz16_1 := z1 BK187
            have hfz16_0 := blk_frozen BK187.out 0
            have hfz16_1 := blk_frozen BK187.out 1
            obtain ⟨Ao17, co17, eo17⟩ := Kd.R_slice HO_5.out
            subst eo17
            have p197 : 0 ≤ (x7_1 : Int) := of_decide_eq_true ‹_›
            have q197 : x7_1 < (t188.length : Int) := of_decide_eq_true ‹_›
            obtain ⟨ad197, e197, hx197_0⟩ := Kd.at_int (Kd.R_reads' HO_5.out).2.2 x7_1 p197 q197
            cases e197
            replace p197 := eq_true p197
            replace q197 := eq_true q197
            go_upto_if 29 with (fail)
            go_cut [8] (fun v8 wc => ∃ (kq : Nat) (x8_14 : Int), v8 = .int .i64 x8_14 ∧ Aside0 (sandpileref28_Stables.j1 kq a1 t188 x6_1 x7_1 x8_14 a0_0 l0_1 = some r) ∧ Aside0 (kq ≤ k1) ∧ Aside0 (Kd.R (Kd.int .i64) 3 wc w.heap.size (fun k_ => (w.heap.size ≤ k_)) (.slice (some ad197) t188.length co17) t188) ∧ Aside0 (Kd.N (Kd.slice 3 (Kd.int .i64)) 42 wc w.heap.size (fun k_ => (w.heap.size ≤ k_) ∧ some k_ ≠ ((.slice (some ad197) t188.length co17) : Value).ownBlock ∧ k_ ≠ gb187) u6 x6_1) ∧ Aside0 (wc.heap[gb187]? = some (.cells #[.int .i64 a0_0, (.slice A0_1 l0_1.length c0_1)] 24 (0, 0))) ∧ Aside0 (Below w.heap.size w wc))
            case first =>
              have H := HC15.out
              clear HC15
              by_cases c18 : x7_1 = a1
              · rw [if_pos c18] at H
                have c18b0 : (x7_1 == a1) = true := beq_iff_eq.mpr c18
                have c18b1 : (x7_1 != a1) = false := bne_eq_false_iff_eq.mpr c18
                clear c18
                (first | rw [c18b0] | (simp only [i64_w, i32_w]; rw [c18b0]) | skip)
                have H' := Aside0.mk H
                clear H
                go_wp2
                go_meet
                case rel => exact ⟨_, (0), zT, H', ⟨by have := HK1.out; first | omega | exact Nat.le_refl _⟩, ⟨zR HO_5⟩, ⟨zN HO_6⟩, ⟨zK BK187⟩, ⟨zB⟩⟩
              · rw [if_neg c18] at H
                have c18b0 : (x7_1 == a1) = false := beq_eq_false_iff_ne.mpr c18
                have c18b1 : (x7_1 != a1) = true := bne_iff_ne.mpr c18
                (first | rw [c18b0] | (simp only [i64_w, i32_w]; rw [c18b0]) | skip)
                have H' := Aside0.mk H
                clear H
                go_wp2
                go_meet
                case rel => exact ⟨_, (rd t188 x7_1), zT, H', ⟨by have := HK1.out; first | omega | exact Nat.le_refl _⟩, ⟨zR HO_5⟩, ⟨zN HO_6⟩, ⟨zK BK187⟩, ⟨zB⟩⟩
            case rest =>
              clear HC15
              try clear c1
              try clear p1
              try clear q1
              try clear hx1
              try clear p2
              try clear c4
              try clear c7
              try clear c12
              try clear c12b0
              try clear c13
              try clear c13b0
              try clear c14
              try clear c14b0
              try clear c18
              try clear c18b0
              try clear c18b1
              try clear hcz16_0
              try clear hcz16_1
              try clear hcz5_0
              try clear hcz5_1
              try clear hfz16_0
              try clear hfz16_1
              try clear hfz5_0
              try clear hfz5_1
              try clear hx197_0
              try clear p197
              try clear p2
              try clear q197
              obtain ⟨kq, x8_14, rfl, HA, HJ14, HO_5, HO_6, BK187, HB⟩ := hcut
              cases kq with
              | zero => exact absurd HA.out (by simp [sandpileref28_Stables.j1])
              | succ kj14 =>
                have H := HA.out
                clear HA
                simp only [sandpileref28_Stables.j1] at H
                have H' := Aside0.mk H
                clear H
                go_wp2
                go_loopg [9, 10] kj14 (fun kq v9 v10 w' => ∃ (x9_3 : List (List Int)) (x10_3 : Int), v10 = .int .i64 x10_3 ∧ Aside0 (sandpileref28_Stables.l1 kq a1 t188 x6_1 x7_1 x8_14 x9_3 x10_3 a0_0 l0_1 = some r) ∧ Aside0 (kq ≤ kj14) ∧ Aside0 (Kd.R (Kd.int .i64) 3 w' w.heap.size (fun k_ => (w.heap.size ≤ k_)) (.slice (some ad197) t188.length co17) t188) ∧ Aside0 (Kd.N (Kd.slice 3 (Kd.int .i64)) 42 w' w.heap.size (fun k_ => (w.heap.size ≤ k_) ∧ some k_ ≠ ((.slice (some ad197) t188.length co17) : Value).ownBlock ∧ some k_ ≠ (v9 : Value).ownBlock ∧ k_ ≠ gb187) u6 x6_1) ∧ Aside0 (Kd.N (Kd.slice 3 (Kd.int .i64)) 42 w' w.heap.size (fun k_ => (w.heap.size ≤ k_) ∧ some k_ ≠ ((.slice (some ad197) t188.length co17) : Value).ownBlock ∧ some k_ ≠ (u6 : Value).ownBlock ∧ k_ ≠ gb187) v9 x9_3) ∧ Aside0 (w'.heap[gb187]? = some (.cells #[.int .i64 a0_0, (.slice A0_1 l0_1.length c0_1)] 24 (0, 0))) ∧ Aside0 (Below w.heap.size w w'))
                case atStart => exact ⟨(([] : List (List Int))), (0), zT, H', ⟨Nat.le_refl _⟩, ⟨zR HO_5⟩, ⟨by (with_reducible repeat (first | apply Kd.N_alloc | apply Kd.N_drewN | apply Kd.N_drew)); exact Kd.N_mono HO_6.out (fun _ hk => ⟨hk.1, ⟨hk.2.1, ⟨(by simp [Value.ownBlock]), hk.2.2⟩⟩⟩)⟩, ⟨by first | exact Kd.S_nil _ _ _ _ _ | exact Kd.N_nil _ _ _ _ _ | exact Kd.V_nil _ _ _ _ _ | exact Kd.Q_nil _ _ _ _ _ | exact Kd.R_nil _ _ _ _ _⟩, ⟨zK BK187⟩, ⟨zB⟩⟩
                case round =>
                  clear H'
                  try clear c1
                  try clear p1
                  try clear q1
                  try clear hx1
                  try clear p2
                  try clear c4
                  try clear c7
                  try clear c12
                  try clear c12b0
                  try clear c13
                  try clear c13b0
                  try clear c14
                  try clear c14b0
                  try clear c18
                  try clear c18b0
                  try clear c18b1
                  try clear hcz16_0
                  try clear hcz16_1
                  try clear hcz5_0
                  try clear hcz5_1
                  try clear hfz16_0
                  try clear hfz16_1
                  try clear hfz5_0
                  try clear hfz5_1
                  try clear hx197_0
                  try clear p1
                  try clear p197
                  try clear p2
                  try clear q1
                  try clear q197
                  obtain ⟨x9_3, x10_3, rfl, HA, HK3, HO_5, HO_6, HO_9, BK187, HB⟩ := hrel
                  cases gk with
                  | zero => exact absurd HA.out (by simp [sandpileref28_Stables.l1])
                  | succ k3 =>
                    have H := HA.out
                    clear HA
                    simp only [sandpileref28_Stables.l1] at H
                    by_cases c19 : x10_3 < (x6_1.length : Int)
                    · rw [if_pos c19] at H
                      have c19b0 : decide (x10_3 < (x6_1.length : Int)) = true := decide_eq_true c19
                      clear c19
                      have H' := Aside0.mk H
                      clear H
                      obtain ⟨Ao20, co20, eo20⟩ := Kd.N_slice HO_6.out
                      subst eo20
                      go_wp2
                      go_loopg [9, 11] k3 (fun kq v9 v11 w' => ∃ (x9_4 : List (List Int)) (x11_4 : Int), v11 = .int .i64 x11_4 ∧ Aside0 (sandpileref28_Stables.l2 kq a1 t188 x6_1 x7_1 x8_14 x9_4 x10_3 x11_4 a0_0 l0_1 = some r) ∧ Aside0 (kq ≤ k3) ∧ Aside0 (Kd.R (Kd.int .i64) 3 w' w.heap.size (fun k_ => (w.heap.size ≤ k_)) (.slice (some ad197) t188.length co17) t188) ∧ Aside0 (Kd.N (Kd.slice 3 (Kd.int .i64)) 42 w' w.heap.size (fun k_ => (w.heap.size ≤ k_) ∧ some k_ ≠ ((.slice (some ad197) t188.length co17) : Value).ownBlock ∧ some k_ ≠ (v9 : Value).ownBlock ∧ k_ ≠ gb187) (.slice Ao20 x6_1.length co20) x6_1) ∧ Aside0 (Kd.N (Kd.slice 3 (Kd.int .i64)) 42 w' w.heap.size (fun k_ => (w.heap.size ≤ k_) ∧ some k_ ≠ ((.slice (some ad197) t188.length co17) : Value).ownBlock ∧ some k_ ≠ ((.slice Ao20 x6_1.length co20) : Value).ownBlock ∧ k_ ≠ gb187) v9 x9_4) ∧ Aside0 (w'.heap[gb187]? = some (.cells #[.int .i64 a0_0, (.slice A0_1 l0_1.length c0_1)] 24 (0, 0))) ∧ Aside0 (Below w.heap.size w w'))
                      case atStart => exact ⟨(x9_3), (0), zT, H', ⟨Nat.le_refl _⟩, ⟨zR HO_5⟩, ⟨zN HO_6⟩, ⟨zN HO_9⟩, ⟨zK BK187⟩, ⟨zB⟩⟩
                      case round =>
                        clear H'
                        try clear c1
                        try clear p1
                        try clear q1
                        try clear hx1
                        try clear p2
                        try clear c4
                        try clear c7
                        try clear c12
                        try clear c12b0
                        try clear c13
                        try clear c13b0
                        try clear c14
                        try clear c14b0
                        try clear c18
                        try clear c18b0
                        try clear c18b1
                        try clear c19
                        try clear c19b0
                        try clear p19
                        try clear q19
                        try clear hx19
                        try clear hcz16_0
                        try clear hcz16_1
                        try clear hcz5_0
                        try clear hcz5_1
                        try clear hfz16_0
                        try clear hfz16_1
                        try clear hfz5_0
                        try clear hfz5_1
                        try clear hx197_0
                        try clear p1
                        try clear p197
                        try clear p2
                        try clear q1
                        try clear q197
                        obtain ⟨x9_4, x11_4, rfl, HA, HK4, HO_5, HO_6, HO_9, BK187, HB⟩ := hrel
                        cases gk with
                        | zero => exact absurd HA.out (by simp [sandpileref28_Stables.l2])
                        | succ k4 =>
                          have H := HA.out
                          clear HA
                          simp only [sandpileref28_Stables.l2] at H
                          by_cases c21 : x11_4 ≤ x8_14
                          · rw [if_pos c21] at H
                            have c21b0 : decide (x11_4 ≤ x8_14) = true := decide_eq_true c21
                            clear c21
                            obtain ⟨y198, hy198⟩ : ∃ y_ : List Int, y_ = (([] : List Int)) := ⟨_, rfl⟩
                            replace H : (if 0 ≤ x10_3 then (if x10_3 < (x6_1.length : Int) then (if y198.length + (rd_L2 x6_1 x10_3).length < 17592186044416 then ((some (y198 ++ (rd_L2 x6_1 x10_3) : List Int)).bind fun y202 => (if y202.length < 17592186044416 then (if x9_4.length < 5864062014805 then (sandpileref28_Stables.l2 k4 a1 t188 x6_1 x7_1 x8_14 (x9_4 ++ [(y202 ++ [x11_4])]) x10_3 (wrap64 (x11_4 + 1)) a0_0 l0_1) else (none)) else (none))) else (none)) else (none)) else (none)) = some r := by first | (rw [hy198]; with_reducible exact H) | (have H2_ := (Option.bind_some _ _).symm.trans H; rw [hy198]; with_reducible exact H2_) | (have H2_ := (Option.bind_some _ _).symm.trans H; with_reducible exact H2_) | with_reducible exact H | (rw [hy198]; exact H) | exact H
                            have Ny198 := Aside0.mk hy198
                            clear hy198
                            by_cases c22 : 0 ≤ x10_3
                            · rw [if_pos c22] at H
                              have c22b0 : decide (0 ≤ x10_3) = true := decide_eq_true c22
                              clear c22
                              by_cases c23 : x10_3 < (x6_1.length : Int)
                              · rw [if_pos c23] at H
                                have c23b0 : decide (x10_3 < (x6_1.length : Int)) = true := decide_eq_true c23
                                clear c23
                                by_cases c24 : y198.length + (rd_L2 x6_1 x10_3).length < 17592186044416
                                · rw [if_pos c24] at H
                                  have LMc24 := Aside0.mk c24
                                  clear c24
                                  obtain ⟨y202, hy202⟩ : ∃ y_ : List Int, y_ = (y198 ++ (rd_L2 x6_1 x10_3)) := ⟨_, rfl⟩
                                  replace H : (if y202.length < 17592186044416 then (if x9_4.length < 5864062014805 then (sandpileref28_Stables.l2 k4 a1 t188 x6_1 x7_1 x8_14 (x9_4 ++ [(y202 ++ [x11_4])]) x10_3 (wrap64 (x11_4 + 1)) a0_0 l0_1) else (none)) else (none)) = some r := by first | (rw [hy202]; with_reducible exact H) | (have H2_ := (Option.bind_some _ _).symm.trans H; rw [hy202]; with_reducible exact H2_) | (have H2_ := (Option.bind_some _ _).symm.trans H; with_reducible exact H2_) | with_reducible exact H | (rw [hy202]; exact H) | exact H
                                  have Ny202 := Aside0.mk hy202
                                  clear hy202
                                  by_cases c25 : y202.length < 17592186044416
                                  · rw [if_pos c25] at H
                                    have LMc25 := Aside0.mk c25
                                    clear c25
                                    obtain ⟨y205, hy205⟩ : ∃ y_ : List Int, y_ = (y202 ++ [x11_4]) := ⟨_, rfl⟩
                                    replace H : (if x9_4.length < 5864062014805 then (sandpileref28_Stables.l2 k4 a1 t188 x6_1 x7_1 x8_14 (x9_4 ++ [y205]) x10_3 (wrap64 (x11_4 + 1)) a0_0 l0_1) else (none)) = some r := by first | (rw [hy205]; with_reducible exact H) | (have H2_ := (Option.bind_some _ _).symm.trans H; rw [hy205]; with_reducible exact H2_) | (have H2_ := (Option.bind_some _ _).symm.trans H; with_reducible exact H2_) | with_reducible exact H | (rw [hy205]; exact H) | exact H
                                    have Ny205 := Aside0.mk hy205
                                    clear hy205
                                    by_cases c26 : x9_4.length < 5864062014805
                                    · rw [if_pos c26] at H
                                      have LMc26 := Aside0.mk c26
                                      clear c26
                                      obtain ⟨y208, hy208⟩ : ∃ y_ : List (List Int), y_ = (x9_4 ++ [y205]) := ⟨_, rfl⟩
                                      replace H : (sandpileref28_Stables.l2 k4 a1 t188 x6_1 x7_1 x8_14 y208 x10_3 (wrap64 (x11_4 + 1)) a0_0 l0_1) = some r := by first | (rw [hy208]; with_reducible exact H) | (have H2_ := (Option.bind_some _ _).symm.trans H; rw [hy208]; with_reducible exact H2_) | (have H2_ := (Option.bind_some _ _).symm.trans H; with_reducible exact H2_) | with_reducible exact H | (rw [hy208]; exact H) | exact H
                                      have Ny208 := Aside0.mk hy208
                                      clear hy208
                                      have H' := Aside0.mk H
                                      clear H
                                      go_wp2_with (first | ((with_reducible refine gate_dst (N := 42) rfl ?_); refine Kd.R_lit (Kd.int .i64) _ 3 ?hg (N := 42) ?hd (xs := ([] : List Int)) (inner := []) (ok := fun _ => True) (okp := fun _ => True) ?hr ?hp (fun _ hk => hk) trivial (Below.refl _ _) (Nat.le_refl _) (by simp) ?_; (case hd => rfl); (case hg => rfl); (case hr => first | (go_simp; done) | (go_simp; rfl)); (case hp => exact (Reps.none _ _)); intro v199 w27 ho28 hb hg_ hnew_; clear hg_ hnew_; (first | rw [← Ny198.out] at ho28 | (simp only [Int.reduceToNat] at ho28; rw [← Ny198.out] at ho28)); replace HO_6 := Aside0.mk (Kd.N_elder' (zN HO_6) (Kd.R_base ho28) hb); replace HO_9 := Aside0.mk (Kd.N_elder' (zN HO_9) (Kd.R_base ho28) hb); have HO200 := Aside0.mk (Kd.R_lower (Kd.R_new' (Kd.R_newM (M := fun k_ => (w.heap.size ≤ k_)) ho28 (below_size zB) (fun k_ h_ => h_)) (Kd.R_lt (zR HO_5))) (below_size zB)); replace HO_5 := Aside0.mk (Kd.R_elder' (zR HO_5) (Kd.R_base ho28) hb); replace BK187 := Aside0.mk (blk_below (zK BK187) hb); replace HB := zS HB hb; clear hb ho28; have p201 : 0 ≤ (x10_3 : Int) := of_decide_eq_true ‹_›; have q201 : x10_3 < (x6_1.length : Int) := of_decide_eq_true ‹_›; obtain ⟨ad201, A201_0, c201_0, e201, hx201_0, hl201_0, hi201_0⟩ := at_L2 (Kd.N_reads' HO_6.out).2.2 x10_3 p201 q201; cases e201; obtain ⟨ce201, hce201, hMe201, hcc201⟩ := Kd.N_get HO_6.out [] x10_3 p201 (by first | exact q201 | exact of_decide_eq_true ‹_› | (have e_ := (Kd.N_reads' HO_6.out).1; omega)); obtain ⟨ua201_0, uc201_0, rfl, ul201_0, ge201_0⟩ := Kd.FK_slice_open hMe201; have hv201_0 := hcc201 0 _ rfl; rw [Nat.add_zero, show ((Kd.slice 3 (Kd.int .i64))).sz = 1 from rfl, Nat.mul_one] at hv201_0; replace hv201_0 := Option.some.inj (hv201_0.symm.trans hx201_0); injection hv201_0 with hva_ hvn_ hvc_; rw [hva_] at ge201_0; rw [hvc_] at ul201_0; have HL201_0 := Aside0.mk (show Kd.V (Kd.int .i64) 3 _ w.heap.size _ _ (rd_L2 x6_1 x10_3) from Kd.V_mk ul201_0 ge201_0); clear hva_ hvn_ hvc_ ge201_0 ul201_0; clear hcc201 hce201; have HR201_0 := Aside0.mk hi201_0; have HC201_0 := Aside0.mk hl201_0; clear hi201_0 hl201_0; replace p201 := eq_true p201; replace q201 := eq_true q201) | ((with_reducible refine gate_builtin (b := .append) (xs := #[.tmp 42, .tmp 46]) rfl ?_); at_builtin; refine Kd.R_append_rows (Kd.int .i64) (w0 := w) w.heap.size rfl (.tmp 42) (.tmp 46) 42 3 (.int .i64 0) 8 rfl Try.underlying42 info3 rfl (by decide) (by omega) v199 y198 (rd_L2 x6_1 x10_3) _ _ _ (fun k_ => (w.heap.size ≤ k_) ∧ some k_ ≠ (.slice (some ad197) t188.length co17 : Value).ownBlock) (fun _ => False) rfl rfl ?aO ?aR (fun _ _ h => h) (fun _ h => h.elim) ?aF ?aB ?aS ?aL ?_; (case aR => repeat (first | exact (by repeat (first | (with_reducible exact HR201_0.out) | (with_reducible refine Kd.C_alloc ?_ _) | (with_reducible refine Kd.C_drewN ?_ _) | (with_reducible refine Kd.C_drew ?_) | exact HR201_0.out)) | (with_reducible refine Kd.C_alloc ?_ _) | (with_reducible refine Kd.C_drewN ?_ _) | (with_reducible refine Kd.C_drew ?_))); (case aB => exact zB); (case aF => exact (fun k_ hk => ⟨(Nat.le_trans (below_size zB) hk), Kd.fresh' (Kd.R_lt (zR HO_5)) k_ hk⟩)); (case aO => exact (by (with_reducible repeat (first | apply Kd.R_alloc | apply Kd.R_drewN | apply Kd.R_drew)); exact Kd.R_mono HO200.out (fun _ hk => ⟨hk.1.1, hk.2⟩))); (case aS => exact (below_size zB)); (case aL => have := LMc24.out; omega); intro v203 w29 ho hb hg hat; rw [← Ny202.out] at ho; replace HO_5 := Aside0.mk (Kd.R_after (ok := (fun k_ => (w.heap.size ≤ k_))) (zR HO_5) hg hat); replace HO_6 := Aside0.mk (Kd.N_afterv (ok := (fun k_ => (w.heap.size ≤ k_) ∧ some k_ ≠ (.slice (some ad197) t188.length co17 : Value).ownBlock ∧ some k_ ≠ (u9 : Value).ownBlock ∧ k_ ≠ gb187)) (zN HO_6) hg hat); replace HO_9 := Aside0.mk (Kd.N_afterv (ok := (fun k_ => (w.heap.size ≤ k_) ∧ some k_ ≠ (.slice (some ad197) t188.length co17 : Value).ownBlock ∧ some k_ ≠ (.slice (some ad201) x6_1.length co20 : Value).ownBlock ∧ k_ ≠ gb187)) (zN HO_9) hg hat); replace BK187 := Aside0.mk (blk_grown (zK BK187) hg (Kd.R_ne HO200.out BK187.out (by decide))); replace HL201_0 := Aside0.mk (Kd.V_afterv (ok := (fun k_ => (w.heap.size ≤ k_) ∧ some k_ ≠ (.slice (some ad197) t188.length co17 : Value).ownBlock ∧ some k_ ≠ (.slice (some ad201) x6_1.length co20 : Value).ownBlock ∧ some k_ ≠ (u9 : Value).ownBlock ∧ k_ ≠ gb187)) (by (with_reducible repeat (first | apply Kd.V_alloc | apply Kd.V_drewN | apply Kd.V_drew)); exact Kd.V_mono HL201_0.out (fun _ hk => ⟨⟨hk.1.1.1, ⟨hk.1.1.2.1, ⟨hk.2, ⟨hk.1.1.2.2.1, hk.1.1.2.2.2⟩⟩⟩⟩, hk.1.2⟩)) hg hat); replace HB := Aside0.mk (hb); have HO204 := Aside0.mk (ho); clear HO200; clear ho hb hg hat) | ((with_reducible refine gate_builtin (b := .append) (xs := #[.tmp 47, .tmp 49]) rfl ?_); at_builtin; refine Kd.R_append (Kd.int .i64) (w0 := w) w.heap.size rfl (.tmp 47) (.tmp 49) 42 3 (.int .i64 0) 8 rfl Try.underlying42 info3 rfl (by decide) (by omega) v203 y202 x11_4 [.int .i64 x11_4] (fun k_ => (w.heap.size ≤ k_) ∧ some k_ ≠ (.slice (some ad197) t188.length co17 : Value).ownBlock) (fun _ => False) rfl rfl ?aP (fun _ hk => hk.elim) ?aF ?aO ?aB ?aS ?aL ?_; (case aP => exact rfl); (case aB => exact zB); (case aF => exact (fun k_ hk => ⟨(Nat.le_trans (below_size zB) hk), Kd.fresh' (Kd.R_lt (zR HO_5)) k_ hk⟩)); (case aO => exact (zR HO204)); (case aS => exact (below_size zB)); (case aL => have := LMc25.out; omega); intro v206 w30 ho hb hg hat; rw [← Ny205.out] at ho; replace HO_5 := Aside0.mk (Kd.R_after (ok := (fun k_ => (w.heap.size ≤ k_))) (zR HO_5) hg hat); replace HO_6 := Aside0.mk (Kd.N_afterv (ok := (fun k_ => (w.heap.size ≤ k_) ∧ some k_ ≠ (.slice (some ad197) t188.length co17 : Value).ownBlock ∧ some k_ ≠ (u9 : Value).ownBlock ∧ k_ ≠ gb187)) (zN HO_6) hg hat); replace HO_9 := Aside0.mk (Kd.N_afterv (ok := (fun k_ => (w.heap.size ≤ k_) ∧ some k_ ≠ (.slice (some ad197) t188.length co17 : Value).ownBlock ∧ some k_ ≠ (.slice (some ad201) x6_1.length co20 : Value).ownBlock ∧ k_ ≠ gb187)) (zN HO_9) hg hat); replace BK187 := Aside0.mk (blk_grown (zK BK187) hg (Kd.R_ne HO204.out BK187.out (by decide))); replace HL201_0 := Aside0.mk (Kd.V_afterv (ok := (fun k_ => (w.heap.size ≤ k_) ∧ some k_ ≠ (.slice (some ad197) t188.length co17 : Value).ownBlock ∧ some k_ ≠ (.slice (some ad201) x6_1.length co20 : Value).ownBlock ∧ some k_ ≠ (u9 : Value).ownBlock ∧ k_ ≠ gb187)) (by (with_reducible repeat (first | apply Kd.V_alloc | apply Kd.V_drewN | apply Kd.V_drew)); exact HL201_0.out) hg hat); replace HB := Aside0.mk (hb); have HO207 := Aside0.mk (ho); clear HO204; clear ho hb hg hat; obtain ⟨Ao32, co32, eo32⟩ := Kd.R_slice HO207.out; subst eo32) | ((with_reducible refine gate_builtin (b := .append) (xs := #[.tmp 41, .tmp 51]) rfl ?_); at_builtin; refine Kd.N_append (Kd.slice 3 (Kd.int .i64)) (w0 := w) w.heap.size rfl (.tmp 41) (.tmp 51) 27 42 (.slice none 0 0) 24 rfl Try.underlying27 info42 rfl (by decide) (by omega) u9 x9_4 y205 [.slice Ao32 y205.length co32] (fun k_ => (w.heap.size ≤ k_) ∧ some k_ ≠ (.slice (some ad197) t188.length co17 : Value).ownBlock ∧ some k_ ≠ (.slice (some ad201) x6_1.length co20 : Value).ownBlock ∧ k_ ≠ gb187) (fun k_ => ((fun k_ => (w.heap.size ≤ k_) ∧ some k_ ≠ (.slice (some ad197) t188.length co17 : Value).ownBlock ∧ some k_ ≠ (.slice (some ad201) x6_1.length co20 : Value).ownBlock ∧ k_ ≠ gb187)) k_ ∧ some k_ ≠ (u9 : Value).ownBlock) rfl rfl ?aP (fun _ hk => hk) ?aF ?aO ?aB ?aS ?aL ?_; (case aP => exact (Kd.FK_slice_mk (Kd.R_reads' (Kd.R_mono (ok' := (fun k_ => ((fun k_ => (w.heap.size ≤ k_) ∧ some k_ ≠ (.slice (some ad197) t188.length co17 : Value).ownBlock ∧ some k_ ≠ (.slice (some ad201) x6_1.length co20 : Value).ownBlock ∧ k_ ≠ gb187)) k_ ∧ some k_ ≠ (u9 : Value).ownBlock)) (Kd.R_types (Kd.R_apart' (Kd.R_apart' (HO207.out) (Kd.N_typed HO_6.out) (by decide)) (Kd.N_typed HO_9.out) (by decide)) BK187.out (by decide)) (fun k_ hk => ⟨⟨hk.1.1.1.1, ⟨hk.1.1.1.2, ⟨hk.1.1.2, hk.2⟩⟩⟩, hk.1.2⟩))).2.1 (Kd.R_F (Kd.R_mono (ok' := (fun k_ => ((fun k_ => (w.heap.size ≤ k_) ∧ some k_ ≠ (.slice (some ad197) t188.length co17 : Value).ownBlock ∧ some k_ ≠ (.slice (some ad201) x6_1.length co20 : Value).ownBlock ∧ k_ ≠ gb187)) k_ ∧ some k_ ≠ (u9 : Value).ownBlock)) (Kd.R_types (Kd.R_apart' (Kd.R_apart' (HO207.out) (Kd.N_typed HO_6.out) (by decide)) (Kd.N_typed HO_9.out) (by decide)) BK187.out (by decide)) (fun k_ hk => ⟨⟨hk.1.1.1.1, ⟨hk.1.1.1.2, ⟨hk.1.1.2, hk.2⟩⟩⟩, hk.1.2⟩))))); (case aB => exact zB); (case aF => exact (fun k_ hk => ⟨(Nat.le_trans (below_size zB) hk), Kd.fresh' (Kd.R_lt (zR HO_5)) k_ hk, Kd.fresh' (Kd.N_lt (zN HO_6)) k_ hk, Kd.freshB (zK BK187) k_ hk⟩)); (case aO => exact (by (with_reducible repeat (first | apply Kd.N_alloc | apply Kd.N_drewN | apply Kd.N_drew)); exact Kd.N_mono HO_9.out (fun _ hk => ⟨hk.1.1, ⟨hk.1.2.1, ⟨hk.1.2.2.1, hk.1.2.2.2⟩⟩⟩))); (case aS => exact (below_size zB)); (case aL => have := LMc26.out; omega); intro v209 w31 ho hb hg hat; rw [← Ny208.out] at ho; replace HO_5 := Aside0.mk (Kd.R_over' (zR HO_5) (Kd.N_typed (zN HO_9)) (by decide) hg); replace HO_6 := Aside0.mk (Kd.N_afterv (ok := (fun k_ => (w.heap.size ≤ k_) ∧ some k_ ≠ (.slice (some ad197) t188.length co17 : Value).ownBlock ∧ some k_ ≠ (.slice Ao32 y205.length co32 : Value).ownBlock ∧ k_ ≠ gb187)) (by (with_reducible repeat (first | apply Kd.N_alloc | apply Kd.N_drewN | apply Kd.N_drew)); exact Kd.N_mono HO_6.out (fun _ hk => ⟨⟨hk.1.1, ⟨hk.1.2.1, ⟨hk.2, hk.1.2.2.2⟩⟩⟩, hk.1.2.2.1⟩)) hg hat); replace BK187 := Aside0.mk (blk_grown (zK BK187) hg (Kd.N_ne HO_9.out BK187.out (by decide))); replace HL201_0 := Aside0.mk (Kd.V_afterv (ok := (fun k_ => (w.heap.size ≤ k_) ∧ some k_ ≠ (.slice (some ad197) t188.length co17 : Value).ownBlock ∧ some k_ ≠ (.slice (some ad201) x6_1.length co20 : Value).ownBlock ∧ some k_ ≠ (.slice Ao32 y205.length co32 : Value).ownBlock ∧ k_ ≠ gb187)) (by (with_reducible repeat (first | apply Kd.V_alloc | apply Kd.V_drewN | apply Kd.V_drew)); exact Kd.V_mono HL201_0.out (fun _ hk => ⟨⟨hk.1.1, ⟨hk.1.2.1, ⟨hk.1.2.2.1, ⟨hk.2, hk.1.2.2.2.2⟩⟩⟩⟩, hk.1.2.2.2.1⟩)) hg hat); replace HB := Aside0.mk (hb); have HO210 := Aside0.mk (ho); clear HO_9 HO207; clear ho hb hg hat))
                                      go_roundg k4
                                      case measure => have := HK1.out; have := HJ14.out; have := HK3.out; have := HK4.out; omega
                                      case rel => exact ⟨(y208), (wrap64 (x11_4 + 1)), zT, H', ⟨by have := HK1.out; have := HJ14.out; have := HK3.out; have := HK4.out; omega⟩, ⟨by (with_reducible repeat (first | apply Kd.R_alloc | apply Kd.R_drewN | apply Kd.R_drew)); exact Kd.R_mono HO_5.out (fun _ hk => hk.1)⟩, ⟨by (with_reducible repeat (first | apply Kd.N_alloc | apply Kd.N_drewN | apply Kd.N_drew)); exact Kd.N_mono HO_6.out (fun _ hk => ⟨hk.1.1, ⟨hk.1.2.1, ⟨hk.2, hk.1.2.2.2⟩⟩⟩)⟩, ⟨zN HO210⟩, ⟨zK BK187⟩, ⟨zB⟩⟩
                                    · rw [if_neg c26] at H
                                      exact absurd H (by simp)
                                  · rw [if_neg c25] at H
                                    exact absurd H (by simp)
                                · rw [if_neg c24] at H
                                  exact absurd H (by simp)
                              · rw [if_neg c23] at H
                                exact absurd H (by simp)
                            · rw [if_neg c22] at H
                              exact absurd H (by simp)
                          · rw [if_neg c21] at H
                            have c21b0 : decide (x11_4 ≤ x8_14) = false := decide_eq_false c21
                            clear c21
                            have H' := Aside0.mk H
                            clear H
                            go_wp2
                            go_roundg k4
                            case measure => have := HK1.out; have := HJ14.out; have := HK3.out; have := HK4.out; omega
                            case rel => exact ⟨(x9_4), (wrap64 (x10_3 + 1)), zT, H', ⟨by have := HK1.out; have := HJ14.out; have := HK3.out; have := HK4.out; omega⟩, ⟨zR HO_5⟩, ⟨zN HO_6⟩, ⟨zN HO_9⟩, ⟨zK BK187⟩, ⟨zB⟩⟩
                    · rw [if_neg c19] at H
                      have c19b0 : decide (x10_3 < (x6_1.length : Int)) = false := decide_eq_false c19
                      clear c19
                      have H' := Aside0.mk H
                      clear H
                      obtain ⟨Ao33, co33, eo33⟩ := Kd.N_slice HO_6.out
                      subst eo33
                      go_wp2
                      go_roundg k3
                      case measure => have := HK1.out; have := HJ14.out; have := HK3.out; omega
                      case rel => exact ⟨(x9_3), (wrap64 (x7_1 + 1)), zT, H', ⟨by have := HK1.out; have := HJ14.out; have := HK3.out; omega⟩, ⟨zR HO_5⟩, ⟨by (with_reducible repeat (first | apply Kd.N_alloc | apply Kd.N_drewN | apply Kd.N_drew)); exact Kd.N_mono HO_9.out (fun _ hk => ⟨hk.1, ⟨hk.2.1, hk.2.2.2⟩⟩)⟩, ⟨zK BK187⟩, ⟨zB⟩⟩
          · rw [if_neg c14] at H
            exact absurd H (by simp)
        · rw [if_neg c13] at H
          exact absurd H (by simp)
      · rw [if_neg c12] at H
        have c12b0 : decide (x7_1 < a0_0) = false := decide_eq_false c12
        clear c12
        obtain rfl := Option.some.inj H
        have hcz34_0 := z0 BK187
        have hcz34_1 := z1 BK187
        have hfz34_0 := blk_frozen BK187.out 0
        have hfz34_1 := blk_frozen BK187.out 1
        go_wp2
        go_ret
        exact ⟨_, zE, by (with_reducible repeat (first | apply Kd.N_alloc | apply Kd.N_drewN | apply Kd.N_drew)); exact Kd.N_mono HO_6.out (fun _ hk => hk.1), zB⟩
def sandpileref28_All.l0 : Nat → Int → List (List Int) → List (List Int) → Int → Int → List (S66) → Option ((List (List Int)))
  | 0, _, _, _, _, _, _ => none
  | k + 1, x1, x5, x6, x7, x240000, x240001 => if x7 < (x5.length : Int) then (if 0 ≤ x7 then ((sandpileref23_Is.f k x240000 x240001 x1 (rd_L2 x5 x7)).bind fun t244 => (if t244 = true then (if x6.length < 5864062014805 then (sandpileref28_All.l0 k x1 x5 (x6 ++ [rd_L2 x5 x7]) (wrap64 (x7 + 1)) x240000 x240001) else (none)) else (sandpileref28_All.l0 k x1 x5 x6 (wrap64 (x7 + 1)) x240000 x240001))) else (none)) else (some x6)
def sandpileref28_All.f (k : Nat) (a0_0 : Int) (l0_1 : List (S66)) (a1 : Int) : Option ((List (List Int))) := (sandpileref28_Stables.f k a0_0 l0_1 a1).bind fun t240 => (sandpileref28_All.l0 k a1 t240 ([] : List (List Int)) 0 a0_0 l0_1)
set_option maxHeartbeats 8000000 in
set_option maxRecDepth 100000 in
theorem sandpileref28_All.calls (k : Nat) (a0_0 : Int) (A0_1 : Option Addr) (c0_1 : Nat) (l0_1 : List (S66)) (a1 : Int) (r : List (List Int)) (w : World) (hr0_1 : Kd.C k66 w A0_1 l0_1.length l0_1) (hc0_1 : l0_1.length ≤ c0_1) (h : sandpileref28_All.f k a0_0 l0_1 a1 = some r) :
    Calls Try.prog 16 #[.agg #[.int .i64 a0_0, .slice A0_1 l0_1.length c0_1], .int .i64 a1] w fun e w' => ∃ v0_ : Value, e = .returned (v0_) ∧ Kd.N (Kd.slice 3 (Kd.int .i64)) 42 w' w.heap.size (fun k_ => (w.heap.size ≤ k_)) v0_ r ∧ Below w.heap.size w w' := by
  have hu24 := Try.underlying24
  have HR0_1 := Aside0.mk hr0_1
  have HC0_1 := Aside0.mk hc0_1
  clear hr0_1 hc0_1
  have HB := Aside0.mk (Below.refl w.heap.size w)
  have H : ((sandpileref28_Stables.f k a0_0 l0_1 a1).bind fun t240 => (sandpileref28_All.l0 k a1 t240 ([] : List (List Int)) 0 a0_0 l0_1)) = some r := h
  clear h
  replace H := Option.bind_eq_some_iff.mp H
  obtain ⟨t240, A30, H⟩ := H
  replace H : (sandpileref28_All.l0 k a1 t240 ([] : List (List Int)) 0 a0_0 l0_1) = some r := H
  have A3 := Aside0.mk A30
  clear A30
  have H' := Aside0.mk H
  clear H
  go_enter Try.func16, Try.ntmps16
  go_wp2_with (first | ((with_reducible refine gate_dst (N := 2) rfl ?_); refine box_event ?hg (N := 2) ?hd (cs := #[.int .i64 a0_0, .slice A0_1 l0_1.length c0_1]) (t := 24) ?hr ?_; (case hd => rfl); (case hg => rfl); (case hr => first | (go_simp; done) | (go_simp; rfl)); intro gb239 hg w4 hbox hb; have BK239 := Aside0.mk (hbox); have GW239 := zG HB hg; have GE239 := zG HB hg; replace HB := zS HB hb; clear hb hbox hg; obtain ⟨hcz5_0, hcz5_1, hfz5_0, hfz5_1⟩ := zD2 BK239) | ((with_reducible refine gate_callee (f := 49) rfl ?_); refine zL (some 10) Try.func49 #[.agg #[.int .i64 a0_0, .slice A0_1 l0_1.length c0_1], .int .i64 a1] ?_; (with_reducible refine (sandpileref28_Stables.calls k a0_0 _ _ l0_1 a1 t240 _ ?side1 ?side2 A3.out).mono ?_); (case side1 => exact Kd.C_below HR0_1.out zB); (case side2 => exact HC0_1.out); rintro e w6 ⟨v241, rfl, ho0, hb⟩; refine ⟨_, rfl, ?_⟩; have HO242 := Aside0.mk (Kd.N_lower (Kd.N_mono (ok' := fun k_ => (w.heap.size ≤ k_) ∧ k_ ≠ gb239) ho0 (fun k_ hk_ => ⟨(Nat.le_trans (below_size zB) hk_), (Kd.freshB (zK BK239) k_ hk_)⟩)) (below_size zB)); replace BK239 := Aside0.mk (blk_below (zK BK239) hb); replace HB := zS HB hb; (try clear hb); (try clear ho0)))
  go_loopg [6, 7] k (fun kq v6 v7 w' => ∃ (x6_1 : List (List Int)) (x7_1 : Int), v7 = .int .i64 x7_1 ∧ Aside0 (sandpileref28_All.l0 kq a1 t240 x6_1 x7_1 a0_0 l0_1 = some r) ∧ Aside0 (kq ≤ k) ∧ Aside0 (Kd.N (Kd.slice 3 (Kd.int .i64)) 42 w' w.heap.size (fun k_ => (w.heap.size ≤ k_) ∧ some k_ ≠ (v6 : Value).ownBlock ∧ k_ ≠ gb239) v241 t240) ∧ Aside0 (Kd.N (Kd.slice 3 (Kd.int .i64)) 42 w' w.heap.size (fun k_ => (w.heap.size ≤ k_) ∧ some k_ ≠ (v241 : Value).ownBlock ∧ k_ ≠ gb239) v6 x6_1) ∧ Aside0 (w'.heap[gb239]? = some (.cells #[.int .i64 a0_0, (.slice A0_1 l0_1.length c0_1)] 24 (0, 0))) ∧ Aside0 (Below w.heap.size w w'))
  case atStart => exact ⟨(([] : List (List Int))), (0), zT, H', ⟨Nat.le_refl _⟩, ⟨by (with_reducible repeat (first | apply Kd.N_alloc | apply Kd.N_drewN | apply Kd.N_drew)); exact Kd.N_mono HO242.out (fun _ hk => ⟨hk.1, ⟨(by simp [Value.ownBlock]), hk.2⟩⟩)⟩, ⟨by first | exact Kd.S_nil _ _ _ _ _ | exact Kd.N_nil _ _ _ _ _ | exact Kd.V_nil _ _ _ _ _ | exact Kd.Q_nil _ _ _ _ _ | exact Kd.R_nil _ _ _ _ _⟩, ⟨zK BK239⟩, ⟨zB⟩⟩
  case round =>
    clear H'
    try clear c1
    try clear p2
    try clear c4
    try clear hcz5_0
    try clear hcz5_1
    try clear hfz5_0
    try clear hfz5_1
    obtain ⟨x6_1, x7_1, rfl, HA, HK1, HO_5, HO_6, BK239, HB⟩ := hrel
    cases gk with
    | zero => exact absurd HA.out (by simp [sandpileref28_All.l0])
    | succ k1 =>
      have H := HA.out
      clear HA
      simp only [sandpileref28_All.l0] at H
      by_cases c7 : x7_1 < (t240.length : Int)
      · rw [if_pos c7] at H
        have c7b0 : decide (x7_1 < (t240.length : Int)) = true := decide_eq_true c7
        clear c7
        by_cases c8 : 0 ≤ x7_1
        · rw [if_pos c8] at H
          have c8b0 : decide (0 ≤ x7_1) = true := decide_eq_true c8
          clear c8
          replace H := Option.bind_eq_some_iff.mp H
          obtain ⟨t244, A90, H⟩ := H
          replace H : (if t244 = true then (if x6_1.length < 5864062014805 then (sandpileref28_All.l0 k1 a1 t240 (x6_1 ++ [rd_L2 t240 x7_1]) (wrap64 (x7_1 + 1)) a0_0 l0_1) else (none)) else (sandpileref28_All.l0 k1 a1 t240 x6_1 (wrap64 (x7_1 + 1)) a0_0 l0_1)) = some r := H
          have A9 := Aside0.mk A90
          clear A90
          by_cases c10 : t244 = true
          · subst c10
            have H1 : (if x6_1.length < 5864062014805 then (sandpileref28_All.l0 k1 a1 t240 (x6_1 ++ [rd_L2 t240 x7_1]) (wrap64 (x7_1 + 1)) a0_0 l0_1) else (none)) = some r := by rw [if_pos rfl] at H; exact H
            clear H
            have H := H1
            clear H1
            by_cases c11 : x6_1.length < 5864062014805
            · rw [if_pos c11] at H
              have LMc11 := Aside0.mk c11
              clear c11
              obtain ⟨y246, hy246⟩ : ∃ y_ : List (List Int), y_ = (x6_1 ++ [rd_L2 t240 x7_1]) := ⟨_, rfl⟩
              replace H : (sandpileref28_All.l0 k1 a1 t240 y246 (wrap64 (x7_1 + 1)) a0_0 l0_1) = some r := by first | (rw [hy246]; with_reducible exact H) | (have H2_ := (Option.bind_some _ _).symm.trans H; rw [hy246]; with_reducible exact H2_) | (have H2_ := (Option.bind_some _ _).symm.trans H; with_reducible exact H2_) | with_reducible exact H | (rw [hy246]; exact H) | exact H
              have Ny246 := Aside0.mk hy246
              clear hy246
              have H' := Aside0.mk H
              clear H
              obtain ⟨Ao12, co12, eo12⟩ := Kd.N_slice HO_5.out
              subst eo12
              try go_wp2
              have n0_ := Aside0.mk (Kd.N_drew HO_5.out)
              have n1_ := Aside0.mk (Kd.N_drew HO_6.out)
              have n2_ := Aside0.mk (blk_drew BK239.out)
              have n3_ := Aside0.mk (below_drew1 HB.out)
              clear HO_5
              clear HO_6
              clear BK239
              clear HB
              have HO_5 := n0_
              have HO_6 := n1_
              have BK239 := n2_
              have HB := n3_
              clear n0_ n1_ n2_ n3_
              have p243 : 0 ≤ (x7_1 : Int) := of_decide_eq_true ‹_›
              have q243 : x7_1 < (t240.length : Int) := of_decide_eq_true ‹_›
              obtain ⟨ad243, A243_0, c243_0, e243, hx243_0, hl243_0, hi243_0⟩ := at_L2 (Kd.N_reads' HO_5.out).2.2 x7_1 p243 q243
              cases e243
              obtain ⟨ce243, hce243, hMe243, hcc243⟩ := Kd.N_get HO_5.out [] x7_1 p243 (by first | exact q243 | exact of_decide_eq_true ‹_› | (have e_ := (Kd.N_reads' HO_5.out).1; omega))
              obtain ⟨ua243_0, uc243_0, rfl, ul243_0, ge243_0⟩ := Kd.FK_slice_open hMe243
              have hv243_0 := hcc243 0 _ rfl
              rw [Nat.add_zero, show ((Kd.slice 3 (Kd.int .i64))).sz = 1 from rfl, Nat.mul_one] at hv243_0
              replace hv243_0 := Option.some.inj (hv243_0.symm.trans hx243_0)
              injection hv243_0 with hva_ hvn_ hvc_
              rw [hva_] at ge243_0
              rw [hvc_] at ul243_0
              have HL243_0 := Aside0.mk (show Kd.V (Kd.int .i64) 3 _ w.heap.size _ _ (rd_L2 t240 x7_1) from Kd.V_mk ul243_0 ge243_0)
              clear hva_ hvn_ hvc_ ge243_0 ul243_0
              clear hcc243 hce243
              have HR243_0 := Aside0.mk hi243_0
              have HC243_0 := Aside0.mk hl243_0
              clear hi243_0 hl243_0
              replace p243 := eq_true p243
              replace q243 := eq_true q243
              refine start_ (n := 7) (S := fun w' => w'.cell? ⟨gb239, 0, none⟩ = some (.int .i64 a0_0) ∧ w'.cell? ⟨gb239, 1, none⟩ = some (.slice A0_1 l0_1.length c0_1) ∧ w'.cell? (ad243.add (x7_1).toNat) = some (.slice A243_0 (rd_L2 t240 x7_1).length c243_0)) (ds := []) #[false, false, false, false, false, false, false] (by kernel_rfl) rfl rfl ⟨(blk_cell BK239.out 0).trans rfl, (blk_cell BK239.out 1).trans rfl, hx243_0⟩ (fun hHeld => ?_)
              generalize wr.drew = w13 at HO_5 HO_6 BK239 HB HL243_0 HR243_0 hx243_0 hHeld ⊢
              refine pure_ (i := 1) (N := some 18) (v := ?_) (a' := ?_) #[false, true, false, false, false, false, false] rfl rfl (by kernel_rfl) (fun _ _ _ h => h) (Or.inl ⟨by rfl, ?_⟩) ?_ ?_
              rotate_left
              · intro w'
                go_simp
                with_reducible rfl
              rotate_left
              · simp only [Act.put, List.setIfInBounds_toArray, List.set_cons_zero, List.set_cons_succ, i64_w, i32_w]
                rfl
              refine pure_ (i := 2) (N := some 19) (v := ?_) (a' := ?_) #[false, true, true, false, false, false, false] rfl rfl (by kernel_rfl) (fun _ _ _ h => h) (Or.inl ⟨by rfl, ?_⟩) ?_ ?_
              rotate_left
              · intro w'
                go_simp
                with_reducible rfl
              rotate_left
              · simp only [Act.put, List.setIfInBounds_toArray, List.set_cons_zero, List.set_cons_succ, i64_w, i32_w]
                rfl
              refine pure_ (i := 3) (N := some 20) (v := ?_) (a' := ?_) #[false, true, true, true, false, false, false] rfl rfl (by kernel_rfl) (fun _ _ _ h => h) (Or.inl ⟨by rfl, ?_⟩) ?_ ?_
              rotate_left
              · intro w'
                go_simp
                with_reducible rfl
              rotate_left
              · simp only [Act.put, List.setIfInBounds_toArray, List.set_cons_zero, List.set_cons_succ, i64_w, i32_w]
                rfl
              refine pure_ (i := 4) (N := some 21) (v := ?_) (a' := ?_) #[false, true, true, true, true, false, false] rfl rfl (by kernel_rfl) (fun _ _ _ h => h) (Or.inl ⟨by rfl, ?_⟩) ?_ ?_
              rotate_left
              · intro w'
                go_simp
                with_reducible rfl
              rotate_left
              · simp only [Act.put, List.setIfInBounds_toArray, List.set_cons_zero, List.set_cons_succ, i64_w, i32_w]
                rfl
              refine take_ (i := 0) (N := some 17) (v := ?_) (a' := ?_) #[true, true, true, true, true, false, false] rfl rfl (by kernel_rfl) (fun _ _ _ h => h) (Or.inl ⟨by rfl, ?_⟩) hHeld ?_ ?_
              rotate_left
              · rintro w' ⟨s0, s1, s2⟩
                go_simp
                with_reducible rfl
              rotate_left
              · simp only [Act.put, List.setIfInBounds_toArray, List.set_cons_zero, List.set_cons_succ, i64_w, i32_w]
                rfl
              refine take_ (i := 5) (N := some 22) (v := ?_) (a' := ?_) #[true, true, true, true, true, true, false] rfl rfl (by kernel_rfl) (fun _ _ _ h => h) (Or.inl ⟨by rfl, ?_⟩) hHeld ?_ ?_
              rotate_left
              · rintro w' ⟨s0, s1, s2⟩
                go_simp
                with_reducible rfl
              rotate_left
              · simp only [Act.put, List.setIfInBounds_toArray, List.set_cons_zero, List.set_cons_succ, i64_w, i32_w]
                rfl
              refine one_ (i := 6) (N := some 23) #[true, true, true, true, true, true, true] rfl rfl (by kernel_rfl) (by decide) (fun K hK => ?_)
              refine goes_ Try.func50 (by kernel_rfl) rfl #[.agg #[.int .i64 a0_0, .slice A0_1 l0_1.length c0_1], .int .i64 a1, .slice A243_0 (rd_L2 t240 x7_1).length c243_0] (by rfl) rfl rfl (by (try simp only [List.map_toArray, List.map_cons, List.map_nil]); first | done | rfl | (simp only [List.length_drop, List.length_take]; rfl)) ?_
              with_reducible refine (sandpileref23_Is.calls k1 a0_0 _ _ l0_1 a1 _ _ (rd_L2 t240 x7_1) true _ ?side1 ?side2 ?side3 ?side4 A9.out).mono ?_
              (case side1 => exact Kd.C_below HR0_1.out zB)
              (case side2 => exact HC0_1.out)
              (case side3 => repeat (first | exact (by repeat (first | (with_reducible exact HR243_0.out) | (with_reducible refine Kd.C_alloc ?_ _) | (with_reducible refine Kd.C_drewN ?_ _) | (with_reducible refine Kd.C_drew ?_) | exact HR243_0.out)) | (with_reducible refine Kd.C_alloc ?_ _) | (with_reducible refine Kd.C_drewN ?_ _) | (with_reducible refine Kd.C_drew ?_)))
              (case side4 => exact HC243_0.out)
              rintro e w14 ⟨rfl, hb⟩
              have HS2_ := (hb.cell (World.block_lt_of_cell? _ _ (hHeld.2.2))).trans (hHeld.2.2)
              refine ⟨_, rfl, ?_⟩
              have n0_ := Aside0.mk (Kd.N_below (zN HO_5) hb)
              have n1_ := Aside0.mk (Kd.N_below (zN HO_6) hb)
              have n2_ := Aside0.mk (Kd.V_below (by (with_reducible repeat (first | apply Kd.V_alloc | apply Kd.V_drewN | apply Kd.V_drew)); exact HL243_0.out) hb)
              have n3_ := Aside0.mk (blk_below (zK BK239) hb)
              have n4_ := Aside0.mk (Kd.C_below (by repeat (first | (with_reducible exact HR243_0.out) | (with_reducible refine Kd.C_alloc ?_ _) | (with_reducible refine Kd.C_drewN ?_ _) | (with_reducible refine Kd.C_drew ?_) | exact HR243_0.out)) hb)
              have n5_ := zS HB hb
              clear HO_5
              clear HO_6
              clear HL243_0
              clear BK239
              clear HR243_0
              clear HB
              have HO_5 := n0_
              have HO_6 := n1_
              have HL243_0 := n2_
              have BK239 := n3_
              have HR243_0 := n4_
              have HB := n5_
              clear n0_ n1_ n2_ n3_ n4_ n5_
              (try clear hb)
              skip
              skip
              skip
              refine hK.out _ _ ⟨(blk_cell BK239.out 0).trans rfl, (blk_cell BK239.out 1).trans rfl, HS2_⟩ (fun hHeld => ?_)
              clear hK K
              refine norm_ (a' := ?_) ?_ ?_
              rotate_left
              · show Act.put _ (some 23) _ = _
                simp only [Act.put, List.setIfInBounds_toArray, List.set_cons_zero, List.set_cons_succ, i64_w, i32_w]
                rfl
              refine done_ (by kernel_rfl) ?_
              have p245 : 0 ≤ (x7_1 : Int) := of_decide_eq_true ‹_›
              have q245 : x7_1 < (t240.length : Int) := of_decide_eq_true ‹_›
              obtain ⟨ad245, A245_0, c245_0, e245, hx245_0, hl245_0, hi245_0⟩ := at_L2 (Kd.N_reads' HO_5.out).2.2 x7_1 p245 q245
              obtain rfl : ad243 = ad245 := (by injection e245)
              obtain ⟨ce245, hce245, hMe245, hcc245⟩ := Kd.N_get HO_5.out [] x7_1 p245 (by first | exact q245 | exact of_decide_eq_true ‹_› | (have e_ := (Kd.N_reads' HO_5.out).1; omega))
              obtain ⟨ua245_0, uc245_0, rfl, ul245_0, ge245_0⟩ := Kd.FK_slice_open hMe245
              have hv245_0 := hcc245 0 _ rfl
              rw [Nat.add_zero, show ((Kd.slice 3 (Kd.int .i64))).sz = 1 from rfl, Nat.mul_one] at hv245_0
              replace hv245_0 := Option.some.inj (hv245_0.symm.trans hx245_0)
              injection hv245_0 with hva_ hvn_ hvc_
              rw [hva_] at ge245_0
              rw [hvc_] at ul245_0
              have HL245_0 := Aside0.mk (show Kd.V (Kd.int .i64) 3 _ w.heap.size _ _ (rd_L2 t240 x7_1) from Kd.V_mk ul245_0 ge245_0)
              clear hva_ hvn_ hvc_ ge245_0 ul245_0
              clear hcc245 hce245
              have HR245_0 := Aside0.mk hi245_0
              have HC245_0 := Aside0.mk hl245_0
              clear hi245_0 hl245_0
              replace p245 := eq_true p245
              replace q245 := eq_true q245
              try go_wp2_with (first | ((with_reducible refine gate_builtin (b := .append) (xs := #[.tmp 24, .tmp 29]) rfl ?_); at_builtin; refine Kd.N_append (Kd.slice 3 (Kd.int .i64)) (w0 := w) w.heap.size rfl (.tmp 24) (.tmp 29) 27 42 (.slice none 0 0) 24 rfl Try.underlying27 info42 rfl (by decide) (by omega) u6 x6_1 (rd_L2 t240 x7_1) [.slice A243_0 (rd_L2 t240 x7_1).length c243_0] (fun k_ => (w.heap.size ≤ k_) ∧ some k_ ≠ (.slice (some ad243) t240.length co12 : Value).ownBlock ∧ k_ ≠ gb239) (fun k_ => ((fun k_ => (w.heap.size ≤ k_) ∧ some k_ ≠ (.slice (some ad243) t240.length co12 : Value).ownBlock ∧ k_ ≠ gb239)) k_ ∧ some k_ ≠ (u6 : Value).ownBlock) rfl rfl ?aP (fun _ hk => hk) ?aF ?aO ?aB ?aS ?aL ?_; (case aP => exact (Kd.FK_slice_mk (Kd.V_reads' (Kd.V_mono (ok' := (fun k_ => ((fun k_ => (w.heap.size ≤ k_) ∧ some k_ ≠ (.slice (some ad243) t240.length co12 : Value).ownBlock ∧ k_ ≠ gb239)) k_ ∧ some k_ ≠ (u6 : Value).ownBlock)) (HL243_0.out) (fun k_ hk => ⟨⟨hk.1.1, ⟨hk.2, hk.1.2.2⟩⟩, hk.1.2.1⟩))).2.1 (Kd.V_F (Kd.V_mono (ok' := (fun k_ => ((fun k_ => (w.heap.size ≤ k_) ∧ some k_ ≠ (.slice (some ad243) t240.length co12 : Value).ownBlock ∧ k_ ≠ gb239)) k_ ∧ some k_ ≠ (u6 : Value).ownBlock)) (HL243_0.out) (fun k_ hk => ⟨⟨hk.1.1, ⟨hk.2, hk.1.2.2⟩⟩, hk.1.2.1⟩))))); (case aB => exact zB); (case aF => exact (fun k_ hk => ⟨(Nat.le_trans (below_size zB) hk), Kd.fresh' (Kd.N_lt (zN HO_5)) k_ hk, Kd.freshB (zK BK239) k_ hk⟩)); (case aO => exact (zN HO_6)); (case aS => exact (below_size zB)); (case aL => have := LMc11.out; omega); intro v247 w15 ho hb hg hat; rw [← Ny246.out] at ho; replace HO_5 := Aside0.mk (Kd.N_afterv (ok := (fun k_ => (w.heap.size ≤ k_) ∧ k_ ≠ gb239)) (by (with_reducible repeat (first | apply Kd.N_alloc | apply Kd.N_drewN | apply Kd.N_drew)); exact Kd.N_mono HO_5.out (fun _ hk => ⟨⟨hk.1, hk.2.2⟩, hk.2.1⟩)) hg hat); replace BK239 := Aside0.mk (blk_grown (zK BK239) hg (Kd.N_ne HO_6.out BK239.out (by decide))); replace HL243_0 := Aside0.mk (Kd.V_afterv (ok := (fun k_ => (w.heap.size ≤ k_) ∧ some k_ ≠ (.slice (some ad243) t240.length co12 : Value).ownBlock ∧ k_ ≠ gb239)) (by (with_reducible repeat (first | apply Kd.V_alloc | apply Kd.V_drewN | apply Kd.V_drew)); exact Kd.V_mono HL243_0.out (fun _ hk => ⟨⟨hk.1.1, ⟨hk.2, hk.1.2.2⟩⟩, hk.1.2.1⟩)) hg hat); replace HL245_0 := Aside0.mk (Kd.V_afterv (ok := (fun k_ => (w.heap.size ≤ k_) ∧ some k_ ≠ (.slice (some ad243) t240.length co12 : Value).ownBlock ∧ k_ ≠ gb239)) (by (with_reducible repeat (first | apply Kd.V_alloc | apply Kd.V_drewN | apply Kd.V_drew)); exact Kd.V_mono HL245_0.out (fun _ hk => ⟨⟨hk.1.1, ⟨hk.2, hk.1.2.2⟩⟩, hk.1.2.1⟩)) hg hat); replace HB := Aside0.mk (hb); have HO248 := Aside0.mk (ho); clear HO_6; clear ho hb hg hat))
              go_roundg k1
              case measure => have := HK1.out; omega
              case rel => exact ⟨(y246), (wrap64 (x7_1 + 1)), zT, H', ⟨by have := HK1.out; omega⟩, ⟨by (with_reducible repeat (first | apply Kd.N_alloc | apply Kd.N_drewN | apply Kd.N_drew)); exact Kd.N_mono HO_5.out (fun _ hk => ⟨hk.1.1, ⟨hk.2, hk.1.2⟩⟩)⟩, ⟨zN HO248⟩, ⟨zK BK239⟩, ⟨zB⟩⟩
            · rw [if_neg c11] at H
              exact absurd H (by simp)
          · replace c10 := Bool.eq_false_iff.mpr c10
            subst c10
            have H1 : (sandpileref28_All.l0 k1 a1 t240 x6_1 (wrap64 (x7_1 + 1)) a0_0 l0_1) = some r := by rw [if_neg (show ¬ (false = true) by decide)] at H; exact H
            clear H
            have H := H1
            clear H1
            have H' := Aside0.mk H
            clear H
            obtain ⟨Ao16, co16, eo16⟩ := Kd.N_slice HO_5.out
            subst eo16
            try go_wp2
            have n0_ := Aside0.mk (Kd.N_drew HO_5.out)
            have n1_ := Aside0.mk (Kd.N_drew HO_6.out)
            have n2_ := Aside0.mk (blk_drew BK239.out)
            have n3_ := Aside0.mk (below_drew1 HB.out)
            clear HO_5
            clear HO_6
            clear BK239
            clear HB
            have HO_5 := n0_
            have HO_6 := n1_
            have BK239 := n2_
            have HB := n3_
            clear n0_ n1_ n2_ n3_
            have p243 : 0 ≤ (x7_1 : Int) := of_decide_eq_true ‹_›
            have q243 : x7_1 < (t240.length : Int) := of_decide_eq_true ‹_›
            obtain ⟨ad243, A243_0, c243_0, e243, hx243_0, hl243_0, hi243_0⟩ := at_L2 (Kd.N_reads' HO_5.out).2.2 x7_1 p243 q243
            cases e243
            obtain ⟨ce243, hce243, hMe243, hcc243⟩ := Kd.N_get HO_5.out [] x7_1 p243 (by first | exact q243 | exact of_decide_eq_true ‹_› | (have e_ := (Kd.N_reads' HO_5.out).1; omega))
            obtain ⟨ua243_0, uc243_0, rfl, ul243_0, ge243_0⟩ := Kd.FK_slice_open hMe243
            have hv243_0 := hcc243 0 _ rfl
            rw [Nat.add_zero, show ((Kd.slice 3 (Kd.int .i64))).sz = 1 from rfl, Nat.mul_one] at hv243_0
            replace hv243_0 := Option.some.inj (hv243_0.symm.trans hx243_0)
            injection hv243_0 with hva_ hvn_ hvc_
            rw [hva_] at ge243_0
            rw [hvc_] at ul243_0
            have HL243_0 := Aside0.mk (show Kd.V (Kd.int .i64) 3 _ w.heap.size _ _ (rd_L2 t240 x7_1) from Kd.V_mk ul243_0 ge243_0)
            clear hva_ hvn_ hvc_ ge243_0 ul243_0
            clear hcc243 hce243
            have HR243_0 := Aside0.mk hi243_0
            have HC243_0 := Aside0.mk hl243_0
            clear hi243_0 hl243_0
            replace p243 := eq_true p243
            replace q243 := eq_true q243
            refine start_ (n := 7) (S := fun w' => w'.cell? ⟨gb239, 0, none⟩ = some (.int .i64 a0_0) ∧ w'.cell? ⟨gb239, 1, none⟩ = some (.slice A0_1 l0_1.length c0_1) ∧ w'.cell? (ad243.add (x7_1).toNat) = some (.slice A243_0 (rd_L2 t240 x7_1).length c243_0)) (ds := []) #[false, false, false, false, false, false, false] (by kernel_rfl) rfl rfl ⟨(blk_cell BK239.out 0).trans rfl, (blk_cell BK239.out 1).trans rfl, hx243_0⟩ (fun hHeld => ?_)
            generalize wr.drew = w17 at HO_5 HO_6 BK239 HB HL243_0 HR243_0 hx243_0 hHeld ⊢
            refine pure_ (i := 1) (N := some 18) (v := ?_) (a' := ?_) #[false, true, false, false, false, false, false] rfl rfl (by kernel_rfl) (fun _ _ _ h => h) (Or.inl ⟨by rfl, ?_⟩) ?_ ?_
            rotate_left
            · intro w'
              go_simp
              with_reducible rfl
            rotate_left
            · simp only [Act.put, List.setIfInBounds_toArray, List.set_cons_zero, List.set_cons_succ, i64_w, i32_w]
              rfl
            refine pure_ (i := 2) (N := some 19) (v := ?_) (a' := ?_) #[false, true, true, false, false, false, false] rfl rfl (by kernel_rfl) (fun _ _ _ h => h) (Or.inl ⟨by rfl, ?_⟩) ?_ ?_
            rotate_left
            · intro w'
              go_simp
              with_reducible rfl
            rotate_left
            · simp only [Act.put, List.setIfInBounds_toArray, List.set_cons_zero, List.set_cons_succ, i64_w, i32_w]
              rfl
            refine pure_ (i := 3) (N := some 20) (v := ?_) (a' := ?_) #[false, true, true, true, false, false, false] rfl rfl (by kernel_rfl) (fun _ _ _ h => h) (Or.inl ⟨by rfl, ?_⟩) ?_ ?_
            rotate_left
            · intro w'
              go_simp
              with_reducible rfl
            rotate_left
            · simp only [Act.put, List.setIfInBounds_toArray, List.set_cons_zero, List.set_cons_succ, i64_w, i32_w]
              rfl
            refine pure_ (i := 4) (N := some 21) (v := ?_) (a' := ?_) #[false, true, true, true, true, false, false] rfl rfl (by kernel_rfl) (fun _ _ _ h => h) (Or.inl ⟨by rfl, ?_⟩) ?_ ?_
            rotate_left
            · intro w'
              go_simp
              with_reducible rfl
            rotate_left
            · simp only [Act.put, List.setIfInBounds_toArray, List.set_cons_zero, List.set_cons_succ, i64_w, i32_w]
              rfl
            refine take_ (i := 0) (N := some 17) (v := ?_) (a' := ?_) #[true, true, true, true, true, false, false] rfl rfl (by kernel_rfl) (fun _ _ _ h => h) (Or.inl ⟨by rfl, ?_⟩) hHeld ?_ ?_
            rotate_left
            · rintro w' ⟨s0, s1, s2⟩
              go_simp
              with_reducible rfl
            rotate_left
            · simp only [Act.put, List.setIfInBounds_toArray, List.set_cons_zero, List.set_cons_succ, i64_w, i32_w]
              rfl
            refine take_ (i := 5) (N := some 22) (v := ?_) (a' := ?_) #[true, true, true, true, true, true, false] rfl rfl (by kernel_rfl) (fun _ _ _ h => h) (Or.inl ⟨by rfl, ?_⟩) hHeld ?_ ?_
            rotate_left
            · rintro w' ⟨s0, s1, s2⟩
              go_simp
              with_reducible rfl
            rotate_left
            · simp only [Act.put, List.setIfInBounds_toArray, List.set_cons_zero, List.set_cons_succ, i64_w, i32_w]
              rfl
            refine one_ (i := 6) (N := some 23) #[true, true, true, true, true, true, true] rfl rfl (by kernel_rfl) (by decide) (fun K hK => ?_)
            refine goes_ Try.func50 (by kernel_rfl) rfl #[.agg #[.int .i64 a0_0, .slice A0_1 l0_1.length c0_1], .int .i64 a1, .slice A243_0 (rd_L2 t240 x7_1).length c243_0] (by rfl) rfl rfl (by (try simp only [List.map_toArray, List.map_cons, List.map_nil]); first | done | rfl | (simp only [List.length_drop, List.length_take]; rfl)) ?_
            with_reducible refine (sandpileref23_Is.calls k1 a0_0 _ _ l0_1 a1 _ _ (rd_L2 t240 x7_1) false _ ?side1 ?side2 ?side3 ?side4 A9.out).mono ?_
            (case side1 => exact Kd.C_below HR0_1.out zB)
            (case side2 => exact HC0_1.out)
            (case side3 => repeat (first | exact (by repeat (first | (with_reducible exact HR243_0.out) | (with_reducible refine Kd.C_alloc ?_ _) | (with_reducible refine Kd.C_drewN ?_ _) | (with_reducible refine Kd.C_drew ?_) | exact HR243_0.out)) | (with_reducible refine Kd.C_alloc ?_ _) | (with_reducible refine Kd.C_drewN ?_ _) | (with_reducible refine Kd.C_drew ?_)))
            (case side4 => exact HC243_0.out)
            rintro e w18 ⟨rfl, hb⟩
            have HS2_ := (hb.cell (World.block_lt_of_cell? _ _ (hHeld.2.2))).trans (hHeld.2.2)
            refine ⟨_, rfl, ?_⟩
            have n0_ := Aside0.mk (Kd.N_below (zN HO_5) hb)
            have n1_ := Aside0.mk (Kd.N_below (zN HO_6) hb)
            have n2_ := Aside0.mk (Kd.V_below (by (with_reducible repeat (first | apply Kd.V_alloc | apply Kd.V_drewN | apply Kd.V_drew)); exact HL243_0.out) hb)
            have n3_ := Aside0.mk (blk_below (zK BK239) hb)
            have n4_ := Aside0.mk (Kd.C_below (by repeat (first | (with_reducible exact HR243_0.out) | (with_reducible refine Kd.C_alloc ?_ _) | (with_reducible refine Kd.C_drewN ?_ _) | (with_reducible refine Kd.C_drew ?_) | exact HR243_0.out)) hb)
            have n5_ := zS HB hb
            clear HO_5
            clear HO_6
            clear HL243_0
            clear BK239
            clear HR243_0
            clear HB
            have HO_5 := n0_
            have HO_6 := n1_
            have HL243_0 := n2_
            have BK239 := n3_
            have HR243_0 := n4_
            have HB := n5_
            clear n0_ n1_ n2_ n3_ n4_ n5_
            (try clear hb)
            skip
            skip
            skip
            refine hK.out _ _ ⟨(blk_cell BK239.out 0).trans rfl, (blk_cell BK239.out 1).trans rfl, HS2_⟩ (fun hHeld => ?_)
            clear hK K
            refine norm_ (a' := ?_) ?_ ?_
            rotate_left
            · show Act.put _ (some 23) _ = _
              simp only [Act.put, List.setIfInBounds_toArray, List.set_cons_zero, List.set_cons_succ, i64_w, i32_w]
              rfl
            refine done_ (by kernel_rfl) ?_
            try go_wp2
            go_roundg k1
            case measure => have := HK1.out; omega
            case rel => exact ⟨(x6_1), (wrap64 (x7_1 + 1)), zT, H', ⟨by have := HK1.out; omega⟩, ⟨zN HO_5⟩, ⟨zN HO_6⟩, ⟨zK BK239⟩, ⟨zB⟩⟩
        · rw [if_neg c8] at H
          exact absurd H (by simp)
      · rw [if_neg c7] at H
        have c7b0 : decide (x7_1 < (t240.length : Int)) = false := decide_eq_false c7
        clear c7
        obtain rfl := Option.some.inj H
        obtain ⟨Ao19, co19, eo19⟩ := Kd.N_slice HO_5.out
        subst eo19
        go_wp2
        go_ret
        exact ⟨_, zE, by (with_reducible repeat (first | apply Kd.N_alloc | apply Kd.N_drewN | apply Kd.N_drew)); exact Kd.N_mono HO_6.out (fun _ hk => hk.1), zB⟩
section
def valN (E : List S66) (v : Nat) : Nat → Int
  | 0 => 0
  | u + 1 => valN E v u + (if u = v then 0 else btw E u v)
theorem valN_bound {N : Int} {E : List S66} (h : RightE N E) (v : Nat) : ∀ u : Nat, 0 ≤ valN E v u ∧ valN E v u ≤ 50 * u
  | 0 => by simp [valN]
  | u + 1 => by
    have h1 := valN_bound h v u
    have h2 := btw_nonneg h u v
    simp only [valN]
    split <;> omega
theorem valence_l0 {N : Int} {E : List S66} (hR : RightE N E) (hE : E.length ≤ 1000) (n : Nat) (hn : n ≤ 1000) (v : Nat) : ∀ (m u : Nat), u + m = n → Ev (fun k => sandpileref08_Valence.l0 k v (valN E v u) u n E) (valN E v n)
  | 0, u, hu => by
    obtain rfl : u = n := by omega
    refine Ev.of_succ ?_
    simp only [sandpileref08_Valence.l0, if_neg (show ¬ ((u : Int) < (u : Int)) by omega)]
    exact Ev.const _
  | m + 1, u, hu => by
    have ih := valence_l0 hR hE n hn v m (u + 1) (by omega)
    have hb := valN_bound hR v u
    have hb2 := btw_nonneg hR u v
    refine Ev.of_succ ?_
    simp only [sandpileref08_Valence.l0, if_pos (show (u : Int) < (n : Int) by omega), wrap_succ (show u ≤ 1000000 by omega)]
    simp only [valN] at ih
    by_cases h : u = v
    · simp only [if_pos (show (u : Int) = (v : Int) by omega)]
      rw [if_pos h, Int.add_zero] at ih; exact ih
    · simp only [if_neg (show ¬ (u : Int) = (v : Int) by omega)]
      rw [if_neg h] at ih
      refine Ev.bind (between_ev n E u v hE) ?_
      rw [show wrap64 (valN E v u + btw E u v) = valN E v u + btw E u v from wrap_id (by omega)]
      exact ih
theorem valence_ev {N : Int} {E : List S66} (hR : RightE N E) (hE : E.length ≤ 1000) (n : Nat) (hn : n ≤ 1000) (v : Nat) : Ev (fun k => sandpileref08_Valence.f k n E v) (valN E v n) := by
  unfold sandpileref08_Valence.f
  have := valence_l0 hR hE n hn v n 0 (by omega)
  simpa [valN] using this
def valL (E : List S66) (n : Nat) : List Int := (List.range n).map fun v => valN E v n
theorem rd_valL (E : List S66) (n v : Nat) (h : v < n) : rd (valL E n) v = valN E v n := by simp [rd, valL, List.getD_eq_getElem?_getD, List.getElem?_map, List.getElem?_range h]
theorem top_l0 {N : Int} {E : List S66} (hR : RightE N E) (hE : E.length ≤ 1000) (n : Nat) (hn : n ≤ 1000) (q : Int) : ∀ (m v : Nat), v + m = n → Ev (fun k => sandpileref19_Top.l0 k q (topTo (valL E n) q n v) v n E) (topTo (valL E n) q n n)
  | 0, v, hv => by
    obtain rfl : v = n := by omega
    refine Ev.of_succ ?_
    simp only [sandpileref19_Top.l0, if_neg (show ¬ ((v : Int) < (v : Int)) by omega)]
    exact Ev.const _
  | m + 1, v, hv => by
    have ih := top_l0 hR hE n hn q m (v + 1) (by omega)
    have hb := valN_bound hR v n
    refine Ev.of_succ ?_
    simp only [sandpileref19_Top.l0, if_pos (show (v : Int) < (n : Int) by omega), wrap_succ (show v ≤ 1000000 by omega)]
    by_cases h : (v : Int) = q
    · simp only [if_pos h]
      rw [topTo_skip h] at ih; exact ih
    · simp only [if_neg h]
      rw [topTo_set h (by omega), rd_valL E n v (by omega)] at ih
      refine Ev.bind (valence_ev hR hE n hn v) ?_
      simp only [if_pos (show (0 : Int) ≤ (v : Int) by omega), topTo_length, if_pos (show (v : Int) < (n : Int) by omega), Int.toNat_natCast]
      rw [show wrap64 (valN E v n - 1) = valN E v n - 1 from wrap_id (by omega)]
      exact ih
theorem top_ev {N : Int} {E : List S66} (hR : RightE N E) (hE : E.length ≤ 1000) (n : Nat) (hn : n ≤ 1000) (q : Int) : Ev (fun k => sandpileref19_Top.f k n E q) (topTo (valL E n) q n n) := by
  unfold sandpileref19_Top.f
  simp only [if_pos (show (0 : Int) ≤ (n : Int) by omega), Int.toNat_natCast, if_pos (show n ≤ 35184372088832 by omega)]
  have := top_l0 hR hE n hn q n 0 (by omega)
  rw [topTo_zero] at this
  exact this
def mostOf (E : List S66) (n q : Nat) (v : Nat) : Nat := if v = q then 0 else (valN E v n - 1).toNat
theorem stab_l2 (E : List S66) (n : Nat) (q : Int) (top : List Int) (v M : Nat) (o : List (List Int)) (hM : M ≤ 10000) (ho : o.length ≤ 100000) (i : Nat) (hi : i < o.length) (hp : (rd_L2 o i).length ≤ 1000) (r : List (List Int)) : ∀ (m j : Nat) (nx : List (List Int)), j + m = M + 1 → nx.length + m ≤ 1000000 →
    Ev (fun k => sandpileref28_Stables.l1 k q top o v M (nx ++ (List.range' j m).map fun (x : Nat) => rd_L2 o i ++ [(x : Int)]) ((i + 1 : Nat) : Int) n E) r → Ev (fun k => sandpileref28_Stables.l2 k q top o v M nx i j n E) r
  | 0, j, nx, hj, hl, h => by
    refine Ev.of_succ ?_
    simp only [sandpileref28_Stables.l2, if_neg (show ¬ ((j : Int) ≤ (M : Int)) by omega), wrap_succ (show i ≤ 1000000 by omega)]
    simpa using h
  | m + 1, j, nx, hj, hl, h => by
    rw [List.range'_succ, List.map_cons] at h
    have ih := stab_l2 E n q top v M o hM ho i hi hp r m (j + 1) (nx ++ [rd_L2 o i ++ [(j : Int)]]) (by omega) (by simp; omega) (by simpa using h)
    refine Ev.of_succ ?_
    simp only [sandpileref28_Stables.l2, if_pos (show (j : Int) ≤ (M : Int) by omega), Option.bind_some, if_pos (show (0 : Int) ≤ (i : Int) by omega), if_pos (show (i : Int) < (o.length : Int) by omega), List.length_nil, Nat.zero_add, if_pos (show (rd_L2 o i).length < 17592186044416 by omega), List.nil_append, if_pos (show nx.length < 5864062014805 by omega), wrap_succ (show j ≤ 1000000 by omega)]
    exact ih
theorem stab_l1 (E : List S66) (n : Nat) (q : Int) (top : List Int) (v M : Nat) (hv : v ≤ 1000) (o : List (List Int)) (hM : M ≤ 10000) (ho : o.length ≤ 100000) (hp : ∀ p ∈ o, p.length ≤ 1000) (hb : o.length * (M + 1) ≤ 1000000) (r : List (List Int)) : ∀ (m i : Nat) (nx : List (List Int)), i + m = o.length → nx.length = i * (M + 1) →
    Ev (fun k => sandpileref28_Stables.l0 k q top (nx ++ (o.drop i).flatMap fun p => (List.range (M + 1)).map fun (x : Nat) => p ++ [(x : Int)]) ((v + 1 : Nat) : Int) n E) r → Ev (fun k => sandpileref28_Stables.l1 k q top o v M nx i n E) r
  | 0, i, nx, hi, hl, h => by
    refine Ev.of_succ ?_
    simp only [sandpileref28_Stables.l1, if_neg (show ¬ ((i : Int) < (o.length : Int)) by omega), wrap_succ (show v ≤ 1000000 by omega)]
    rw [List.drop_eq_nil_of_le (by omega)] at h
    simpa using h
  | m + 1, i, nx, hi, hl, h => by
    have hmul : (i + 1) * (M + 1) ≤ o.length * (M + 1) := Nat.mul_le_mul_right _ (by omega)
    have hmul2 : (i + 1) * (M + 1) = i * (M + 1) + (M + 1) := Nat.succ_mul _ _
    rw [rd_L2_drop (by omega), List.flatMap_cons] at h
    have ih := stab_l1 E n q top v M hv o hM ho hp hb r m (i + 1) (nx ++ (List.range (M + 1)).map fun (x : Nat) => rd_L2 o i ++ [(x : Int)]) (by omega) (by simp; omega) (by rw [List.append_assoc]; exact h)
    refine Ev.of_succ ?_
    simp only [sandpileref28_Stables.l1, if_pos (show (i : Int) < (o.length : Int) by omega)]
    have hpi : (rd_L2 o i).length ≤ 1000 := hp _ (by
      have e : rd_L2 o i = o[i] := by simp [rd_L2, List.getD_eq_getElem?_getD, List.getElem?_eq_getElem (by omega : i < o.length)]
      rw [e]; exact List.getElem_mem _)
    refine stab_l2 E n q top v M o hM ho i (by omega) hpi r (M + 1) 0 nx (by omega) (by omega) ?_
    rw [← List.range_eq_range']
    exact ih
theorem sum_const {α : Type} (l : List α) (c : Nat) : (l.map fun _ => c).sum = l.length * c := by
  induction l with
  | nil => simp
  | cons x l ih => simp only [List.map_cons, List.sum_cons, ih, List.length_cons, Nat.succ_mul]; omega
theorem stab_l0 (E : List S66) (n : Nat) (hn : n ≤ 1000) (q : Nat) (top : List Int) (htl : top.length = n) (most : Nat → Nat) (hmost : ∀ v : Nat, v < n → (if v = q then (0 : Int) else rd top v) = (most v : Int)) (hM : ∀ v : Nat, v < n → most v ≤ 10000) (hb : ∀ v : Nat, v ≤ n → (stabB most v).length ≤ 100000) :
    ∀ (m v : Nat), v + m = n → Ev (fun k => sandpileref28_Stables.l0 k q top (stabB most v) v n E) (stabB most n)
  | 0, v, hv => by
    obtain rfl : v = n := by omega
    refine Ev.of_succ ?_
    simp only [sandpileref28_Stables.l0, if_neg (show ¬ ((v : Int) < (v : Int)) by omega)]
    exact Ev.const _
  | m + 1, v, hv => by
    have ih := stab_l0 E n hn q top htl most hmost hM hb m (v + 1) (by omega)
    have hb1 := hb (v + 1) (by omega)
    have hlen : (stabB most (v + 1)).length = (stabB most v).length * (most v + 1) := by
      show (stepB most v (stabB most v)).length = _
      unfold stepB
      rw [List.length_flatMap]
      simp only [List.length_map, List.length_range]
      exact sum_const _ _
    have key : Ev (fun k => sandpileref28_Stables.j1 k q top (stabB most v) v (most v : Nat) n E) (stabB most n) := by
      refine Ev.of_succ ?_
      simp only [sandpileref28_Stables.j1]
      refine stab_l1 E n q top v (most v) (by omega) _ (hM v (by omega)) (hb v (by omega)) (fun p hp => by have := stabB_len most v p hp; omega) (by omega) _ (stabB most v).length 0 [] (by omega) (by simp) ?_
      exact ih
    refine Ev.of_succ ?_
    simp only [sandpileref28_Stables.l0, if_pos (show (v : Int) < (n : Int) by omega), if_pos (show (0 : Int) ≤ (v : Int) by omega), if_pos (show (v : Int) < (top.length : Int) by omega)]
    have hm := hmost v (by omega)
    by_cases h : v = q
    · simp only [if_pos (show (v : Int) = (q : Int) by omega)]
      rw [if_pos h] at hm; rw [hm]; exact key
    · simp only [if_neg (show ¬ (v : Int) = (q : Int) by omega)]
      rw [if_neg h] at hm; rw [hm]; exact key
theorem all_l0 {N : Int} {E : List S66} (hR : RightE N E) (hE : E.length ≤ 1000) (n : Nat) (hn : n ≤ 15) (q : Int) (l : List (List Int)) (hl : l.length ≤ 100000) (hls : ∀ c ∈ l, c.length = n) : ∀ (m i : Nat) (o : List (List Int)), i + m = l.length → o.length ≤ i → Ev (fun k => sandpileref28_All.l0 k q l o i n E) (o ++ (l.drop i).filter (isB E n q))
  | 0, i, o, hi, ho => by
    refine Ev.of_succ ?_
    simp only [sandpileref28_All.l0, if_neg (show ¬ ((i : Int) < (l.length : Int)) by omega)]
    rw [List.drop_eq_nil_of_le (by omega)]
    simpa using Ev.const _
  | m + 1, i, o, hi, ho => by
    have hm := hls (rd_L2 l i) (by
      have e : rd_L2 l i = l[i] := by simp [rd_L2, List.getD_eq_getElem?_getD, List.getElem?_eq_getElem (by omega : i < l.length)]
      rw [e]; exact List.getElem_mem _)
    refine Ev.of_succ ?_
    simp only [sandpileref28_All.l0, if_pos (show (i : Int) < (l.length : Int) by omega), if_pos (show (0 : Int) ≤ (i : Int) by omega), wrap_succ (show i ≤ 1000000 by omega), if_pos (show o.length < 5864062014805 by omega)]
    refine Ev.bind (is_ev hR hE n hn q _ hm) ?_
    rw [rd_L2_drop (by omega), List.filter_cons]
    cases hb : isB E n q (rd_L2 l i) with
    | true =>
      simp only [if_true]
      have ih := all_l0 hR hE n hn q l hl hls m (i + 1) (o ++ [rd_L2 l i]) (by omega) (by simp; omega)
      simpa using ih
    | false =>
      simp only [Bool.false_eq_true, if_false]
      exact all_l0 hR hE n hn q l hl hls m (i + 1) o (by omega) (by omega)
def sumM : List S66 → Int
  | [] => 0
  | x :: E => x.f2 + sumM E
theorem sumM_append : ∀ (A B : List S66), sumM (A ++ B) = sumM A + sumM B
  | [], B => by simp [sumM]
  | x :: A, B => by rw [List.cons_append, sumM, sumM, sumM_append A B]; omega
theorem sizeTo_sum {N : Int} {E : List S66} (hR : RightE N E) : ∀ k, k ≤ E.length → ((sizeTo E k : Nat) : Int) = sumM (E.take k)
  | 0, _ => rfl
  | k + 1, hk => by
    have e : rd_T66 E k = E[k] := by simp [rd_T66, List.getD_eq_getElem?_getD, List.getElem?_eq_getElem (by omega : k < E.length)]
    have := hR.ok E[k] (List.getElem_mem _)
    simp [edgeOk] at this
    rw [List.take_succ_eq_append_getElem (by omega), sumM_append, ← sizeTo_sum hR k (by omega), sizeTo, e]
    simp only [sumM]
    omega
theorem btw_ge {E : List S66} (h : ∀ x ∈ E, 1 ≤ x.f2) (a b : Int) : 0 ≤ btw E a b := by
  unfold btw
  split
  · rename_i x hx; have := h x (List.mem_of_find?_eq_some hx); omega
  · omega
theorem valN_cons {x : S66} {E : List S66} (h : ∀ y ∈ x :: E, 1 ≤ y.f2) (v : Nat) : ∀ u : Nat, valN (x :: E) v u ≤ valN E v u + (if (∃ w : Nat, w < u ∧ w ≠ v ∧ x.f0 = min (w : Int) v ∧ x.f1 = max (w : Int) v) then x.f2 else 0)
  | 0 => by simp [valN]
  | u + 1 => by
    have ih := valN_cons h v u
    have hx := h x (List.mem_cons_self ..)
    have hg := btw_ge (fun y hy => h y (List.mem_cons_of_mem _ hy)) (u : Int) v
    have hsub : (if (∃ w : Nat, w < u ∧ w ≠ v ∧ x.f0 = min (w : Int) v ∧ x.f1 = max (w : Int) v) then x.f2 else 0) ≤ (if (∃ w : Nat, w < u + 1 ∧ w ≠ v ∧ x.f0 = min (w : Int) v ∧ x.f1 = max (w : Int) v) then x.f2 else 0) := by
      by_cases h1 : ∃ w : Nat, w < u ∧ w ≠ v ∧ x.f0 = min (w : Int) v ∧ x.f1 = max (w : Int) v
      · obtain ⟨w, hw, h2⟩ := h1
        rw [if_pos ⟨w, hw, h2⟩, if_pos ⟨w, by omega, h2⟩]; exact Int.le_refl _
      · rw [if_neg h1]; split <;> omega
    simp only [valN]
    by_cases e : u = v
    · rw [if_pos e, if_pos e]; omega
    · rw [if_neg e, if_neg e, btw_cons]
      by_cases hh : x.f0 = min (u : Int) v ∧ x.f1 = max (u : Int) v
      · rw [if_pos hh, if_pos (show ∃ w : Nat, w < u + 1 ∧ w ≠ v ∧ x.f0 = min (w : Int) v ∧ x.f1 = max (w : Int) v from ⟨u, by omega, e, hh⟩)]
        rw [if_neg (show ¬ ∃ w : Nat, w < u ∧ w ≠ v ∧ x.f0 = min (w : Int) v ∧ x.f1 = max (w : Int) v from by rintro ⟨w, hw, hwv, h1, h2⟩; omega)] at ih
        omega
      · rw [if_neg hh]; omega
theorem valN_le : ∀ {E : List S66}, (∀ y ∈ E, 1 ≤ y.f2) → ∀ v u : Nat, valN E v u ≤ sumM E
  | [], _, v, u => by
    have : ∀ u, valN [] v u = 0 := fun u => by
      induction u with
      | zero => rfl
      | succ u ih => simp [valN, ih, btw]
    simp [this, sumM]
  | x :: E, h, v, u => by
    have h1 := valN_cons h v u
    have h2 := valN_le (fun y hy => h y (List.mem_cons_of_mem _ hy)) v u
    have hx := h x (List.mem_cons_self ..)
    simp only [sumM]
    split at h1 <;> omega
theorem valOf_valN {n : Nat} {E : List S66} (hR : RightE n E) (v : Nat) : ∀ u, flamesTo (timesOf E) (fun u => !decide (u = v)) v u = valN E v u
  | 0 => rfl
  | u + 1 => by
    rw [flamesTo, valN, valOf_valN hR v u]
    congr 1
    by_cases h : u = v
    · simp [h]
    · simp only [h, decide_false, Bool.not_false, if_true, if_neg h]
      rw [times_btw hR v u (fun e => h e.symm), btw_comm]; simp
theorem leq_rd : ∀ {a b : List Int} (v : Nat), Leq a b → rd a v ≤ rd b v
  | [], [], v, _ => Int.le_refl _
  | x :: a, y :: b, 0, h => by simpa [rd] using h.1
  | x :: a, y :: b, v + 1, h => by
    have := leq_rd v h.2
    simpa [rd] using this
  | [], y :: b, v, h => h.elim
  | x :: a, [], v, h => h.elim
theorem valN_pos {n q : Nat} {E : List S66} (hR : RightE n E) (hC : EConn n E) (hq : q < n) {v : Nat} (hv : v < n) (hvq : v ≠ q) : 1 ≤ valN E v n := by
  obtain ⟨x, hx, hne⟩ := hC (fun u => decide (u = v)) ⟨v, hv, by simp⟩ ⟨q, hq, by simp; omega⟩
  have hb := btw_edge hR hx
  have hok := hR.ok x hx
  simp [edgeOk] at hok
  have e0 : ((x.f0.toNat : Nat) : Int) = x.f0 := by omega
  have e1 : ((x.f1.toNat : Nat) : Int) = x.f1 := by omega
  have key : ∀ w : Nat, w < n → w ≠ v → btw E w v > 0 → 1 ≤ valN E v n := fun w hw hwv hbt => by
    have h2 : ∀ u : Nat, w < u → 1 ≤ valN E v u := fun u => by
      induction u with
      | zero => omega
      | succ u ih =>
        intro hu
        have hbd := valN_bound hR v u
        have hb3 := btw_nonneg hR u v
        rw [valN]
        by_cases e : w = u
        · subst e; rw [if_neg hwv]; omega
        · have := ih (by omega)
          split <;> omega
    exact h2 n hw
  by_cases h1 : x.f0.toNat = v
  · have h2 : x.f1.toNat ≠ v := fun e => hne (by simp [h1, e])
    exact key x.f1.toNat (by omega) h2 (by rw [← h1, e0, e1, btw_comm]; exact hb)
  · have h2 : x.f1.toNat = v := by
      refine Classical.byContradiction fun e => hne (by simp [h1, e])
    exact key x.f0.toNat (by omega) h1 (by rw [← h2, e0, e1]; exact hb)
theorem stabB_bound {most : Nat → Nat} {q : Nat} (hq : most q = 0) (hm : ∀ v, most v ≤ 7) : ∀ v : Nat, (stabB most v).length ≤ 8 ^ (v - (if q < v then 1 else 0))
  | 0 => by simp [stabB]
  | v + 1 => by
    have ih := stabB_bound hq hm v
    have hlen : (stabB most (v + 1)).length = (stabB most v).length * (most v + 1) := by
      show (stepB most v (stabB most v)).length = _
      unfold stepB
      rw [List.length_flatMap]
      simp only [List.length_map, List.length_range]
      exact sum_const _ _
    rw [hlen]
    by_cases e : q = v
    · subst e
      rw [hq, if_pos (by omega)]
      rw [if_neg (by omega)] at ih
      simpa using ih
    · by_cases h : q < v
      · rw [if_pos h] at ih
        rw [if_pos (by omega), show v + 1 - 1 = (v - 1) + 1 by omega, Nat.pow_succ]
        exact Nat.mul_le_mul ih (by have := hm v; omega)
      · rw [if_neg h] at ih
        rw [if_neg (by omega), show v + 1 - 0 = (v - 0) + 1 by omega, Nat.pow_succ]
        exact Nat.mul_le_mul ih (by have := hm v; omega)
structure Small (n q : Nat) (E : List S66) : Prop where
  right : RightE n E
  conn : EConn n E
  len : E.length ≤ 40
  n1 : 1 ≤ n
  n5 : n ≤ 5
  q : q < n
  size : sizeTo E E.length ≤ 8
namespace Small
variable {n q : Nat} {E : List S66}
theorem val_le (h : Small n q E) (v : Nat) : valN E v n ≤ 8 := by
  have h1 := valN_le (E := E) (fun y hy => by have := h.right.ok y hy; simp [edgeOk] at this; omega) v n
  have h2 := sizeTo_sum h.right E.length (Nat.le_refl _)
  rw [List.take_length] at h2
  have := h.size
  omega
theorem most_le (h : Small n q E) (v : Nat) : mostOf E n q v ≤ 7 := by
  unfold mostOf
  split
  · omega
  · have := h.val_le v; omega
theorem most_q (E : List S66) (n q : Nat) : mostOf E n q q = 0 := by simp [mostOf]
theorem stab_le (h : Small n q E) {v : Nat} (hv : v ≤ n) : (stabB (mostOf E n q) v).length ≤ 4096 := by
  have h1 := stabB_bound (most_q E n q) h.most_le v
  have h2 : 8 ^ (v - (if q < v then 1 else 0)) ≤ 8 ^ 4 := Nat.pow_le_pow_right (by omega) (by have := h.n5; have := h.q; split <;> omega)
  omega
theorem super_iff (h : Small n q E) (c : List Int) : superB n (timesOf E) q c = isB E n q c := by
  rw [Bool.eq_iff_iff, superB_iff (fun i j => ((edgesIn_of h.right.inB).times i j).1), is_iff h.right h.conn h.q]
theorem all_ev (h : Small n q E) : Ev (fun k => sandpileref28_All.f k n E q) ((stabB (mostOf E n q) n).filter (isB E n q)) := by
  have hE : E.length ≤ 1000 := by have := h.len; omega
  have hn : n ≤ 15 := by have := h.n5; omega
  unfold sandpileref28_All.f
  refine Ev.bind (a := stabB (mostOf E n q) n) ?_ ?_
  · unfold sandpileref28_Stables.f
    refine Ev.bind (top_ev h.right hE n (by omega) q) ?_
    have := stab_l0 E n (by omega) q (topTo (valL E n) q n n) (topTo_length _ _ _ _) (mostOf E n q) (fun v hv => by
      unfold mostOf
      by_cases e : v = q
      · rw [if_pos e, if_pos e]; rfl
      · have hp := valN_pos h.right h.conn h.q hv e
        rw [if_neg e, if_neg e]
        rw [show rd (topTo (valL E n) q n n) v = valN E v n - 1 from by
          simp only [rd, topTo, Int.toNat_natCast, List.getD_eq_getElem?_getD, List.getElem?_map, List.getElem?_range hv, Option.map_some, Option.getD_some]
          rw [if_pos ⟨hv, by omega⟩]
          have := rd_valL E n v hv
          simp only [rd, Int.toNat_natCast, List.getD_eq_getElem?_getD] at this
          rw [this]]
        omega) (fun v _ => by have := h.most_le v; omega) (fun v hv => by have := h.stab_le hv; omega) n 0 (by omega)
    exact this
  · have := all_l0 h.right hE n hn q (stabB (mostOf E n q) n) (by have := h.stab_le (Nat.le_refl n); omega) (fun c hc => stabB_len _ _ _ hc) (stabB (mostOf E n q) n).length 0 [] (by omega) (by simp)
    simpa using this
theorem confs_eq (h : Small n q E) : confs n E q = (stabB (mostOf E n q) n).filter (isB E n q) := by
  unfold confs
  have ht := (edgesIn_of h.right.inB).times
  have hdown : ∀ a b : List Int, a.length = n → Leq a b → superB n (timesOf E) q b = true → superB n (timesOf E) q a = true := fun a b _ hab hb => by
    rw [superB_iff (fun i j => (ht i j).1)] at hb ⊢
    exact hb.down (fun v _ => leq_rd v hab)
  rw [outB_eq q confB (superB n (timesOf E) q) (mostOf E n q) n hdown (fun l v hl hv hvq hc => by
      have h1 := (superB_small h.right.inB (by have := h.n5; omega) hv hvq hc).1
      unfold valOf at h1
      rw [valOf_valN h.right] at h1
      unfold mostOf
      rw [if_neg hvq]
      omega) (most_q E n q) (fun v _ => by have := h.most_le v; show _ ≤ 1000; omega) n [] (by simp) ?_]
  · rw [← stabB_eq]
    refine List.filter_congr fun c _ => h.super_iff c
  · by_cases h2 : n = 1
    · left
      rw [superB_iff (fun i j => (ht i j).1)]
      rintro S ⟨v, hv, hs⟩ hSq
      have := h.q
      rw [show v = q by omega, hSq] at hs; cases hs
    · right
      have := h.q
      have := h.n1
      by_cases h3 : q = 0
      · exact ⟨1, by simp, by omega, by omega⟩
      · exact ⟨0, by simp, by omega, by omega⟩
theorem confs_le (h : Small n q E) : (confs n E q).length ≤ 4096 := by
  rw [h.confs_eq]
  exact Nat.le_trans (List.length_filter_le _ _) (h.stab_le (Nat.le_refl n))
end Small
end
end Go.Proofs.Ytffdiakgjakngaa.P
