/- A part of the proof that SuperstableTops answers true (text 9 of 15): own walks and plain laws; no conditions. -/
import Derived.Test.YtffdiakgjakngaaTops8
namespace Go.Proofs.Ytffdiakgjakngaa.P
open Go.RowKit Go.Proofs.YtffdiakgjakngaaW.PrintWords Go.Proofs.YtffdiakgjakngaaW.PrintLast Go.Proofs.YtffdiakgjakngaaW.PrintMore
set_option linter.unusedVariables false
set_option linter.unusedSimpArgs false
set_option maxHeartbeats 8000000
set_option maxRecDepth 100000
def topTo (val : List Int) (q : Int) (n j : Nat) : List Int := (List.range n).map fun v => if v < j ∧ (v : Int) ≠ q then rd val v - 1 else 0
theorem topTo_length (val : List Int) (q : Int) (n j : Nat) : (topTo val q n j).length = n := by simp [topTo]
theorem topTo_zero (val : List Int) (q : Int) (n : Nat) : topTo val q n 0 = List.replicate n 0 := by
 unfold topTo
 refine List.ext_getElem (by simp) fun i h1 h2 => ?_
 simp
theorem topTo_skip {val : List Int} {q : Int} {n j : Nat} (h : (j : Int) = q) : topTo val q n (j + 1) = topTo val q n j := by
 unfold topTo
 refine List.map_congr_left fun v _ => ?_
 by_cases e : v = j
 ·subst e; simp [h]
 ·have : (v < j + 1 ∧ (v : Int) ≠ q) ↔ (v < j ∧ (v : Int) ≠ q) := by omega
  simp only [this]
theorem topTo_set {val : List Int} {q : Int} {n j : Nat} (h : (j : Int) ≠ q) (hj : j < n) : topTo val q n (j + 1) = (topTo val q n j).set j (rd val j - 1) := by
 refine List.ext_getElem (by simp [topTo]) fun i h1 h2 => ?_
 rw [List.getElem_set]
 simp only [topTo, List.getElem_map, List.getElem_range]
 by_cases e : j = i
 ·subst e; simp [h]
 ·rw [if_neg e]
  have : (i < j + 1 ∧ (i : Int) ≠ q) ↔ (i < j ∧ (i : Int) ≠ q) := by omega
  simp only [this]
theorem pileVal_length (n : Nat) (E : List S66) : (pileVal n E).length = n := valTo_length n _ _
theorem pileVal_bound {n : Nat} {E : List S66} (h : multsOk E = true) (i : Nat) : 0 ≤ rd (pileVal n E) i ∧ rd (pileVal n E) i ≤ 4000 := by
 have h1 := valTo_bound n (singlesTo E E.length) (singlesTo E E.length).length i
 have h2 := singles_le h
 unfold pileVal
 omega
theorem pileOf_calls' (k n : Nat) (A0 : Option Addr) (c0 : Nat) (E : List S66) (q : Int) (Ad : Option Addr) (cd : Nat) (dl : List Int) (w : World) (hr0 : Kd.C k66 w A0 E.length E) (hc0 : E.length ≤ c0) (hd : Kd.C (Kd.int .i64) w Ad n dl) (hcd : n ≤ cd)
  (hn : n ≤ 12) (hdl : dl.length = n) (ht : graph_Check.f k n E = some 0) (hE : multsOk E = true) (hin : EdgesIn n E) :
  Calls Try.prog 92 #[.agg #[.int .i64 n, .slice A0 E.length c0], .int .i64 q, .slice Ad n cd] w fun e w' => ∃ (gp : Nat) (Av1 Av2 : Option Addr) (cv1 cv2 : Nat) (rv : Value), e = .returned (.tuple #[.pointer (some ⟨gp, 0, none⟩), .int .i64 0]) ∧ PileAt w' gp (.slice Av1 n cv1) q rv (.slice Av2 n cv2) (fun x => if x < n then looseB q (pileVal n E) dl x else false) ∧ (Kd.int .i64).R 3 w' w.heap.size (fun _ => True) (.slice Av2 n cv2) (pileVal n E) ∧ Below w.heap.size w w' := by
 subst hdl
 exact pileOf_calls k dl.length A0 c0 E q Ad cd dl w hr0 hc0 hd hcd hn rfl ht hE hin
def stabilize_Maximal.f (k : Nat) (N : Int) (E : List S66) (q : Int) : Option (List Int × Int) :=
 (stabilize_rooted.f k N E q).bind fun t => if t = 0 then (if okList N E = true then some (topTo (pileVal N.toNat E) q N.toNat N.toNat, 0) else none) else some ([], t)
theorem maximal_bad (k : Nat) (N : Int) (A0 : Option Addr) (c0 : Nat) (E : List S66) (q : Int) (t : Int) (w : World) (hr0 : Kd.C k66 w A0 E.length E) (hc0 : E.length ≤ c0)
  (hck : stabilize_rooted.f k N E q = some t) (ht : t ≠ 0) :
  Calls Try.prog 69 #[.agg #[.int .i64 N, .slice A0 E.length c0], .int .i64 q] w fun e w' => e = .returned (.tuple #[.slice none 0 0, .int .i64 t]) ∧ Below w.heap.size w w' := by
 have hu := Try.underlying24
 have Hck := Aside0.mk hck
 have hne : (t != 0) = true := by simpa using ht
 clear hck ht
 go_enter Try.func69, Try.ntmps69
 go_wp2_with (go_at_call 91; refine (stabilize_rooted.calls k N A0 c0 E q t _ (Kd.C_alloc hr0 _) hc0 Hck.out).mono ?_; rintro e w1 ⟨rfl, hb⟩; have HB1 := Aside0.mk (below_step (below_alloc (Below.refl w.heap.size w) _) hb); clear hb)
 go_ret2
 exact ⟨rfl, HB1.out⟩
theorem maximal_good (k n : Nat) (A0 : Option Addr) (c0 : Nat) (E : List S66) (q : Int) (w : World) (hr0 : Kd.C k66 w A0 E.length E) (hc0 : E.length ≤ c0)
  (hck : stabilize_rooted.f k n E q = some 0) (hE : multsOk E = true) (hin : EdgesIn n E) :
  Calls Try.prog 69 #[.agg #[.int .i64 n, .slice A0 E.length c0], .int .i64 q] w fun e w' => ∃ v, e = .returned (.tuple #[v, .int .i64 0]) ∧ (Kd.int .i64).R 3 w' w.heap.size (fun _ => True) v (topTo (pileVal n E) q n n) ∧ Below w.heap.size w w' := by
 have hu := Try.underlying24
 have hup := Try.underlying110
 obtain ⟨hg, ⟨_, hn⟩, _, hq0, hqn⟩ := rooted_zero hck
 obtain ⟨zs, hmk, hzr⟩ := made_ints 33 Try.underlying33 n (by omega)
 obtain ⟨ys, hmk2, hyr⟩ := made_ints 42 Try.underlying42 n (by omega)
 have HZ := Aside0.mk hzr
 have HY := Aside0.mk hyr
 have Hck := Aside0.mk hck
 have Hg := Aside0.mk hg
 have HE := Aside0.mk hE
 have HI := Aside0.mk hin
 have hn12 : n ≤ 12 := by omega
 clear hzr hyr hck hg hE hin hn
 have HX := Aside0.mk (heap_alloc_new w (.cells #[.int .i64 n, .slice A0 E.length c0] 24))
 go_enter Try.func69, Try.ntmps69
 go_wp2_with (go_at_call 91; refine (stabilize_rooted.calls k n A0 c0 E q 0 _ (Kd.C_alloc hr0 _) hc0 Hck.out).mono ?_; rintro e w1 ⟨rfl, hb⟩; have HB1 := Aside0.mk (below_step (below_alloc (Below.refl w.heap.size w) _) hb); have HX1 := Aside0.mk (blk_below HX.out hb); clear hb)
 generalize hgb : w.heap.size = gb at HX HB1 HX1 ⊢
 have hgl := blk_lt HX1.out
 have hx0 : w1.cell? ⟨gb, 0, none⟩ = some (.int .i64 n) := (blk_cell HX1.out 0).trans rfl
 have hx1 : w1.cell? ⟨gb, 1, none⟩ = some (.slice A0 E.length c0) := (blk_cell HX1.out 1).trans rfl
 have hy0 : (w1.alloc (.cells zs 3)).drew.cell? ⟨gb, 0, none⟩ = some (.int .i64 n) := (blk_cell (blk_alloc HX1.out _) 0).trans rfl
 have hy1 : (w1.alloc (.cells zs 3)).drew.cell? ⟨gb, 1, none⟩ = some (.slice A0 E.length c0) := (blk_cell (blk_alloc HX1.out _) 1).trans rfl
 have HP := Aside0.mk (pileOf_calls' k n A0 c0 E q (some ⟨w1.heap.size, 0, none⟩) n (List.replicate n 0) (w1.alloc (.cells zs 3)).drew (Kd.C_drew (Kd.C_alloc (Kd.C_below hr0 (by rw [hgb]; exact HB1.out)) _)) hc0 (by have h := (Kd.R_reads' (Kd.R_drew (HZ.out w1 (fun _ => True) trivial))).2.2; rw [List.length_replicate] at h; exact h) (Nat.le_refl _) hn12 (by simp) Hg.out HE.out HI.out)
 have HS1 : Aside0 (gb ≤ (w1.alloc (.cells zs 3)).drew.heap.size) := ⟨by have h : (w1.alloc (.cells zs 3)).drew.heap.size = w1.heap.size + 1 := World.size_alloc w1 _; omega⟩
 have HB1d := Aside0.mk (below_drew1 (HB1.out.alloc (Nat.le_of_lt hgl) (.cells zs 3)))
 have HX1d := Aside0.mk (show (w1.alloc (.cells zs 3)).drew.heap[gb]? = some (.cells #[.int .i64 n, .slice A0 E.length c0] 24 (0, 0)) from blk_alloc HX1.out _)
 go_wp2
 go_region_with ((go_at_call 92; refine HP.out.mono ?_; rintro e w2 ⟨gp, Av1, Av2, cv1, cv2, rv, rfl, hP, hR, hb⟩; have HB2 := Aside0.mk (HB1d.out.trans (hb.mono HS1.out)); have HX2 := Aside0.mk (blk_below HX1d.out hb); have HP2 := Aside0.mk hP; have HR2 := Aside0.mk (Kd.R_lower hR HS1.out); clear hP hR hb))
 all_goals have hz0 : w2.cell? ⟨gb, 0, none⟩ = some (.int .i64 n) := (blk_cell HX2.out 0).trans rfl
 all_goals have hgl2 := blk_lt HX2.out
 all_goals have HP3 := Aside0.mk (HP2.out.below (below_alloc (Below.refl w2.heap.size w2) (.cells ys 3)))
 all_goals have HR3 := Aside0.mk (Kd.R_alloc HR2.out (.cells ys 3))
 all_goals have HB3 := Aside0.mk (HB2.out.alloc (Nat.le_of_lt hgl2) (.cells ys 3))
 all_goals have HO3 := Aside0.mk (Kd.R_lower (HY.out w2 (fun k => k = w2.heap.size) rfl) (Nat.le_of_lt hgl2))
 all_goals have hw3 := HP3.out.cell_val
 all_goals have hbv : Aside0 (some w2.heap.size ≠ (Value.slice Av2 n cv2).ownBlock) := ⟨fun e => by have := Kd.R_lt HR2.out _ e.symm; omega⟩
 all_goals clear HX HB1 HX1 HB1d HX1d HS1 HP HB2 HX2 HP2 HR2 hx0 hx1 hy0 hy1 hmk
 all_goals go_wp2
 all_goals clear hz0 hmk2 hgl2 hw3 HP3
 all_goals generalize w2.alloc (.cells ys 3) = w3 at HR3 HB3 HO3 ⊢
 all_goals generalize w2.heap.size = ob at HO3 hbv ⊢
 all_goals
  have HVB := Aside0.mk (pileVal_bound (n := n) HE.out)
  have HVL := Aside0.mk (pileVal_length n E)
  obtain ⟨vl, hvl⟩ : ∃ vl, vl = pileVal n E := ⟨_, rfl⟩
  rw [← hvl] at HR3 HVB HVL
  have HVE := Aside0.mk hvl
  clear hvl
  rw [← topTo_zero vl q n] at HO3
  go_loopw [38] (fun i wr => ∃ (j : Nat), j ≤ n ∧ i = .int .i64 j ∧ Aside0 ((Kd.int .i64).R 3 wr gb (fun _ => True) (.slice Av2 n cv2) vl) ∧ Aside0 ((Kd.int .i64).R 3 wr gb (fun k => k = ob) (.slice (some ⟨ob, 0, none⟩) n n) (topTo vl q n j)) ∧ Aside0 (Below gb w wr)) (fun i _ => n - (intOf i).toNat)
  case atStart => exact ⟨0, by omega, rfl, HR3, HO3, HB3⟩
  case round =>
   clear HR3 HO3 HB3
   obtain ⟨j, hj, rfl, HR, HO, HB⟩ := hrel
   by_cases hjn : j < n
   ·obtain ⟨-, -, hC⟩ := Kd.R_reads' HR.out
    rw [HVL.out] at hC
    obtain ⟨ad, rfl, hx⟩ := Kd.at_int hC j (by omega) (by omega)
    rw [Int.toNat_natCast] at hx
    clear hC
    have hvb := HVB.out j
    have hi0 : (0 : Int) ≤ (j : Int) := by omega
    have hi1 : (j : Int) < (n : Int) := by omega
    by_cases hq : (j : Int) = q
    ·have Hs := Aside0.mk (topTo_skip (val := vl) (n := n) hq)
     subst hq
     go_wp2
     go_roundw
     case rel => exact ⟨j + 1, by omega, by go_num, HR, ⟨by rw [Hs.out]; exact HO.out⟩, HB⟩
     case measure => exact (show n - ((j : Int) + 1).toNat < n - ((j : Int)).toNat by omega)
    ·have Hs := Aside0.mk (topTo_set (val := vl) hq hjn)
     have hqb : ((j : Int) != q) = true := by simpa using hq
     obtain ⟨hcl, hfz⟩ := Kd.R_celln (0 : Int) HO.out (j : Int) (by omega) (by omega)
     have hp := Kd.R_putg HO.out (j : Int) (rd vl j - 1)
     rw [Int.toNat_natCast] at hcl hfz hp
     have HO1 := Aside0.mk hp.1
     have HR1 := Aside0.mk (Kd.R_grown1 HR.out rfl hp.2 hbv.out)
     have HB1 := Aside0.mk (Below.setCell (p := ⟨ob, j, none⟩) HB.out (Kd.R_base HO.out ob rfl) (.int .i64 (rd vl j - 1)))
     clear hp hq
     generalize rd vl j = x at hx hvb HO1 HR1 HB1 Hs
     go_wp2
     go_roundw
     case rel => exact ⟨j + 1, by omega, by go_num, HR1, ⟨by rw [Hs.out]; exact HO1.out⟩, HB1⟩
     case measure => exact (show n - ((j : Int) + 1).toNat < n - ((j : Int)).toNat by omega)
   ·obtain rfl : j = n := by omega
    go_wp2
    go_ret2
    exact ⟨.slice (some ⟨ob, 0, none⟩) _ _, rfl, by rw [hgb, ← HVE.out]; exact Kd.R_mono HO.out (fun _ _ => trivial), by rw [hgb]; exact HB.out⟩
theorem stabilize_Maximal.calls (k : Nat) (a0_0 : Int) (A0_1 : Option Addr) (c0_1 : Nat) (l0_1 : List (S66)) (a1 : Int) (r1 : List Int) (r2 : Int) (w : World) (hr0_1 : Kd.C k66 w A0_1 l0_1.length l0_1) (hc0_1 : l0_1.length ≤ c0_1) (h : stabilize_Maximal.f k a0_0 l0_1 a1 = some (r1, r2)) :
  Calls Try.prog 69 #[.agg #[.int .i64 a0_0, .slice A0_1 l0_1.length c0_1], .int .i64 a1] w fun e w' => ∃ v0_ : Value, e = .returned (.tuple #[v0_, .int .i64 r2]) ∧ Kd.R (Kd.int .i64) 3 w' w.heap.size (fun _ => True) v0_ r1 ∧ Below w.heap.size w w' := by
 unfold stabilize_Maximal.f at h
 obtain ⟨t, ht, H⟩ := Option.bind_eq_some_iff.mp h
 by_cases h0 : t = 0
 ·subst h0
  rw [if_pos rfl] at H
  by_cases hv : okList a0_0 l0_1 = true
  ·rw [if_pos hv] at H
   simp only [Option.some.injEq, Prod.mk.injEq] at H
   obtain ⟨rfl, rfl⟩ := H
   obtain ⟨_, ⟨hN, hN12⟩, _, _⟩ := rooted_zero ht
   obtain ⟨n, rfl⟩ := Int.eq_ofNat_of_zero_le hN
   simp only [okList, Bool.and_eq_true] at hv
   rw [Int.toNat_natCast]
   exact maximal_good k n A0_1 c0_1 l0_1 a1 w hr0_1 hc0_1 ht hv.1 (edgesIn_of hv.2)
  ·rw [if_neg hv] at H; cases H
 ·rw [if_neg h0] at H
  simp only [Option.some.injEq, Prod.mk.injEq] at H
  obtain ⟨rfl, rfl⟩ := H
  refine (maximal_bad k a0_0 A0_1 c0_1 l0_1 a1 t w hr0_1 hc0_1 ht h0).mono ?_
  rintro e w' ⟨rfl, hb⟩
  exact ⟨_, rfl, Kd.R_nil _ _ _ _ _, hb⟩
def superstable_first.f (k : Nat) (a0_0 : Int) (l0_1 : List (S66)) (a1 : Int) : Option (List Int × Int) := (stabilize_Maximal.f k a0_0 l0_1 a1).bind fun bt120 => (some (bt120.1, bt120.2))
theorem superstable_first.calls (k : Nat) (a0_0 : Int) (A0_1 : Option Addr) (c0_1 : Nat) (l0_1 : List (S66)) (a1 : Int) (r1 : List Int) (r2 : Int) (w : World) (hr0_1 : Kd.C k66 w A0_1 l0_1.length l0_1) (hc0_1 : l0_1.length ≤ c0_1) (h : superstable_first.f k a0_0 l0_1 a1 = some (r1, r2)) :
  Calls Try.prog 43 #[.agg #[.int .i64 a0_0, .slice A0_1 l0_1.length c0_1], .int .i64 a1] w fun e w' => ∃ v0_ : Value, e = .returned (.tuple #[v0_, .int .i64 r2]) ∧ Kd.R (Kd.int .i64) 3 w' w.heap.size (fun _ => True) v0_ r1 ∧ Below w.heap.size w w' := by
 have hu24 := Try.underlying24
 have HR0_1 := Aside0.mk hr0_1
 have HC0_1 := Aside0.mk hc0_1
 clear hr0_1 hc0_1
 have HB := Aside0.mk (Below.refl w.heap.size w)
 have H : ((stabilize_Maximal.f k a0_0 l0_1 a1).bind fun bt120 => (some (bt120.1, bt120.2))) = some (r1, r2) := h
 clear h
 replace H := Option.bind_eq_some_iff.mp H
 obtain ⟨⟨t120, t123⟩, A30, H⟩ := H
 replace H : (some (t120, t123)) = some (r1, r2) := H
 have A3 := Aside0.mk A30
 clear A30
 simp only [Option.some.injEq, Prod.mk.injEq] at H
 obtain ⟨rfl, rfl⟩ := H
 go_enter Try.func43, Try.ntmps43
 go_wp2_with (first | ((with_reducible refine gate_dst (N := 2) rfl ?_); refine zX 2 #[.int .i64 a0_0, .slice A0_1 l0_1.length c0_1] 24 ?_; intro gb119 hg w4 hbox hb; have BK119 := Aside0.mk (hbox); have GW119 := zG HB hg; have GE119 := zG HB hg; replace HB := zS HB hb; clear hb hbox hg; obtain ⟨hcz5_0, hcz5_1, hfz5_0, hfz5_1⟩ := zD2 BK119) | ((with_reducible refine gate_callee (f := 69) rfl ?_); refine zL (some 8) Try.func69 #[.agg #[.int .i64 a0_0, .slice A0_1 l0_1.length c0_1], .int .i64 a1] ?_; (with_reducible refine (stabilize_Maximal.calls k a0_0 _ _ l0_1 a1 t120 t123 _ ?side1 ?side2 A3.out).mono ?_); (case side1 => exact Kd.C_below HR0_1.out zB); (case side2 => exact HC0_1.out); rintro e w6 ⟨v121, rfl, ho0, hb⟩; refine ⟨_, rfl, ?_⟩; have HO122 := Aside0.mk (Kd.R_lower ho0 (below_size zB)); replace BK119 := zb BK119 hb; replace HB := zS HB hb; (try clear hb); (try clear ho0)))
 go_ret2
 exact ⟨_, zE, by (with_reducible repeat (first | apply Kd.R_alloc | apply Kd.R_drewN | apply Kd.R_drew)); exact HO122.out, zB⟩
section
attribute [local go_sem] Oper.semAt_some
theorem run_loadVar_one {P : Program} {ty : TypeId} {d : TypeDesc} (w : World) (a : Addr) (v : Value) (h : P.underlying ty = some d) (k : (match d with | .struct _ | .array _ _ => true | _ => false) = false) (c : w.cell? a = some v) : (loadVar ty a).run P w = .ok v w := by
 have e : (isAgg ty).run P w = .ok false w := by
  unfold isAgg
  rw [Sem.run_bind]
  have hu : (underlying ty).run P w = .ok d w := by simp [underlying, Sem.run_bind, Result.andThen, h]
  rw [hu]
  cases d <;> first | (simp at k; done) | rfl
 unfold loadVar
 rw [Sem.run_bind, e]
 simp [Result.andThen, go_sem, c]
theorem results_cells2 {P : Program} {fn : Func} {p u : Tmp} {t1 t2 : TypeId} {d1 d2 : TypeDesc} (h : fn.results = #[.cell p t1, .cell u t2]) (tmps : Array Value) (w : World) (a b : Addr) (v1 v2 : Value) (hp : tmps.getD p undef = .pointer (some a)) (hu : tmps.getD u undef = .pointer (some b))
  (h1 : P.underlying t1 = some d1) (h2 : P.underlying t2 = some d2) (k1 : (match d1 with | .struct _ | .array _ _ => true | _ => false) = false) (k2 : (match d2 with | .struct _ | .array _ _ => true | _ => false) = false) (c1 : w.cell? a = some v1) (c2 : w.cell? b = some v2) :
  (results fn tmps).run P w = .ok (.tuple #[v1, v2]) w := by
 have hp' : tmps[p]?.getD undef = .pointer (some a) := by simpa using hp
 have hu' : tmps[u]?.getD undef = .pointer (some b) := by simpa using hu
 simp [results, h, hp', hu', asAddr, Sem.run_bind, Result.andThen, run_loadVar_one w a v1 h1 k1 c1, run_loadVar_one w b v2 h2 k2 c2]
theorem configurations_calls (N : Int) (A0 : Option Addr) (c0 : Nat) (E : List S66) (q : Int) (w : World) : Calls Try.prog 44 #[.agg #[.int .i64 N, .slice A0 E.length c0], .int .i64 q] w fun e w' => e = .returned (.func (.func 70) #[] #[.pointer (some ⟨w.heap.size, 0, none⟩), .pointer (some ⟨w.heap.size + 1, 0, none⟩)]) ∧ w' = (w.alloc (.cells #[.int .i64 N, .slice A0 E.length c0] 24)).alloc (.cells #[.int .i64 q] 3) := by
 go_enter Try.func44, Try.ntmps44
 go_wp2
 go_ret
 exact ⟨rfl, rfl⟩
def confB : Nat := 1000
def confs (n : Nat) (E : List S66) (q : Nat) : List (List Int) := outB q confB (superB n (timesOf E) q) n []
def superstable_All.f (k : Nat) (N : Int) (E : List S66) (q : Int) : Option (List (List Int) × Int) :=
 (superstable_first.f k N E q).bind fun t => if t.2 = 0 then (if (confs N.toNat E q.toNat).length ≤ 16384 then some (confs N.toNat E q.toNat, 0) else none) else some ([], t.2)
theorem first_zero {k : Nat} {N : Int} {E : List S66} {q : Int} {l : List Int} (h : superstable_first.f k N E q = some (l, 0)) : stabilize_rooted.f k N E q = some 0 ∧ multsOk E = true ∧ edgesInB N E = true ∧ l = topTo (pileVal N.toNat E) q N.toNat N.toNat := by
 unfold superstable_first.f stabilize_Maximal.f at h
 simp only [Option.bind_assoc] at h
 obtain ⟨t, ht, h⟩ := Option.bind_eq_some_iff.1 h
 by_cases h0 : t = 0
 ·subst h0
  rw [if_pos rfl] at h
  by_cases hk : okList N E = true
  ·rw [if_pos hk] at h
   simp only [okList, Bool.and_eq_true] at hk
   simp only [Option.bind_some, Option.some.injEq, Prod.mk.injEq] at h
   exact ⟨ht, hk.1, hk.2, h.1.symm⟩
  ·rw [if_neg hk] at h; cases h
 ·rw [if_neg h0] at h
  simp only [Option.bind_some, Option.some.injEq, Prod.mk.injEq] at h
  exact absurd h.2 h0
theorem bodyPostM_ret {F : Fence} {n : Nat} {P : Program} {fn : Func} {R : Ending → World → Prop} {a : Act} {w : World} {v : Value} (hd : a.defers = []) (hres : (results fn a.tmps).run P w = .ok v w) (hR : R (.returned v) w) : bodyPostM F n P fn R .ret a w := by
 show LeavesInM F n P fn a.tmps R a.defers .returning w
 rw [hd]
 exact ⟨_, hres, hR⟩
theorem two_cells {w1 : World} {r : Nat} {t1 t2 : TypeId} {u1 u2 : Value} (v1 v2 : Value) (X1 : w1.heap[r]? = some (.cells #[u1] t1 (0, 0))) (X2 : w1.heap[r + 1]? = some (.cells #[u2] t2 (0, 0))) :
  ((w1.setCell ⟨r, 0, none⟩ v1).setCell ⟨r + 1, 0, none⟩ v2).cell? ⟨r, 0, none⟩ = some v1 ∧ ((w1.setCell ⟨r, 0, none⟩ v1).setCell ⟨r + 1, 0, none⟩ v2).cell? ⟨r + 1, 0, none⟩ = some v2 := by
 have h1 := blk_set X1 0 v1
 have h2 := blk_far (p := ⟨r + 1, 0, none⟩) h1 (by show r ≠ r + 1; omega) v2
 have h3 := blk_far (p := ⟨r, 0, none⟩) X2 (by show r + 1 ≠ r; omega) v1
 have h4 := blk_set h3 0 v2
 exact ⟨(blk_cell h2 0).trans (by simp), (blk_cell h4 0).trans (by simp)⟩
theorem three_boxes (w : World) (o0 o1 o2 : Obj) : (((w.alloc o0).alloc o1).alloc o2).heap[w.heap.size]? = some o0 ∧ (((w.alloc o0).alloc o1).alloc o2).heap[w.heap.size + 1]? = some o1 ∧ (((w.alloc o0).alloc o1).alloc o2).heap[w.heap.size + 1 + 1]? = some o2 := by
 refine ⟨?_, ?_, ?_⟩
 ·rw [Below.heap_alloc _ _ _ (by simp; omega), Below.heap_alloc _ _ _ (by simp)]; exact heap_alloc_new w o0
 ·rw [Below.heap_alloc _ _ _ (by simp)]; have h := heap_alloc_new (w.alloc o0) o1; simpa using h
 ·have h := heap_alloc_new ((w.alloc o0).alloc o1) o2; simpa using h
theorem all_bad (k : Nat) (N : Int) (A0 : Option Addr) (c0 : Nat) (E : List S66) (q : Int) (l : List Int) (t : Int) (w : World) (hr0 : Kd.C k66 w A0 E.length E) (hc0 : E.length ≤ c0) (hf : superstable_first.f k N E q = some (l, t)) (ht : t ≠ 0) :
  Calls Try.prog 12 #[.agg #[.int .i64 N, .slice A0 E.length c0], .int .i64 q] w fun e w' => e = .returned (.tuple #[.slice none 0 0, .int .i64 t]) ∧ Below w.heap.size w w' := by
 have hu := Try.underlying24
 have Hf := Aside0.mk hf
 have hne : (t != 0) = true := by simpa using ht
 have HXS := Aside0.mk (three_boxes w (.cells #[.int .i64 N, .slice A0 E.length c0] 24) (.cells #[.slice none 0 0] 27) (.cells #[.int .i64 0] 28))
 have hg0 : (((w.alloc (.cells #[.int .i64 N, .slice A0 E.length c0] 24)).alloc (.cells #[.slice none 0 0] 27)).alloc (.cells #[.int .i64 0] 28)).cell? ⟨w.heap.size, 0, none⟩ = some (.int .i64 N) := (blk_cell HXS.out.1 0).trans rfl
 have hg1 : (((w.alloc (.cells #[.int .i64 N, .slice A0 E.length c0] 24)).alloc (.cells #[.slice none 0 0] 27)).alloc (.cells #[.int .i64 0] 28)).cell? ⟨w.heap.size, 1, none⟩ = some (.slice A0 E.length c0) := (blk_cell HXS.out.1 1).trans rfl
 clear hf ht
 refine (callsIn_wide (n := 10)).1 ?_
 refine callsIn_of_wp_marks Try.func12 rfl trivial ?_ rfl
 simp only [Try.ntmps12, List.size_toArray, List.length_cons, List.length_nil, Nat.reduceAdd, Nat.reduceSub, Array.replicate_succ, Array.replicate_zero, List.push_toArray, List.append_toArray, List.nil_append, List.cons_append]
 gi_wp2_with (refine ⟨trivial, ?_⟩; gi_at_call 43; refine (callsIn_wide.2 (superstable_first.calls k N A0 c0 E q l t _ (Kd.C_alloc (Kd.C_alloc (Kd.C_alloc hr0 _) _) _) hc0 Hf.out)).mono ?_; rintro e w1 ⟨v, rfl, hr1, hb⟩; have HB := Aside0.mk ((below_alloc (below_alloc (below_alloc (Below.refl w.heap.size w) _) _) _).trans (hb.mono (by simp; omega))); have X1 := Aside0.mk (blk_below HXS.out.2.1 hb); have X2 := Aside0.mk (blk_below HXS.out.2.2 hb); have q1 : w1.cell? ⟨w.heap.size + 1, 0, none⟩ = some (.slice none 0 0) := (blk_cell X1.out 0).trans rfl; have q2 : w1.frozen? ⟨w.heap.size + 1, 0, none⟩ = false := blk_frozen X1.out 0; have X3 := Aside0.mk (blk_far (p := ⟨w.heap.size + 1, 0, none⟩) X2.out (by show w.heap.size + 1 + 1 ≠ w.heap.size + 1; omega) (.slice none 0 0)); have q3 : (w1.setCell ⟨w.heap.size + 1, 0, none⟩ (.slice none 0 0)).cell? ⟨w.heap.size + 1 + 1, 0, none⟩ = some (.int .i64 0) := (blk_cell X3.out 0).trans rfl; have q4 := blk_frozen X3.out 0; clear hr1 hb)
 obtain ⟨c1, c2⟩ := two_cells (.slice none 0 0) (.int .i64 t) X1.out X2.out
 exact bodyPostM_ret rfl (results_cells2 (p := 4) (u := 5) rfl _ _ ⟨w.heap.size + 1, 0, none⟩ ⟨w.heap.size + 1 + 1, 0, none⟩ _ _ rfl rfl Try.underlying27 Try.underlying28 rfl rfl c1 c2) ⟨rfl, (HB.out.setCell (p := ⟨w.heap.size + 1, 0, none⟩) (by show w.heap.size ≤ w.heap.size + 1; omega) _).setCell (p := ⟨w.heap.size + 1 + 1, 0, none⟩) (by show w.heap.size ≤ w.heap.size + 1 + 1; omega) _⟩
end
def sandpileref08_Valence.l0 : Nat → Int → Int → Int → Int → List (S66) → Option (Int)
 | 0, _, _, _, _, _ => none
 | k + 1, x1, x5, x6, x180000, x180001 => if x6 < x180000 then (if x6 = x1 then (sandpileref08_Valence.l0 k x1 x5 (wrap64 (x6 + 1)) x180000 x180001) else ((sandpileref08_Between.f k x180000 x180001 x6 x1).bind fun t180 => (sandpileref08_Valence.l0 k x1 (wrap64 (x5 + t180)) (wrap64 (x6 + 1)) x180000 x180001))) else (some x5)
def sandpileref08_Valence.f (k : Nat) (a0_0 : Int) (l0_1 : List (S66)) (a1 : Int) : Option (Int) := sandpileref08_Valence.l0 k a1 0 0 a0_0 l0_1
theorem sandpileref08_Valence.calls (k : Nat) (a0_0 : Int) (A0_1 : Option Addr) (c0_1 : Nat) (l0_1 : List (S66)) (a1 : Int) (r : Int) (w : World) (hr0_1 : Kd.C k66 w A0_1 l0_1.length l0_1) (hc0_1 : l0_1.length ≤ c0_1) (h : sandpileref08_Valence.f k a0_0 l0_1 a1 = some r) :
  Calls Try.prog 87 #[.agg #[.int .i64 a0_0, .slice A0_1 l0_1.length c0_1], .int .i64 a1] w fun e w' => e = .returned (.int .i64 r) ∧ Below w.heap.size w w' := by
 have hu24 := Try.underlying24
 have HR0_1 := Aside0.mk hr0_1
 have HC0_1 := Aside0.mk hc0_1
 clear hr0_1 hc0_1
 have HB := Aside0.mk (Below.refl w.heap.size w)
 have H : (sandpileref08_Valence.l0 k a1 0 0 a0_0 l0_1) = some r := h
 clear h
 have H' := Aside0.mk H
 clear H
 go_enter Try.func87, Try.ntmps87
 go_wp2_with (first | ((with_reducible refine gate_dst (N := 2) rfl ?_); refine zX 2 #[.int .i64 a0_0, .slice A0_1 l0_1.length c0_1] 24 ?_; intro gb179 hg w3 hbox hb; have BK179 := Aside0.mk (hbox); have GW179 := zG HB hg; have GE179 := zG HB hg; replace HB := zS HB hb; clear hb hbox hg))
 go_loopg [5, 6] k (fun kq v5 v6 w' => ∃ (x5_1 : Int) (x6_1 : Int), v5 = .int .i64 x5_1 ∧ v6 = .int .i64 x6_1 ∧ Aside0 (sandpileref08_Valence.l0 kq a1 x5_1 x6_1 a0_0 l0_1 = some r) ∧ Aside0 (kq ≤ k) ∧ Aside0 (w'.heap[gb179]? = some (.cells #[.int .i64 a0_0, (.slice A0_1 l0_1.length c0_1)] 24 (0, 0))) ∧ Aside0 (Below w.heap.size w w'))
 case atStart => exact ⟨(0), (0), zT, zT, H', ⟨Nat.le_refl _⟩, ⟨zK BK179⟩, ⟨zB⟩⟩
 case round =>
  clear H'
  try clear p2
  obtain ⟨x5_1, x6_1, rfl, rfl, HA, HK1, BK179, HB⟩ := hrel
  cases gk with
  | zero => exact absurd HA.out (by simp [sandpileref08_Valence.l0])
  | succ k1 =>
   have H := HA.out
   clear HA
   simp only [sandpileref08_Valence.l0] at H
   by_cases c4 : x6_1 < a0_0
   ·rw [if_pos c4] at H
    have c4b0 : decide (x6_1 < a0_0) = true := decide_eq_true c4
    clear c4
    by_cases c5 : x6_1 = a1
    ·rw [if_pos c5] at H
     have c5b0 : (x6_1 == a1) = true := beq_iff_eq.mpr c5
     have c5b1 : (x6_1 != a1) = false := bne_eq_false_iff_eq.mpr c5
     clear c5
     have H' := Aside0.mk H
     clear H
     obtain ⟨hcz6_0, hcz6_1, hfz6_0, hfz6_1⟩ := zD2 BK179
     go_wp2
     go_roundg k1
     case measure => have := HK1.out; omega
     case rel => exact ⟨(x5_1), (wrap64 (x6_1 + 1)), zT, zT, H', ⟨by have := HK1.out; omega⟩, ⟨zK BK179⟩, ⟨zB⟩⟩
    ·rw [if_neg c5] at H
     have c5b0 : (x6_1 == a1) = false := beq_eq_false_iff_ne.mpr c5
     have c5b1 : (x6_1 != a1) = true := bne_iff_ne.mpr c5
     replace H := Option.bind_eq_some_iff.mp H
     obtain ⟨t180, A70, H⟩ := H
     replace H : (sandpileref08_Valence.l0 k1 a1 (wrap64 (x5_1 + t180)) (wrap64 (x6_1 + 1)) a0_0 l0_1) = some r := H
     have A7 := Aside0.mk A70
     clear A70
     have H' := Aside0.mk H
     clear H
     obtain ⟨hcz8_0, hcz8_1, hfz8_0, hfz8_1⟩ := zD2 BK179
     go_wp2_with (first | ((with_reducible refine gate_callee (f := 97) rfl ?_); refine zL (some 20) Try.func97 #[.agg #[.int .i64 a0_0, .slice A0_1 l0_1.length c0_1], .int .i64 x6_1, .int .i64 a1] ?_; (with_reducible refine (sandpileref08_Between.calls k1 a0_0 _ _ l0_1 x6_1 a1 t180 _ ?side1 ?side2 A7.out).mono ?_); (case side1 => exact Kd.C_below HR0_1.out zB); (case side2 => exact HC0_1.out); rintro e w9 ⟨rfl, hb⟩; refine ⟨_, rfl, ?_⟩; replace BK179 := zb BK179 hb; replace HB := zS HB hb; (try clear hb)))
     go_roundg k1
     case measure => have := HK1.out; omega
     case rel => exact ⟨(wrap64 (x5_1 + t180)), (wrap64 (x6_1 + 1)), zT, zT, H', ⟨by have := HK1.out; omega⟩, ⟨zK BK179⟩, ⟨zB⟩⟩
   ·rw [if_neg c4] at H
    have c4b0 : decide (x6_1 < a0_0) = false := decide_eq_false c4
    clear c4
    obtain rfl := Option.some.inj H
    obtain ⟨hcz10_0, hcz10_1, hfz10_0, hfz10_1⟩ := zD2 BK179
    go_wp2
    go_ret
    exact ⟨zE, zB⟩
def sandpileref19_Top.l0 : Nat → Int → List Int → Int → Int → List (S66) → Option (List Int)
 | 0, _, _, _, _, _ => none
 | k + 1, x1, x5, x6, x182000, x182001 => if x6 < x182000 then (if x6 = x1 then (sandpileref19_Top.l0 k x1 x5 (wrap64 (x6 + 1)) x182000 x182001) else ((sandpileref08_Valence.f k x182000 x182001 x6).bind fun t185 => (if 0 ≤ x6 then (if x6 < (x5.length : Int) then (sandpileref19_Top.l0 k x1 (x5.set (x6 : Int).toNat (wrap64 (t185 - 1))) (wrap64 (x6 + 1)) x182000 x182001) else (none)) else (none)))) else (some x5)
def sandpileref19_Top.f (k : Nat) (a0_0 : Int) (l0_1 : List (S66)) (a1 : Int) : Option (List Int) := if 0 ≤ a0_0 then (if (a0_0 : Int).toNat ≤ 35184372088832 then (sandpileref19_Top.l0 k a1 (List.replicate (a0_0 : Int).toNat 0) 0 a0_0 l0_1) else (none)) else (none)
theorem sandpileref19_Top.calls (k : Nat) (a0_0 : Int) (A0_1 : Option Addr) (c0_1 : Nat) (l0_1 : List (S66)) (a1 : Int) (r : List Int) (w : World) (hr0_1 : Kd.C k66 w A0_1 l0_1.length l0_1) (hc0_1 : l0_1.length ≤ c0_1) (h : sandpileref19_Top.f k a0_0 l0_1 a1 = some r) :
  Calls Try.prog 74 #[.agg #[.int .i64 a0_0, .slice A0_1 l0_1.length c0_1], .int .i64 a1] w fun e w' => ∃ v0_ : Value, e = .returned (v0_) ∧ Kd.R (Kd.int .i64) 3 w' w.heap.size (fun _ => True) v0_ r ∧ Below w.heap.size w w' := by
 have hu24 := Try.underlying24
 have HR0_1 := Aside0.mk hr0_1
 have HC0_1 := Aside0.mk hc0_1
 clear hr0_1 hc0_1
 have HB := Aside0.mk (Below.refl w.heap.size w)
 have H : (if 0 ≤ a0_0 then (if (a0_0 : Int).toNat ≤ 35184372088832 then (sandpileref19_Top.l0 k a1 (List.replicate (a0_0 : Int).toNat 0) 0 a0_0 l0_1) else (none)) else (none)) = some r := h
 clear h
 by_cases c3 : 0 ≤ a0_0
 ·rw [if_pos c3] at H
  have c3b0 := eq_true c3
  have c3b1 : decide (0 ≤ a0_0) = true := decide_eq_true c3
  clear c3
  by_cases c4 : (a0_0 : Int).toNat ≤ 35184372088832
  ·rw [if_pos c4] at H
   have c4b0 := eq_true c4
   have c4b1 : decide ((a0_0 : Int).toNat ≤ 35184372088832) = true := decide_eq_true c4
   clear c4
   obtain ⟨y182, hy182⟩ : ∃ y_ : List Int, y_ = (List.replicate (a0_0 : Int).toNat 0) := ⟨_, rfl⟩
   replace H : (sandpileref19_Top.l0 k a1 y182 0 a0_0 l0_1) = some r := by first | (rw [hy182]; with_reducible exact H) | (have H2_ := (Option.bind_some _ _).symm.trans H; rw [hy182]; with_reducible exact H2_) | (have H2_ := (Option.bind_some _ _).symm.trans H; with_reducible exact H2_) | with_reducible exact H | (rw [hy182]; exact H) | exact H
   have Ny182 := Aside0.mk hy182
   clear hy182
   have H' := Aside0.mk H
   clear H
   go_enter Try.func74, Try.ntmps74
   go_wp2_with (first | ((with_reducible refine gate_dst (N := 2) rfl ?_); refine zX 2 #[.int .i64 a0_0, .slice A0_1 l0_1.length c0_1] 24 ?_; intro gb181 hg w5 hbox hb; have BK181 := Aside0.mk (hbox); have GW181 := zG HB hg; have GE181 := zG HB hg; replace HB := zS HB hb; clear hb hbox hg; obtain ⟨hcz6_0, hcz6_1, hfz6_0, hfz6_1⟩ := zD2 BK181) | ((with_reducible refine gate_dst (N := 9) rfl ?_); refine Kd.R_make (Kd.int .i64) _ 3 rfl (N := 9) rfl 42 _ _ rfl a0_0 rfl rfl Try.underlying42 (.int .i64 0) 8 info3 rfl (by decide) (by omega) 0 (ok := fun _ => True) (okp := fun _ => True) rfl (fun _ hk => hk) trivial (of_decide_eq_true ‹_›) (Nat.le_trans (Nat.mul_le_mul_right _ (of_decide_eq_true ‹_› : a0_0.toNat ≤ 35184372088832)) (by omega)) (Below.refl _ _) (Nat.le_refl _) ?_; intro v183 w7 ho8 hb hg_ hnew_; clear hg_ hnew_; (first | rw [← Ny182.out] at ho8 | (simp only [Int.reduceToNat] at ho8; rw [← Ny182.out] at ho8)); have HO184 := Aside0.mk (Kd.R_lower ho8 (below_size zB)); replace BK181 := zb BK181 hb; replace HB := zS HB hb; clear hb ho8))
   go_loopg [6] k (fun kq v6 w' => ∃ (x5_1 : List Int) (x6_1 : Int), v6 = .int .i64 x6_1 ∧ Aside0 (sandpileref19_Top.l0 kq a1 x5_1 x6_1 a0_0 l0_1 = some r) ∧ Aside0 (kq ≤ k) ∧ Aside0 (Kd.R (Kd.int .i64) 3 w' w.heap.size (fun _ => True) v183 x5_1) ∧ Aside0 (w'.heap[gb181]? = some (.cells #[.int .i64 a0_0, (.slice A0_1 l0_1.length c0_1)] 24 (0, 0))) ∧ Aside0 (Below w.heap.size w w'))
   case atStart => exact ⟨(y182), (0), zT, H', ⟨Nat.le_refl _⟩, ⟨zR HO184⟩, ⟨zK BK181⟩, ⟨zB⟩⟩
   case round =>
    clear H'
    try clear p2
    try clear c3
    try clear c3b0
    try clear c3b1
    try clear c4
    try clear c4b0
    try clear c4b1
    try clear c7
    try clear hcz6_0
    try clear hcz6_1
    try clear hfz6_0
    try clear hfz6_1
    obtain ⟨x5_1, x6_1, rfl, HA, HK1, HO_5, BK181, HB⟩ := hrel
    cases gk with
    | zero => exact absurd HA.out (by simp [sandpileref19_Top.l0])
    | succ k1 =>
     have H := HA.out
     clear HA
     simp only [sandpileref19_Top.l0] at H
     by_cases c9 : x6_1 < a0_0
     ·rw [if_pos c9] at H
      have c9b0 : decide (x6_1 < a0_0) = true := decide_eq_true c9
      clear c9
      by_cases c10 : x6_1 = a1
      ·rw [if_pos c10] at H
       have c10b0 : (x6_1 == a1) = true := beq_iff_eq.mpr c10
       have c10b1 : (x6_1 != a1) = false := bne_eq_false_iff_eq.mpr c10
       clear c10
       have H' := Aside0.mk H
       clear H
       obtain ⟨hcz11_0, hcz11_1, hfz11_0, hfz11_1⟩ := zD2 BK181
       go_wp2
       go_roundg k1
       case measure => have := HK1.out; omega
       case rel => exact ⟨(x5_1), (wrap64 (x6_1 + 1)), zT, H', ⟨by have := HK1.out; omega⟩, ⟨zR HO_5⟩, ⟨zK BK181⟩, ⟨zB⟩⟩
      ·rw [if_neg c10] at H
       have c10b0 : (x6_1 == a1) = false := beq_eq_false_iff_ne.mpr c10
       have c10b1 : (x6_1 != a1) = true := bne_iff_ne.mpr c10
       replace H := Option.bind_eq_some_iff.mp H
       obtain ⟨t185, A120, H⟩ := H
       replace H : (if 0 ≤ x6_1 then (if x6_1 < (x5_1.length : Int) then (sandpileref19_Top.l0 k1 a1 (x5_1.set (x6_1 : Int).toNat (wrap64 (t185 - 1))) (wrap64 (x6_1 + 1)) a0_0 l0_1) else (none)) else (none)) = some r := H
       have A12 := Aside0.mk A120
       clear A120
       by_cases c13 : 0 ≤ x6_1
       ·rw [if_pos c13] at H
        have c13b0 : decide (0 ≤ x6_1) = true := decide_eq_true c13
        clear c13
        by_cases c14 : x6_1 < (x5_1.length : Int)
        ·rw [if_pos c14] at H
         have c14b0 : decide (x6_1 < (x5_1.length : Int)) = true := decide_eq_true c14
         clear c14
         obtain ⟨y186, hy186⟩ : ∃ y_ : List Int, y_ = (x5_1.set (x6_1 : Int).toNat (wrap64 (t185 - 1))) := ⟨_, rfl⟩
         replace H : (sandpileref19_Top.l0 k1 a1 y186 (wrap64 (x6_1 + 1)) a0_0 l0_1) = some r := by first | (rw [hy186]; with_reducible exact H) | (have H2_ := (Option.bind_some _ _).symm.trans H; rw [hy186]; with_reducible exact H2_) | (have H2_ := (Option.bind_some _ _).symm.trans H; with_reducible exact H2_) | with_reducible exact H | (rw [hy186]; exact H) | exact H
         have Ny186 := Aside0.mk hy186
         clear hy186
         have H' := Aside0.mk H
         clear H
         obtain ⟨hcz16_0, hcz16_1, hfz16_0, hfz16_1⟩ := zD2 BK181
         go_wp2_with (first | ((with_reducible refine gate_callee (f := 87) rfl ?_); refine zL (some 23) Try.func87 #[.agg #[.int .i64 a0_0, .slice A0_1 l0_1.length c0_1], .int .i64 x6_1] ?_; (with_reducible refine (sandpileref08_Valence.calls k1 a0_0 _ _ l0_1 x6_1 t185 _ ?side1 ?side2 A12.out).mono ?_); (case side1 => exact Kd.C_below HR0_1.out zB); (case side2 => exact HC0_1.out); rintro e w17 ⟨rfl, hb⟩; refine ⟨_, rfl, ?_⟩; replace HO_5 := zbR HO_5 hb; replace BK181 := zb BK181 hb; replace HB := zS HB hb; (try clear hb); have p15 : 0 ≤ (x6_1 : Int) := of_decide_eq_true ‹_›; have q15 : (x6_1 : Int) < ((x5_1.length : Int) : Int) := of_decide_eq_true ‹_›; obtain ⟨go15, co15, eo15, gb15, gl15, cl15, HG15⟩ := Kd.R_form HO_5.out (by omega); (first | cases eo15 | (injection eo15 with ea_ en_ ec_; (first | subst ea_ | (injection ea_ with ea_; subst ea_)); subst ec_; clear en_)); have GB15 := Aside0.mk gb15; have GG15 := Aside0.mk HG15; clear gb15 gl15 HG15; obtain ⟨hx15_0, hf15_0⟩ := Kd.R_celln 0 HO_5.out (x6_1 : Int) p15 q15; replace p15 := eq_true p15; replace q15 := eq_true q15; obtain ⟨hy18_, hz18_⟩ := Kd.R_celln 0 HO_5.out (x6_1 : Int) (of_decide_eq_true ‹_›) (of_decide_eq_true ‹_›); have HP18 := Kd.R_putg HO_5.out (x6_1 : Int) (wrap64 (t185 - 1))) | ((with_reducible refine gate_store (t := 3) (p := 25) rfl ?_); refine store_event (t := 3) (p := 25) (v := ?vo_w19) (w1 := (w17.setCell ⟨go15, (x6_1 : Int).toNat, none⟩ (.int .i64 (wrap64 (t185 - 1))))) ?hg ?ho ?hn ?hr ?_; (case ho => rfl); (case hg => rfl); (case hn => rfl); (case hr => first | (go_simp; done) | (go_simp; rfl)); intro w19 hw; have hg : w17.grownBy w19 (some go15) := (by rw [hw]; exact HP18.2); have hp_ : Kd.R (Kd.int .i64) 3 w19 w.heap.size (fun _ => True) (.slice (some ⟨go15, 0, none⟩) x5_1.length co15) y186 := (by rw [hw, Ny186.out]; exact HP18.1); clear HP18; replace BK181 := Aside0.mk (blk_grown (zK BK181) hg (Kd.R_ne HO_5.out BK181.out (by decide))); replace HO_5 := Aside0.mk (hp_); replace HB := Aside0.mk ((by rw [hw]; exact below_set (HB.out) GB15.out : Below w.heap.size w w19)); clear hg hw hp_))
         go_roundg k1
         case measure => have := HK1.out; omega
         case rel => exact ⟨(y186), (wrap64 (x6_1 + 1)), zT, H', ⟨by have := HK1.out; omega⟩, ⟨zR HO_5⟩, ⟨zK BK181⟩, ⟨zB⟩⟩
        ·rw [if_neg c14] at H
         exact absurd H (by simp)
       ·rw [if_neg c13] at H
        exact absurd H (by simp)
     ·rw [if_neg c9] at H
      have c9b0 : decide (x6_1 < a0_0) = false := decide_eq_false c9
      clear c9
      obtain rfl := Option.some.inj H
      obtain ⟨hcz20_0, hcz20_1, hfz20_0, hfz20_1⟩ := zD2 BK181
      go_wp2
      go_ret
      exact ⟨_, zE, by (with_reducible repeat (first | apply Kd.R_alloc | apply Kd.R_drewN | apply Kd.R_drew)); exact HO_5.out, zB⟩
  ·rw [if_neg c4] at H
   exact absurd H (by simp)
 ·rw [if_neg c3] at H
  exact absurd H (by simp)
mutual
def sandpileref28_Stables.l0 : Nat → Int → List Int → List (List Int) → Int → Int → List (S66) → Option ((List (List Int)))
 | 0, _, _, _, _, _, _ => none
 | k + 1, x1, x5, x6, x7, x188000, x188001 => if x7 < x188000 then (if 0 ≤ x7 then (if x7 < (x5.length : Int) then (if x7 = x1 then (sandpileref28_Stables.j1 k x1 x5 x6 x7 0 x188000 x188001) else (sandpileref28_Stables.j1 k x1 x5 x6 x7 (rd x5 x7) x188000 x188001)) else (none)) else (none)) else (some x6)
def sandpileref28_Stables.j1 : Nat → Int → List Int → List (List Int) → Int → Int → Int → List (S66) → Option ((List (List Int)))
 | 0, _, _, _, _, _, _, _ => none
 | k + 1, x1, x5, x6, x7, x8, x188000, x188001 => sandpileref28_Stables.l1 k x1 x5 x6 x7 x8 ([] : List (List Int)) 0 x188000 x188001
def sandpileref28_Stables.l1 : Nat → Int → List Int → List (List Int) → Int → Int → List (List Int) → Int → Int → List (S66) → Option ((List (List Int)))
 | 0, _, _, _, _, _, _, _, _, _ => none
 | k + 1, x1, x5, x6, x7, x8, x9, x10, x188000, x188001 => if x10 < (x6.length : Int) then (sandpileref28_Stables.l2 k x1 x5 x6 x7 x8 x9 x10 0 x188000 x188001) else (sandpileref28_Stables.l0 k x1 x5 x9 (wrap64 (x7 + 1)) x188000 x188001)
def sandpileref28_Stables.l2 : Nat → Int → List Int → List (List Int) → Int → Int → List (List Int) → Int → Int → Int → List (S66) → Option ((List (List Int)))
 | 0, _, _, _, _, _, _, _, _, _, _ => none
 | k + 1, x1, x5, x6, x7, x8, x9, x10, x11, x188000, x188001 => if x11 ≤ x8 then ((some (([] : List Int) : List Int)).bind fun y198 => (if 0 ≤ x10 then (if x10 < (x6.length : Int) then (if y198.length + (rd_L2 x6 x10).length < 17592186044416 then ((some (y198 ++ (rd_L2 x6 x10) : List Int)).bind fun y202 => (if y202.length < 17592186044416 then (if x9.length < 5864062014805 then (sandpileref28_Stables.l2 k x1 x5 x6 x7 x8 (x9 ++ [(y202 ++ [x11])]) x10 (wrap64 (x11 + 1)) x188000 x188001) else (none)) else (none))) else (none)) else (none)) else (none))) else (sandpileref28_Stables.l1 k x1 x5 x6 x7 x8 x9 (wrap64 (x10 + 1)) x188000 x188001)
end
def sandpileref28_Stables.f (k : Nat) (a0_0 : Int) (l0_1 : List (S66)) (a1 : Int) : Option ((List (List Int))) := (sandpileref19_Top.f k a0_0 l0_1 a1).bind fun t188 => (sandpileref28_Stables.l0 k a1 t188 (([(([] : List Int))] : List (List Int))) 0 a0_0 l0_1)
theorem sandpileref28_Stables.calls (k : Nat) (a0_0 : Int) (A0_1 : Option Addr) (c0_1 : Nat) (l0_1 : List (S66)) (a1 : Int) (r : List (List Int)) (w : World) (hr0_1 : Kd.C k66 w A0_1 l0_1.length l0_1) (hc0_1 : l0_1.length ≤ c0_1) (h : sandpileref28_Stables.f k a0_0 l0_1 a1 = some r) :
  Calls Try.prog 49 #[.agg #[.int .i64 a0_0, .slice A0_1 l0_1.length c0_1], .int .i64 a1] w fun e w' => ∃ v0_ : Value, e = .returned (v0_) ∧ Kd.N (Kd.slice 3 (Kd.int .i64)) 42 w' w.heap.size (fun k_ => (w.heap.size ≤ k_)) v0_ r ∧ Below w.heap.size w w' := by
 have hu24 := Try.underlying24
 have HR0_1 := Aside0.mk hr0_1
 have HC0_1 := Aside0.mk hc0_1
 clear hr0_1 hc0_1
 have HB := Aside0.mk (Below.refl w.heap.size w)
 have H : ((sandpileref19_Top.f k a0_0 l0_1 a1).bind fun t188 => (sandpileref28_Stables.l0 k a1 t188 (([(([] : List Int))] : List (List Int))) 0 a0_0 l0_1)) = some r := h
 clear h
 replace H := Option.bind_eq_some_iff.mp H
 obtain ⟨t188, A30, H⟩ := H
 replace H : (sandpileref28_Stables.l0 k a1 t188 (([(([] : List Int))] : List (List Int))) 0 a0_0 l0_1) = some r := H
 have A3 := Aside0.mk A30
 clear A30
 obtain ⟨y191, hy191⟩ : ∃ y_ : List Int, y_ = (([] : List Int)) := ⟨_, rfl⟩
 replace H : (sandpileref28_Stables.l0 k a1 t188 (([y191] : List (List Int))) 0 a0_0 l0_1) = some r := by first | (rw [hy191]; with_reducible exact H) | (have H2_ := (Option.bind_some _ _).symm.trans H; rw [hy191]; with_reducible exact H2_) | (have H2_ := (Option.bind_some _ _).symm.trans H; with_reducible exact H2_) | with_reducible exact H | (rw [hy191]; exact H) | exact H
 have Ny191 := Aside0.mk hy191
 clear hy191
 obtain ⟨y194, hy194⟩ : ∃ y_ : List (List Int), y_ = (([y191] : List (List Int))) := ⟨_, rfl⟩
 replace H : (sandpileref28_Stables.l0 k a1 t188 y194 0 a0_0 l0_1) = some r := by first | (rw [hy194]; with_reducible exact H) | (have H2_ := (Option.bind_some _ _).symm.trans H; rw [hy194]; with_reducible exact H2_) | (have H2_ := (Option.bind_some _ _).symm.trans H; with_reducible exact H2_) | with_reducible exact H | (rw [hy194]; exact H) | exact H
 have Ny194 := Aside0.mk hy194
 clear hy194
 have H' := Aside0.mk H
 clear H
 go_enter Try.func49, Try.ntmps49
 go_wp2_with (first | ((with_reducible refine gate_dst (N := 2) rfl ?_); refine zX 2 #[.int .i64 a0_0, .slice A0_1 l0_1.length c0_1] 24 ?_; intro gb187 hg w4 hbox hb; have BK187 := Aside0.mk (hbox); have GW187 := zG HB hg; have GE187 := zG HB hg; replace HB := zS HB hb; clear hb hbox hg; obtain ⟨hcz5_0, hcz5_1, hfz5_0, hfz5_1⟩ := zD2 BK187) | ((with_reducible refine gate_callee (f := 74) rfl ?_); refine zL (some 14) Try.func74 #[.agg #[.int .i64 a0_0, .slice A0_1 l0_1.length c0_1], .int .i64 a1] ?_; (with_reducible refine (sandpileref19_Top.calls k a0_0 _ _ l0_1 a1 t188 _ ?side1 ?side2 A3.out).mono ?_); (case side1 => exact Kd.C_below HR0_1.out zB); (case side2 => exact HC0_1.out); rintro e w6 ⟨v189, rfl, ho0, hb⟩; refine ⟨_, rfl, ?_⟩; have HO190 := Aside0.mk (Kd.R_lower (Kd.R_newM (M := fun k_ => (w.heap.size ≤ k_)) ho0 (below_size zB) (fun k_ h_ => h_)) (below_size zB)); replace BK187 := zb BK187 hb; replace HB := zS HB hb; (try clear hb); (try clear ho0)) | ((with_reducible refine gate_dst (N := 15) rfl ?_); refine Kd.R_lit (Kd.int .i64) _ 3 ?hg (N := 15) ?hd (xs := ([] : List Int)) (inner := []) (ok := fun _ => True) (okp := fun _ => True) ?hr ?hp (fun _ hk => hk) trivial (Below.refl _ _) (Nat.le_refl _) (by simp) ?_; (case hd => rfl); (case hg => rfl); (case hr => first | (go_simp; done) | (go_simp; rfl)); (case hp => exact (Reps.none _ _)); intro v192 w7 ho8 hb hg_ hnew_; clear hg_ hnew_; (first | rw [← Ny191.out] at ho8 | (simp only [Int.reduceToNat] at ho8; rw [← Ny191.out] at ho8)); have HO193 := Aside0.mk (Kd.R_lower (Kd.R_new' (Kd.R_newM (M := fun k_ => (w.heap.size ≤ k_)) ho8 (below_size zB) (fun k_ h_ => h_)) (Kd.R_lt (zR HO190))) (below_size zB)); replace HO190 := zeRR HO190 ho8 hb; replace BK187 := zb BK187 hb; replace HB := zS HB hb; clear hb ho8; obtain ⟨Ao9, co9, eo9⟩ := Kd.R_slice HO193.out; subst eo9) | ((with_reducible refine gate_dst (N := 16) rfl ?_); refine Kd.N_lit (Kd.slice 3 (Kd.int .i64)) _ 42 ?hg (N' := 16) ?hd (xs := ([y191] : List (List Int))) (inner := [.slice Ao9 y191.length co9]) (ok := (fun k_ => (w.heap.size ≤ k_) ∧ some k_ ≠ (v189 : Value).ownBlock ∧ k_ ≠ gb187)) (okp := (fun k_ => (w.heap.size ≤ k_) ∧ some k_ ≠ (v189 : Value).ownBlock ∧ k_ ≠ gb187)) ?hr ?hp (fun _ hk => hk) ((show ∀ k_, w7.heap.size ≤ k_ → (fun k_ => (w.heap.size ≤ k_) ∧ some k_ ≠ (v189 : Value).ownBlock ∧ k_ ≠ gb187) k_ from fun k_ hk => ⟨(Nat.le_trans (below_size zB) hk), Kd.fresh' (Kd.R_lt (zR HO190)) k_ hk, Kd.freshB (zK BK187) k_ hk⟩) _ (Nat.le_refl _)) (Below.refl _ _) (Nat.le_refl _) (by simp) ?_; (case hd => rfl); (case hg => rfl); (case hr => first | (go_simp; done) | (go_simp; rfl)); (case hp => exact (Reps.one (show Kd.FK (Kd.slice 3 (Kd.int .i64)) _ _ y191 [.slice Ao9 y191.length co9] from (Kd.FK_slice_mk (Kd.R_reads' (Kd.R_mono (ok' := (fun k_ => (w.heap.size ≤ k_) ∧ some k_ ≠ (v189 : Value).ownBlock ∧ k_ ≠ gb187)) (Kd.R_types (HO193.out) BK187.out (by decide)) (fun k_ hk => ⟨hk.1.1.1, ⟨hk.1.2, hk.2⟩⟩))).2.1 (Kd.R_F (Kd.R_mono (ok' := (fun k_ => (w.heap.size ≤ k_) ∧ some k_ ≠ (v189 : Value).ownBlock ∧ k_ ≠ gb187)) (Kd.R_types (HO193.out) BK187.out (by decide)) (fun k_ hk => ⟨hk.1.1.1, ⟨hk.1.2, hk.2⟩⟩))))) (Reps.none _ _))); intro v195 w10 ho11 hb hg_ hnew_; clear hg_ hnew_; (first | rw [← Ny194.out] at ho11 | (simp only [Int.reduceToNat] at ho11; rw [← Ny194.out] at ho11)); replace HO190 := zbR HO190 hb; have HO196 := Aside0.mk (Kd.N_lower ho11 (below_size zB)); replace BK187 := zb BK187 hb; replace HB := zS HB hb; clear HO193; clear hb ho11))
 go_loopg [6, 7] k (fun kq v6 v7 w' => ∃ (x6_1 : List (List Int)) (x7_1 : Int), v7 = .int .i64 x7_1 ∧ Aside0 (sandpileref28_Stables.l0 kq a1 t188 x6_1 x7_1 a0_0 l0_1 = some r) ∧ Aside0 (kq ≤ k) ∧ Aside0 (Kd.R (Kd.int .i64) 3 w' w.heap.size (fun k_ => (w.heap.size ≤ k_)) v189 t188) ∧ Aside0 (Kd.N (Kd.slice 3 (Kd.int .i64)) 42 w' w.heap.size (fun k_ => (w.heap.size ≤ k_) ∧ some k_ ≠ (v189 : Value).ownBlock ∧ k_ ≠ gb187) v6 x6_1) ∧ Aside0 (w'.heap[gb187]? = some (.cells #[.int .i64 a0_0, (.slice A0_1 l0_1.length c0_1)] 24 (0, 0))) ∧ Aside0 (Below w.heap.size w w'))
 case atStart => exact ⟨(y194), (0), zT, H', ⟨Nat.le_refl _⟩, ⟨by (with_reducible repeat (first | apply Kd.R_alloc | apply Kd.R_drewN | apply Kd.R_drew)); exact Kd.R_mono HO190.out (fun _ hk => hk.1.1)⟩, ⟨zN HO196⟩, ⟨zK BK187⟩, ⟨zB⟩⟩
 case round =>
  clear H'
  try clear p2
  try clear c4
  try clear c7
  try clear hcz5_0
  try clear hcz5_1
  try clear hfz5_0
  try clear hfz5_1
  obtain ⟨x6_1, x7_1, rfl, HA, HK1, HO_5, HO_6, BK187, HB⟩ := hrel
  cases gk with
  | zero => exact absurd HA.out (by simp [sandpileref28_Stables.l0])
  | succ k1 =>
   have H := HA.out
   clear HA
   simp only [sandpileref28_Stables.l0] at H
   by_cases c12 : x7_1 < a0_0
   ·rw [if_pos c12] at H
    have c12b0 : decide (x7_1 < a0_0) = true := decide_eq_true c12
    clear c12
    by_cases c13 : 0 ≤ x7_1
    ·rw [if_pos c13] at H
     have c13b0 : decide (0 ≤ x7_1) = true := decide_eq_true c13
     clear c13
     by_cases c14 : x7_1 < (t188.length : Int)
     ·rw [if_pos c14] at H
      have c14b0 : decide (x7_1 < (t188.length : Int)) = true := decide_eq_true c14
      clear c14
      have HC15 := Aside0.mk H
      clear H
      obtain ⟨hcz16_0, hcz16_1, hfz16_0, hfz16_1⟩ := zD2 BK187
      obtain ⟨Ao17, co17, eo17⟩ := Kd.R_slice HO_5.out
      subst eo17
      have p197 : 0 ≤ (x7_1 : Int) := of_decide_eq_true ‹_›
      have q197 : x7_1 < (t188.length : Int) := of_decide_eq_true ‹_›
      obtain ⟨ad197, e197, hx197_0⟩ := Kd.at_int (Kd.R_reads' HO_5.out).2.2 x7_1 p197 q197
      cases e197
      replace p197 := eq_true p197
      replace q197 := eq_true q197
      go_upto_if 29 with (fail)
      go_cut [8] (fun v8 wc => ∃ (kq : Nat) (x8_14 : Int), v8 = .int .i64 x8_14 ∧ Aside0 (sandpileref28_Stables.j1 kq a1 t188 x6_1 x7_1 x8_14 a0_0 l0_1 = some r) ∧ Aside0 (kq ≤ k1) ∧ Aside0 (Kd.R (Kd.int .i64) 3 wc w.heap.size (fun k_ => (w.heap.size ≤ k_)) (.slice (some ad197) t188.length co17) t188) ∧ Aside0 (Kd.N (Kd.slice 3 (Kd.int .i64)) 42 wc w.heap.size (fun k_ => (w.heap.size ≤ k_) ∧ some k_ ≠ ((.slice (some ad197) t188.length co17) : Value).ownBlock ∧ k_ ≠ gb187) u6 x6_1) ∧ Aside0 (wc.heap[gb187]? = some (.cells #[.int .i64 a0_0, (.slice A0_1 l0_1.length c0_1)] 24 (0, 0))) ∧ Aside0 (Below w.heap.size w wc))
      case first =>
       have H := HC15.out
       clear HC15
       by_cases c18 : x7_1 = a1
       ·rw [if_pos c18] at H
        have c18b0 : (x7_1 == a1) = true := beq_iff_eq.mpr c18
        have c18b1 : (x7_1 != a1) = false := bne_eq_false_iff_eq.mpr c18
        clear c18
        (first | rw [c18b0] | (simp only [i64_w, i32_w]; rw [c18b0]) | skip)
        have H' := Aside0.mk H
        clear H
        go_wp2
        go_meet
        case rel => exact ⟨_, (0), zT, H', ⟨by have := HK1.out; first | omega | exact Nat.le_refl _⟩, ⟨zR HO_5⟩, ⟨zN HO_6⟩, ⟨zK BK187⟩, ⟨zB⟩⟩
       ·rw [if_neg c18] at H
        have c18b0 : (x7_1 == a1) = false := beq_eq_false_iff_ne.mpr c18
        have c18b1 : (x7_1 != a1) = true := bne_iff_ne.mpr c18
        (first | rw [c18b0] | (simp only [i64_w, i32_w]; rw [c18b0]) | skip)
        have H' := Aside0.mk H
        clear H
        go_wp2
        go_meet
        case rel => exact ⟨_, (rd t188 x7_1), zT, H', ⟨by have := HK1.out; first | omega | exact Nat.le_refl _⟩, ⟨zR HO_5⟩, ⟨zN HO_6⟩, ⟨zK BK187⟩, ⟨zB⟩⟩
      case rest =>
       clear HC15
       try clear c1
       try clear p1
       try clear q1
       try clear hx1
       try clear p2
       try clear c4
       try clear c7
       try clear c12
       try clear c12b0
       try clear c13
       try clear c13b0
       try clear c14
       try clear c14b0
       try clear c18
       try clear c18b0
       try clear c18b1
       try clear hcz16_0
       try clear hcz16_1
       try clear hcz5_0
       try clear hcz5_1
       try clear hfz16_0
       try clear hfz16_1
       try clear hfz5_0
       try clear hfz5_1
       try clear hx197_0
       try clear p197
       try clear p2
       try clear q197
       obtain ⟨kq, x8_14, rfl, HA, HJ14, HO_5, HO_6, BK187, HB⟩ := hcut
       cases kq with
       | zero => exact absurd HA.out (by simp [sandpileref28_Stables.j1])
       | succ kj14 =>
        have H := HA.out
        clear HA
        simp only [sandpileref28_Stables.j1] at H
        have H' := Aside0.mk H
        clear H
        go_wp2
        go_loopg [9, 10] kj14 (fun kq v9 v10 w' => ∃ (x9_3 : List (List Int)) (x10_3 : Int), v10 = .int .i64 x10_3 ∧ Aside0 (sandpileref28_Stables.l1 kq a1 t188 x6_1 x7_1 x8_14 x9_3 x10_3 a0_0 l0_1 = some r) ∧ Aside0 (kq ≤ kj14) ∧ Aside0 (Kd.R (Kd.int .i64) 3 w' w.heap.size (fun k_ => (w.heap.size ≤ k_)) (.slice (some ad197) t188.length co17) t188) ∧ Aside0 (Kd.N (Kd.slice 3 (Kd.int .i64)) 42 w' w.heap.size (fun k_ => (w.heap.size ≤ k_) ∧ some k_ ≠ ((.slice (some ad197) t188.length co17) : Value).ownBlock ∧ some k_ ≠ (v9 : Value).ownBlock ∧ k_ ≠ gb187) u6 x6_1) ∧ Aside0 (Kd.N (Kd.slice 3 (Kd.int .i64)) 42 w' w.heap.size (fun k_ => (w.heap.size ≤ k_) ∧ some k_ ≠ ((.slice (some ad197) t188.length co17) : Value).ownBlock ∧ some k_ ≠ (u6 : Value).ownBlock ∧ k_ ≠ gb187) v9 x9_3) ∧ Aside0 (w'.heap[gb187]? = some (.cells #[.int .i64 a0_0, (.slice A0_1 l0_1.length c0_1)] 24 (0, 0))) ∧ Aside0 (Below w.heap.size w w'))
        case atStart => exact ⟨(([] : List (List Int))), (0), zT, H', ⟨Nat.le_refl _⟩, ⟨zR HO_5⟩, ⟨by (with_reducible repeat (first | apply Kd.N_alloc | apply Kd.N_drewN | apply Kd.N_drew)); exact Kd.N_mono HO_6.out (fun _ hk => ⟨hk.1, ⟨hk.2.1, ⟨(by simp [Value.ownBlock]), hk.2.2⟩⟩⟩)⟩, ⟨by first | exact Kd.S_nil _ _ _ _ _ | exact Kd.N_nil _ _ _ _ _ | exact Kd.V_nil _ _ _ _ _ | exact Kd.Q_nil _ _ _ _ _ | exact Kd.R_nil _ _ _ _ _⟩, ⟨zK BK187⟩, ⟨zB⟩⟩
        case round =>
         clear H'
         try clear c1
         try clear p1
         try clear q1
         try clear hx1
         try clear p2
         try clear c4
         try clear c7
         try clear c12
         try clear c12b0
         try clear c13
         try clear c13b0
         try clear c14
         try clear c14b0
         try clear c18
         try clear c18b0
         try clear c18b1
         try clear hcz16_0
         try clear hcz16_1
         try clear hcz5_0
         try clear hcz5_1
         try clear hfz16_0
         try clear hfz16_1
         try clear hfz5_0
         try clear hfz5_1
         try clear hx197_0
         try clear p1
         try clear p197
         try clear p2
         try clear q1
         try clear q197
         obtain ⟨x9_3, x10_3, rfl, HA, HK3, HO_5, HO_6, HO_9, BK187, HB⟩ := hrel
         cases gk with
         | zero => exact absurd HA.out (by simp [sandpileref28_Stables.l1])
         | succ k3 =>
          have H := HA.out
          clear HA
          simp only [sandpileref28_Stables.l1] at H
          by_cases c19 : x10_3 < (x6_1.length : Int)
          ·rw [if_pos c19] at H
           have c19b0 : decide (x10_3 < (x6_1.length : Int)) = true := decide_eq_true c19
           clear c19
           have H' := Aside0.mk H
           clear H
           obtain ⟨Ao20, co20, eo20⟩ := Kd.N_slice HO_6.out
           subst eo20
           go_wp2
           go_loopg [9, 11] k3 (fun kq v9 v11 w' => ∃ (x9_4 : List (List Int)) (x11_4 : Int), v11 = .int .i64 x11_4 ∧ Aside0 (sandpileref28_Stables.l2 kq a1 t188 x6_1 x7_1 x8_14 x9_4 x10_3 x11_4 a0_0 l0_1 = some r) ∧ Aside0 (kq ≤ k3) ∧ Aside0 (Kd.R (Kd.int .i64) 3 w' w.heap.size (fun k_ => (w.heap.size ≤ k_)) (.slice (some ad197) t188.length co17) t188) ∧ Aside0 (Kd.N (Kd.slice 3 (Kd.int .i64)) 42 w' w.heap.size (fun k_ => (w.heap.size ≤ k_) ∧ some k_ ≠ ((.slice (some ad197) t188.length co17) : Value).ownBlock ∧ some k_ ≠ (v9 : Value).ownBlock ∧ k_ ≠ gb187) (.slice Ao20 x6_1.length co20) x6_1) ∧ Aside0 (Kd.N (Kd.slice 3 (Kd.int .i64)) 42 w' w.heap.size (fun k_ => (w.heap.size ≤ k_) ∧ some k_ ≠ ((.slice (some ad197) t188.length co17) : Value).ownBlock ∧ some k_ ≠ ((.slice Ao20 x6_1.length co20) : Value).ownBlock ∧ k_ ≠ gb187) v9 x9_4) ∧ Aside0 (w'.heap[gb187]? = some (.cells #[.int .i64 a0_0, (.slice A0_1 l0_1.length c0_1)] 24 (0, 0))) ∧ Aside0 (Below w.heap.size w w'))
           case atStart => exact ⟨(x9_3), (0), zT, H', ⟨Nat.le_refl _⟩, ⟨zR HO_5⟩, ⟨zN HO_6⟩, ⟨zN HO_9⟩, ⟨zK BK187⟩, ⟨zB⟩⟩
           case round =>
            clear H'
            try clear c1
            try clear p1
            try clear q1
            try clear hx1
            try clear p2
            try clear c4
            try clear c7
            try clear c12
            try clear c12b0
            try clear c13
            try clear c13b0
            try clear c14
            try clear c14b0
            try clear c18
            try clear c18b0
            try clear c18b1
            try clear c19
            try clear c19b0
            try clear p19
            try clear q19
            try clear hx19
            try clear hcz16_0
            try clear hcz16_1
            try clear hcz5_0
            try clear hcz5_1
            try clear hfz16_0
            try clear hfz16_1
            try clear hfz5_0
            try clear hfz5_1
            try clear hx197_0
            try clear p1
            try clear p197
            try clear p2
            try clear q1
            try clear q197
            obtain ⟨x9_4, x11_4, rfl, HA, HK4, HO_5, HO_6, HO_9, BK187, HB⟩ := hrel
            cases gk with
            | zero => exact absurd HA.out (by simp [sandpileref28_Stables.l2])
            | succ k4 =>
             have H := HA.out
             clear HA
             simp only [sandpileref28_Stables.l2] at H
             by_cases c21 : x11_4 ≤ x8_14
             ·rw [if_pos c21] at H
              have c21b0 : decide (x11_4 ≤ x8_14) = true := decide_eq_true c21
              clear c21
              obtain ⟨y198, hy198⟩ : ∃ y_ : List Int, y_ = (([] : List Int)) := ⟨_, rfl⟩
              replace H : (if 0 ≤ x10_3 then (if x10_3 < (x6_1.length : Int) then (if y198.length + (rd_L2 x6_1 x10_3).length < 17592186044416 then ((some (y198 ++ (rd_L2 x6_1 x10_3) : List Int)).bind fun y202 => (if y202.length < 17592186044416 then (if x9_4.length < 5864062014805 then (sandpileref28_Stables.l2 k4 a1 t188 x6_1 x7_1 x8_14 (x9_4 ++ [(y202 ++ [x11_4])]) x10_3 (wrap64 (x11_4 + 1)) a0_0 l0_1) else (none)) else (none))) else (none)) else (none)) else (none)) = some r := by first | (rw [hy198]; with_reducible exact H) | (have H2_ := (Option.bind_some _ _).symm.trans H; rw [hy198]; with_reducible exact H2_) | (have H2_ := (Option.bind_some _ _).symm.trans H; with_reducible exact H2_) | with_reducible exact H | (rw [hy198]; exact H) | exact H
              have Ny198 := Aside0.mk hy198
              clear hy198
              by_cases c22 : 0 ≤ x10_3
              ·rw [if_pos c22] at H
               have c22b0 : decide (0 ≤ x10_3) = true := decide_eq_true c22
               clear c22
               by_cases c23 : x10_3 < (x6_1.length : Int)
               ·rw [if_pos c23] at H
                have c23b0 : decide (x10_3 < (x6_1.length : Int)) = true := decide_eq_true c23
                clear c23
                by_cases c24 : y198.length + (rd_L2 x6_1 x10_3).length < 17592186044416
                ·rw [if_pos c24] at H
                 have LMc24 := Aside0.mk c24
                 clear c24
                 obtain ⟨y202, hy202⟩ : ∃ y_ : List Int, y_ = (y198 ++ (rd_L2 x6_1 x10_3)) := ⟨_, rfl⟩
                 replace H : (if y202.length < 17592186044416 then (if x9_4.length < 5864062014805 then (sandpileref28_Stables.l2 k4 a1 t188 x6_1 x7_1 x8_14 (x9_4 ++ [(y202 ++ [x11_4])]) x10_3 (wrap64 (x11_4 + 1)) a0_0 l0_1) else (none)) else (none)) = some r := by first | (rw [hy202]; with_reducible exact H) | (have H2_ := (Option.bind_some _ _).symm.trans H; rw [hy202]; with_reducible exact H2_) | (have H2_ := (Option.bind_some _ _).symm.trans H; with_reducible exact H2_) | with_reducible exact H | (rw [hy202]; exact H) | exact H
                 have Ny202 := Aside0.mk hy202
                 clear hy202
                 by_cases c25 : y202.length < 17592186044416
                 ·rw [if_pos c25] at H
                  have LMc25 := Aside0.mk c25
                  clear c25
                  obtain ⟨y205, hy205⟩ : ∃ y_ : List Int, y_ = (y202 ++ [x11_4]) := ⟨_, rfl⟩
                  replace H : (if x9_4.length < 5864062014805 then (sandpileref28_Stables.l2 k4 a1 t188 x6_1 x7_1 x8_14 (x9_4 ++ [y205]) x10_3 (wrap64 (x11_4 + 1)) a0_0 l0_1) else (none)) = some r := by first | (rw [hy205]; with_reducible exact H) | (have H2_ := (Option.bind_some _ _).symm.trans H; rw [hy205]; with_reducible exact H2_) | (have H2_ := (Option.bind_some _ _).symm.trans H; with_reducible exact H2_) | with_reducible exact H | (rw [hy205]; exact H) | exact H
                  have Ny205 := Aside0.mk hy205
                  clear hy205
                  by_cases c26 : x9_4.length < 5864062014805
                  ·rw [if_pos c26] at H
                   have LMc26 := Aside0.mk c26
                   clear c26
                   obtain ⟨y208, hy208⟩ : ∃ y_ : List (List Int), y_ = (x9_4 ++ [y205]) := ⟨_, rfl⟩
                   replace H : (sandpileref28_Stables.l2 k4 a1 t188 x6_1 x7_1 x8_14 y208 x10_3 (wrap64 (x11_4 + 1)) a0_0 l0_1) = some r := by first | (rw [hy208]; with_reducible exact H) | (have H2_ := (Option.bind_some _ _).symm.trans H; rw [hy208]; with_reducible exact H2_) | (have H2_ := (Option.bind_some _ _).symm.trans H; with_reducible exact H2_) | with_reducible exact H | (rw [hy208]; exact H) | exact H
                   have Ny208 := Aside0.mk hy208
                   clear hy208
                   have H' := Aside0.mk H
                   clear H
                   go_wp2_with (first | ((with_reducible refine gate_dst (N := 42) rfl ?_); refine Kd.R_lit (Kd.int .i64) _ 3 ?hg (N := 42) ?hd (xs := ([] : List Int)) (inner := []) (ok := fun _ => True) (okp := fun _ => True) ?hr ?hp (fun _ hk => hk) trivial (Below.refl _ _) (Nat.le_refl _) (by simp) ?_; (case hd => rfl); (case hg => rfl); (case hr => first | (go_simp; done) | (go_simp; rfl)); (case hp => exact (Reps.none _ _)); intro v199 w27 ho28 hb hg_ hnew_; clear hg_ hnew_; (first | rw [← Ny198.out] at ho28 | (simp only [Int.reduceToNat] at ho28; rw [← Ny198.out] at ho28)); replace HO_6 := zeNR HO_6 ho28 hb; replace HO_9 := zeNR HO_9 ho28 hb; have HO200 := Aside0.mk (Kd.R_lower (Kd.R_new' (Kd.R_newM (M := fun k_ => (w.heap.size ≤ k_)) ho28 (below_size zB) (fun k_ h_ => h_)) (Kd.R_lt (zR HO_5))) (below_size zB)); replace HO_5 := zeRR HO_5 ho28 hb; replace BK187 := zb BK187 hb; replace HB := zS HB hb; clear hb ho28; have p201 : 0 ≤ (x10_3 : Int) := of_decide_eq_true ‹_›; have q201 : x10_3 < (x6_1.length : Int) := of_decide_eq_true ‹_›; obtain ⟨ad201, A201_0, c201_0, e201, hx201_0, hl201_0, hi201_0⟩ := at_L2 (Kd.N_reads' HO_6.out).2.2 x10_3 p201 q201; cases e201; obtain ⟨ce201, hce201, hMe201, hcc201⟩ := Kd.N_get HO_6.out [] x10_3 p201 (by first | exact q201 | exact of_decide_eq_true ‹_› | (have e_ := (Kd.N_reads' HO_6.out).1; omega)); obtain ⟨ua201_0, uc201_0, rfl, ul201_0, ge201_0⟩ := Kd.FK_slice_open hMe201; have hv201_0 := hcc201 0 _ rfl; rw [Nat.add_zero, show ((Kd.slice 3 (Kd.int .i64))).sz = 1 from rfl, Nat.mul_one] at hv201_0; replace hv201_0 := Option.some.inj (hv201_0.symm.trans hx201_0); injection hv201_0 with hva_ hvn_ hvc_; rw [hva_] at ge201_0; rw [hvc_] at ul201_0; have HL201_0 := Aside0.mk (show Kd.V (Kd.int .i64) 3 _ w.heap.size _ _ (rd_L2 x6_1 x10_3) from Kd.V_mk ul201_0 ge201_0); clear hva_ hvn_ hvc_ ge201_0 ul201_0; clear hcc201 hce201; have HR201_0 := Aside0.mk hi201_0; have HC201_0 := Aside0.mk hl201_0; clear hi201_0 hl201_0; replace p201 := eq_true p201; replace q201 := eq_true q201) | ((with_reducible refine gate_builtin (b := .append) (xs := #[.tmp 42, .tmp 46]) rfl ?_); at_builtin; refine Kd.R_append_rows (Kd.int .i64) (w0 := w) w.heap.size rfl (.tmp 42) (.tmp 46) 42 3 (.int .i64 0) 8 rfl Try.underlying42 info3 rfl (by decide) (by omega) v199 y198 (rd_L2 x6_1 x10_3) _ _ _ (fun k_ => (w.heap.size ≤ k_) ∧ some k_ ≠ (.slice (some ad197) t188.length co17 : Value).ownBlock) (fun _ => False) rfl rfl ?aO ?aR (fun _ _ h => h) (fun _ h => h.elim) ?aF ?aB ?aS ?aL ?_; (case aR => repeat (first | exact (by repeat (first | (with_reducible exact HR201_0.out) | (with_reducible refine Kd.C_alloc ?_ _) | (with_reducible refine Kd.C_drewN ?_ _) | (with_reducible refine Kd.C_drew ?_) | exact HR201_0.out)) | (with_reducible refine Kd.C_alloc ?_ _) | (with_reducible refine Kd.C_drewN ?_ _) | (with_reducible refine Kd.C_drew ?_))); (case aB => exact zB); (case aF => exact (fun k_ hk => ⟨(Nat.le_trans (below_size zB) hk), Kd.fresh' (Kd.R_lt (zR HO_5)) k_ hk⟩)); (case aO => exact (by (with_reducible repeat (first | apply Kd.R_alloc | apply Kd.R_drewN | apply Kd.R_drew)); exact Kd.R_mono HO200.out (fun _ hk => ⟨hk.1.1, hk.2⟩))); (case aS => exact (below_size zB)); (case aL => have := LMc24.out; omega); intro v203 w29 ho hb hg hat; rw [← Ny202.out] at ho; replace HO_5 := Aside0.mk (Kd.R_after (ok := (fun k_ => (w.heap.size ≤ k_))) (zR HO_5) hg hat); replace HO_6 := Aside0.mk (Kd.N_afterv (ok := (fun k_ => (w.heap.size ≤ k_) ∧ some k_ ≠ (.slice (some ad197) t188.length co17 : Value).ownBlock ∧ some k_ ≠ (u9 : Value).ownBlock ∧ k_ ≠ gb187)) (zN HO_6) hg hat); replace HO_9 := Aside0.mk (Kd.N_afterv (ok := (fun k_ => (w.heap.size ≤ k_) ∧ some k_ ≠ (.slice (some ad197) t188.length co17 : Value).ownBlock ∧ some k_ ≠ (.slice (some ad201) x6_1.length co20 : Value).ownBlock ∧ k_ ≠ gb187)) (zN HO_9) hg hat); replace BK187 := Aside0.mk (blk_grown (zK BK187) hg (Kd.R_ne HO200.out BK187.out (by decide))); replace HL201_0 := Aside0.mk (Kd.V_afterv (ok := (fun k_ => (w.heap.size ≤ k_) ∧ some k_ ≠ (.slice (some ad197) t188.length co17 : Value).ownBlock ∧ some k_ ≠ (.slice (some ad201) x6_1.length co20 : Value).ownBlock ∧ some k_ ≠ (u9 : Value).ownBlock ∧ k_ ≠ gb187)) (by (with_reducible repeat (first | apply Kd.V_alloc | apply Kd.V_drewN | apply Kd.V_drew)); exact Kd.V_mono HL201_0.out (fun _ hk => ⟨⟨hk.1.1.1, ⟨hk.1.1.2.1, ⟨hk.2, ⟨hk.1.1.2.2.1, hk.1.1.2.2.2⟩⟩⟩⟩, hk.1.2⟩)) hg hat); replace HB := Aside0.mk (hb); have HO204 := Aside0.mk (ho); clear HO200; clear ho hb hg hat) | ((with_reducible refine gate_builtin (b := .append) (xs := #[.tmp 47, .tmp 49]) rfl ?_); at_builtin; refine Kd.R_append (Kd.int .i64) (w0 := w) w.heap.size rfl (.tmp 47) (.tmp 49) 42 3 (.int .i64 0) 8 rfl Try.underlying42 info3 rfl (by decide) (by omega) v203 y202 x11_4 [.int .i64 x11_4] (fun k_ => (w.heap.size ≤ k_) ∧ some k_ ≠ (.slice (some ad197) t188.length co17 : Value).ownBlock) (fun _ => False) rfl rfl ?aP (fun _ hk => hk.elim) ?aF ?aO ?aB ?aS ?aL ?_; (case aP => exact rfl); (case aB => exact zB); (case aF => exact (fun k_ hk => ⟨(Nat.le_trans (below_size zB) hk), Kd.fresh' (Kd.R_lt (zR HO_5)) k_ hk⟩)); (case aO => exact (zR HO204)); (case aS => exact (below_size zB)); (case aL => have := LMc25.out; omega); intro v206 w30 ho hb hg hat; rw [← Ny205.out] at ho; replace HO_5 := Aside0.mk (Kd.R_after (ok := (fun k_ => (w.heap.size ≤ k_))) (zR HO_5) hg hat); replace HO_6 := Aside0.mk (Kd.N_afterv (ok := (fun k_ => (w.heap.size ≤ k_) ∧ some k_ ≠ (.slice (some ad197) t188.length co17 : Value).ownBlock ∧ some k_ ≠ (u9 : Value).ownBlock ∧ k_ ≠ gb187)) (zN HO_6) hg hat); replace HO_9 := Aside0.mk (Kd.N_afterv (ok := (fun k_ => (w.heap.size ≤ k_) ∧ some k_ ≠ (.slice (some ad197) t188.length co17 : Value).ownBlock ∧ some k_ ≠ (.slice (some ad201) x6_1.length co20 : Value).ownBlock ∧ k_ ≠ gb187)) (zN HO_9) hg hat); replace BK187 := Aside0.mk (blk_grown (zK BK187) hg (Kd.R_ne HO204.out BK187.out (by decide))); replace HL201_0 := Aside0.mk (Kd.V_afterv (ok := (fun k_ => (w.heap.size ≤ k_) ∧ some k_ ≠ (.slice (some ad197) t188.length co17 : Value).ownBlock ∧ some k_ ≠ (.slice (some ad201) x6_1.length co20 : Value).ownBlock ∧ some k_ ≠ (u9 : Value).ownBlock ∧ k_ ≠ gb187)) (by (with_reducible repeat (first | apply Kd.V_alloc | apply Kd.V_drewN | apply Kd.V_drew)); exact HL201_0.out) hg hat); replace HB := Aside0.mk (hb); have HO207 := Aside0.mk (ho); clear HO204; clear ho hb hg hat; obtain ⟨Ao32, co32, eo32⟩ := Kd.R_slice HO207.out; subst eo32) | ((with_reducible refine gate_builtin (b := .append) (xs := #[.tmp 41, .tmp 51]) rfl ?_); at_builtin; refine Kd.N_append (Kd.slice 3 (Kd.int .i64)) (w0 := w) w.heap.size rfl (.tmp 41) (.tmp 51) 27 42 (.slice none 0 0) 24 rfl Try.underlying27 info42 rfl (by decide) (by omega) u9 x9_4 y205 [.slice Ao32 y205.length co32] (fun k_ => (w.heap.size ≤ k_) ∧ some k_ ≠ (.slice (some ad197) t188.length co17 : Value).ownBlock ∧ some k_ ≠ (.slice (some ad201) x6_1.length co20 : Value).ownBlock ∧ k_ ≠ gb187) (fun k_ => ((fun k_ => (w.heap.size ≤ k_) ∧ some k_ ≠ (.slice (some ad197) t188.length co17 : Value).ownBlock ∧ some k_ ≠ (.slice (some ad201) x6_1.length co20 : Value).ownBlock ∧ k_ ≠ gb187)) k_ ∧ some k_ ≠ (u9 : Value).ownBlock) rfl rfl ?aP (fun _ hk => hk) ?aF ?aO ?aB ?aS ?aL ?_; (case aP => exact (Kd.FK_slice_mk (Kd.R_reads' (Kd.R_mono (ok' := (fun k_ => ((fun k_ => (w.heap.size ≤ k_) ∧ some k_ ≠ (.slice (some ad197) t188.length co17 : Value).ownBlock ∧ some k_ ≠ (.slice (some ad201) x6_1.length co20 : Value).ownBlock ∧ k_ ≠ gb187)) k_ ∧ some k_ ≠ (u9 : Value).ownBlock)) (Kd.R_types (Kd.R_apart' (Kd.R_apart' (HO207.out) (Kd.N_typed HO_6.out) (by decide)) (Kd.N_typed HO_9.out) (by decide)) BK187.out (by decide)) (fun k_ hk => ⟨⟨hk.1.1.1.1, ⟨hk.1.1.1.2, ⟨hk.1.1.2, hk.2⟩⟩⟩, hk.1.2⟩))).2.1 (Kd.R_F (Kd.R_mono (ok' := (fun k_ => ((fun k_ => (w.heap.size ≤ k_) ∧ some k_ ≠ (.slice (some ad197) t188.length co17 : Value).ownBlock ∧ some k_ ≠ (.slice (some ad201) x6_1.length co20 : Value).ownBlock ∧ k_ ≠ gb187)) k_ ∧ some k_ ≠ (u9 : Value).ownBlock)) (Kd.R_types (Kd.R_apart' (Kd.R_apart' (HO207.out) (Kd.N_typed HO_6.out) (by decide)) (Kd.N_typed HO_9.out) (by decide)) BK187.out (by decide)) (fun k_ hk => ⟨⟨hk.1.1.1.1, ⟨hk.1.1.1.2, ⟨hk.1.1.2, hk.2⟩⟩⟩, hk.1.2⟩))))); (case aB => exact zB); (case aF => exact (fun k_ hk => ⟨(Nat.le_trans (below_size zB) hk), Kd.fresh' (Kd.R_lt (zR HO_5)) k_ hk, Kd.fresh' (Kd.N_lt (zN HO_6)) k_ hk, Kd.freshB (zK BK187) k_ hk⟩)); (case aO => exact (by (with_reducible repeat (first | apply Kd.N_alloc | apply Kd.N_drewN | apply Kd.N_drew)); exact Kd.N_mono HO_9.out (fun _ hk => ⟨hk.1.1, ⟨hk.1.2.1, ⟨hk.1.2.2.1, hk.1.2.2.2⟩⟩⟩))); (case aS => exact (below_size zB)); (case aL => have := LMc26.out; omega); intro v209 w31 ho hb hg hat; rw [← Ny208.out] at ho; replace HO_5 := Aside0.mk (Kd.R_over' (zR HO_5) (Kd.N_typed (zN HO_9)) (by decide) hg); replace HO_6 := Aside0.mk (Kd.N_afterv (ok := (fun k_ => (w.heap.size ≤ k_) ∧ some k_ ≠ (.slice (some ad197) t188.length co17 : Value).ownBlock ∧ some k_ ≠ (.slice Ao32 y205.length co32 : Value).ownBlock ∧ k_ ≠ gb187)) (by (with_reducible repeat (first | apply Kd.N_alloc | apply Kd.N_drewN | apply Kd.N_drew)); exact Kd.N_mono HO_6.out (fun _ hk => ⟨⟨hk.1.1, ⟨hk.1.2.1, ⟨hk.2, hk.1.2.2.2⟩⟩⟩, hk.1.2.2.1⟩)) hg hat); replace BK187 := Aside0.mk (blk_grown (zK BK187) hg (Kd.N_ne HO_9.out BK187.out (by decide))); replace HL201_0 := Aside0.mk (Kd.V_afterv (ok := (fun k_ => (w.heap.size ≤ k_) ∧ some k_ ≠ (.slice (some ad197) t188.length co17 : Value).ownBlock ∧ some k_ ≠ (.slice (some ad201) x6_1.length co20 : Value).ownBlock ∧ some k_ ≠ (.slice Ao32 y205.length co32 : Value).ownBlock ∧ k_ ≠ gb187)) (by (with_reducible repeat (first | apply Kd.V_alloc | apply Kd.V_drewN | apply Kd.V_drew)); exact Kd.V_mono HL201_0.out (fun _ hk => ⟨⟨hk.1.1, ⟨hk.1.2.1, ⟨hk.1.2.2.1, ⟨hk.2, hk.1.2.2.2.2⟩⟩⟩⟩, hk.1.2.2.2.1⟩)) hg hat); replace HB := Aside0.mk (hb); have HO210 := Aside0.mk (ho); clear HO_9 HO207; clear ho hb hg hat))
                   go_roundg k4
                   case measure => have := HK1.out; have := HJ14.out; have := HK3.out; have := HK4.out; omega
                   case rel => exact ⟨(y208), (wrap64 (x11_4 + 1)), zT, H', ⟨by have := HK1.out; have := HJ14.out; have := HK3.out; have := HK4.out; omega⟩, ⟨by (with_reducible repeat (first | apply Kd.R_alloc | apply Kd.R_drewN | apply Kd.R_drew)); exact Kd.R_mono HO_5.out (fun _ hk => hk.1)⟩, ⟨by (with_reducible repeat (first | apply Kd.N_alloc | apply Kd.N_drewN | apply Kd.N_drew)); exact Kd.N_mono HO_6.out (fun _ hk => ⟨hk.1.1, ⟨hk.1.2.1, ⟨hk.2, hk.1.2.2.2⟩⟩⟩)⟩, ⟨zN HO210⟩, ⟨zK BK187⟩, ⟨zB⟩⟩
                  ·rw [if_neg c26] at H
                   exact absurd H (by simp)
                 ·rw [if_neg c25] at H
                  exact absurd H (by simp)
                ·rw [if_neg c24] at H
                 exact absurd H (by simp)
               ·rw [if_neg c23] at H
                exact absurd H (by simp)
              ·rw [if_neg c22] at H
               exact absurd H (by simp)
             ·rw [if_neg c21] at H
              have c21b0 : decide (x11_4 ≤ x8_14) = false := decide_eq_false c21
              clear c21
              have H' := Aside0.mk H
              clear H
              go_wp2
              go_roundg k4
              case measure => have := HK1.out; have := HJ14.out; have := HK3.out; have := HK4.out; omega
              case rel => exact ⟨(x9_4), (wrap64 (x10_3 + 1)), zT, H', ⟨by have := HK1.out; have := HJ14.out; have := HK3.out; have := HK4.out; omega⟩, ⟨zR HO_5⟩, ⟨zN HO_6⟩, ⟨zN HO_9⟩, ⟨zK BK187⟩, ⟨zB⟩⟩
          ·rw [if_neg c19] at H
           have c19b0 : decide (x10_3 < (x6_1.length : Int)) = false := decide_eq_false c19
           clear c19
           have H' := Aside0.mk H
           clear H
           obtain ⟨Ao33, co33, eo33⟩ := Kd.N_slice HO_6.out
           subst eo33
           go_wp2
           go_roundg k3
           case measure => have := HK1.out; have := HJ14.out; have := HK3.out; omega
           case rel => exact ⟨(x9_3), (wrap64 (x7_1 + 1)), zT, H', ⟨by have := HK1.out; have := HJ14.out; have := HK3.out; omega⟩, ⟨zR HO_5⟩, ⟨by (with_reducible repeat (first | apply Kd.N_alloc | apply Kd.N_drewN | apply Kd.N_drew)); exact Kd.N_mono HO_9.out (fun _ hk => ⟨hk.1, ⟨hk.2.1, hk.2.2.2⟩⟩)⟩, ⟨zK BK187⟩, ⟨zB⟩⟩
     ·rw [if_neg c14] at H
      exact absurd H (by simp)
    ·rw [if_neg c13] at H
     exact absurd H (by simp)
   ·rw [if_neg c12] at H
    have c12b0 : decide (x7_1 < a0_0) = false := decide_eq_false c12
    clear c12
    obtain rfl := Option.some.inj H
    obtain ⟨hcz34_0, hcz34_1, hfz34_0, hfz34_1⟩ := zD2 BK187
    go_wp2
    go_ret
    exact ⟨_, zE, by (with_reducible repeat (first | apply Kd.N_alloc | apply Kd.N_drewN | apply Kd.N_drew)); exact Kd.N_mono HO_6.out (fun _ hk => hk.1), zB⟩
def sandpileref28_All.l0 : Nat → Int → List (List Int) → List (List Int) → Int → Int → List (S66) → Option ((List (List Int)))
 | 0, _, _, _, _, _, _ => none
 | k + 1, x1, x5, x6, x7, x240000, x240001 => if x7 < (x5.length : Int) then (if 0 ≤ x7 then ((sandpileref23_Is.f k x240000 x240001 x1 (rd_L2 x5 x7)).bind fun t244 => (if t244 = true then (if x6.length < 5864062014805 then (sandpileref28_All.l0 k x1 x5 (x6 ++ [rd_L2 x5 x7]) (wrap64 (x7 + 1)) x240000 x240001) else (none)) else (sandpileref28_All.l0 k x1 x5 x6 (wrap64 (x7 + 1)) x240000 x240001))) else (none)) else (some x6)
def sandpileref28_All.f (k : Nat) (a0_0 : Int) (l0_1 : List (S66)) (a1 : Int) : Option ((List (List Int))) := (sandpileref28_Stables.f k a0_0 l0_1 a1).bind fun t240 => (sandpileref28_All.l0 k a1 t240 ([] : List (List Int)) 0 a0_0 l0_1)
theorem sandpileref28_All.calls (k : Nat) (a0_0 : Int) (A0_1 : Option Addr) (c0_1 : Nat) (l0_1 : List (S66)) (a1 : Int) (r : List (List Int)) (w : World) (hr0_1 : Kd.C k66 w A0_1 l0_1.length l0_1) (hc0_1 : l0_1.length ≤ c0_1) (h : sandpileref28_All.f k a0_0 l0_1 a1 = some r) :
  Calls Try.prog 16 #[.agg #[.int .i64 a0_0, .slice A0_1 l0_1.length c0_1], .int .i64 a1] w fun e w' => ∃ v0_ : Value, e = .returned (v0_) ∧ Kd.N (Kd.slice 3 (Kd.int .i64)) 42 w' w.heap.size (fun k_ => (w.heap.size ≤ k_)) v0_ r ∧ Below w.heap.size w w' := by
 have hu24 := Try.underlying24
 have HR0_1 := Aside0.mk hr0_1
 have HC0_1 := Aside0.mk hc0_1
 clear hr0_1 hc0_1
 have HB := Aside0.mk (Below.refl w.heap.size w)
 have H : ((sandpileref28_Stables.f k a0_0 l0_1 a1).bind fun t240 => (sandpileref28_All.l0 k a1 t240 ([] : List (List Int)) 0 a0_0 l0_1)) = some r := h
 clear h
 replace H := Option.bind_eq_some_iff.mp H
 obtain ⟨t240, A30, H⟩ := H
 replace H : (sandpileref28_All.l0 k a1 t240 ([] : List (List Int)) 0 a0_0 l0_1) = some r := H
 have A3 := Aside0.mk A30
 clear A30
 have H' := Aside0.mk H
 clear H
 go_enter Try.func16, Try.ntmps16
 go_wp2_with (first | ((with_reducible refine gate_dst (N := 2) rfl ?_); refine zX 2 #[.int .i64 a0_0, .slice A0_1 l0_1.length c0_1] 24 ?_; intro gb239 hg w4 hbox hb; have BK239 := Aside0.mk (hbox); have GW239 := zG HB hg; have GE239 := zG HB hg; replace HB := zS HB hb; clear hb hbox hg; obtain ⟨hcz5_0, hcz5_1, hfz5_0, hfz5_1⟩ := zD2 BK239) | ((with_reducible refine gate_callee (f := 49) rfl ?_); refine zL (some 10) Try.func49 #[.agg #[.int .i64 a0_0, .slice A0_1 l0_1.length c0_1], .int .i64 a1] ?_; (with_reducible refine (sandpileref28_Stables.calls k a0_0 _ _ l0_1 a1 t240 _ ?side1 ?side2 A3.out).mono ?_); (case side1 => exact Kd.C_below HR0_1.out zB); (case side2 => exact HC0_1.out); rintro e w6 ⟨v241, rfl, ho0, hb⟩; refine ⟨_, rfl, ?_⟩; have HO242 := Aside0.mk (Kd.N_lower (Kd.N_mono (ok' := fun k_ => (w.heap.size ≤ k_) ∧ k_ ≠ gb239) ho0 (fun k_ hk_ => ⟨(Nat.le_trans (below_size zB) hk_), (Kd.freshB (zK BK239) k_ hk_)⟩)) (below_size zB)); replace BK239 := zb BK239 hb; replace HB := zS HB hb; (try clear hb); (try clear ho0)))
 go_loopg [6, 7] k (fun kq v6 v7 w' => ∃ (x6_1 : List (List Int)) (x7_1 : Int), v7 = .int .i64 x7_1 ∧ Aside0 (sandpileref28_All.l0 kq a1 t240 x6_1 x7_1 a0_0 l0_1 = some r) ∧ Aside0 (kq ≤ k) ∧ Aside0 (Kd.N (Kd.slice 3 (Kd.int .i64)) 42 w' w.heap.size (fun k_ => (w.heap.size ≤ k_) ∧ some k_ ≠ (v6 : Value).ownBlock ∧ k_ ≠ gb239) v241 t240) ∧ Aside0 (Kd.N (Kd.slice 3 (Kd.int .i64)) 42 w' w.heap.size (fun k_ => (w.heap.size ≤ k_) ∧ some k_ ≠ (v241 : Value).ownBlock ∧ k_ ≠ gb239) v6 x6_1) ∧ Aside0 (w'.heap[gb239]? = some (.cells #[.int .i64 a0_0, (.slice A0_1 l0_1.length c0_1)] 24 (0, 0))) ∧ Aside0 (Below w.heap.size w w'))
 case atStart => exact ⟨(([] : List (List Int))), (0), zT, H', ⟨Nat.le_refl _⟩, ⟨by (with_reducible repeat (first | apply Kd.N_alloc | apply Kd.N_drewN | apply Kd.N_drew)); exact Kd.N_mono HO242.out (fun _ hk => ⟨hk.1, ⟨(by simp [Value.ownBlock]), hk.2⟩⟩)⟩, ⟨by first | exact Kd.S_nil _ _ _ _ _ | exact Kd.N_nil _ _ _ _ _ | exact Kd.V_nil _ _ _ _ _ | exact Kd.Q_nil _ _ _ _ _ | exact Kd.R_nil _ _ _ _ _⟩, ⟨zK BK239⟩, ⟨zB⟩⟩
 case round =>
  clear H'
  try clear c1
  try clear p2
  try clear c4
  try clear hcz5_0
  try clear hcz5_1
  try clear hfz5_0
  try clear hfz5_1
  obtain ⟨x6_1, x7_1, rfl, HA, HK1, HO_5, HO_6, BK239, HB⟩ := hrel
  cases gk with
  | zero => exact absurd HA.out (by simp [sandpileref28_All.l0])
  | succ k1 =>
   have H := HA.out
   clear HA
   simp only [sandpileref28_All.l0] at H
   by_cases c7 : x7_1 < (t240.length : Int)
   ·rw [if_pos c7] at H
    have c7b0 : decide (x7_1 < (t240.length : Int)) = true := decide_eq_true c7
    clear c7
    by_cases c8 : 0 ≤ x7_1
    ·rw [if_pos c8] at H
     have c8b0 : decide (0 ≤ x7_1) = true := decide_eq_true c8
     clear c8
     replace H := Option.bind_eq_some_iff.mp H
     obtain ⟨t244, A90, H⟩ := H
     replace H : (if t244 = true then (if x6_1.length < 5864062014805 then (sandpileref28_All.l0 k1 a1 t240 (x6_1 ++ [rd_L2 t240 x7_1]) (wrap64 (x7_1 + 1)) a0_0 l0_1) else (none)) else (sandpileref28_All.l0 k1 a1 t240 x6_1 (wrap64 (x7_1 + 1)) a0_0 l0_1)) = some r := H
     have A9 := Aside0.mk A90
     clear A90
     by_cases c10 : t244 = true
     ·subst c10
      have H1 : (if x6_1.length < 5864062014805 then (sandpileref28_All.l0 k1 a1 t240 (x6_1 ++ [rd_L2 t240 x7_1]) (wrap64 (x7_1 + 1)) a0_0 l0_1) else (none)) = some r := by rw [if_pos rfl] at H; exact H
      clear H
      have H := H1
      clear H1
      by_cases c11 : x6_1.length < 5864062014805
      ·rw [if_pos c11] at H
       have LMc11 := Aside0.mk c11
       clear c11
       obtain ⟨y246, hy246⟩ : ∃ y_ : List (List Int), y_ = (x6_1 ++ [rd_L2 t240 x7_1]) := ⟨_, rfl⟩
       replace H : (sandpileref28_All.l0 k1 a1 t240 y246 (wrap64 (x7_1 + 1)) a0_0 l0_1) = some r := by first | (rw [hy246]; with_reducible exact H) | (have H2_ := (Option.bind_some _ _).symm.trans H; rw [hy246]; with_reducible exact H2_) | (have H2_ := (Option.bind_some _ _).symm.trans H; with_reducible exact H2_) | with_reducible exact H | (rw [hy246]; exact H) | exact H
       have Ny246 := Aside0.mk hy246
       clear hy246
       have H' := Aside0.mk H
       clear H
       obtain ⟨Ao12, co12, eo12⟩ := Kd.N_slice HO_5.out
       subst eo12
       try go_wp2
       have n0_ := Aside0.mk (Kd.N_drew HO_5.out)
       have n1_ := Aside0.mk (Kd.N_drew HO_6.out)
       have n2_ := Aside0.mk (blk_drew BK239.out)
       have n3_ := Aside0.mk (below_drew1 HB.out)
       clear HO_5
       clear HO_6
       clear BK239
       clear HB
       have HO_5 := n0_
       have HO_6 := n1_
       have BK239 := n2_
       have HB := n3_
       clear n0_ n1_ n2_ n3_
       have p243 : 0 ≤ (x7_1 : Int) := of_decide_eq_true ‹_›
       have q243 : x7_1 < (t240.length : Int) := of_decide_eq_true ‹_›
       obtain ⟨ad243, A243_0, c243_0, e243, hx243_0, hl243_0, hi243_0⟩ := at_L2 (Kd.N_reads' HO_5.out).2.2 x7_1 p243 q243
       cases e243
       obtain ⟨ce243, hce243, hMe243, hcc243⟩ := Kd.N_get HO_5.out [] x7_1 p243 (by first | exact q243 | exact of_decide_eq_true ‹_› | (have e_ := (Kd.N_reads' HO_5.out).1; omega))
       obtain ⟨ua243_0, uc243_0, rfl, ul243_0, ge243_0⟩ := Kd.FK_slice_open hMe243
       have hv243_0 := hcc243 0 _ rfl
       rw [Nat.add_zero, show ((Kd.slice 3 (Kd.int .i64))).sz = 1 from rfl, Nat.mul_one] at hv243_0
       replace hv243_0 := Option.some.inj (hv243_0.symm.trans hx243_0)
       injection hv243_0 with hva_ hvn_ hvc_
       rw [hva_] at ge243_0
       rw [hvc_] at ul243_0
       have HL243_0 := Aside0.mk (show Kd.V (Kd.int .i64) 3 _ w.heap.size _ _ (rd_L2 t240 x7_1) from Kd.V_mk ul243_0 ge243_0)
       clear hva_ hvn_ hvc_ ge243_0 ul243_0
       clear hcc243 hce243
       have HR243_0 := Aside0.mk hi243_0
       have HC243_0 := Aside0.mk hl243_0
       clear hi243_0 hl243_0
       replace p243 := eq_true p243
       replace q243 := eq_true q243
       refine start_ (n := 7) (S := fun w' => w'.cell? ⟨gb239, 0, none⟩ = some (.int .i64 a0_0) ∧ w'.cell? ⟨gb239, 1, none⟩ = some (.slice A0_1 l0_1.length c0_1) ∧ w'.cell? (ad243.add (x7_1).toNat) = some (.slice A243_0 (rd_L2 t240 x7_1).length c243_0)) (ds := []) #[false, false, false, false, false, false, false] (by kernel_rfl) rfl rfl ⟨(blk_cell BK239.out 0).trans rfl, (blk_cell BK239.out 1).trans rfl, hx243_0⟩ (fun hHeld => ?_)
       generalize wr.drew = w13 at HO_5 HO_6 BK239 HB HL243_0 HR243_0 hx243_0 hHeld ⊢
       refine pure_ (i := 1) (N := some 18) (v := ?_) (a' := ?_) #[false, true, false, false, false, false, false] rfl rfl (by kernel_rfl) (fun _ _ _ h => h) (Or.inl ⟨by rfl, ?_⟩) ?_ ?_
       rotate_left
       ·intro w'
        go_simp
        with_reducible rfl
       rotate_left
       ·simp only [Act.put, List.setIfInBounds_toArray, List.set_cons_zero, List.set_cons_succ, i64_w, i32_w]
        rfl
       refine pure_ (i := 2) (N := some 19) (v := ?_) (a' := ?_) #[false, true, true, false, false, false, false] rfl rfl (by kernel_rfl) (fun _ _ _ h => h) (Or.inl ⟨by rfl, ?_⟩) ?_ ?_
       rotate_left
       ·intro w'
        go_simp
        with_reducible rfl
       rotate_left
       ·simp only [Act.put, List.setIfInBounds_toArray, List.set_cons_zero, List.set_cons_succ, i64_w, i32_w]
        rfl
       refine pure_ (i := 3) (N := some 20) (v := ?_) (a' := ?_) #[false, true, true, true, false, false, false] rfl rfl (by kernel_rfl) (fun _ _ _ h => h) (Or.inl ⟨by rfl, ?_⟩) ?_ ?_
       rotate_left
       ·intro w'
        go_simp
        with_reducible rfl
       rotate_left
       ·simp only [Act.put, List.setIfInBounds_toArray, List.set_cons_zero, List.set_cons_succ, i64_w, i32_w]
        rfl
       refine pure_ (i := 4) (N := some 21) (v := ?_) (a' := ?_) #[false, true, true, true, true, false, false] rfl rfl (by kernel_rfl) (fun _ _ _ h => h) (Or.inl ⟨by rfl, ?_⟩) ?_ ?_
       rotate_left
       ·intro w'
        go_simp
        with_reducible rfl
       rotate_left
       ·simp only [Act.put, List.setIfInBounds_toArray, List.set_cons_zero, List.set_cons_succ, i64_w, i32_w]
        rfl
       refine take_ (i := 0) (N := some 17) (v := ?_) (a' := ?_) #[true, true, true, true, true, false, false] rfl rfl (by kernel_rfl) (fun _ _ _ h => h) (Or.inl ⟨by rfl, ?_⟩) hHeld ?_ ?_
       rotate_left
       ·rintro w' ⟨s0, s1, s2⟩
        go_simp
        with_reducible rfl
       rotate_left
       ·simp only [Act.put, List.setIfInBounds_toArray, List.set_cons_zero, List.set_cons_succ, i64_w, i32_w]
        rfl
       refine take_ (i := 5) (N := some 22) (v := ?_) (a' := ?_) #[true, true, true, true, true, true, false] rfl rfl (by kernel_rfl) (fun _ _ _ h => h) (Or.inl ⟨by rfl, ?_⟩) hHeld ?_ ?_
       rotate_left
       ·rintro w' ⟨s0, s1, s2⟩
        go_simp
        with_reducible rfl
       rotate_left
       ·simp only [Act.put, List.setIfInBounds_toArray, List.set_cons_zero, List.set_cons_succ, i64_w, i32_w]
        rfl
       refine one_ (i := 6) (N := some 23) #[true, true, true, true, true, true, true] rfl rfl (by kernel_rfl) (by decide) (fun K hK => ?_)
       refine goes_ Try.func50 (by kernel_rfl) rfl #[.agg #[.int .i64 a0_0, .slice A0_1 l0_1.length c0_1], .int .i64 a1, .slice A243_0 (rd_L2 t240 x7_1).length c243_0] (by rfl) rfl rfl (by (try simp only [List.map_toArray, List.map_cons, List.map_nil]); first | done | rfl | (simp only [List.length_drop, List.length_take]; rfl)) ?_
       with_reducible refine (sandpileref23_Is.calls k1 a0_0 _ _ l0_1 a1 _ _ (rd_L2 t240 x7_1) true _ ?side1 ?side2 ?side3 ?side4 A9.out).mono ?_
       (case side1 => exact Kd.C_below HR0_1.out zB)
       (case side2 => exact HC0_1.out)
       (case side3 => repeat (first | exact (by repeat (first | (with_reducible exact HR243_0.out) | (with_reducible refine Kd.C_alloc ?_ _) | (with_reducible refine Kd.C_drewN ?_ _) | (with_reducible refine Kd.C_drew ?_) | exact HR243_0.out)) | (with_reducible refine Kd.C_alloc ?_ _) | (with_reducible refine Kd.C_drewN ?_ _) | (with_reducible refine Kd.C_drew ?_)))
       (case side4 => exact HC243_0.out)
       rintro e w14 ⟨rfl, hb⟩
       have HS2_ := (hb.cell (World.block_lt_of_cell? _ _ (hHeld.2.2))).trans (hHeld.2.2)
       refine ⟨_, rfl, ?_⟩
       have n0_ := zbN HO_5 hb
       have n1_ := zbN HO_6 hb
       have n2_ := Aside0.mk (Kd.V_below (by (with_reducible repeat (first | apply Kd.V_alloc | apply Kd.V_drewN | apply Kd.V_drew)); exact HL243_0.out) hb)
       have n3_ := zb BK239 hb
       have n4_ := Aside0.mk (Kd.C_below (by repeat (first | (with_reducible exact HR243_0.out) | (with_reducible refine Kd.C_alloc ?_ _) | (with_reducible refine Kd.C_drewN ?_ _) | (with_reducible refine Kd.C_drew ?_) | exact HR243_0.out)) hb)
       have n5_ := zS HB hb
       clear HO_5
       clear HO_6
       clear HL243_0
       clear BK239
       clear HR243_0
       clear HB
       have HO_5 := n0_
       have HO_6 := n1_
       have HL243_0 := n2_
       have BK239 := n3_
       have HR243_0 := n4_
       have HB := n5_
       clear n0_ n1_ n2_ n3_ n4_ n5_
       (try clear hb)
       skip
       skip
       skip
       refine hK.out _ _ ⟨(blk_cell BK239.out 0).trans rfl, (blk_cell BK239.out 1).trans rfl, HS2_⟩ (fun hHeld => ?_)
       clear hK K
       refine norm_ (a' := ?_) ?_ ?_
       rotate_left
       ·show Act.put _ (some 23) _ = _
        simp only [Act.put, List.setIfInBounds_toArray, List.set_cons_zero, List.set_cons_succ, i64_w, i32_w]
        rfl
       refine done_ (by kernel_rfl) ?_
       have p245 : 0 ≤ (x7_1 : Int) := of_decide_eq_true ‹_›
       have q245 : x7_1 < (t240.length : Int) := of_decide_eq_true ‹_›
       obtain ⟨ad245, A245_0, c245_0, e245, hx245_0, hl245_0, hi245_0⟩ := at_L2 (Kd.N_reads' HO_5.out).2.2 x7_1 p245 q245
       obtain rfl : ad243 = ad245 := (by injection e245)
       obtain ⟨ce245, hce245, hMe245, hcc245⟩ := Kd.N_get HO_5.out [] x7_1 p245 (by first | exact q245 | exact of_decide_eq_true ‹_› | (have e_ := (Kd.N_reads' HO_5.out).1; omega))
       obtain ⟨ua245_0, uc245_0, rfl, ul245_0, ge245_0⟩ := Kd.FK_slice_open hMe245
       have hv245_0 := hcc245 0 _ rfl
       rw [Nat.add_zero, show ((Kd.slice 3 (Kd.int .i64))).sz = 1 from rfl, Nat.mul_one] at hv245_0
       replace hv245_0 := Option.some.inj (hv245_0.symm.trans hx245_0)
       injection hv245_0 with hva_ hvn_ hvc_
       rw [hva_] at ge245_0
       rw [hvc_] at ul245_0
       have HL245_0 := Aside0.mk (show Kd.V (Kd.int .i64) 3 _ w.heap.size _ _ (rd_L2 t240 x7_1) from Kd.V_mk ul245_0 ge245_0)
       clear hva_ hvn_ hvc_ ge245_0 ul245_0
       clear hcc245 hce245
       have HR245_0 := Aside0.mk hi245_0
       have HC245_0 := Aside0.mk hl245_0
       clear hi245_0 hl245_0
       replace p245 := eq_true p245
       replace q245 := eq_true q245
       try go_wp2_with (first | ((with_reducible refine gate_builtin (b := .append) (xs := #[.tmp 24, .tmp 29]) rfl ?_); at_builtin; refine Kd.N_append (Kd.slice 3 (Kd.int .i64)) (w0 := w) w.heap.size rfl (.tmp 24) (.tmp 29) 27 42 (.slice none 0 0) 24 rfl Try.underlying27 info42 rfl (by decide) (by omega) u6 x6_1 (rd_L2 t240 x7_1) [.slice A243_0 (rd_L2 t240 x7_1).length c243_0] (fun k_ => (w.heap.size ≤ k_) ∧ some k_ ≠ (.slice (some ad243) t240.length co12 : Value).ownBlock ∧ k_ ≠ gb239) (fun k_ => ((fun k_ => (w.heap.size ≤ k_) ∧ some k_ ≠ (.slice (some ad243) t240.length co12 : Value).ownBlock ∧ k_ ≠ gb239)) k_ ∧ some k_ ≠ (u6 : Value).ownBlock) rfl rfl ?aP (fun _ hk => hk) ?aF ?aO ?aB ?aS ?aL ?_; (case aP => exact (Kd.FK_slice_mk (Kd.V_reads' (Kd.V_mono (ok' := (fun k_ => ((fun k_ => (w.heap.size ≤ k_) ∧ some k_ ≠ (.slice (some ad243) t240.length co12 : Value).ownBlock ∧ k_ ≠ gb239)) k_ ∧ some k_ ≠ (u6 : Value).ownBlock)) (HL243_0.out) (fun k_ hk => ⟨⟨hk.1.1, ⟨hk.2, hk.1.2.2⟩⟩, hk.1.2.1⟩))).2.1 (Kd.V_F (Kd.V_mono (ok' := (fun k_ => ((fun k_ => (w.heap.size ≤ k_) ∧ some k_ ≠ (.slice (some ad243) t240.length co12 : Value).ownBlock ∧ k_ ≠ gb239)) k_ ∧ some k_ ≠ (u6 : Value).ownBlock)) (HL243_0.out) (fun k_ hk => ⟨⟨hk.1.1, ⟨hk.2, hk.1.2.2⟩⟩, hk.1.2.1⟩))))); (case aB => exact zB); (case aF => exact (fun k_ hk => ⟨(Nat.le_trans (below_size zB) hk), Kd.fresh' (Kd.N_lt (zN HO_5)) k_ hk, Kd.freshB (zK BK239) k_ hk⟩)); (case aO => exact (zN HO_6)); (case aS => exact (below_size zB)); (case aL => have := LMc11.out; omega); intro v247 w15 ho hb hg hat; rw [← Ny246.out] at ho; replace HO_5 := Aside0.mk (Kd.N_afterv (ok := (fun k_ => (w.heap.size ≤ k_) ∧ k_ ≠ gb239)) (by (with_reducible repeat (first | apply Kd.N_alloc | apply Kd.N_drewN | apply Kd.N_drew)); exact Kd.N_mono HO_5.out (fun _ hk => ⟨⟨hk.1, hk.2.2⟩, hk.2.1⟩)) hg hat); replace BK239 := Aside0.mk (blk_grown (zK BK239) hg (Kd.N_ne HO_6.out BK239.out (by decide))); replace HL243_0 := Aside0.mk (Kd.V_afterv (ok := (fun k_ => (w.heap.size ≤ k_) ∧ some k_ ≠ (.slice (some ad243) t240.length co12 : Value).ownBlock ∧ k_ ≠ gb239)) (by (with_reducible repeat (first | apply Kd.V_alloc | apply Kd.V_drewN | apply Kd.V_drew)); exact Kd.V_mono HL243_0.out (fun _ hk => ⟨⟨hk.1.1, ⟨hk.2, hk.1.2.2⟩⟩, hk.1.2.1⟩)) hg hat); replace HL245_0 := Aside0.mk (Kd.V_afterv (ok := (fun k_ => (w.heap.size ≤ k_) ∧ some k_ ≠ (.slice (some ad243) t240.length co12 : Value).ownBlock ∧ k_ ≠ gb239)) (by (with_reducible repeat (first | apply Kd.V_alloc | apply Kd.V_drewN | apply Kd.V_drew)); exact Kd.V_mono HL245_0.out (fun _ hk => ⟨⟨hk.1.1, ⟨hk.2, hk.1.2.2⟩⟩, hk.1.2.1⟩)) hg hat); replace HB := Aside0.mk (hb); have HO248 := Aside0.mk (ho); clear HO_6; clear ho hb hg hat))
       go_roundg k1
       case measure => have := HK1.out; omega
       case rel => exact ⟨(y246), (wrap64 (x7_1 + 1)), zT, H', ⟨by have := HK1.out; omega⟩, ⟨by (with_reducible repeat (first | apply Kd.N_alloc | apply Kd.N_drewN | apply Kd.N_drew)); exact Kd.N_mono HO_5.out (fun _ hk => ⟨hk.1.1, ⟨hk.2, hk.1.2⟩⟩)⟩, ⟨zN HO248⟩, ⟨zK BK239⟩, ⟨zB⟩⟩
      ·rw [if_neg c11] at H
       exact absurd H (by simp)
     ·replace c10 := Bool.eq_false_iff.mpr c10
      subst c10
      have H1 : (sandpileref28_All.l0 k1 a1 t240 x6_1 (wrap64 (x7_1 + 1)) a0_0 l0_1) = some r := by rw [if_neg (show ¬ (false = true) by decide)] at H; exact H
      clear H
      have H := H1
      clear H1
      have H' := Aside0.mk H
      clear H
      obtain ⟨Ao16, co16, eo16⟩ := Kd.N_slice HO_5.out
      subst eo16
      try go_wp2
      have n0_ := Aside0.mk (Kd.N_drew HO_5.out)
      have n1_ := Aside0.mk (Kd.N_drew HO_6.out)
      have n2_ := Aside0.mk (blk_drew BK239.out)
      have n3_ := Aside0.mk (below_drew1 HB.out)
      clear HO_5
      clear HO_6
      clear BK239
      clear HB
      have HO_5 := n0_
      have HO_6 := n1_
      have BK239 := n2_
      have HB := n3_
      clear n0_ n1_ n2_ n3_
      have p243 : 0 ≤ (x7_1 : Int) := of_decide_eq_true ‹_›
      have q243 : x7_1 < (t240.length : Int) := of_decide_eq_true ‹_›
      obtain ⟨ad243, A243_0, c243_0, e243, hx243_0, hl243_0, hi243_0⟩ := at_L2 (Kd.N_reads' HO_5.out).2.2 x7_1 p243 q243
      cases e243
      obtain ⟨ce243, hce243, hMe243, hcc243⟩ := Kd.N_get HO_5.out [] x7_1 p243 (by first | exact q243 | exact of_decide_eq_true ‹_› | (have e_ := (Kd.N_reads' HO_5.out).1; omega))
      obtain ⟨ua243_0, uc243_0, rfl, ul243_0, ge243_0⟩ := Kd.FK_slice_open hMe243
      have hv243_0 := hcc243 0 _ rfl
      rw [Nat.add_zero, show ((Kd.slice 3 (Kd.int .i64))).sz = 1 from rfl, Nat.mul_one] at hv243_0
      replace hv243_0 := Option.some.inj (hv243_0.symm.trans hx243_0)
      injection hv243_0 with hva_ hvn_ hvc_
      rw [hva_] at ge243_0
      rw [hvc_] at ul243_0
      have HL243_0 := Aside0.mk (show Kd.V (Kd.int .i64) 3 _ w.heap.size _ _ (rd_L2 t240 x7_1) from Kd.V_mk ul243_0 ge243_0)
      clear hva_ hvn_ hvc_ ge243_0 ul243_0
      clear hcc243 hce243
      have HR243_0 := Aside0.mk hi243_0
      have HC243_0 := Aside0.mk hl243_0
      clear hi243_0 hl243_0
      replace p243 := eq_true p243
      replace q243 := eq_true q243
      refine start_ (n := 7) (S := fun w' => w'.cell? ⟨gb239, 0, none⟩ = some (.int .i64 a0_0) ∧ w'.cell? ⟨gb239, 1, none⟩ = some (.slice A0_1 l0_1.length c0_1) ∧ w'.cell? (ad243.add (x7_1).toNat) = some (.slice A243_0 (rd_L2 t240 x7_1).length c243_0)) (ds := []) #[false, false, false, false, false, false, false] (by kernel_rfl) rfl rfl ⟨(blk_cell BK239.out 0).trans rfl, (blk_cell BK239.out 1).trans rfl, hx243_0⟩ (fun hHeld => ?_)
      generalize wr.drew = w17 at HO_5 HO_6 BK239 HB HL243_0 HR243_0 hx243_0 hHeld ⊢
      refine pure_ (i := 1) (N := some 18) (v := ?_) (a' := ?_) #[false, true, false, false, false, false, false] rfl rfl (by kernel_rfl) (fun _ _ _ h => h) (Or.inl ⟨by rfl, ?_⟩) ?_ ?_
      rotate_left
      ·intro w'
       go_simp
       with_reducible rfl
      rotate_left
      ·simp only [Act.put, List.setIfInBounds_toArray, List.set_cons_zero, List.set_cons_succ, i64_w, i32_w]
       rfl
      refine pure_ (i := 2) (N := some 19) (v := ?_) (a' := ?_) #[false, true, true, false, false, false, false] rfl rfl (by kernel_rfl) (fun _ _ _ h => h) (Or.inl ⟨by rfl, ?_⟩) ?_ ?_
      rotate_left
      ·intro w'
       go_simp
       with_reducible rfl
      rotate_left
      ·simp only [Act.put, List.setIfInBounds_toArray, List.set_cons_zero, List.set_cons_succ, i64_w, i32_w]
       rfl
      refine pure_ (i := 3) (N := some 20) (v := ?_) (a' := ?_) #[false, true, true, true, false, false, false] rfl rfl (by kernel_rfl) (fun _ _ _ h => h) (Or.inl ⟨by rfl, ?_⟩) ?_ ?_
      rotate_left
      ·intro w'
       go_simp
       with_reducible rfl
      rotate_left
      ·simp only [Act.put, List.setIfInBounds_toArray, List.set_cons_zero, List.set_cons_succ, i64_w, i32_w]
       rfl
      refine pure_ (i := 4) (N := some 21) (v := ?_) (a' := ?_) #[false, true, true, true, true, false, false] rfl rfl (by kernel_rfl) (fun _ _ _ h => h) (Or.inl ⟨by rfl, ?_⟩) ?_ ?_
      rotate_left
      ·intro w'
       go_simp
       with_reducible rfl
      rotate_left
      ·simp only [Act.put, List.setIfInBounds_toArray, List.set_cons_zero, List.set_cons_succ, i64_w, i32_w]
       rfl
      refine take_ (i := 0) (N := some 17) (v := ?_) (a' := ?_) #[true, true, true, true, true, false, false] rfl rfl (by kernel_rfl) (fun _ _ _ h => h) (Or.inl ⟨by rfl, ?_⟩) hHeld ?_ ?_
      rotate_left
      ·rintro w' ⟨s0, s1, s2⟩
       go_simp
       with_reducible rfl
      rotate_left
      ·simp only [Act.put, List.setIfInBounds_toArray, List.set_cons_zero, List.set_cons_succ, i64_w, i32_w]
       rfl
      refine take_ (i := 5) (N := some 22) (v := ?_) (a' := ?_) #[true, true, true, true, true, true, false] rfl rfl (by kernel_rfl) (fun _ _ _ h => h) (Or.inl ⟨by rfl, ?_⟩) hHeld ?_ ?_
      rotate_left
      ·rintro w' ⟨s0, s1, s2⟩
       go_simp
       with_reducible rfl
      rotate_left
      ·simp only [Act.put, List.setIfInBounds_toArray, List.set_cons_zero, List.set_cons_succ, i64_w, i32_w]
       rfl
      refine one_ (i := 6) (N := some 23) #[true, true, true, true, true, true, true] rfl rfl (by kernel_rfl) (by decide) (fun K hK => ?_)
      refine goes_ Try.func50 (by kernel_rfl) rfl #[.agg #[.int .i64 a0_0, .slice A0_1 l0_1.length c0_1], .int .i64 a1, .slice A243_0 (rd_L2 t240 x7_1).length c243_0] (by rfl) rfl rfl (by (try simp only [List.map_toArray, List.map_cons, List.map_nil]); first | done | rfl | (simp only [List.length_drop, List.length_take]; rfl)) ?_
      with_reducible refine (sandpileref23_Is.calls k1 a0_0 _ _ l0_1 a1 _ _ (rd_L2 t240 x7_1) false _ ?side1 ?side2 ?side3 ?side4 A9.out).mono ?_
      (case side1 => exact Kd.C_below HR0_1.out zB)
      (case side2 => exact HC0_1.out)
      (case side3 => repeat (first | exact (by repeat (first | (with_reducible exact HR243_0.out) | (with_reducible refine Kd.C_alloc ?_ _) | (with_reducible refine Kd.C_drewN ?_ _) | (with_reducible refine Kd.C_drew ?_) | exact HR243_0.out)) | (with_reducible refine Kd.C_alloc ?_ _) | (with_reducible refine Kd.C_drewN ?_ _) | (with_reducible refine Kd.C_drew ?_)))
      (case side4 => exact HC243_0.out)
      rintro e w18 ⟨rfl, hb⟩
      have HS2_ := (hb.cell (World.block_lt_of_cell? _ _ (hHeld.2.2))).trans (hHeld.2.2)
      refine ⟨_, rfl, ?_⟩
      have n0_ := zbN HO_5 hb
      have n1_ := zbN HO_6 hb
      have n2_ := Aside0.mk (Kd.V_below (by (with_reducible repeat (first | apply Kd.V_alloc | apply Kd.V_drewN | apply Kd.V_drew)); exact HL243_0.out) hb)
      have n3_ := zb BK239 hb
      have n4_ := Aside0.mk (Kd.C_below (by repeat (first | (with_reducible exact HR243_0.out) | (with_reducible refine Kd.C_alloc ?_ _) | (with_reducible refine Kd.C_drewN ?_ _) | (with_reducible refine Kd.C_drew ?_) | exact HR243_0.out)) hb)
      have n5_ := zS HB hb
      clear HO_5
      clear HO_6
      clear HL243_0
      clear BK239
      clear HR243_0
      clear HB
      have HO_5 := n0_
      have HO_6 := n1_
      have HL243_0 := n2_
      have BK239 := n3_
      have HR243_0 := n4_
      have HB := n5_
      clear n0_ n1_ n2_ n3_ n4_ n5_
      (try clear hb)
      skip
      skip
      skip
      refine hK.out _ _ ⟨(blk_cell BK239.out 0).trans rfl, (blk_cell BK239.out 1).trans rfl, HS2_⟩ (fun hHeld => ?_)
      clear hK K
      refine norm_ (a' := ?_) ?_ ?_
      rotate_left
      ·show Act.put _ (some 23) _ = _
       simp only [Act.put, List.setIfInBounds_toArray, List.set_cons_zero, List.set_cons_succ, i64_w, i32_w]
       rfl
      refine done_ (by kernel_rfl) ?_
      try go_wp2
      go_roundg k1
      case measure => have := HK1.out; omega
      case rel => exact ⟨(x6_1), (wrap64 (x7_1 + 1)), zT, H', ⟨by have := HK1.out; omega⟩, ⟨zN HO_5⟩, ⟨zN HO_6⟩, ⟨zK BK239⟩, ⟨zB⟩⟩
    ·rw [if_neg c8] at H
     exact absurd H (by simp)
   ·rw [if_neg c7] at H
    have c7b0 : decide (x7_1 < (t240.length : Int)) = false := decide_eq_false c7
    clear c7
    obtain rfl := Option.some.inj H
    obtain ⟨Ao19, co19, eo19⟩ := Kd.N_slice HO_5.out
    subst eo19
    go_wp2
    go_ret
    exact ⟨_, zE, by (with_reducible repeat (first | apply Kd.N_alloc | apply Kd.N_drewN | apply Kd.N_drew)); exact Kd.N_mono HO_6.out (fun _ hk => hk.1), zB⟩
end Go.Proofs.Ytffdiakgjakngaa.P
