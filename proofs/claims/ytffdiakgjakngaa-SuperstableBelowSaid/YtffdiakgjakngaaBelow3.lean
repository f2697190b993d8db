/- A part of the proof that SuperstableBelow answers true (text 3 of 12): own walks and plain laws; no conditions. -/
import Derived.Deep.RegionLaw
import Derived.Maps.OwnOps
import Derived.Maps.Views
import Derived.Test.YtffdiakgjakngaaBelow2
namespace Go.Proofs.Ytffdiakgjakngaa.P
open Go.RowKit Go.Maps Go.Proofs.YtffdiakgjakngaaW.PrintWords Go.Proofs.YtffdiakgjakngaaW.PrintLast Go.Proofs.YtffdiakgjakngaaW.PrintMore
set_option linter.unusedVariables false
set_option linter.unusedSimpArgs false
set_option maxHeartbeats 8000000
set_option maxRecDepth 100000
def rootsTo (p : Nat → Nat) : Nat → Nat
 | 0 => 0
 | u + 1 => rootsTo p u + (if rootOf p u = u then 1 else 0)
theorem rootsTo_le (p : Nat → Nat) : ∀ u, rootsTo p u ≤ u
 | 0 => Nat.le_refl _
 | u + 1 => by
  have := rootsTo_le p u
  simp only [rootsTo]
  split <;> omega
theorem rootOf_root (p : Nat → Nat) (v : Nat) : rootOf p (rootOf p v) = rootOf p v := by
 induction v using Nat.strongRecOn with
 | ind v ih =>
  by_cases h : p v < v
  ·rw [show rootOf p v = rootOf p (p v) by rw [rootOf, dif_pos h]]
   exact ih _ h
  ·have e : rootOf p v = v := by rw [rootOf, dif_neg h]
   rw [e, e]
theorem zeroInt (w : World) : (zeroValue 3).run Try.prog w = .ok (.int .i64 0) w := by kernel_rfl
theorem keyedInt : Keyed Try.prog 3 := int_keyed Try.underlying3
theorem keyInt {a : Nat} (h : a ≤ 1000) : keyOf Try.prog 3 (.int .i64 a) = some (.int .i64 a) := keyOf_int_mk Try.underlying3 (WalkArith.wf_i64 (by omega))
def Places (p : Nat → Nat) (k m : Nat) (D : DataW Unit) : Prop := IsMap D ∧ ∀ r, r < k → rootOf p r = r → ∃ c : Nat, c < m ∧ D.atKey (.int .i64 r) (.lit (.int .i64 0)) = .lit (.int .i64 c)
theorem Places.skip {p : Nat → Nat} {k m : Nat} {D : DataW Unit} (h : Places p k m D) (hr : rootOf p k ≠ k) : Places p (k + 1) m D := by
 refine ⟨h.1, fun r hrk hrr => ?_⟩
 by_cases e : r = k
 ·subst e; exact absurd hrr hr
 ·exact h.2 r (by omega) hrr
theorem Places.put {p : Nat → Nat} {k m : Nat} {D : DataW Unit} (h : Places p k m D) (hk : k ≤ 1000) : Places p (k + 1) (m + 1) (D.put (.int .i64 k) (.lit (.int .i64 m))) := by
 refine ⟨h.1.put _ _, fun r hrk hrr => ?_⟩
 by_cases e : r = k
 ·subst e
  exact ⟨m, by omega, atKey_put_same h.1 (by simp [WideAt.IsKeyLit]) _ _⟩
 ·obtain ⟨c, hc, ha⟩ := h.2 r (by omega) hrr
  refine ⟨c, by omega, ?_⟩
  rw [atKey_put_other (fun e2 => e (by injection e2; omega))]
  exact ha
theorem S_put_back {W w4 : World} {gm g0 cap c : Nat} {X : List (List Int)} {oki : Nat → Prop} {ev s : Value} {y' : List Int} (hH : Kd.H (Kd.slice 3 (Kd.int .i64)) 33 W gm (fun q => True ∧ ¬ W.heap.size ≤ q) (.slice (some ⟨g0, 0, none⟩) X.length cap) X (c : Int) oki [ev]) (hcX : c < X.length)
  (hg : W.drew.grownBy w4 ev.ownBlock) (hok : ∀ q, ev.ownBlock = some q → oki q) (hR : (Kd.int .i64).R 3 w4 gm (fun q => oki q ∨ W.heap.size ≤ q) s y') (hlt : g0 < W.heap.size) :
  Kd.S (Kd.slice 3 (Kd.int .i64)) 33 (w4.setCell ⟨g0, c, none⟩ s) gm (fun _ => True) (.slice (some ⟨g0, 0, none⟩) X.length cap) (X.set c y') := by
 have h := (Kd.S_seg (d := Kd.slice 3 (Kd.int .i64)) (okg := fun q => W.heap.size ≤ q) (ok := fun _ => True) (okp := fun q => oki q ∨ W.heap.size ≤ q) (seg := [s]) (j := 0) (x' := y') (Kd.H_grown (Kd.H_drew hH) hg hok) (by omega) (by omega) (by simp [Kd.slice]) (Kd.M_row hR) (fun q hq => hq) (fun q hq => ⟨trivial, by omega⟩)).1
 rw [Int.toNat_natCast] at h
 simpa [Kd.slice, World.setCells] using h
theorem parts_len {X : List (List Int)} {c k : Nat} {y : List Int} {x : Int} (h : ∀ z ∈ X, z.length ≤ k) (hy : y.length ≤ k) : ∀ z ∈ X.set c (y ++ [x]), z.length ≤ k + 1 := fun z hz => by
 rcases List.mem_or_eq_of_mem_set hz with h1 | h1
 ·exact Nat.le_succ_of_le (h z h1)
 ·subst h1; simp; omega
theorem parts_calls (g n : Nat) (p : Nat → Nat) (w : World) (hn : n ≤ 12) (hf : Falls p) (hw : ForestAt w g p) :
  Calls Try.prog 118 #[.pointer (some ⟨g, 0, none⟩), .int .i64 n] w fun e w' => ∃ A c, e = .returned (.slice A (rootsTo p n) c) ∧ Below w.heap.size w w' := by
 have hmm := @run_makeMap Try.prog
 have hgw := hw.lt
 go_enter Try.func118, Try.ntmps118
 go_wp2
 have hB := below_alloc (Below.refl w.heap.size w) (.map #[] 0)
 have hM := World.ownsMap_made (H := Unit) w Try.prog 3 (plainElem Try.prog 3)
 generalize hgm : w.heap.size = gm at hM hB ⊢
 generalize (w.alloc (.map #[] 0)) = W0 at hM hB ⊢
 clear hmm
 go_loopw [5, 11] (fun v i wr => ∃ (k : Nat) (xs : List (List Int)) (D : DataW Unit), k ≤ n ∧ i = .int .i64 k ∧ Aside0 (xs.length = rootsTo p k) ∧ Aside0 (∀ y ∈ xs, y.length ≤ k) ∧ Aside0 (Kd.S (Kd.slice 3 (Kd.int .i64)) 33 wr gm (fun _ => True) v xs) ∧ Aside0 (wr.ownsMap Try.prog 3 (plainElem Try.prog 3) gm k D) ∧ Aside0 (Places p k (rootsTo p k) D) ∧ Aside0 (Below gm w wr)) (fun _ i _ => n - (intOf i).toNat)
 case atStart => exact ⟨0, [], _, by omega, rfl, ⟨rfl⟩, ⟨fun y hy => absurd hy (by simp)⟩, ⟨Kd.S_nil _ _ _ _ _⟩, ⟨hM⟩, ⟨isMap_empty, fun r hr => absurd hr (by omega)⟩, ⟨hB⟩⟩
 case round =>
  clear hM hB
  obtain ⟨k, xs, D, hk, rfl, HL, HY, HS, HM, HP, HB⟩ := hrel
  by_cases hkn : k < n
  ·have hle := rootOf_le p k
   have hrt := rootsTo_le p k
   have CR := Aside0.mk (root_calls g k p wr hf (by omega) (hw.below (by rw [hgm]; exact HB.out)))
   have Hrr := Lib.hid (rootOf_root p k)
   have Hs : Hid (rootsTo p (k + 1) = rootsTo p k + (if rootOf p k = k then 1 else 0)) := Lib.hid rfl
   by_cases hrk : rootOf p k = k
   ·have Hsk := Lib.hid hrk
    rw [hrk] at CR
    clear hrk hle
    obtain ⟨Ao, co, rfl⟩ := Kd.S_slice HS.out
    have hx12 : xs.length ≤ 12 := by have := HL.out; omega
    obtain ⟨es, ck, hes, -⟩ := HM.out
    have htm0 : some gm ≠ (Value.slice Ao xs.length co).ownBlock := fun e => by
     obtain ⟨cs, hcs⟩ := Kd.S_typed HS.out gm e.symm
     rw [hes] at hcs; cases hcs
    have HSm := Aside0.mk (Kd.S_mono (ok' := fun q => q ≠ gm) (Kd.S_bound HS.out) (fun q hq e => by obtain ⟨t, _, cs, hcs⟩ := hq.2.2.2; subst e; rw [hes] at hcs; cases hcs))
    clear hes es ck
    have hPk := HP.out.put (by omega)
    have hs1 : rootsTo p (k + 1) = rootsTo p k + 1 := by rw [Hs.out, if_pos Hsk.out]
    rw [← hs1, ← HL.out] at hPk
    have hX12 : rootsTo p (k + 1) = xs.length + 1 := by rw [hs1, HL.out]
    have HX12 := Aside0.mk hX12
    clear hs1 hX12
    have HPk := Aside0.mk hPk
    clear hPk
    go_wp2_with (first | (go_at_call 124; refine CR.out.mono ?_; rintro e w1 ⟨rfl, rfl⟩) | (at_mapUpdate; refine wpList_mapUpdate_own _ rfl _ _ _ 148 rfl 3 3 keyedInt Try.underlying148 _ gm k _ rfl HM.out (by unfold maxLen; omega) _ _ _ rfl rfl (keyInt (by omega)) _ [] (plainElem_int Try.underlying3 (WalkArith.wf_i64 (by omega))) ?_; intro w2 hm2 hg2; have HM2 := Aside0.mk hm2; have HS2 := Aside0.mk (Kd.S_grown HSm.out hg2 (fun q hq e => hq (by injection e))); have HB2 := Aside0.mk (HB.out.grown hg2 (by have := HM.out.lt; omega) (fun q e => by injection e with e; omega)); clear hm2 hg2) | (at_builtin; refine Kd.S_append (Kd.slice 3 (Kd.int .i64)) (w0 := w) gm rfl (.tmp 24) (.tmp 25) 88 33 (.slice none 0 0) 24 rfl Try.underlying88 info33 rfl (by decide) (by omega) _ xs [] [.slice none 0 0] (fun _ => True) (fun _ => False) rfl rfl (Kd.M_row (Kd.R_nil _ _ _ _ _)) (fun _ hk => hk.elim) (fun _ _ => trivial) (Kd.S_mono HS2.out (fun q _ => ⟨trivial, fun h => h⟩)) HB2.out (by have := HM2.out.lt; omega) (by omega) ?_; intro v3 W hs3 hb3 hg3 hat3; have HS1 := Aside0.mk hs3; have HB1 := Aside0.mk hb3; have HM1 := Aside0.mk (HM2.out.kept hg3 htm0); have HP1 := HPk; clear hs3 hb3 hg3 hat3))
    generalize hD1 : D.put (.int .i64 k) (.lit (.int .i64 xs.length)) = D1 at HM1 HP1
    have HX1 : Aside0 ((xs ++ [[]]).length = rootsTo p (k + 1)) := ⟨by rw [HX12.out]; simp⟩
    have HY1 : Aside0 (∀ y ∈ xs ++ [[]], y.length ≤ k) := ⟨fun y hy => by
     rcases List.mem_append.1 hy with h | h
     ·exact HY.out y h
     ·simp at h; subst h; simp⟩
    generalize hX : xs ++ [[]] = X at HS1 HX1 HY1
    obtain ⟨c, hcm, hat⟩ := HP1.out.2 k (by omega) Hsk.out
    have hlk : ∀ w' : World, w'.ownsMap Try.prog 3 (plainElem Try.prog 3) gm (k + 1) D1 → (Instr.lookup 148 (.map (some gm)) (.int .i64 (k : Nat)) false).run Try.prog w' = .ok (.int .i64 c) w' := fun w' h => by
     obtain ⟨c', hrun, hat', _⟩ := h.lookup_int keyedInt Try.underlying148 Try.underlying3 (zeroInt _) (keyInt (a := k) (by omega))
     rw [hat] at hat'
     injection hat' with hat'
     injection hat' with _ hat'
     rw [hrun, hat']
    have hXl := HX1.out
    have hXr := rootsTo_le p (k + 1)
    obtain ⟨g0, cap, hv, hge, hglt, cells, hbc⟩ := Kd.S_form HS1.out (by omega)
    (first | subst hv | (injection hv with h1_ _ h3_; subst h1_; subst h3_))
    obtain ⟨oki, cc, hcl, ⟨ev, rfl, hR⟩, hcc, hfr, hoki, hH⟩ := Kd.S_elem (Kd.S_mono (ok' := fun q => True ∧ ¬ W.heap.size ≤ q) (Kd.S_bound HS1.out) (fun q hq => ⟨trivial, by have := hq.2.2.1; omega⟩)) [] (c : Int) (by omega) (by omega)
    have hyk : (X.getD (c : Int).toNat []).length ≤ k := by
     have hcX : c < X.length := by omega
     rw [Int.toNat_natCast, List.getD_eq_getElem?_getD, List.getElem?_eq_getElem hcX]
     exact HY1.out _ (List.getElem_mem hcX)
    have hcx : W.cell? ⟨g0, c, none⟩ = some ev := by have h1 := hcc 0 _ rfl; rw [Int.toNat_natCast] at h1; simpa [Kd.slice] using h1
    have hfx : W.frozen? ⟨g0, c, none⟩ = false := by have h1 := hfr 0; rw [Int.toNat_natCast] at h1; simpa [Kd.slice] using h1
    rw [Int.toNat_natCast] at hR hyk
    have HXc := Lib.hid (show (X.getD (c : Int).toNat []) = X.getD c [] by rw [Int.toNat_natCast])
    generalize X.getD c [] = y at hR hyk HXc
    obtain ⟨Ae, ce, rfl⟩ := Kd.R_slice hR
    have htm : some gm ≠ (Value.slice Ae y.length ce).ownBlock := fun e => by
     obtain ⟨cs, hcs⟩ := Kd.R_typed hR gm e.symm
     obtain ⟨es, ck, hes, -⟩ := HM1.out
     rw [hes] at hcs; cases hcs
    have hg0m : g0 ≠ gm := fun e => by
     subst e
     obtain ⟨es, ck, hes, -⟩ := HM1.out
     rw [hes] at hbc; cases hbc
    have hkg : some g0 ≠ (Value.slice Ae y.length ce).ownBlock := fun e => (hoki g0 (hR.1 g0 e.symm)).2 rfl
    have HR := Aside0.mk (Kd.R_drew (Kd.R_mono (ok' := fun q => oki q ∨ W.heap.size ≤ q) hR (fun q hq => .inl hq)))
    have HHw := Aside0.mk hH
    have HOK := Aside0.mk hR.1
    have HOI := Aside0.mk hoki
    clear hH hcc hfr hR hoki hbc cells hcl
    have hl1 := hlk _ HM1.out.drew
    have hl2 := hlk _ ((HM1.out.alloc (.cells #[.int .i64 k] 3)).drew)
    have hi0 : (0 : Int) ≤ (c : Int) := by omega
    have hi1 : (c : Int) < (X.length : Int) := by omega
    have HLK := Aside0.mk hlk
    have hc12 : c < 12 := by omega
    have hX12 : X.length ≤ 12 := by omega
    have hcX : c < X.length := by omega
    clear hlk hat hcm hXl hXr
    go_region_law ((refine Kd.R_append_step (Kd.int .i64) (w0 := w) (W := W.drew) gm (by rfl) (.tmp 36) (.tmp 38) 33 3 (.int .i64 0) 8 (by rfl) Try.underlying33 info3 rfl (by decide) (by omega) _ y (k : Int) [.int .i64 k] (fun q => oki q ∨ W.heap.size ≤ q) (fun _ => False) (by rfl) (by rfl) rfl (fun _ hk => hk.elim) (fun q hq => .inr hq) HR.out (below_drew1 HB1.out) (by have := HB1.out.size; show gm ≤ W.heap.size; omega) (by omega) ?_; intro v4 w4 hr4 hb4 hg4 hat4; obtain ⟨Ai4, ci4, hv4⟩ := Kd.R_slice hr4; rw [show (y ++ [(k : Int)]).length = y.length + 1 by simp] at hv4; subst hv4; have HR4 := Aside0.mk hr4; have HB4 := Aside0.mk hb4; have HG4 := Aside0.mk hg4; have hl3 := HLK.out _ (HM1.out.drew.kept hg4 htm); have hcx4 : w4.cell? ⟨g0, c, none⟩ = some (.slice Ae y.length ce) := (hg4.cell_far ⟨g0, c, none⟩ hglt hkg).trans hcx; have hfx4 : w4.frozen? ⟨g0, c, none⟩ = false := (hg4.frozen_far ⟨g0, c, none⟩ hglt hkg).trans hfx; clear hr4 hb4 hg4 hat4))
    all_goals have n0 := Aside0.mk (S_put_back HHw.out (by omega) HG4.out HOK.out HR4.out hglt)
    all_goals have n1 := Aside0.mk ((HM1.out.drew.kept HG4.out htm).kept (grown_set1 w4 g0 c (.slice Ai4 (y.length + 1) ci4)) (by simp; omega))
    all_goals have n2 := Aside0.mk (HB4.out.grown (grown_set1 w4 g0 c (.slice Ai4 (y.length + 1) ci4)) (by have := HB4.out.size; have := HM1.out.lt; have : W.drew.heap.size = W.heap.size := rfl; have := HG4.out.size; omega) (fun q e => by injection e with e; omega))
    all_goals have n3 := Aside0.mk (HP1.out)
    all_goals have n4 : Aside0 (∀ z ∈ X.set c (y ++ [(k : Int)]), z.length ≤ k + 1) := ⟨parts_len HY1.out hyk⟩
    all_goals have n5 : Aside0 ((X.set c (y ++ [(k : Int)])).length = X.length) := ⟨List.length_set⟩
    all_goals clear hl1 hl2 hl3 hcx hfx hcx4 hfx4 HG4 HB4 HR4 HLK HHw HOK HOI HR
    all_goals generalize (w4.setCell ⟨g0, c, none⟩ (.slice Ai4 (y.length + 1) ci4)) = w5 at n0 n1 n2 ⊢
    all_goals go_wp2
    all_goals exact ⟨⟨k + 1, _, D1, by omega, by go_num, ⟨by rw [n5.out]; exact HX1.out⟩, n4, n0, n1, n3, n2⟩, (show n - ((k : Int) + 1).toNat < n - ((k : Int)).toNat by omega)⟩
   ·have hle2 : rootOf p k < k := by omega
    have Hne := Lib.hid hrk
    have HP1 := Aside0.mk (HP.out.skip hrk)
    have hs1 : rootsTo p (k + 1) = rootsTo p k := by rw [Hs.out, if_neg hrk]; rfl
    have HX1 := Aside0.mk (HL.out.trans hs1.symm)
    rw [← hs1] at HP1
    clear hs1 hrk hle
    have HY1 := HY
    have HM1 := Aside0.mk (HM.out.mono (Nat.le_succ k))
    have HS1 := HS
    have HB1 := HB
    clear HM HS HB HP HL HY
    obtain ⟨Ao, co, rfl⟩ := Kd.S_slice HS1.out
    obtain ⟨W, rfl⟩ : ∃ W, W = wr := ⟨_, rfl⟩
    obtain ⟨X, rfl⟩ : ∃ X, X = xs := ⟨_, rfl⟩
    obtain ⟨D1, rfl⟩ : ∃ D1, D1 = D := ⟨_, rfl⟩
    generalize hro : rootOf p k = r at hle2 CR Hrr
    have Hro := Lib.hid hro
    clear hro
    have hne : ((r : Nat) : Int) ≠ (k : Int) := by omega
    go_wp2_with (first | (go_at_call 124; refine CR.out.mono ?_; rintro e w1 ⟨rfl, rfl⟩))
    obtain ⟨c, hcm, hat⟩ := HP1.out.2 r (by omega) Hrr.out
    have hlk : ∀ w' : World, w'.ownsMap Try.prog 3 (plainElem Try.prog 3) gm (k + 1) D1 → (Instr.lookup 148 (.map (some gm)) (.int .i64 (r : Nat)) false).run Try.prog w' = .ok (.int .i64 c) w' := fun w' h => by
     obtain ⟨c', hrun, hat', _⟩ := h.lookup_int keyedInt Try.underlying148 Try.underlying3 (zeroInt _) (keyInt (a := r) (by omega))
     rw [hat] at hat'
     injection hat' with hat'
     injection hat' with _ hat'
     rw [hrun, hat']
    have hXl := HX1.out
    have hXr := rootsTo_le p (k + 1)
    obtain ⟨g0, cap, hv, hge, hglt, cells, hbc⟩ := Kd.S_form HS1.out (by omega)
    (first | subst hv | (injection hv with h1_ _ h3_; subst h1_; subst h3_))
    obtain ⟨oki, cc, hcl, ⟨ev, rfl, hR⟩, hcc, hfr, hoki, hH⟩ := Kd.S_elem (Kd.S_mono (ok' := fun q => True ∧ ¬ W.heap.size ≤ q) (Kd.S_bound HS1.out) (fun q hq => ⟨trivial, by have := hq.2.2.1; omega⟩)) [] (c : Int) (by omega) (by omega)
    have hyk : (X.getD (c : Int).toNat []).length ≤ k := by
     have hcX : c < X.length := by omega
     rw [Int.toNat_natCast, List.getD_eq_getElem?_getD, List.getElem?_eq_getElem hcX]
     exact HY1.out _ (List.getElem_mem hcX)
    have hcx : W.cell? ⟨g0, c, none⟩ = some ev := by have h1 := hcc 0 _ rfl; rw [Int.toNat_natCast] at h1; simpa [Kd.slice] using h1
    have hfx : W.frozen? ⟨g0, c, none⟩ = false := by have h1 := hfr 0; rw [Int.toNat_natCast] at h1; simpa [Kd.slice] using h1
    rw [Int.toNat_natCast] at hR hyk
    have HXc := Lib.hid (show (X.getD (c : Int).toNat []) = X.getD c [] by rw [Int.toNat_natCast])
    generalize X.getD c [] = y at hR hyk HXc
    obtain ⟨Ae, ce, rfl⟩ := Kd.R_slice hR
    have htm : some gm ≠ (Value.slice Ae y.length ce).ownBlock := fun e => by
     obtain ⟨cs, hcs⟩ := Kd.R_typed hR gm e.symm
     obtain ⟨es, ck, hes, -⟩ := HM1.out
     rw [hes] at hcs; cases hcs
    have hg0m : g0 ≠ gm := fun e => by
     subst e
     obtain ⟨es, ck, hes, -⟩ := HM1.out
     rw [hes] at hbc; cases hbc
    have hkg : some g0 ≠ (Value.slice Ae y.length ce).ownBlock := fun e => (hoki g0 (hR.1 g0 e.symm)).2 rfl
    have HR := Aside0.mk (Kd.R_drew (Kd.R_mono (ok' := fun q => oki q ∨ W.heap.size ≤ q) hR (fun q hq => .inl hq)))
    have HHw := Aside0.mk hH
    have HOK := Aside0.mk hR.1
    have HOI := Aside0.mk hoki
    clear hH hcc hfr hR hoki hbc cells hcl
    have hl1 := hlk _ HM1.out.drew
    have hl2 := hlk _ ((HM1.out.alloc (.cells #[.int .i64 k] 3)).drew)
    have hi0 : (0 : Int) ≤ (c : Int) := by omega
    have hi1 : (c : Int) < (X.length : Int) := by omega
    have HLK := Aside0.mk hlk
    have hc12 : c < 12 := by omega
    have hX12 : X.length ≤ 12 := by omega
    have hcX : c < X.length := by omega
    clear hlk hat hcm hXl hXr
    go_region_law ((refine Kd.R_append_step (Kd.int .i64) (w0 := w) (W := W.drew) gm (by rfl) (.tmp 36) (.tmp 38) 33 3 (.int .i64 0) 8 (by rfl) Try.underlying33 info3 rfl (by decide) (by omega) _ y (k : Int) [.int .i64 k] (fun q => oki q ∨ W.heap.size ≤ q) (fun _ => False) (by rfl) (by rfl) rfl (fun _ hk => hk.elim) (fun q hq => .inr hq) HR.out (below_drew1 HB1.out) (by have := HB1.out.size; show gm ≤ W.heap.size; omega) (by omega) ?_; intro v4 w4 hr4 hb4 hg4 hat4; obtain ⟨Ai4, ci4, hv4⟩ := Kd.R_slice hr4; rw [show (y ++ [(k : Int)]).length = y.length + 1 by simp] at hv4; subst hv4; have HR4 := Aside0.mk hr4; have HB4 := Aside0.mk hb4; have HG4 := Aside0.mk hg4; have hl3 := HLK.out _ (HM1.out.drew.kept hg4 htm); have hcx4 : w4.cell? ⟨g0, c, none⟩ = some (.slice Ae y.length ce) := (hg4.cell_far ⟨g0, c, none⟩ hglt hkg).trans hcx; have hfx4 : w4.frozen? ⟨g0, c, none⟩ = false := (hg4.frozen_far ⟨g0, c, none⟩ hglt hkg).trans hfx; clear hr4 hb4 hg4 hat4))
    all_goals have n0 := Aside0.mk (S_put_back HHw.out (by omega) HG4.out HOK.out HR4.out hglt)
    all_goals have n1 := Aside0.mk ((HM1.out.drew.kept HG4.out htm).kept (grown_set1 w4 g0 c (.slice Ai4 (y.length + 1) ci4)) (by simp; omega))
    all_goals have n2 := Aside0.mk (HB4.out.grown (grown_set1 w4 g0 c (.slice Ai4 (y.length + 1) ci4)) (by have := HB4.out.size; have := HM1.out.lt; have : W.drew.heap.size = W.heap.size := rfl; have := HG4.out.size; omega) (fun q e => by injection e with e; omega))
    all_goals have n3 := Aside0.mk (HP1.out)
    all_goals have n4 : Aside0 (∀ z ∈ X.set c (y ++ [(k : Int)]), z.length ≤ k + 1) := ⟨parts_len HY1.out hyk⟩
    all_goals have n5 : Aside0 ((X.set c (y ++ [(k : Int)])).length = X.length) := ⟨List.length_set⟩
    all_goals clear hl1 hl2 hl3 hcx hfx hcx4 hfx4 HG4 HB4 HR4 HLK HHw HOK HOI HR
    all_goals generalize (w4.setCell ⟨g0, c, none⟩ (.slice Ai4 (y.length + 1) ci4)) = w5 at n0 n1 n2 ⊢
    all_goals go_wp2
    all_goals exact ⟨⟨k + 1, _, D1, by omega, by go_num, ⟨by rw [n5.out]; exact HX1.out⟩, n4, n0, n1, n3, n2⟩, (show n - ((k : Int) + 1).toNat < n - ((k : Int)).toNat by omega)⟩
  ·obtain rfl : k = n := by omega
   go_wp2
   go_ret
   obtain ⟨A, c, rfl⟩ := Kd.S_slice HS.out
   exact ⟨A, c, by rw [HL.out]; rfl, by rw [hgm]; exact HB.out⟩
end Go.Proofs.Ytffdiakgjakngaa.P
namespace Go.Proofs.Ytffdiakgjakngaa.P
open Go.RowKit Go.Proofs.YtffdiakgjakngaaW.PrintWords Go.Proofs.YtffdiakgjakngaaW.PrintLast Go.Proofs.YtffdiakgjakngaaW.PrintMore
set_option linter.unusedVariables false
set_option linter.unusedSimpArgs false
set_option maxHeartbeats 8000000
set_option maxRecDepth 100000
def graph_vertex.f (a0 : Int) (a1 : Int) : Option (Bool) := if a1 ≥ 0 then (some (decide (a1 < a0))) else (some false)
theorem graph_vertex.calls (a0 : Int) (a1 : Int) (r : Bool) (w : World) (h : graph_vertex.f a0 a1 = some r) :
  Calls Try.prog 119 #[.int .i64 a0, .int .i64 a1] w fun e w' => e = .returned (.bool r) ∧ Drawn0 w w' := by
 have H : (if a1 ≥ 0 then (some (decide (a1 < a0))) else (some false)) = some r := h
 clear h
 by_cases c3 : a1 ≥ 0
 ·rw [if_pos c3] at H
  have c3b0 : decide (0 ≤ a1) = true := decide_eq_true c3
  clear c3
  obtain rfl := Option.some.inj H
  go_enter Try.func119, Try.ntmps119
  go_wp2
  go_ret
  exact ⟨zT, by repeat (first | exact Drawn0.refl _ | apply Drawn0.step)⟩
 ·rw [if_neg c3] at H
  have c3b0 : decide (0 ≤ a1) = false := decide_eq_false c3
  clear c3
  obtain rfl := Option.some.inj H
  go_enter Try.func119, Try.ntmps119
  go_wp2
  go_ret
  exact ⟨zT, by repeat (first | exact Drawn0.refl _ | apply Drawn0.step)⟩
def cmp_isNaN_int.f (a0 : Int) : Option (Bool) := some (a0 != a0)
theorem cmp_isNaN_int.calls (a0 : Int) (r : Bool) (w : World) (h : cmp_isNaN_int.f a0 = some r) :
  Calls Try.prog 81 #[.int .i64 a0] w fun e w' => e = .returned (.bool r) ∧ Drawn0 w w' := by
 have H : (some (a0 != a0)) = some r := h
 clear h
 obtain rfl := Option.some.inj H
 go_enter Try.func81, Try.ntmps81
 go_wp2
 go_ret
 exact ⟨zT, by repeat (first | exact Drawn0.refl _ | apply Drawn0.step)⟩
def cmp_Compare_int.f (a0 : Int) (a1 : Int) : Option (Int) := (cmp_isNaN_int.f a0).bind fun t395 => ((cmp_isNaN_int.f a1).bind fun t396 => (if t395 = true then (if t396 = true then (some 0) else (some (-1))) else (if t396 = true then (some 1) else (if a0 < a1 then (some (-1)) else (if a0 > a1 then (some 1) else (some 0))))))
theorem cmp_Compare_int.calls (a0 : Int) (a1 : Int) (r : Int) (w : World) (h : cmp_Compare_int.f a0 a1 = some r) :
  Calls Try.prog 62 #[.int .i64 a0, .int .i64 a1] w fun e w' => e = .returned (.int .i64 r) ∧ Drawn0 w w' := by
 have H : ((cmp_isNaN_int.f a0).bind fun t395 => ((cmp_isNaN_int.f a1).bind fun t396 => (if t395 = true then (if t396 = true then (some 0) else (some (-1))) else (if t396 = true then (some 1) else (if a0 < a1 then (some (-1)) else (if a0 > a1 then (some 1) else (some 0))))))) = some r := h
 clear h
 replace H := Option.bind_eq_some_iff.mp H
 obtain ⟨t395, A30, H⟩ := H
 replace H : ((cmp_isNaN_int.f a1).bind fun t396 => (if t395 = true then (if t396 = true then (some 0) else (some (-1))) else (if t396 = true then (some 1) else (if a0 < a1 then (some (-1)) else (if a0 > a1 then (some 1) else (some 0)))))) = some r := H
 have A3 := Aside0.mk A30
 clear A30
 replace H := Option.bind_eq_some_iff.mp H
 obtain ⟨t396, A40, H⟩ := H
 replace H : (if t395 = true then (if t396 = true then (some 0) else (some (-1))) else (if t396 = true then (some 1) else (if a0 < a1 then (some (-1)) else (if a0 > a1 then (some 1) else (some 0))))) = some r := H
 have A4 := Aside0.mk A40
 clear A40
 by_cases c5 : t395 = true
 ·subst c5
  have H1 : (if t396 = true then (some 0) else (some (-1))) = some r := by rw [if_pos rfl] at H; exact H
  clear H
  have H := H1
  clear H1
  by_cases c6 : t396 = true
  ·subst c6
   have H1 : (some 0) = some r := by rw [if_pos rfl] at H; exact H
   clear H
   have H := H1
   clear H1
   obtain rfl := Option.some.inj H
   go_enter Try.func62, Try.ntmps62
   go_wp2_with (first | ((with_reducible refine gate_callee (f := 81) rfl ?_); refine zL (some 8) Try.func81 #[.int .i64 a0] ?_; (with_reducible refine (cmp_isNaN_int.calls a0 true _ A3.out).mono ?_); rintro e w' ⟨rfl, ⟨nd, rfl⟩⟩; refine ⟨_, rfl, ?_⟩) | ((with_reducible refine gate_callee (f := 81) rfl ?_); refine zL (some 10) Try.func81 #[.int .i64 a1] ?_; (with_reducible refine (cmp_isNaN_int.calls a1 true _ A4.out).mono ?_); rintro e w' ⟨rfl, ⟨nd, rfl⟩⟩; refine ⟨_, rfl, ?_⟩))
   go_ret
   exact ⟨zT, by repeat (first | exact Drawn0.refl _ | apply Drawn0.step)⟩
  ·replace c6 := Bool.eq_false_iff.mpr c6
   subst c6
   have H1 : (some (-1)) = some r := by rw [if_neg (show ¬ (false = true) by decide)] at H; exact H
   clear H
   have H := H1
   clear H1
   obtain rfl := Option.some.inj H
   go_enter Try.func62, Try.ntmps62
   go_wp2_with (first | ((with_reducible refine gate_callee (f := 81) rfl ?_); refine zL (some 8) Try.func81 #[.int .i64 a0] ?_; (with_reducible refine (cmp_isNaN_int.calls a0 true _ A3.out).mono ?_); rintro e w' ⟨rfl, ⟨nd, rfl⟩⟩; refine ⟨_, rfl, ?_⟩) | ((with_reducible refine gate_callee (f := 81) rfl ?_); refine zL (some 10) Try.func81 #[.int .i64 a1] ?_; (with_reducible refine (cmp_isNaN_int.calls a1 false _ A4.out).mono ?_); rintro e w' ⟨rfl, ⟨nd, rfl⟩⟩; refine ⟨_, rfl, ?_⟩))
   go_ret
   exact ⟨zT, by repeat (first | exact Drawn0.refl _ | apply Drawn0.step)⟩
 ·replace c5 := Bool.eq_false_iff.mpr c5
  subst c5
  have H1 : (if t396 = true then (some 1) else (if a0 < a1 then (some (-1)) else (if a0 > a1 then (some 1) else (some 0)))) = some r := by rw [if_neg (show ¬ (false = true) by decide)] at H; exact H
  clear H
  have H := H1
  clear H1
  by_cases c7 : t396 = true
  ·subst c7
   have H1 : (some 1) = some r := by rw [if_pos rfl] at H; exact H
   clear H
   have H := H1
   clear H1
   obtain rfl := Option.some.inj H
   go_enter Try.func62, Try.ntmps62
   go_wp2_with (first | ((with_reducible refine gate_callee (f := 81) rfl ?_); refine zL (some 8) Try.func81 #[.int .i64 a0] ?_; (with_reducible refine (cmp_isNaN_int.calls a0 false _ A3.out).mono ?_); rintro e w' ⟨rfl, ⟨nd, rfl⟩⟩; refine ⟨_, rfl, ?_⟩) | ((with_reducible refine gate_callee (f := 81) rfl ?_); refine zL (some 10) Try.func81 #[.int .i64 a1] ?_; (with_reducible refine (cmp_isNaN_int.calls a1 true _ A4.out).mono ?_); rintro e w' ⟨rfl, ⟨nd, rfl⟩⟩; refine ⟨_, rfl, ?_⟩))
   go_ret
   exact ⟨zT, by repeat (first | exact Drawn0.refl _ | apply Drawn0.step)⟩
  ·replace c7 := Bool.eq_false_iff.mpr c7
   subst c7
   have H1 : (if a0 < a1 then (some (-1)) else (if a0 > a1 then (some 1) else (some 0))) = some r := by rw [if_neg (show ¬ (false = true) by decide)] at H; exact H
   clear H
   have H := H1
   clear H1
   by_cases c8 : a0 < a1
   ·rw [if_pos c8] at H
    have c8b0 : decide (a0 < a1) = true := decide_eq_true c8
    clear c8
    obtain rfl := Option.some.inj H
    go_enter Try.func62, Try.ntmps62
    go_wp2_with (first | ((with_reducible refine gate_callee (f := 81) rfl ?_); refine zL (some 8) Try.func81 #[.int .i64 a0] ?_; (with_reducible refine (cmp_isNaN_int.calls a0 false _ A3.out).mono ?_); rintro e w' ⟨rfl, ⟨nd, rfl⟩⟩; refine ⟨_, rfl, ?_⟩) | ((with_reducible refine gate_callee (f := 81) rfl ?_); refine zL (some 10) Try.func81 #[.int .i64 a1] ?_; (with_reducible refine (cmp_isNaN_int.calls a1 false _ A4.out).mono ?_); rintro e w' ⟨rfl, ⟨nd, rfl⟩⟩; refine ⟨_, rfl, ?_⟩))
    go_ret
    exact ⟨zT, by repeat (first | exact Drawn0.refl _ | apply Drawn0.step)⟩
   ·rw [if_neg c8] at H
    have c8b0 : decide (a0 < a1) = false := decide_eq_false c8
    clear c8
    by_cases c9 : a0 > a1
    ·rw [if_pos c9] at H
     have c9b0 : decide (a1 < a0) = true := decide_eq_true c9
     clear c9
     obtain rfl := Option.some.inj H
     go_enter Try.func62, Try.ntmps62
     go_wp2_with (first | ((with_reducible refine gate_callee (f := 81) rfl ?_); refine zL (some 8) Try.func81 #[.int .i64 a0] ?_; (with_reducible refine (cmp_isNaN_int.calls a0 false _ A3.out).mono ?_); rintro e w' ⟨rfl, ⟨nd, rfl⟩⟩; refine ⟨_, rfl, ?_⟩) | ((with_reducible refine gate_callee (f := 81) rfl ?_); refine zL (some 10) Try.func81 #[.int .i64 a1] ?_; (with_reducible refine (cmp_isNaN_int.calls a1 false _ A4.out).mono ?_); rintro e w' ⟨rfl, ⟨nd, rfl⟩⟩; refine ⟨_, rfl, ?_⟩))
     go_ret
     exact ⟨zT, by repeat (first | exact Drawn0.refl _ | apply Drawn0.step)⟩
    ·rw [if_neg c9] at H
     have c9b0 : decide (a1 < a0) = false := decide_eq_false c9
     clear c9
     obtain rfl := Option.some.inj H
     go_enter Try.func62, Try.ntmps62
     go_wp2_with (first | ((with_reducible refine gate_callee (f := 81) rfl ?_); refine zL (some 8) Try.func81 #[.int .i64 a0] ?_; (with_reducible refine (cmp_isNaN_int.calls a0 false _ A3.out).mono ?_); rintro e w' ⟨rfl, ⟨nd, rfl⟩⟩; refine ⟨_, rfl, ?_⟩) | ((with_reducible refine gate_callee (f := 81) rfl ?_); refine zL (some 10) Try.func81 #[.int .i64 a1] ?_; (with_reducible refine (cmp_isNaN_int.calls a1 false _ A4.out).mono ?_); rintro e w' ⟨rfl, ⟨nd, rfl⟩⟩; refine ⟨_, rfl, ?_⟩))
     go_ret
     exact ⟨zT, by repeat (first | exact Drawn0.refl _ | apply Drawn0.step)⟩
def cmp_Or_int.l0 : Nat → Int → List Int → Int → Int → Option (Int)
 | 0, _, _, _, _ => none
 | k + 1, x3, x6, x7, x8 => if x8 < x7 then (if 0 ≤ x8 then (if x8 < (x6.length : Int) then (if (rd x6 x8) = x3 then (cmp_Or_int.l0 k x3 x6 x7 (wrap64 (x8 + 1))) else (some (rd x6 x8))) else (none)) else (none)) else (some x3)
def cmp_Or_int.f (k : Nat) (l0 : List Int) : Option (Int) := cmp_Or_int.l0 k 0 l0 (l0.length : Int) 0
theorem cmp_Or_int.mono_l : ∀ k, (∀ y0 y1 y2 y3, LeO (cmp_Or_int.l0 k y0 y1 y2 y3) (cmp_Or_int.l0 (k + 1) y0 y1 y2 y3))
 | 0 => fun _ _ _ _ r h => by simp [cmp_Or_int.l0] at h
 | k + 1 => by
  have ih0 := cmp_Or_int.mono_l k
  ·intro y0 y1 y2 y3
   unfold cmp_Or_int.l0
   repeat' first
   | (with_reducible exact ih0 _ _ _ _)
   | (with_reducible exact LeO.refl _)
   | (with_reducible exact LeO.none _)
   | (with_reducible refine LeO.ite ?_ ?_)
   | (with_reducible refine LeO.bind ?_ (fun _ => ?_))
   | exact ih0 _ _ _ _
   | exact LeO.none _
   | refine LeO.ite ?_ ?_
   | refine LeO.bind ?_ (fun _ => ?_)
theorem cmp_Or_int.mono : ∀ a0 k, LeO (cmp_Or_int.f k a0) (cmp_Or_int.f (k + 1) a0) := by
 intro a0 k
 have ih0 := cmp_Or_int.mono_l k
 unfold cmp_Or_int.f
 repeat' first
   | (with_reducible exact ih0 _ _ _ _)
   | (with_reducible exact LeO.refl _)
   | (with_reducible exact LeO.none _)
   | (with_reducible refine LeO.ite ?_ ?_)
   | (with_reducible refine LeO.bind ?_ (fun _ => ?_))
   | exact ih0 _ _ _ _
   | exact LeO.none _
   | refine LeO.ite ?_ ?_
   | refine LeO.bind ?_ (fun _ => ?_)
theorem cmp_Or_int.calls (k : Nat) (A0 : Option Addr) (c0 : Nat) (l0 : List Int) (r : Int) (w : World) (hr0 : Kd.C (Kd.int .i64) w A0 l0.length l0) (hc0 : l0.length ≤ c0) (h : cmp_Or_int.f k l0 = some r) :
  Calls Try.prog 125 #[.slice A0 l0.length c0] w fun e w' => e = .returned (.int .i64 r) ∧ Drawn0 w w' := by
 have HR0 := Aside0.mk hr0
 have HC0 := Aside0.mk hc0
 clear hr0 hc0
 have H : (cmp_Or_int.l0 k 0 l0 (l0.length : Int) 0) = some r := h
 clear h
 have H' := Aside0.mk H
 clear H
 go_enter Try.func125, Try.ntmps125
 go_wp2
 go_loopg [8] k (fun kq v8 w' => ∃ (x8_1 : Int), v8 = .int .i64 x8_1 ∧ Aside0 (cmp_Or_int.l0 kq 0 l0 (l0.length : Int) x8_1 = some r) ∧ Aside0 (kq ≤ k) ∧ Drawn0 w w')
 case atStart => exact ⟨(0), zT, H', ⟨Nat.le_refl _⟩, by repeat (first | exact Drawn0.refl _ | apply Drawn0.step)⟩
 case round =>
  clear H'
  try clear c1
  obtain ⟨x8_1, rfl, HA, HK1, ⟨m1, rfl⟩⟩ := hrel
  cases gk with
  | zero => exact absurd HA.out (by simp [cmp_Or_int.l0])
  | succ k1 =>
   have H := HA.out
   clear HA
   simp only [cmp_Or_int.l0] at H
   by_cases c2 : x8_1 < (l0.length : Int)
   ·rw [if_pos c2] at H
    have c2b0 : decide (x8_1 < (l0.length : Int)) = true := decide_eq_true c2
    clear c2
    by_cases c3 : 0 ≤ x8_1
    ·rw [if_pos c3] at H
     have c3b0 : decide (0 ≤ x8_1) = true := decide_eq_true c3
     clear c3
     by_cases c4 : x8_1 < (l0.length : Int)
     ·rw [if_pos c4] at H
      have c4b0 : decide (x8_1 < (l0.length : Int)) = true := decide_eq_true c4
      clear c4
      by_cases c5 : (rd l0 x8_1) = 0
      ·rw [if_pos c5] at H
       have c5b0 : ((rd l0 x8_1) == 0) = true := beq_iff_eq.mpr c5
       have c5b1 : ((rd l0 x8_1) != 0) = false := bne_eq_false_iff_eq.mpr c5
       clear c5
       have H' := Aside0.mk H
       clear H
       have p403 : 0 ≤ (x8_1 : Int) := of_decide_eq_true ‹_›
       have q403 : x8_1 < (l0.length : Int) := of_decide_eq_true ‹_›
       obtain ⟨ad403, e403, hx403_0⟩ := Kd.at_int HR0.out x8_1 p403 q403
       cases e403
       replace p403 := eq_true p403
       replace q403 := eq_true q403
       go_wp2
       go_roundg k1
       case measure => have := HK1.out; omega
       case rel => exact ⟨(wrap64 (x8_1 + 1)), zT, H', ⟨by have := HK1.out; omega⟩, by repeat (first | exact Drawn0.refl _ | apply Drawn0.step)⟩
      ·rw [if_neg c5] at H
       have c5b0 : ((rd l0 x8_1) == 0) = false := beq_eq_false_iff_ne.mpr c5
       have c5b1 : ((rd l0 x8_1) != 0) = true := bne_iff_ne.mpr c5
       obtain rfl := Option.some.inj H
       have p403 : 0 ≤ (x8_1 : Int) := of_decide_eq_true ‹_›
       have q403 : x8_1 < (l0.length : Int) := of_decide_eq_true ‹_›
       obtain ⟨ad403, e403, hx403_0⟩ := Kd.at_int HR0.out x8_1 p403 q403
       cases e403
       replace p403 := eq_true p403
       replace q403 := eq_true q403
       go_wp2
       go_ret
       exact ⟨zT, by repeat (first | exact Drawn0.refl _ | apply Drawn0.step)⟩
     ·rw [if_neg c4] at H
      exact absurd H (by simp)
    ·rw [if_neg c3] at H
     exact absurd H (by simp)
   ·rw [if_neg c2] at H
    have c2b0 : decide (x8_1 < (l0.length : Int)) = false := decide_eq_false c2
    clear c2
    obtain rfl := Option.some.inj H
    go_wp2
    go_ret
    exact ⟨zT, by repeat (first | exact Drawn0.refl _ | apply Drawn0.step)⟩
def graph_pair_compare.f (k : Nat) (a0_0 : Int) (a0_1 : Int) (a1_0 : Int) (a1_1 : Int) : Option (Int) := (cmp_Compare_int.f a0_0 a1_0).bind fun t406 => ((cmp_Compare_int.f a0_1 a1_1).bind fun t407 => ((cmp_Or_int.f k (([t406, t407] : List Int))).bind fun t411 => (some t411)))
theorem graph_pair_compare.mono : ∀ a0 a1 a2 a3 k, LeO (graph_pair_compare.f k a0 a1 a2 a3) (graph_pair_compare.f (k + 1) a0 a1 a2 a3) := by
 intro a0 a1 a2 a3 k
 unfold graph_pair_compare.f
 repeat' first
   | (with_reducible exact cmp_Or_int.mono _ _)
   | (with_reducible exact LeO.refl _)
   | (with_reducible exact LeO.none _)
   | (with_reducible refine LeO.ite ?_ ?_)
   | (with_reducible refine LeO.bind ?_ (fun _ => ?_))
   | exact cmp_Or_int.mono _ _
   | exact LeO.none _
   | refine LeO.ite ?_ ?_
   | refine LeO.bind ?_ (fun _ => ?_)
def graph_pair_compare.T1 : Bool × List (List Nat × List Nat) := (true, [([], []), ([0], [0]), ([], []), ([2], [2]), ([1, 3], [1, 3]), ([], []), ([5], [5]), ([], []), ([7], [7]), ([6, 8, 4], [6, 8]), ([4, 9], [4, 9]), ([10, 9], [10]), ([11, 11, 0, 1, 2, 3, 4, 5, 6, 7, 8, 9, 10, 11], [11])])
def graph_pair_compare.B1 : List Nat := [0, 1, 0, 4, 15, 0, 32, 0, 128, 511, 1023, 2047, 4095]
theorem graph_pair_compare.tab1 : rtab .any (opsOf Try.f120 1) = graph_pair_compare.T1 := by kernel_rfl
theorem graph_pair_compare.bits1 : waitsOk graph_pair_compare.T1.2 graph_pair_compare.B1 = true := by kernel_rfl
theorem graph_pair_compare.calls (k : Nat) (a0_0 : Int) (a0_1 : Int) (a1_0 : Int) (a1_1 : Int) (r : Int) (w : World) (h : graph_pair_compare.f k a0_0 a0_1 a1_0 a1_1 = some r) :
  Calls Try.prog 120 #[.agg #[.int .i64 a0_0, .int .i64 a0_1], .agg #[.int .i64 a1_0, .int .i64 a1_1]] w fun e w' => e = .returned (.int .i64 r) ∧ Below w.heap.size w w' := by
 have hu137 := Try.underlying137
 have HB := Aside0.mk (Below.refl w.heap.size w)
 have H : ((cmp_Compare_int.f a0_0 a1_0).bind fun t406 => ((cmp_Compare_int.f a0_1 a1_1).bind fun t407 => ((cmp_Or_int.f k (([t406, t407] : List Int))).bind fun t411 => (some t411)))) = some r := h
 clear h
 replace H := Option.bind_eq_some_iff.mp H
 obtain ⟨t406, A30, H⟩ := H
 replace H : ((cmp_Compare_int.f a0_1 a1_1).bind fun t407 => ((cmp_Or_int.f k (([t406, t407] : List Int))).bind fun t411 => (some t411))) = some r := H
 have A3 := Aside0.mk A30
 clear A30
 replace H := Option.bind_eq_some_iff.mp H
 obtain ⟨t407, A40, H⟩ := H
 replace H : ((cmp_Or_int.f k (([t406, t407] : List Int))).bind fun t411 => (some t411)) = some r := H
 have A4 := Aside0.mk A40
 clear A40
 obtain ⟨y408, hy408⟩ : ∃ y_ : List Int, y_ = (([t406, t407] : List Int)) := ⟨_, rfl⟩
 replace H : ((cmp_Or_int.f k y408).bind fun t411 => (some t411)) = some r := by first | (rw [hy408]; with_reducible exact H) | (have H2_ := (Option.bind_some _ _).symm.trans H; rw [hy408]; with_reducible exact H2_) | (have H2_ := (Option.bind_some _ _).symm.trans H; with_reducible exact H2_) | with_reducible exact H | (rw [hy408]; exact H) | exact H
 have Ny408 := Aside0.mk hy408
 clear hy408
 replace H := Option.bind_eq_some_iff.mp H
 obtain ⟨t411, A50, H⟩ := H
 replace H : (some t411) = some r := H
 have A5 := Aside0.mk A50
 clear A50
 obtain rfl := Option.some.inj H
 go_enter Try.func120, Try.ntmps120
 try go_wp2_with (first | ((with_reducible refine gate_dst (N := 2) rfl ?_); refine zX 2 #[.int .i64 a0_0, .int .i64 a0_1] 137 ?_; intro gb404 hg w6 hbox hb; have BK404 := Aside0.mk (hbox); have GW404 := zG HB hg; have GE404 := zG HB hg; replace HB := zS HB hb; clear hb hbox hg) | ((with_reducible refine gate_dst (N := 3) rfl ?_); refine zX 3 #[.int .i64 a1_0, .int .i64 a1_1] 137 ?_; intro gb405 hg w7 hbox hb; have BK405 := Aside0.mk (hbox); have GW405 := zG HB hg; have GE405 := zG HB hg; replace HB := zS HB hb; have NB404_405 := Aside0.mk ((by rw [hg]; exact Nat.ne_of_lt (blk_lt (g := gb404) (o := .cells #[.int .i64 a0_0, .int .i64 a0_1] 137 (0, 0)) (zK BK404)) : gb404 ≠ gb405)); have NB405_404 := Aside0.mk ((by rw [hg]; exact Nat.ne_of_gt (blk_lt (g := gb404) (o := .cells #[.int .i64 a0_0, .int .i64 a0_1] 137 (0, 0)) (zK BK404)) : gb405 ≠ gb404)); replace BK404 := zb BK404 hb; clear hb hbox hg))
 have n0_ := Aside0.mk (blk_drew BK404.out)
 have n1_ := Aside0.mk (blk_drew BK405.out)
 have n2_ := Aside0.mk (below_drew1 HB.out)
 clear BK404
 clear BK405
 clear HB
 have BK404 := n0_
 have BK405 := n1_
 have HB := n2_
 clear n0_ n1_ n2_
 refine start_ (n := 13) (S := fun w' => w'.cell? ⟨gb404, 0, none⟩ = some (.int .i64 a0_0) ∧ w'.cell? ⟨gb404, 1, none⟩ = some (.int .i64 a0_1) ∧ w'.cell? ⟨gb405, 0, none⟩ = some (.int .i64 a1_0) ∧ w'.cell? ⟨gb405, 1, none⟩ = some (.int .i64 a1_1)) (ds := []) #[false, false, false, false, false, false, false, false, false, false, false, false, false] (by kernel_rfl) rfl rfl ⟨(blk_cell BK404.out 0).trans rfl, (blk_cell BK404.out 1).trans rfl, (blk_cell BK405.out 0).trans rfl, (blk_cell BK405.out 1).trans rfl⟩ (fun hHeld => ?_); refine with_tabW graph_pair_compare.tab1 graph_pair_compare.bits1 (fun HT_ HW_ => ?_)
 generalize w7.drew = w8 at BK404 BK405 HB hHeld ⊢
 refine pure_ (i := 0) (N := some 5) (v := ?_) (a' := ?_) #[true, false, false, false, false, false, false, false, false, false, false, false, false] rfl rfl (any_of HT_.out (by kernel_rfl)) (fun _ _ _ h => h) (Or.inl ⟨by rfl, ?_⟩) ?_ ?_
 rotate_left
 ·intro w'
  go_simp
  with_reducible rfl
 rotate_left
 ·simp only [Act.put, List.setIfInBounds_toArray, List.set_cons_zero, List.set_cons_succ, i64_w, i32_w]
  rfl
 refine pure_ (i := 2) (N := some 7) (v := ?_) (a' := ?_) #[true, false, true, false, false, false, false, false, false, false, false, false, false] rfl rfl (any_of HT_.out (by kernel_rfl)) (fun _ _ _ h => h) (Or.inl ⟨by rfl, ?_⟩) ?_ ?_
 rotate_left
 ·intro w'
  go_simp
  with_reducible rfl
 rotate_left
 ·simp only [Act.put, List.setIfInBounds_toArray, List.set_cons_zero, List.set_cons_succ, i64_w, i32_w]
  rfl
 refine pure_ (i := 5) (N := some 10) (v := ?_) (a' := ?_) #[true, false, true, false, false, true, false, false, false, false, false, false, false] rfl rfl (any_of HT_.out (by kernel_rfl)) (fun _ _ _ h => h) (Or.inl ⟨by rfl, ?_⟩) ?_ ?_
 rotate_left
 ·intro w'
  go_simp
  with_reducible rfl
 rotate_left
 ·simp only [Act.put, List.setIfInBounds_toArray, List.set_cons_zero, List.set_cons_succ, i64_w, i32_w]
  rfl
 refine pure_ (i := 7) (N := some 12) (v := ?_) (a' := ?_) #[true, false, true, false, false, true, false, true, false, false, false, false, false] rfl rfl (any_of HT_.out (by kernel_rfl)) (fun _ _ _ h => h) (Or.inl ⟨by rfl, ?_⟩) ?_ ?_
 rotate_left
 ·intro w'
  go_simp
  with_reducible rfl
 rotate_left
 ·simp only [Act.put, List.setIfInBounds_toArray, List.set_cons_zero, List.set_cons_succ, i64_w, i32_w]
  rfl
 refine take_ (i := 1) (N := some 6) (v := ?_) (a' := ?_) #[true, true, true, false, false, true, false, true, false, false, false, false, false] rfl rfl (take_ofW HT_.out HW_.out (by kernel_rfl)) (fun _ _ _ h => h) (Or.inl ⟨by rfl, ?_⟩) hHeld ?_ ?_
 rotate_left
 ·rintro w' ⟨s0, s1, s2, s3⟩
  go_simp
  with_reducible rfl
 rotate_left
 ·simp only [Act.put, List.setIfInBounds_toArray, List.set_cons_zero, List.set_cons_succ, i64_w, i32_w]
  rfl
 refine take_ (i := 3) (N := some 8) (v := ?_) (a' := ?_) #[true, true, true, true, false, true, false, true, false, false, false, false, false] rfl rfl (take_ofW HT_.out HW_.out (by kernel_rfl)) (fun _ _ _ h => h) (Or.inl ⟨by rfl, ?_⟩) hHeld ?_ ?_
 rotate_left
 ·rintro w' ⟨s0, s1, s2, s3⟩
  go_simp
  with_reducible rfl
 rotate_left
 ·simp only [Act.put, List.setIfInBounds_toArray, List.set_cons_zero, List.set_cons_succ, i64_w, i32_w]
  rfl
 refine take_ (i := 6) (N := some 11) (v := ?_) (a' := ?_) #[true, true, true, true, false, true, true, true, false, false, false, false, false] rfl rfl (take_ofW HT_.out HW_.out (by kernel_rfl)) (fun _ _ _ h => h) (Or.inl ⟨by rfl, ?_⟩) hHeld ?_ ?_
 rotate_left
 ·rintro w' ⟨s0, s1, s2, s3⟩
  go_simp
  with_reducible rfl
 rotate_left
 ·simp only [Act.put, List.setIfInBounds_toArray, List.set_cons_zero, List.set_cons_succ, i64_w, i32_w]
  rfl
 refine take_ (i := 8) (N := some 13) (v := ?_) (a' := ?_) #[true, true, true, true, false, true, true, true, true, false, false, false, false] rfl rfl (take_ofW HT_.out HW_.out (by kernel_rfl)) (fun _ _ _ h => h) (Or.inl ⟨by rfl, ?_⟩) hHeld ?_ ?_
 rotate_left
 ·rintro w' ⟨s0, s1, s2, s3⟩
  go_simp
  with_reducible rfl
 rotate_left
 ·simp only [Act.put, List.setIfInBounds_toArray, List.set_cons_zero, List.set_cons_succ, i64_w, i32_w]
  rfl
 refine one_ (i := 4) (N := some 9) #[true, true, true, true, true, true, true, true, true, false, false, false, false] rfl rfl (one_of HT_.out (by kernel_rfl)) (by decide) (fun K hK => ?_)
 refine goes_ Try.func62 (by kernel_rfl) rfl #[.int .i64 a0_0, .int .i64 a1_0] (by rfl) rfl rfl (by (try simp only [List.map_toArray, List.map_cons, List.map_nil]); first | done | rfl | (simp only [List.length_drop, List.length_take]; rfl)) ?_
 with_reducible refine (cmp_Compare_int.calls a0_0 a1_0 t406 _ A3.out).mono ?_
 rintro e w' ⟨rfl, ⟨nd, rfl⟩⟩
 refine ⟨_, rfl, ?_⟩
 refine hK.out _ _ ⟨(blk_cell BK404.out 0).trans rfl, (blk_cell BK404.out 1).trans rfl, (blk_cell BK405.out 0).trans rfl, (blk_cell BK405.out 1).trans rfl⟩ (fun hHeld => ?_)
 clear hK K
 refine norm_ (a' := ?_) ?_ ?_
 rotate_left
 ·show Act.put _ (some 9) _ = _
  simp only [Act.put, List.setIfInBounds_toArray, List.set_cons_zero, List.set_cons_succ, i64_w, i32_w]
  rfl
 refine one_ (i := 9) (N := some 14) #[true, true, true, true, true, true, true, true, true, true, false, false, false] rfl rfl (one_of HT_.out (by kernel_rfl)) (by decide) (fun K hK => ?_)
 refine goes_ Try.func62 (by kernel_rfl) rfl #[.int .i64 a0_1, .int .i64 a1_1] (by rfl) rfl rfl (by (try simp only [List.map_toArray, List.map_cons, List.map_nil]); first | done | rfl | (simp only [List.length_drop, List.length_take]; rfl)) ?_
 with_reducible refine (cmp_Compare_int.calls a0_1 a1_1 t407 _ A4.out).mono ?_
 rintro e w' ⟨rfl, ⟨nd, rfl⟩⟩
 refine ⟨_, rfl, ?_⟩
 refine hK.out _ _ ⟨(blk_cell BK404.out 0).trans rfl, (blk_cell BK404.out 1).trans rfl, (blk_cell BK405.out 0).trans rfl, (blk_cell BK405.out 1).trans rfl⟩ (fun hHeld => ?_)
 clear hK K
 refine norm_ (a' := ?_) ?_ ?_
 rotate_left
 ·show Act.put _ (some 14) _ = _
  simp only [Act.put, List.setIfInBounds_toArray, List.set_cons_zero, List.set_cons_succ, i64_w, i32_w]
  rfl
 refine one_ (i := 10) (N := some 15) #[true, true, true, true, true, true, true, true, true, true, true, false, false] rfl rfl (one_of HT_.out (by kernel_rfl)) (by decide) (fun K hK => ?_)
 refine Kd.R_lit_step (Kd.int .i64) _ 3 ?hg (N := 15) ?hd (xs := ([t406, t407] : List Int)) (inner := [.int .i64 t406, .int .i64 t407]) (ok := fun _ => True) (okp := fun _ => True) ?hr ?hp (fun _ hk => hk) trivial (Below.refl _ _) (Nat.le_refl _) (by simp) ?_; (case hd => rfl); (case hg => rfl); (case hr => first | (go_simp; done) | (go_simp; rfl)); (case hp => exact (Reps.one (show Kd.M (Kd.int .i64) _ _ _ t406 [.int .i64 t406] from rfl) (Reps.one (show Kd.M (Kd.int .i64) _ _ _ t407 [.int .i64 t407] from rfl) (Reps.none _ _))))
 intro v409 w9 ho10 hb hg_ hnew_
 clear hg_ hnew_
 (first | rw [← Ny408.out] at ho10 | (simp only [Int.reduceToNat] at ho10; rw [← Ny408.out] at ho10))
 have n0_ := Aside0.mk (Kd.R_lower ho10 (below_size zB))
 have n1_ := zb BK404 hb
 have n2_ := zb BK405 hb
 have n3_ := zS HB hb
 clear BK404
 clear BK405
 clear HB
 have HO410 := n0_
 have BK404 := n1_
 have BK405 := n2_
 have HB := n3_
 clear n0_ n1_ n2_ n3_
 clear hb ho10
 obtain ⟨Ao11, co11, eo11⟩ := Kd.R_slice HO410.out
 (first | subst eo11 | (injection eo11 with f1_ f2_ f3_; have f4_ := f1_.symm; have f5_ := f3_.symm; clear f1_ f2_ f3_; subst f4_; subst f5_))
 refine hK.out _ _ ⟨(blk_cell BK404.out 0).trans rfl, (blk_cell BK404.out 1).trans rfl, (blk_cell BK405.out 0).trans rfl, (blk_cell BK405.out 1).trans rfl⟩ (fun hHeld => ?_)
 clear hK K
 refine norm_ (a' := ?_) ?_ ?_
 rotate_left
 ·show Act.put _ (some 15) _ = _
  simp only [Act.put, List.setIfInBounds_toArray, List.set_cons_zero, List.set_cons_succ, i64_w, i32_w]
  rfl
 refine one_ (i := 11) (N := some 16) #[true, true, true, true, true, true, true, true, true, true, true, true, false] rfl rfl (one_of HT_.out (by kernel_rfl)) (by decide) (fun K hK => ?_)
 refine goes_ Try.func125 (by kernel_rfl) rfl #[.slice Ao11 y408.length co11] (by rfl) rfl rfl (by (try simp only [List.map_toArray, List.map_cons, List.map_nil]); first | done | rfl | (simp only [List.length_drop, List.length_take]; rfl)) ?_
 with_reducible refine (cmp_Or_int.calls k _ _ y408 t411 _ ?side1 ?side2 A5.out).mono ?_
 (case side1 => exact zC (Kd.R_reads' HO410.out).2.2)
 (case side2 => exact (Kd.R_reads' HO410.out).2.1)
 rintro e w' ⟨rfl, ⟨nd, rfl⟩⟩
 refine ⟨_, rfl, ?_⟩
 refine hK.out _ _ ⟨(blk_cell BK404.out 0).trans rfl, (blk_cell BK404.out 1).trans rfl, (blk_cell BK405.out 0).trans rfl, (blk_cell BK405.out 1).trans rfl⟩ (fun hHeld => ?_)
 clear hK K
 refine norm_ (a' := ?_) ?_ ?_
 rotate_left
 ·show Act.put _ (some 16) _ = _
  simp only [Act.put, List.setIfInBounds_toArray, List.set_cons_zero, List.set_cons_succ, i64_w, i32_w]
  rfl
 refine pure_ (i := 12) (N := some 4) (v := ?_) (a' := ?_) #[true, true, true, true, true, true, true, true, true, true, true, true, true] rfl rfl (any_of HT_.out (by kernel_rfl)) (fun _ _ _ h => h) (Or.inl ⟨by rfl, ?_⟩) ?_ ?_
 rotate_left
 ·intro w'
  go_simp
  with_reducible rfl
 rotate_left
 ·simp only [Act.put, List.setIfInBounds_toArray, List.set_cons_zero, List.set_cons_succ, i64_w, i32_w]
  rfl
 refine done_ (done_of HT_.out (by kernel_rfl)) ?_
 try go_wp2
 go_ret
 exact ⟨zE, zB⟩
mutual
def graph_Check.j0 : Nat → Bool → Int → List (S66) → Option (Int)
 | 0, _, _, _ => none
 | k + 1, x14, x413000, x413001 => if x14 = true then (some 2) else (graph_Check.l0 k x413001 (x413001.length : Int) 0 x413000 x413001 (-1) (-1))
def graph_Check.l0 : Nat → List (S66) → Int → Int → Int → List (S66) → Int → Int → Option (Int)
 | 0, _, _, _, _, _, _, _ => none
 | k + 1, x17, x18, x19, x413000, x413001, x414000, x414001 => if x19 < x18 then (if 0 ≤ x19 then (if x19 < (x17.length : Int) then ((graph_vertex.f x413000 ((rd_T66 x17 x19).f0)).bind fun t417 => (if t417 = true then ((graph_vertex.f x413000 ((rd_T66 x17 x19).f1)).bind fun t418 => (if t418 = true then (if ((rd_T66 x17 x19).f2) < 1 then (graph_Check.j2 k x17 x18 x19 true x413000 x413001 x414000 x414001 ((rd_T66 x17 x19).f0) ((rd_T66 x17 x19).f1) ((rd_T66 x17 x19).f2) ((rd_T66 x17 x19).f0) ((rd_T66 x17 x19).f1)) else (graph_Check.j2 k x17 x18 x19 (decide (((rd_T66 x17 x19).f2) > 50)) x413000 x413001 x414000 x414001 ((rd_T66 x17 x19).f0) ((rd_T66 x17 x19).f1) ((rd_T66 x17 x19).f2) ((rd_T66 x17 x19).f0) ((rd_T66 x17 x19).f1))) else (graph_Check.j2 k x17 x18 x19 true x413000 x413001 x414000 x414001 ((rd_T66 x17 x19).f0) ((rd_T66 x17 x19).f1) ((rd_T66 x17 x19).f2) ((rd_T66 x17 x19).f0) ((rd_T66 x17 x19).f1)))) else (graph_Check.j2 k x17 x18 x19 true x413000 x413001 x414000 x414001 ((rd_T66 x17 x19).f0) ((rd_T66 x17 x19).f1) ((rd_T66 x17 x19).f2) ((rd_T66 x17 x19).f0) ((rd_T66 x17 x19).f1)))) else (none)) else (none)) else (some 0)
def graph_Check.j2 : Nat → List (S66) → Int → Int → Bool → Int → List (S66) → Int → Int → Int → Int → Int → Int → Int → Option (Int)
 | 0, _, _, _, _, _, _, _, _, _, _, _, _, _ => none
 | k + 1, x17, x18, x19, x28, x413000, x413001, x414000, x414001, x416000, x416001, x416002, x417000, x417001 => if x28 = true then (some 2) else (if x416000 > x416001 then (some 9) else ((graph_pair_compare.f k x414000 x414001 x417000 x417001).bind fun t419 => (if t419 ≥ 0 then (some 9) else (graph_Check.l0 k x17 x18 (wrap64 (x19 + 1)) x413000 x413001 x417000 x417001))))
end
def graph_Check.f (k : Nat) (a0_0 : Int) (l0_1 : List (S66)) : Option (Int) := if a0_0 < 1 then (graph_Check.j0 k true a0_0 l0_1) else (graph_Check.j0 k (decide (a0_0 > 12)) a0_0 l0_1)
theorem graph_Check.mono_l : ∀ k, (∀ y0 y1 y2, LeO (graph_Check.j0 k y0 y1 y2) (graph_Check.j0 (k + 1) y0 y1 y2)) ∧ (∀ y0 y1 y2 y3 y4 y5 y6, LeO (graph_Check.l0 k y0 y1 y2 y3 y4 y5 y6) (graph_Check.l0 (k + 1) y0 y1 y2 y3 y4 y5 y6)) ∧ (∀ y0 y1 y2 y3 y4 y5 y6 y7 y8 y9 y10 y11 y12, LeO (graph_Check.j2 k y0 y1 y2 y3 y4 y5 y6 y7 y8 y9 y10 y11 y12) (graph_Check.j2 (k + 1) y0 y1 y2 y3 y4 y5 y6 y7 y8 y9 y10 y11 y12))
 | 0 => ⟨fun _ _ _ r h => by simp [graph_Check.j0] at h, fun _ _ _ _ _ _ _ r h => by simp [graph_Check.l0] at h, fun _ _ _ _ _ _ _ _ _ _ _ _ _ r h => by simp [graph_Check.j2] at h⟩
 | k + 1 => by
  obtain ⟨ih0, ih1, ih2⟩ := graph_Check.mono_l k
  refine ⟨?_, ?_, ?_⟩
  ·intro y0 y1 y2
   unfold graph_Check.j0
   repeat' first
   | (with_reducible exact ih0 _ _ _)
   | (with_reducible exact ih1 _ _ _ _ _ _ _)
   | (with_reducible exact ih2 _ _ _ _ _ _ _ _ _ _ _ _ _)
   | (with_reducible exact graph_pair_compare.mono _ _ _ _ _)
   | (with_reducible exact LeO.refl _)
   | (with_reducible exact LeO.none _)
   | (with_reducible refine LeO.ite ?_ ?_)
   | (with_reducible refine LeO.bind ?_ (fun _ => ?_))
   | exact ih0 _ _ _
   | exact ih1 _ _ _ _ _ _ _
   | exact ih2 _ _ _ _ _ _ _ _ _ _ _ _ _
   | exact graph_pair_compare.mono _ _ _ _ _
   | exact LeO.none _
   | refine LeO.ite ?_ ?_
   | refine LeO.bind ?_ (fun _ => ?_)
  ·intro y0 y1 y2 y3 y4 y5 y6
   unfold graph_Check.l0
   repeat' first
   | (with_reducible exact ih0 _ _ _)
   | (with_reducible exact ih1 _ _ _ _ _ _ _)
   | (with_reducible exact ih2 _ _ _ _ _ _ _ _ _ _ _ _ _)
   | (with_reducible exact graph_pair_compare.mono _ _ _ _ _)
   | (with_reducible exact LeO.refl _)
   | (with_reducible exact LeO.none _)
   | (with_reducible refine LeO.ite ?_ ?_)
   | (with_reducible refine LeO.bind ?_ (fun _ => ?_))
   | exact ih0 _ _ _
   | exact ih1 _ _ _ _ _ _ _
   | exact ih2 _ _ _ _ _ _ _ _ _ _ _ _ _
   | exact graph_pair_compare.mono _ _ _ _ _
   | exact LeO.none _
   | refine LeO.ite ?_ ?_
   | refine LeO.bind ?_ (fun _ => ?_)
  ·intro y0 y1 y2 y3 y4 y5 y6 y7 y8 y9 y10 y11 y12
   unfold graph_Check.j2
   repeat' first
   | (with_reducible exact ih0 _ _ _)
   | (with_reducible exact ih1 _ _ _ _ _ _ _)
   | (with_reducible exact ih2 _ _ _ _ _ _ _ _ _ _ _ _ _)
   | (with_reducible exact graph_pair_compare.mono _ _ _ _ _)
   | (with_reducible exact LeO.refl _)
   | (with_reducible exact LeO.none _)
   | (with_reducible refine LeO.ite ?_ ?_)
   | (with_reducible refine LeO.bind ?_ (fun _ => ?_))
   | exact ih0 _ _ _
   | exact ih1 _ _ _ _ _ _ _
   | exact ih2 _ _ _ _ _ _ _ _ _ _ _ _ _
   | exact graph_pair_compare.mono _ _ _ _ _
   | exact LeO.none _
   | refine LeO.ite ?_ ?_
   | refine LeO.bind ?_ (fun _ => ?_)
theorem graph_Check.mono : ∀ a0 a1 k, LeO (graph_Check.f k a0 a1) (graph_Check.f (k + 1) a0 a1) := by
 intro a0 a1 k
 obtain ⟨ih0, ih1, ih2⟩ := graph_Check.mono_l k
 unfold graph_Check.f
 repeat' first
   | (with_reducible exact ih0 _ _ _)
   | (with_reducible exact ih1 _ _ _ _ _ _ _)
   | (with_reducible exact ih2 _ _ _ _ _ _ _ _ _ _ _ _ _)
   | (with_reducible exact graph_pair_compare.mono _ _ _ _ _)
   | (with_reducible exact LeO.refl _)
   | (with_reducible exact LeO.none _)
   | (with_reducible refine LeO.ite ?_ ?_)
   | (with_reducible refine LeO.bind ?_ (fun _ => ?_))
   | exact ih0 _ _ _
   | exact ih1 _ _ _ _ _ _ _
   | exact ih2 _ _ _ _ _ _ _ _ _ _ _ _ _
   | exact graph_pair_compare.mono _ _ _ _ _
   | exact LeO.none _
   | refine LeO.ite ?_ ?_
   | refine LeO.bind ?_ (fun _ => ?_)
theorem graph_Check.calls (k : Nat) (a0_0 : Int) (A0_1 : Option Addr) (c0_1 : Nat) (l0_1 : List (S66)) (r : Int) (w : World) (hr0_1 : Kd.C k66 w A0_1 l0_1.length l0_1) (hc0_1 : l0_1.length ≤ c0_1) (h : graph_Check.f k a0_0 l0_1 = some r) :
  Calls Try.prog 113 #[.agg #[.int .i64 a0_0, .slice A0_1 l0_1.length c0_1]] w fun e w' => e = .returned (.int .i64 r) ∧ Below w.heap.size w w' := by
 have hu24 := Try.underlying24
 have hu137 := Try.underlying137
 have hu66 := Try.underlying66
 have HR0_1 := Aside0.mk hr0_1
 have HC0_1 := Aside0.mk hc0_1
 clear hr0_1 hc0_1
 have HB := Aside0.mk (Below.refl w.heap.size w)
 have H : (if a0_0 < 1 then (graph_Check.j0 k true a0_0 l0_1) else (graph_Check.j0 k (decide (a0_0 > 12)) a0_0 l0_1)) = some r := h
 clear h
 have HC2 := Aside0.mk H
 clear H
 go_enter Try.func113, Try.ntmps113
 go_upto_region 1 with (first | ((with_reducible refine gate_dst (N := 1) rfl ?_); refine zX 1 #[.int .i64 a0_0, .slice A0_1 l0_1.length c0_1] 24 ?_; intro gb412 hg w3 hbox hb; have BK412 := Aside0.mk (hbox); have GW412 := zG HB hg; have GE412 := zG HB hg; replace HB := zS HB hb; clear hb hbox hg))
 (try simp only [Act.put, List.setIfInBounds_toArray, List.set_cons_zero, List.set_cons_succ])
 go_cut [14] (fun v14 wc => ∃ (kq : Nat) (x14_1 : Bool), v14 = .bool x14_1 ∧ Aside0 (graph_Check.j0 kq x14_1 a0_0 l0_1 = some r) ∧ Aside0 (kq ≤ k) ∧ Aside0 (wc.heap[gb412]? = some (.cells #[.int .i64 a0_0, (.slice A0_1 l0_1.length c0_1)] 24 (0, 0))) ∧ Aside0 (Below w.heap.size w wc))
 case first =>
  have H := HC2.out
  clear HC2
  by_cases c4 : a0_0 < 1
  ·rw [if_pos c4] at H
   have c4b0 : decide (a0_0 < 1) = true := decide_eq_true c4
   clear c4
   (first | rw [c4b0] | (simp only [i64_w, i32_w]; rw [c4b0]) | skip)
   have H' := Aside0.mk H
   clear H
   obtain ⟨hcz5_0, hcz5_1, hfz5_0, hfz5_1⟩ := zD2 BK412
   go_wp2
   go_meet
   case rel => exact ⟨_, (true), zT, H', ⟨by first | omega | exact Nat.le_refl _⟩, ⟨zK BK412⟩, ⟨zB⟩⟩
  ·rw [if_neg c4] at H
   have c4b0 : decide (a0_0 < 1) = false := decide_eq_false c4
   clear c4
   (first | rw [c4b0] | (simp only [i64_w, i32_w]; rw [c4b0]) | skip)
   have H' := Aside0.mk H
   clear H
   obtain ⟨hcz6_0, hcz6_1, hfz6_0, hfz6_1⟩ := zD2 BK412
   go_wp2
   go_meet
   case rel => exact ⟨_, (decide (a0_0 > 12)), zT, H', ⟨by first | omega | exact Nat.le_refl _⟩, ⟨zK BK412⟩, ⟨zB⟩⟩
 case rest =>
  clear HC2
  try clear c1
  try clear p2
  try clear c4
  try clear c4b0
  try clear hcz5_0
  try clear hcz5_1
  try clear hcz6_0
  try clear hcz6_1
  try clear hfz5_0
  try clear hfz5_1
  try clear hfz6_0
  try clear hfz6_1
  obtain ⟨kq, x14_1, rfl, HA, HJ1, BK412, HB⟩ := hcut
  cases kq with
  | zero => exact absurd HA.out (by simp [graph_Check.j0])
  | succ kj1 =>
   have H := HA.out
   clear HA
   simp only [graph_Check.j0] at H
   by_cases c7 : x14_1 = true
   ·subst c7
    have H1 : (some 2) = some r := by rw [if_pos rfl] at H; exact H
    clear H
    have H := H1
    clear H1
    obtain rfl := Option.some.inj H
    go_wp2
    go_ret
    exact ⟨zE, zB⟩
   ·replace c7 := Bool.eq_false_iff.mpr c7
    subst c7
    have H1 : (graph_Check.l0 kj1 l0_1 (l0_1.length : Int) 0 a0_0 l0_1 (-1) (-1)) = some r := by rw [if_neg (show ¬ (false = true) by decide)] at H; exact H
    clear H
    have H := H1
    clear H1
    have H' := Aside0.mk H
    clear H
    go_wp2_with (first | ((with_reducible refine gate_dst (N := 3) rfl ?_); refine zX 3 #[.int .i64 0, .int .i64 0] 137 ?_; intro gb413 hg w8 hbox hb; have BK413 := Aside0.mk (hbox); have GW413 := zG HB hg; have GE413 := zG HB hg; replace HB := zS HB hb; have NB412_413 := Aside0.mk ((by rw [hg]; exact Nat.ne_of_lt (blk_lt (g := gb412) (o := .cells #[.int .i64 a0_0, .slice A0_1 l0_1.length c0_1] 24 (0, 0)) (zK BK412)) : gb412 ≠ gb413)); have NB413_412 := Aside0.mk ((by rw [hg]; exact Nat.ne_of_gt (blk_lt (g := gb412) (o := .cells #[.int .i64 a0_0, .slice A0_1 l0_1.length c0_1] 24 (0, 0)) (zK BK412)) : gb413 ≠ gb412)); replace BK412 := zb BK412 hb; clear hb hbox hg; have hnb9 := NB413_412.out; have hnc9 := NB412_413.out; obtain ⟨hcz10_0, hcz10_1, hfz10_0, hfz10_1⟩ := zD2 BK413; obtain ⟨hcz11_0, hcz11_1, hfz11_0, hfz11_1⟩ := zD2 BK412))
    go_loopg [19] kj1 (fun kq v19 w' => ∃ (x19_2 : Int) (x414000_2 : Int) (x414001_2 : Int), v19 = .int .i64 x19_2 ∧ Aside0 (graph_Check.l0 kq l0_1 (l0_1.length : Int) x19_2 a0_0 l0_1 x414000_2 x414001_2 = some r) ∧ Aside0 (kq ≤ kj1) ∧ Aside0 (w'.heap[gb412]? = some (.cells #[.int .i64 a0_0, (.slice A0_1 l0_1.length c0_1)] 24 (0, 0))) ∧ Aside0 (w'.heap[gb413]? = some (.cells #[.int .i64 x414000_2, .int .i64 x414001_2] 137 (0, 0))) ∧ Aside0 (Below w.heap.size w w'))
    case atStart => exact ⟨(0), ((-1)), ((-1)), zT, H', ⟨Nat.le_refl _⟩, ⟨by refine zk ?_; refine blk_far ?_ NB412_413.out _; refine zk ?_; refine blk_far ?_ NB412_413.out _; exact zK BK412⟩, ⟨by refine zk ?_; refine blk_put (cs := #[.int .i64 (-1), .int .i64 0]) ?_ 1 _ rfl; refine zk ?_; refine blk_put (cs := #[.int .i64 0, .int .i64 0]) ?_ 0 _ rfl; exact zK BK413⟩, ⟨zB⟩⟩
    case round =>
     clear H'
     try clear c1
     try clear p2
     try clear c4
     try clear c4b0
     try clear c7
     try clear c9
     try clear c11
     try clear hcz10_0
     try clear hcz10_1
     try clear hcz11_0
     try clear hcz11_1
     try clear hcz5_0
     try clear hcz5_1
     try clear hcz6_0
     try clear hcz6_1
     try clear hfz10_0
     try clear hfz10_1
     try clear hfz11_0
     try clear hfz11_1
     try clear hfz5_0
     try clear hfz5_1
     try clear hfz6_0
     try clear hfz6_1
     try clear p2
     obtain ⟨x19_2, x414000_2, x414001_2, rfl, HA, HK2, BK412, BK413, HB⟩ := hrel
     cases gk with
     | zero => exact absurd HA.out (by simp [graph_Check.l0])
     | succ k2 =>
      have H := HA.out
      clear HA
      simp only [graph_Check.l0] at H
      by_cases c12 : x19_2 < (l0_1.length : Int)
      ·rw [if_pos c12] at H
       have c12b0 : decide (x19_2 < (l0_1.length : Int)) = true := decide_eq_true c12
       clear c12
       by_cases c13 : 0 ≤ x19_2
       ·rw [if_pos c13] at H
        have c13b0 : decide (0 ≤ x19_2) = true := decide_eq_true c13
        clear c13
        by_cases c14 : x19_2 < (l0_1.length : Int)
        ·rw [if_pos c14] at H
         have c14b0 : decide (x19_2 < (l0_1.length : Int)) = true := decide_eq_true c14
         clear c14
         have HC15 := Aside0.mk H
         clear H
         have p414 : 0 ≤ (x19_2 : Int) := of_decide_eq_true ‹_›
         have q414 : x19_2 < (l0_1.length : Int) := of_decide_eq_true ‹_›
         obtain ⟨ad414, e414, hx414_0, hx414_1, hx414_2⟩ := at_T66 HR0_1.out x19_2 p414 q414
         cases e414
         replace hx414_0 := (HB.out.cell (World.block_lt_of_cell? w _ hx414_0)).trans hx414_0
         replace hx414_1 := (HB.out.cell (World.block_lt_of_cell? w _ hx414_1)).trans hx414_1
         replace hx414_2 := (HB.out.cell (World.block_lt_of_cell? w _ hx414_2)).trans hx414_2
         replace p414 := eq_true p414
         replace q414 := eq_true q414
         go_upto_region 8 with (first | ((with_reducible refine gate_dst (N := 5) rfl ?_); refine zX 5 #[.int .i64 0, .int .i64 0, .int .i64 0] 66 ?_; intro gb415 hg w16 hbox hb; have BK415 := Aside0.mk (hbox); have GW415 := zG HB hg; have GE415 := zG HB hg; replace HB := zS HB hb; have NB412_415 := Aside0.mk ((by rw [hg]; exact Nat.ne_of_lt (blk_lt (g := gb412) (o := .cells #[.int .i64 a0_0, .slice (some ad414) l0_1.length c0_1] 24 (0, 0)) (zK BK412)) : gb412 ≠ gb415)); have NB415_412 := Aside0.mk ((by rw [hg]; exact Nat.ne_of_gt (blk_lt (g := gb412) (o := .cells #[.int .i64 a0_0, .slice (some ad414) l0_1.length c0_1] 24 (0, 0)) (zK BK412)) : gb415 ≠ gb412)); replace BK412 := zb BK412 hb; have NB413_415 := Aside0.mk ((by rw [hg]; exact Nat.ne_of_lt (blk_lt (g := gb413) (o := .cells #[.int .i64 x414000_2, .int .i64 x414001_2] 137 (0, 0)) (zK BK413)) : gb413 ≠ gb415)); have NB415_413 := Aside0.mk ((by rw [hg]; exact Nat.ne_of_gt (blk_lt (g := gb413) (o := .cells #[.int .i64 x414000_2, .int .i64 x414001_2] 137 (0, 0)) (zK BK413)) : gb415 ≠ gb413)); replace BK413 := zb BK413 hb; clear hb hbox hg; have hnb17 := NB415_412.out; have hnc17 := NB412_415.out; have hnb18 := NB415_413.out; have hnc18 := NB413_415.out; obtain ⟨hcz19_0, hcz19_1, hcz19_2, hfz19_0, hfz19_1, hfz19_2⟩ := zD3 BK415) | ((with_reducible refine gate_dst (N := 6) rfl ?_); refine zX 6 #[.int .i64 0, .int .i64 0] 137 ?_; intro gb416 hg w20 hbox hb; have BK416 := Aside0.mk (hbox); have GW416 := zG HB hg; have GE416 := zG HB hg; replace HB := zS HB hb; have NB412_416 := Aside0.mk ((by rw [hg]; exact Nat.ne_of_lt (blk_lt (g := gb412) (o := .cells #[.int .i64 a0_0, .slice (some ad414) l0_1.length c0_1] 24 (0, 0)) (by refine zk ?_; refine blk_far ?_ NB412_415.out _; refine zk ?_; refine blk_far ?_ NB412_415.out _; refine zk ?_; refine blk_far ?_ NB412_415.out _; exact zK BK412)) : gb412 ≠ gb416)); have NB416_412 := Aside0.mk ((by rw [hg]; exact Nat.ne_of_gt (blk_lt (g := gb412) (o := .cells #[.int .i64 a0_0, .slice (some ad414) l0_1.length c0_1] 24 (0, 0)) (by refine zk ?_; refine blk_far ?_ NB412_415.out _; refine zk ?_; refine blk_far ?_ NB412_415.out _; refine zk ?_; refine blk_far ?_ NB412_415.out _; exact zK BK412)) : gb416 ≠ gb412)); replace BK412 := Aside0.mk (blk_below (g := gb412) (o := .cells #[.int .i64 a0_0, .slice (some ad414) l0_1.length c0_1] 24 (0, 0)) (by refine zk ?_; refine blk_far ?_ NB412_415.out _; refine zk ?_; refine blk_far ?_ NB412_415.out _; refine zk ?_; refine blk_far ?_ NB412_415.out _; exact zK BK412) hb); have NB413_416 := Aside0.mk ((by rw [hg]; exact Nat.ne_of_lt (blk_lt (g := gb413) (o := .cells #[.int .i64 x414000_2, .int .i64 x414001_2] 137 (0, 0)) (by refine zk ?_; refine blk_far ?_ NB413_415.out _; refine zk ?_; refine blk_far ?_ NB413_415.out _; refine zk ?_; refine blk_far ?_ NB413_415.out _; exact zK BK413)) : gb413 ≠ gb416)); have NB416_413 := Aside0.mk ((by rw [hg]; exact Nat.ne_of_gt (blk_lt (g := gb413) (o := .cells #[.int .i64 x414000_2, .int .i64 x414001_2] 137 (0, 0)) (by refine zk ?_; refine blk_far ?_ NB413_415.out _; refine zk ?_; refine blk_far ?_ NB413_415.out _; refine zk ?_; refine blk_far ?_ NB413_415.out _; exact zK BK413)) : gb416 ≠ gb413)); replace BK413 := Aside0.mk (blk_below (g := gb413) (o := .cells #[.int .i64 x414000_2, .int .i64 x414001_2] 137 (0, 0)) (by refine zk ?_; refine blk_far ?_ NB413_415.out _; refine zk ?_; refine blk_far ?_ NB413_415.out _; refine zk ?_; refine blk_far ?_ NB413_415.out _; exact zK BK413) hb); have NB415_416 := Aside0.mk ((by rw [hg]; exact Nat.ne_of_lt (blk_lt (g := gb415) (o := .cells #[.int .i64 ((rd_T66 l0_1 x19_2).f0), .int .i64 ((rd_T66 l0_1 x19_2).f1), .int .i64 ((rd_T66 l0_1 x19_2).f2)] 66 (0, 0)) (by refine zk ?_; refine blk_put (cs := #[.int .i64 ((rd_T66 l0_1 x19_2).f0), .int .i64 ((rd_T66 l0_1 x19_2).f1), .int .i64 0]) ?_ 2 _ rfl; refine zk ?_; refine blk_put (cs := #[.int .i64 ((rd_T66 l0_1 x19_2).f0), .int .i64 0, .int .i64 0]) ?_ 1 _ rfl; refine zk ?_; refine blk_put (cs := #[.int .i64 0, .int .i64 0, .int .i64 0]) ?_ 0 _ rfl; exact zK BK415)) : gb415 ≠ gb416)); have NB416_415 := Aside0.mk ((by rw [hg]; exact Nat.ne_of_gt (blk_lt (g := gb415) (o := .cells #[.int .i64 ((rd_T66 l0_1 x19_2).f0), .int .i64 ((rd_T66 l0_1 x19_2).f1), .int .i64 ((rd_T66 l0_1 x19_2).f2)] 66 (0, 0)) (by refine zk ?_; refine blk_put (cs := #[.int .i64 ((rd_T66 l0_1 x19_2).f0), .int .i64 ((rd_T66 l0_1 x19_2).f1), .int .i64 0]) ?_ 2 _ rfl; refine zk ?_; refine blk_put (cs := #[.int .i64 ((rd_T66 l0_1 x19_2).f0), .int .i64 0, .int .i64 0]) ?_ 1 _ rfl; refine zk ?_; refine blk_put (cs := #[.int .i64 0, .int .i64 0, .int .i64 0]) ?_ 0 _ rfl; exact zK BK415)) : gb416 ≠ gb415)); replace BK415 := Aside0.mk (blk_below (g := gb415) (o := .cells #[.int .i64 ((rd_T66 l0_1 x19_2).f0), .int .i64 ((rd_T66 l0_1 x19_2).f1), .int .i64 ((rd_T66 l0_1 x19_2).f2)] 66 (0, 0)) (by refine zk ?_; refine blk_put (cs := #[.int .i64 ((rd_T66 l0_1 x19_2).f0), .int .i64 ((rd_T66 l0_1 x19_2).f1), .int .i64 0]) ?_ 2 _ rfl; refine zk ?_; refine blk_put (cs := #[.int .i64 ((rd_T66 l0_1 x19_2).f0), .int .i64 0, .int .i64 0]) ?_ 1 _ rfl; refine zk ?_; refine blk_put (cs := #[.int .i64 0, .int .i64 0, .int .i64 0]) ?_ 0 _ rfl; exact zK BK415) hb); clear hb hbox hg; have hnb21 := NB416_412.out; have hnc21 := NB412_416.out; have hnb22 := NB416_413.out; have hnc22 := NB413_416.out; have hnb23 := NB416_415.out; have hnc23 := NB415_416.out; obtain ⟨hcz24_0, hcz24_1, hfz24_0, hfz24_1⟩ := zD2 BK416))
         (try simp only [Act.put, List.setIfInBounds_toArray, List.set_cons_zero, List.set_cons_succ])
         go_cut [28] (fun v28 wc => ∃ (kq : Nat) (x28_14 : Bool), v28 = .bool x28_14 ∧ Aside0 (graph_Check.j2 kq l0_1 (l0_1.length : Int) x19_2 x28_14 a0_0 l0_1 x414000_2 x414001_2 ((rd_T66 l0_1 x19_2).f0) ((rd_T66 l0_1 x19_2).f1) ((rd_T66 l0_1 x19_2).f2) ((rd_T66 l0_1 x19_2).f0) ((rd_T66 l0_1 x19_2).f1) = some r) ∧ Aside0 (kq ≤ k2) ∧ Aside0 (wc.heap[gb412]? = some (.cells #[.int .i64 a0_0, (.slice (some ad414) l0_1.length c0_1)] 24 (0, 0))) ∧ Aside0 (wc.heap[gb413]? = some (.cells #[.int .i64 x414000_2, .int .i64 x414001_2] 137 (0, 0))) ∧ Aside0 (wc.heap[gb415]? = some (.cells #[.int .i64 ((rd_T66 l0_1 x19_2).f0), .int .i64 ((rd_T66 l0_1 x19_2).f1), .int .i64 ((rd_T66 l0_1 x19_2).f2)] 66 (0, 0))) ∧ Aside0 (wc.heap[gb416]? = some (.cells #[.int .i64 ((rd_T66 l0_1 x19_2).f0), .int .i64 ((rd_T66 l0_1 x19_2).f1)] 137 (0, 0))) ∧ Aside0 (Below w.heap.size w wc))
         case first =>
          have H := HC15.out
          clear HC15
          replace H := Option.bind_eq_some_iff.mp H
          obtain ⟨t417, A250, H⟩ := H
          replace H : (if t417 = true then ((graph_vertex.f a0_0 ((rd_T66 l0_1 x19_2).f1)).bind fun t418 => (if t418 = true then (if ((rd_T66 l0_1 x19_2).f2) < 1 then (graph_Check.j2 k2 l0_1 (l0_1.length : Int) x19_2 true a0_0 l0_1 x414000_2 x414001_2 ((rd_T66 l0_1 x19_2).f0) ((rd_T66 l0_1 x19_2).f1) ((rd_T66 l0_1 x19_2).f2) ((rd_T66 l0_1 x19_2).f0) ((rd_T66 l0_1 x19_2).f1)) else (graph_Check.j2 k2 l0_1 (l0_1.length : Int) x19_2 (decide (((rd_T66 l0_1 x19_2).f2) > 50)) a0_0 l0_1 x414000_2 x414001_2 ((rd_T66 l0_1 x19_2).f0) ((rd_T66 l0_1 x19_2).f1) ((rd_T66 l0_1 x19_2).f2) ((rd_T66 l0_1 x19_2).f0) ((rd_T66 l0_1 x19_2).f1))) else (graph_Check.j2 k2 l0_1 (l0_1.length : Int) x19_2 true a0_0 l0_1 x414000_2 x414001_2 ((rd_T66 l0_1 x19_2).f0) ((rd_T66 l0_1 x19_2).f1) ((rd_T66 l0_1 x19_2).f2) ((rd_T66 l0_1 x19_2).f0) ((rd_T66 l0_1 x19_2).f1)))) else (graph_Check.j2 k2 l0_1 (l0_1.length : Int) x19_2 true a0_0 l0_1 x414000_2 x414001_2 ((rd_T66 l0_1 x19_2).f0) ((rd_T66 l0_1 x19_2).f1) ((rd_T66 l0_1 x19_2).f2) ((rd_T66 l0_1 x19_2).f0) ((rd_T66 l0_1 x19_2).f1))) = some r := H
          have A25 := Aside0.mk A250
          clear A250
          by_cases c26 : t417 = true
          ·subst c26
           have H1 : ((graph_vertex.f a0_0 ((rd_T66 l0_1 x19_2).f1)).bind fun t418 => (if t418 = true then (if ((rd_T66 l0_1 x19_2).f2) < 1 then (graph_Check.j2 k2 l0_1 (l0_1.length : Int) x19_2 true a0_0 l0_1 x414000_2 x414001_2 ((rd_T66 l0_1 x19_2).f0) ((rd_T66 l0_1 x19_2).f1) ((rd_T66 l0_1 x19_2).f2) ((rd_T66 l0_1 x19_2).f0) ((rd_T66 l0_1 x19_2).f1)) else (graph_Check.j2 k2 l0_1 (l0_1.length : Int) x19_2 (decide (((rd_T66 l0_1 x19_2).f2) > 50)) a0_0 l0_1 x414000_2 x414001_2 ((rd_T66 l0_1 x19_2).f0) ((rd_T66 l0_1 x19_2).f1) ((rd_T66 l0_1 x19_2).f2) ((rd_T66 l0_1 x19_2).f0) ((rd_T66 l0_1 x19_2).f1))) else (graph_Check.j2 k2 l0_1 (l0_1.length : Int) x19_2 true a0_0 l0_1 x414000_2 x414001_2 ((rd_T66 l0_1 x19_2).f0) ((rd_T66 l0_1 x19_2).f1) ((rd_T66 l0_1 x19_2).f2) ((rd_T66 l0_1 x19_2).f0) ((rd_T66 l0_1 x19_2).f1)))) = some r := by rw [if_pos rfl] at H; exact H
           clear H
           have H := H1
           clear H1
           replace H := Option.bind_eq_some_iff.mp H
           obtain ⟨t418, A270, H⟩ := H
           replace H : (if t418 = true then (if ((rd_T66 l0_1 x19_2).f2) < 1 then (graph_Check.j2 k2 l0_1 (l0_1.length : Int) x19_2 true a0_0 l0_1 x414000_2 x414001_2 ((rd_T66 l0_1 x19_2).f0) ((rd_T66 l0_1 x19_2).f1) ((rd_T66 l0_1 x19_2).f2) ((rd_T66 l0_1 x19_2).f0) ((rd_T66 l0_1 x19_2).f1)) else (graph_Check.j2 k2 l0_1 (l0_1.length : Int) x19_2 (decide (((rd_T66 l0_1 x19_2).f2) > 50)) a0_0 l0_1 x414000_2 x414001_2 ((rd_T66 l0_1 x19_2).f0) ((rd_T66 l0_1 x19_2).f1) ((rd_T66 l0_1 x19_2).f2) ((rd_T66 l0_1 x19_2).f0) ((rd_T66 l0_1 x19_2).f1))) else (graph_Check.j2 k2 l0_1 (l0_1.length : Int) x19_2 true a0_0 l0_1 x414000_2 x414001_2 ((rd_T66 l0_1 x19_2).f0) ((rd_T66 l0_1 x19_2).f1) ((rd_T66 l0_1 x19_2).f2) ((rd_T66 l0_1 x19_2).f0) ((rd_T66 l0_1 x19_2).f1))) = some r := H
           have A27 := Aside0.mk A270
           clear A270
           by_cases c28 : t418 = true
           ·subst c28
            have H1 : (if ((rd_T66 l0_1 x19_2).f2) < 1 then (graph_Check.j2 k2 l0_1 (l0_1.length : Int) x19_2 true a0_0 l0_1 x414000_2 x414001_2 ((rd_T66 l0_1 x19_2).f0) ((rd_T66 l0_1 x19_2).f1) ((rd_T66 l0_1 x19_2).f2) ((rd_T66 l0_1 x19_2).f0) ((rd_T66 l0_1 x19_2).f1)) else (graph_Check.j2 k2 l0_1 (l0_1.length : Int) x19_2 (decide (((rd_T66 l0_1 x19_2).f2) > 50)) a0_0 l0_1 x414000_2 x414001_2 ((rd_T66 l0_1 x19_2).f0) ((rd_T66 l0_1 x19_2).f1) ((rd_T66 l0_1 x19_2).f2) ((rd_T66 l0_1 x19_2).f0) ((rd_T66 l0_1 x19_2).f1))) = some r := by rw [if_pos rfl] at H; exact H
            clear H
            have H := H1
            clear H1
            by_cases c29 : ((rd_T66 l0_1 x19_2).f2) < 1
            ·rw [if_pos c29] at H
             have c29b0 : decide (((rd_T66 l0_1 x19_2).f2) < 1) = true := decide_eq_true c29
             clear c29
             (first | rw [c29b0] | (simp only [i64_w, i32_w]; rw [c29b0]) | skip)
             have H' := Aside0.mk H
             clear H
             have hnb30 := NB412_413.out
             have hnc30 := NB413_412.out
             have hnb31 := NB412_415.out
             have hnc31 := NB415_412.out
             have hnb32 := NB412_416.out
             have hnc32 := NB416_412.out
             obtain ⟨hcz33_0, hcz33_1, hfz33_0, hfz33_1⟩ := zD2 BK412
             have hnb34 := NB415_413.out
             have hnc34 := NB413_415.out
             have hnb35 := NB415_416.out
             have hnc35 := NB416_415.out
             obtain ⟨hcz36_0, hcz36_1, hcz36_2, hfz36_0, hfz36_1, hfz36_2⟩ := zD3 BK415
             go_wp2_with (first | ((with_reducible refine gate_callee (f := 119) rfl ?_); refine zL (some 33) Try.func119 #[.int .i64 a0_0, .int .i64 ((rd_T66 l0_1 x19_2).f0)] ?_; (with_reducible refine (graph_vertex.calls a0_0 ((rd_T66 l0_1 x19_2).f0) true _ A25.out).mono ?_); rintro e w' ⟨rfl, ⟨nd, rfl⟩⟩; refine ⟨_, rfl, ?_⟩) | (go_at_call 119; (with_reducible refine (graph_vertex.calls a0_0 ((rd_T66 l0_1 x19_2).f1) true _ A27.out).mono ?_); rintro e w' ⟨rfl, ⟨nd, rfl⟩⟩))
             go_meet
             case rel => exact ⟨_, (true), zT, H', ⟨by have := HJ1.out; have := HK2.out; first | omega | exact Nat.le_refl _⟩, ⟨by refine zk ?_; refine blk_far ?_ NB412_416.out _; refine zk ?_; refine blk_far ?_ NB412_416.out _; exact zK BK412⟩, ⟨by refine zk ?_; refine blk_far ?_ NB413_416.out _; refine zk ?_; refine blk_far ?_ NB413_416.out _; exact zK BK413⟩, ⟨by refine zk ?_; refine blk_far ?_ NB415_416.out _; refine zk ?_; refine blk_far ?_ NB415_416.out _; exact zK BK415⟩, ⟨by refine zk ?_; refine blk_put (cs := #[.int .i64 ((rd_T66 l0_1 x19_2).f0), .int .i64 0]) ?_ 1 _ rfl; refine zk ?_; refine blk_put (cs := #[.int .i64 0, .int .i64 0]) ?_ 0 _ rfl; exact zK BK416⟩, ⟨zB⟩⟩
            ·rw [if_neg c29] at H
             have c29b0 : decide (((rd_T66 l0_1 x19_2).f2) < 1) = false := decide_eq_false c29
             clear c29
             (first | rw [c29b0] | (simp only [i64_w, i32_w]; rw [c29b0]) | skip)
             have H' := Aside0.mk H
             clear H
             have hnb37 := NB412_413.out
             have hnc37 := NB413_412.out
             have hnb38 := NB412_415.out
             have hnc38 := NB415_412.out
             have hnb39 := NB412_416.out
             have hnc39 := NB416_412.out
             obtain ⟨hcz40_0, hcz40_1, hfz40_0, hfz40_1⟩ := zD2 BK412
             have hnb41 := NB415_413.out
             have hnc41 := NB413_415.out
             have hnb42 := NB415_416.out
             have hnc42 := NB416_415.out
             obtain ⟨hcz43_0, hcz43_1, hcz43_2, hfz43_0, hfz43_1, hfz43_2⟩ := zD3 BK415
             go_wp2_with (first | ((with_reducible refine gate_callee (f := 119) rfl ?_); refine zL (some 33) Try.func119 #[.int .i64 a0_0, .int .i64 ((rd_T66 l0_1 x19_2).f0)] ?_; (with_reducible refine (graph_vertex.calls a0_0 ((rd_T66 l0_1 x19_2).f0) true _ A25.out).mono ?_); rintro e w' ⟨rfl, ⟨nd, rfl⟩⟩; refine ⟨_, rfl, ?_⟩) | (go_at_call 119; (with_reducible refine (graph_vertex.calls a0_0 ((rd_T66 l0_1 x19_2).f1) true _ A27.out).mono ?_); rintro e w' ⟨rfl, ⟨nd, rfl⟩⟩))
             go_meet
             case rel => exact ⟨_, (decide (((rd_T66 l0_1 x19_2).f2) > 50)), zT, H', ⟨by have := HJ1.out; have := HK2.out; first | omega | exact Nat.le_refl _⟩, ⟨by refine zk ?_; refine blk_far ?_ NB412_416.out _; refine zk ?_; refine blk_far ?_ NB412_416.out _; exact zK BK412⟩, ⟨by refine zk ?_; refine blk_far ?_ NB413_416.out _; refine zk ?_; refine blk_far ?_ NB413_416.out _; exact zK BK413⟩, ⟨by refine zk ?_; refine blk_far ?_ NB415_416.out _; refine zk ?_; refine blk_far ?_ NB415_416.out _; exact zK BK415⟩, ⟨by refine zk ?_; refine blk_put (cs := #[.int .i64 ((rd_T66 l0_1 x19_2).f0), .int .i64 0]) ?_ 1 _ rfl; refine zk ?_; refine blk_put (cs := #[.int .i64 0, .int .i64 0]) ?_ 0 _ rfl; exact zK BK416⟩, ⟨zB⟩⟩
           ·replace c28 := Bool.eq_false_iff.mpr c28
            subst c28
            have H1 : (graph_Check.j2 k2 l0_1 (l0_1.length : Int) x19_2 true a0_0 l0_1 x414000_2 x414001_2 ((rd_T66 l0_1 x19_2).f0) ((rd_T66 l0_1 x19_2).f1) ((rd_T66 l0_1 x19_2).f2) ((rd_T66 l0_1 x19_2).f0) ((rd_T66 l0_1 x19_2).f1)) = some r := by rw [if_neg (show ¬ (false = true) by decide)] at H; exact H
            clear H
            have H := H1
            clear H1
            have H' := Aside0.mk H
            clear H
            have hnb44 := NB412_413.out
            have hnc44 := NB413_412.out
            have hnb45 := NB412_415.out
            have hnc45 := NB415_412.out
            have hnb46 := NB412_416.out
            have hnc46 := NB416_412.out
            obtain ⟨hcz47_0, hcz47_1, hfz47_0, hfz47_1⟩ := zD2 BK412
            have hnb48 := NB415_413.out
            have hnc48 := NB413_415.out
            have hnb49 := NB415_416.out
            have hnc49 := NB416_415.out
            obtain ⟨hcz50_0, hcz50_1, hcz50_2, hfz50_0, hfz50_1, hfz50_2⟩ := zD3 BK415
            go_wp2_with (first | ((with_reducible refine gate_callee (f := 119) rfl ?_); refine zL (some 33) Try.func119 #[.int .i64 a0_0, .int .i64 ((rd_T66 l0_1 x19_2).f0)] ?_; (with_reducible refine (graph_vertex.calls a0_0 ((rd_T66 l0_1 x19_2).f0) true _ A25.out).mono ?_); rintro e w' ⟨rfl, ⟨nd, rfl⟩⟩; refine ⟨_, rfl, ?_⟩) | (go_at_call 119; (with_reducible refine (graph_vertex.calls a0_0 ((rd_T66 l0_1 x19_2).f1) false _ A27.out).mono ?_); rintro e w' ⟨rfl, ⟨nd, rfl⟩⟩))
            go_meet
            case rel => exact ⟨_, (true), zT, H', ⟨by have := HJ1.out; have := HK2.out; first | omega | exact Nat.le_refl _⟩, ⟨by refine zk ?_; refine blk_far ?_ NB412_416.out _; refine zk ?_; refine blk_far ?_ NB412_416.out _; exact zK BK412⟩, ⟨by refine zk ?_; refine blk_far ?_ NB413_416.out _; refine zk ?_; refine blk_far ?_ NB413_416.out _; exact zK BK413⟩, ⟨by refine zk ?_; refine blk_far ?_ NB415_416.out _; refine zk ?_; refine blk_far ?_ NB415_416.out _; exact zK BK415⟩, ⟨by refine zk ?_; refine blk_put (cs := #[.int .i64 ((rd_T66 l0_1 x19_2).f0), .int .i64 0]) ?_ 1 _ rfl; refine zk ?_; refine blk_put (cs := #[.int .i64 0, .int .i64 0]) ?_ 0 _ rfl; exact zK BK416⟩, ⟨zB⟩⟩
          ·replace c26 := Bool.eq_false_iff.mpr c26
           subst c26
           have H1 : (graph_Check.j2 k2 l0_1 (l0_1.length : Int) x19_2 true a0_0 l0_1 x414000_2 x414001_2 ((rd_T66 l0_1 x19_2).f0) ((rd_T66 l0_1 x19_2).f1) ((rd_T66 l0_1 x19_2).f2) ((rd_T66 l0_1 x19_2).f0) ((rd_T66 l0_1 x19_2).f1)) = some r := by rw [if_neg (show ¬ (false = true) by decide)] at H; exact H
           clear H
           have H := H1
           clear H1
           have H' := Aside0.mk H
           clear H
           have hnb51 := NB412_413.out
           have hnc51 := NB413_412.out
           have hnb52 := NB412_415.out
           have hnc52 := NB415_412.out
           have hnb53 := NB412_416.out
           have hnc53 := NB416_412.out
           obtain ⟨hcz54_0, hcz54_1, hfz54_0, hfz54_1⟩ := zD2 BK412
           have hnb55 := NB415_413.out
           have hnc55 := NB413_415.out
           have hnb56 := NB415_416.out
           have hnc56 := NB416_415.out
           obtain ⟨hcz57_0, hcz57_1, hcz57_2, hfz57_0, hfz57_1, hfz57_2⟩ := zD3 BK415
           go_wp2_with (first | ((with_reducible refine gate_callee (f := 119) rfl ?_); refine zL (some 33) Try.func119 #[.int .i64 a0_0, .int .i64 ((rd_T66 l0_1 x19_2).f0)] ?_; (with_reducible refine (graph_vertex.calls a0_0 ((rd_T66 l0_1 x19_2).f0) false _ A25.out).mono ?_); rintro e w' ⟨rfl, ⟨nd, rfl⟩⟩; refine ⟨_, rfl, ?_⟩))
           go_meet
           case rel => exact ⟨_, (true), zT, H', ⟨by have := HJ1.out; have := HK2.out; first | omega | exact Nat.le_refl _⟩, ⟨by refine zk ?_; refine blk_far ?_ NB412_416.out _; refine zk ?_; refine blk_far ?_ NB412_416.out _; exact zK BK412⟩, ⟨by refine zk ?_; refine blk_far ?_ NB413_416.out _; refine zk ?_; refine blk_far ?_ NB413_416.out _; exact zK BK413⟩, ⟨by refine zk ?_; refine blk_far ?_ NB415_416.out _; refine zk ?_; refine blk_far ?_ NB415_416.out _; exact zK BK415⟩, ⟨by refine zk ?_; refine blk_put (cs := #[.int .i64 ((rd_T66 l0_1 x19_2).f0), .int .i64 0]) ?_ 1 _ rfl; refine zk ?_; refine blk_put (cs := #[.int .i64 0, .int .i64 0]) ?_ 0 _ rfl; exact zK BK416⟩, ⟨zB⟩⟩
         case rest =>
          clear HC15
          try clear c1
          try clear c2
          try clear p2
          try clear c3
          try clear c4
          try clear c4b0
          try clear p4
          try clear q4
          try clear hx4
          try clear c5
          try clear c7
          try clear c9
          try clear c11
          try clear c12
          try clear c12b0
          try clear c13
          try clear c13b0
          try clear c14
          try clear c14b0
          try clear c17
          try clear c18
          try clear c21
          try clear c22
          try clear c23
          try clear c26
          try clear c28
          try clear c29
          try clear c29b0
          try clear c30
          try clear c31
          try clear c32
          try clear c34
          try clear c35
          try clear c37
          try clear c38
          try clear c39
          try clear c41
          try clear p41
          try clear q41
          try clear hx41
          try clear c42
          try clear c44
          try clear c45
          try clear c46
          try clear c48
          try clear c49
          try clear c51
          try clear c52
          try clear c53
          try clear c55
          try clear c56
          try clear hcz10_0
          try clear hcz10_1
          try clear hcz11_0
          try clear hcz11_1
          try clear hcz19_0
          try clear hcz19_1
          try clear hcz19_2
          try clear hcz24_0
          try clear hcz24_1
          try clear hcz33_0
          try clear hcz33_1
          try clear hcz36_0
          try clear hcz36_1
          try clear hcz36_2
          try clear hcz40_0
          try clear hcz40_1
          try clear hcz43_0
          try clear hcz43_1
          try clear hcz43_2
          try clear hcz47_0
          try clear hcz47_1
          try clear hcz50_0
          try clear hcz50_1
          try clear hcz50_2
          try clear hcz54_0
          try clear hcz54_1
          try clear hcz57_0
          try clear hcz57_1
          try clear hcz57_2
          try clear hcz5_0
          try clear hcz5_1
          try clear hcz6_0
          try clear hcz6_1
          try clear hfz10_0
          try clear hfz10_1
          try clear hfz11_0
          try clear hfz11_1
          try clear hfz19_0
          try clear hfz19_1
          try clear hfz19_2
          try clear hfz24_0
          try clear hfz24_1
          try clear hfz33_0
          try clear hfz33_1
          try clear hfz36_0
          try clear hfz36_1
          try clear hfz36_2
          try clear hfz40_0
          try clear hfz40_1
          try clear hfz43_0
          try clear hfz43_1
          try clear hfz43_2
          try clear hfz47_0
          try clear hfz47_1
          try clear hfz50_0
          try clear hfz50_1
          try clear hfz50_2
          try clear hfz54_0
          try clear hfz54_1
          try clear hfz57_0
          try clear hfz57_1
          try clear hfz57_2
          try clear hfz5_0
          try clear hfz5_1
          try clear hfz6_0
          try clear hfz6_1
          try clear hx414_0
          try clear hx414_1
          try clear hx414_2
          try clear p2
          try clear p414
          try clear q414
          obtain ⟨kq, x28_14, rfl, HA, HJ14, BK412, BK413, BK415, BK416, HB⟩ := hcut
          cases kq with
          | zero => exact absurd HA.out (by simp [graph_Check.j2])
          | succ kj14 =>
           have H := HA.out
           clear HA
           simp only [graph_Check.j2] at H
           by_cases c58 : x28_14 = true
           ·subst c58
            have H1 : (some 2) = some r := by rw [if_pos rfl] at H; exact H
            clear H
            have H := H1
            clear H1
            obtain rfl := Option.some.inj H
            go_wp2
            go_ret
            exact ⟨zE, zB⟩
           ·replace c58 := Bool.eq_false_iff.mpr c58
            subst c58
            have H1 : (if ((rd_T66 l0_1 x19_2).f0) > ((rd_T66 l0_1 x19_2).f1) then (some 9) else ((graph_pair_compare.f kj14 x414000_2 x414001_2 ((rd_T66 l0_1 x19_2).f0) ((rd_T66 l0_1 x19_2).f1)).bind fun t419 => (if t419 ≥ 0 then (some 9) else (graph_Check.l0 kj14 l0_1 (l0_1.length : Int) (wrap64 (x19_2 + 1)) a0_0 l0_1 ((rd_T66 l0_1 x19_2).f0) ((rd_T66 l0_1 x19_2).f1))))) = some r := by rw [if_neg (show ¬ (false = true) by decide)] at H; exact H
            clear H
            have H := H1
            clear H1
            by_cases c59 : ((rd_T66 l0_1 x19_2).f0) > ((rd_T66 l0_1 x19_2).f1)
            ·rw [if_pos c59] at H
             have c59b0 : decide (((rd_T66 l0_1 x19_2).f1) < ((rd_T66 l0_1 x19_2).f0)) = true := decide_eq_true c59
             clear c59
             obtain rfl := Option.some.inj H
             have hnb60 := NB415_412.out
             have hnc60 := NB412_415.out
             have hnb61 := NB415_413.out
             have hnc61 := NB413_415.out
             have hnb62 := NB415_416.out
             have hnc62 := NB416_415.out
             obtain ⟨hcz63_0, hcz63_1, hcz63_2, hfz63_0, hfz63_1, hfz63_2⟩ := zD3 BK415
             go_wp2
             go_ret
             exact ⟨zE, zB⟩
            ·rw [if_neg c59] at H
             have c59b0 : decide (((rd_T66 l0_1 x19_2).f1) < ((rd_T66 l0_1 x19_2).f0)) = false := decide_eq_false c59
             clear c59
             replace H := Option.bind_eq_some_iff.mp H
             obtain ⟨t419, A640, H⟩ := H
             replace H : (if t419 ≥ 0 then (some 9) else (graph_Check.l0 kj14 l0_1 (l0_1.length : Int) (wrap64 (x19_2 + 1)) a0_0 l0_1 ((rd_T66 l0_1 x19_2).f0) ((rd_T66 l0_1 x19_2).f1))) = some r := H
             have A64 := Aside0.mk A640
             clear A640
             by_cases c65 : t419 ≥ 0
             ·rw [if_pos c65] at H
              have c65b0 : decide (0 ≤ t419) = true := decide_eq_true c65
              clear c65
              obtain rfl := Option.some.inj H
              have hnb66 := NB415_412.out
              have hnc66 := NB412_415.out
              have hnb67 := NB415_413.out
              have hnc67 := NB413_415.out
              have hnb68 := NB415_416.out
              have hnc68 := NB416_415.out
              obtain ⟨hcz69_0, hcz69_1, hcz69_2, hfz69_0, hfz69_1, hfz69_2⟩ := zD3 BK415
              have hnb70 := NB413_412.out
              have hnc70 := NB412_413.out
              have hnb71 := NB413_416.out
              have hnc71 := NB416_413.out
              obtain ⟨hcz72_0, hcz72_1, hfz72_0, hfz72_1⟩ := zD2 BK413
              have hnb73 := NB416_412.out
              have hnc73 := NB412_416.out
              obtain ⟨hcz74_0, hcz74_1, hfz74_0, hfz74_1⟩ := zD2 BK416
              go_wp2_with (first | (go_at_call 120; (with_reducible refine (graph_pair_compare.calls kj14 x414000_2 x414001_2 ((rd_T66 l0_1 x19_2).f0) ((rd_T66 l0_1 x19_2).f1) t419 _ A64.out).mono ?_); rintro e w75 ⟨rfl, hb⟩; replace BK412 := zb BK412 hb; replace BK413 := zb BK413 hb; replace BK415 := zb BK415 hb; replace BK416 := zb BK416 hb; replace HB := zS HB hb; (try clear hb)))
              go_ret
              exact ⟨zE, zB⟩
             ·rw [if_neg c65] at H
              have c65b0 : decide (0 ≤ t419) = false := decide_eq_false c65
              clear c65
              have H' := Aside0.mk H
              clear H
              have hnb76 := NB415_412.out
              have hnc76 := NB412_415.out
              have hnb77 := NB415_413.out
              have hnc77 := NB413_415.out
              have hnb78 := NB415_416.out
              have hnc78 := NB416_415.out
              obtain ⟨hcz79_0, hcz79_1, hcz79_2, hfz79_0, hfz79_1, hfz79_2⟩ := zD3 BK415
              have hnb80 := NB413_412.out
              have hnc80 := NB412_413.out
              have hnb81 := NB413_416.out
              have hnc81 := NB416_413.out
              obtain ⟨hcz82_0, hcz82_1, hfz82_0, hfz82_1⟩ := zD2 BK413
              have hnb83 := NB416_412.out
              have hnc83 := NB412_416.out
              obtain ⟨hcz84_0, hcz84_1, hfz84_0, hfz84_1⟩ := zD2 BK416
              go_wp2_with (first | (go_at_call 120; (with_reducible refine (graph_pair_compare.calls kj14 x414000_2 x414001_2 ((rd_T66 l0_1 x19_2).f0) ((rd_T66 l0_1 x19_2).f1) t419 _ A64.out).mono ?_); rintro e w85 ⟨rfl, hb⟩; replace BK412 := zb BK412 hb; replace BK413 := zb BK413 hb; replace BK415 := zb BK415 hb; replace BK416 := zb BK416 hb; replace HB := zS HB hb; (try clear hb); obtain ⟨hcz86_0, hcz86_1, hfz86_0, hfz86_1⟩ := zD2 BK416; obtain ⟨hcz87_0, hcz87_1, hfz87_0, hfz87_1⟩ := zD2 BK413))
              go_roundg kj14
              case measure => have := HJ1.out; have := HK2.out; have := HJ14.out; omega
              case rel => exact ⟨(wrap64 (x19_2 + 1)), (((rd_T66 l0_1 x19_2).f0)), (((rd_T66 l0_1 x19_2).f1)), zT, H', ⟨by have := HJ1.out; have := HK2.out; have := HJ14.out; omega⟩, ⟨by refine zk ?_; refine blk_far ?_ NB412_413.out _; refine zk ?_; refine blk_far ?_ NB412_413.out _; exact zK BK412⟩, ⟨by refine zk ?_; refine blk_put (cs := #[.int .i64 ((rd_T66 l0_1 x19_2).f0), .int .i64 x414001_2]) ?_ 1 _ rfl; refine zk ?_; refine blk_put (cs := #[.int .i64 x414000_2, .int .i64 x414001_2]) ?_ 0 _ rfl; exact zK BK413⟩, ⟨zB⟩⟩
        ·rw [if_neg c14] at H
         exact absurd H (by simp)
       ·rw [if_neg c13] at H
        exact absurd H (by simp)
      ·rw [if_neg c12] at H
       have c12b0 : decide (x19_2 < (l0_1.length : Int)) = false := decide_eq_false c12
       clear c12
       obtain rfl := Option.some.inj H
       go_wp2
       go_ret
       exact ⟨zE, zB⟩
def okConn (N : Int) (E : List S66) : Bool := decide (0 ≤ N ∧ N ≤ 12) && edgesInB 12 E
def connect_Connected.f (k : Nat) (N : Int) (E : List S66) : Option (Bool × Int) :=
 (graph_Check.f k N E).bind fun t => if t = 0 then (if okConn N E = true then some (decide (rootsTo (forestOf E) N.toNat = 1), 0) else none) else some (false, t)
theorem connect_Connected.mono : ∀ a0_0 l0_1 k, LeO (connect_Connected.f k a0_0 l0_1) (connect_Connected.f (k + 1) a0_0 l0_1) := by
 intro a0_0 l0_1 k
 unfold connect_Connected.f
 exact LeO.bind (graph_Check.mono _ _ _) (fun _ => LeO.refl _)
theorem components_bad (k : Nat) (N : Int) (A0 : Option Addr) (c0 : Nat) (E : List S66) (t : Int) (w : World) (hr0 : Kd.C k66 w A0 E.length E) (hc0 : E.length ≤ c0) (ht : graph_Check.f k N E = some t) (ht0 : t ≠ 0) :
  Calls Try.prog 112 #[.agg #[.int .i64 N, .slice A0 E.length c0]] w fun e w' => e = .returned (.tuple #[.slice none 0 0, .int .i64 t]) ∧ Below w.heap.size w w' := by
 have hu := Try.underlying24
 have Ht := Aside0.mk ht
 clear ht
 go_enter Try.func112, Try.ntmps112
 go_wp2_with (first | (go_at_call 113; refine (graph_Check.calls k N A0 c0 E t _ (Kd.C_alloc hr0 _) hc0 Ht.out).mono ?_; rintro e w1 ⟨rfl, hb⟩; have HB := Aside0.mk (below_step (below_alloc (Below.refl w.heap.size w) _) hb); clear hb))
 go_ret2
 exact ⟨rfl, HB.out⟩
theorem forest_cells (E : List S66) : ∀ i, i < 12 → (#[.int .i64 (forestOf E 0 : Nat), .int .i64 (forestOf E 1 : Nat), .int .i64 (forestOf E 2 : Nat), .int .i64 (forestOf E 3 : Nat), .int .i64 (forestOf E 4 : Nat), .int .i64 (forestOf E 5 : Nat), .int .i64 (forestOf E 6 : Nat), .int .i64 (forestOf E 7 : Nat), .int .i64 (forestOf E 8 : Nat), .int .i64 (forestOf E 9 : Nat), .int .i64 (forestOf E 10 : Nat), .int .i64 (forestOf E 11 : Nat)] : Array Value)[i]? = some (.int .i64 (forestOf E i : Nat)) := fun i hi => by
 match i, hi with | 0, _ => rfl | 1, _ => rfl | 2, _ => rfl | 3, _ => rfl | 4, _ => rfl | 5, _ => rfl | 6, _ => rfl | 7, _ => rfl | 8, _ => rfl | 9, _ => rfl | 10, _ => rfl | 11, _ => rfl
theorem components_good (k : Nat) (n : Nat) (A0 : Option Addr) (c0 : Nat) (E : List S66) (w : World) (hr0 : Kd.C k66 w A0 E.length E) (hc0 : E.length ≤ c0) (ht : graph_Check.f k n E = some 0) (hn : n ≤ 12) (hE : EdgesIn 12 E) :
  Calls Try.prog 112 #[.agg #[.int .i64 n, .slice A0 E.length c0]] w fun e w' => ∃ A c, e = .returned (.tuple #[.slice A (rootsTo (forestOf E) n) c, .int .i64 0]) ∧ Below w.heap.size w w' := by
 have hu := Try.underlying24
 have Ht := Aside0.mk ht
 clear ht
 have HE := Aside0.mk hE
 clear hE
 go_enter Try.func112, Try.ntmps112
 go_wp2_with (first | (go_at_call 113; refine (graph_Check.calls k n A0 c0 E 0 _ (Kd.C_alloc hr0 _) hc0 Ht.out).mono ?_; rintro e w1 ⟨rfl, hb⟩; have hbx : w1.heap[w.heap.size]? = some (.cells #[.int .i64 n, .slice A0 E.length c0] 24 (0, 0)) := blk_below (heap_alloc_new w _) hb; have HR1 := Aside0.mk (Kd.C_below hr0 (below_step (below_alloc (Below.refl w.heap.size w) _) hb)); have HB := Aside0.mk (below_step (below_alloc (Below.refl w.heap.size w) _) hb); clear hb; have hx0 : w1.cell? ⟨w.heap.size, 0, none⟩ = some (.int .i64 n) := (blk_cell hbx 0).trans rfl; have hx1 : w1.cell? ⟨w.heap.size, 1, none⟩ = some (.slice A0 E.length c0) := (blk_cell hbx 1).trans rfl) | (go_at_call 117; (with_reducible refine (joined_calls _ _ _ E _ HR1.out HE.out).mono ?_); rintro e w2 ⟨rfl, hb⟩; have hbx2 := blk_alloc (blk_below hbx hb) (.cells #[.int .i64 (forestOf E 0 : Nat), .int .i64 (forestOf E 1 : Nat), .int .i64 (forestOf E 2 : Nat), .int .i64 (forestOf E 3 : Nat), .int .i64 (forestOf E 4 : Nat), .int .i64 (forestOf E 5 : Nat), .int .i64 (forestOf E 6 : Nat), .int .i64 (forestOf E 7 : Nat), .int .i64 (forestOf E 8 : Nat), .int .i64 (forestOf E 9 : Nat), .int .i64 (forestOf E 10 : Nat), .int .i64 (forestOf E 11 : Nat)] 139); have hx2 : (w2.alloc (.cells #[.int .i64 (forestOf E 0 : Nat), .int .i64 (forestOf E 1 : Nat), .int .i64 (forestOf E 2 : Nat), .int .i64 (forestOf E 3 : Nat), .int .i64 (forestOf E 4 : Nat), .int .i64 (forestOf E 5 : Nat), .int .i64 (forestOf E 6 : Nat), .int .i64 (forestOf E 7 : Nat), .int .i64 (forestOf E 8 : Nat), .int .i64 (forestOf E 9 : Nat), .int .i64 (forestOf E 10 : Nat), .int .i64 (forestOf E 11 : Nat)] 139)).cell? ⟨w.heap.size, 0, none⟩ = some (.int .i64 n) := (blk_cell hbx2 0).trans rfl; have HB2 := Aside0.mk (below_alloc (below_step HB.out hb) (.cells #[.int .i64 (forestOf E 0 : Nat), .int .i64 (forestOf E 1 : Nat), .int .i64 (forestOf E 2 : Nat), .int .i64 (forestOf E 3 : Nat), .int .i64 (forestOf E 4 : Nat), .int .i64 (forestOf E 5 : Nat), .int .i64 (forestOf E 6 : Nat), .int .i64 (forestOf E 7 : Nat), .int .i64 (forestOf E 8 : Nat), .int .i64 (forestOf E 9 : Nat), .int .i64 (forestOf E 10 : Nat), .int .i64 (forestOf E 11 : Nat)] 139)); have HF := Aside0.mk (show ForestAt (w2.alloc (.cells #[.int .i64 (forestOf E 0 : Nat), .int .i64 (forestOf E 1 : Nat), .int .i64 (forestOf E 2 : Nat), .int .i64 (forestOf E 3 : Nat), .int .i64 (forestOf E 4 : Nat), .int .i64 (forestOf E 5 : Nat), .int .i64 (forestOf E 6 : Nat), .int .i64 (forestOf E 7 : Nat), .int .i64 (forestOf E 8 : Nat), .int .i64 (forestOf E 9 : Nat), .int .i64 (forestOf E 10 : Nat), .int .i64 (forestOf E 11 : Nat)] 139)) w2.heap.size (forestOf E) from ⟨_, heap_alloc_new _ _, rfl, forest_cells E⟩); clear hb hbx2) | (go_at_call 118; (with_reducible refine (parts_calls _ n (forestOf E) _ hn (forestOf_falls E) HF.out).mono ?_); rintro e w3 ⟨A3, c3, rfl, hb⟩; have HB3 := Aside0.mk (below_step HB2.out hb); clear hb))
 go_ret2
 exact ⟨A3, c3, rfl, HB3.out⟩
theorem connect_Connected.calls (k : Nat) (a0_0 : Int) (A0_1 : Option Addr) (c0_1 : Nat) (l0_1 : List (S66)) (r1 : Bool) (r2 : Int) (w : World) (hr0_1 : Kd.C k66 w A0_1 l0_1.length l0_1) (hc0_1 : l0_1.length ≤ c0_1) (h : connect_Connected.f k a0_0 l0_1 = some (r1, r2)) :
  Calls Try.prog 104 #[.agg #[.int .i64 a0_0, .slice A0_1 l0_1.length c0_1]] w fun e w' => e = .returned (.tuple #[.bool r1, .int .i64 r2]) ∧ Below w.heap.size w w' := by
 unfold connect_Connected.f at h
 obtain ⟨t, ht, h⟩ := Option.bind_eq_some_iff.1 h
 split at h
 ·rename_i ht0
  subst ht0
  split at h
  case isFalse => cases h
  rename_i hok
  simp only [okConn, Bool.and_eq_true, decide_eq_true_eq] at hok
  obtain ⟨⟨h0, h12⟩, hE⟩ := hok
  obtain ⟨n, rfl⟩ := Int.eq_ofNat_of_zero_le h0
  injection h with h
  injection h with h1 h2
  subst h2
  rw [Int.toNat_natCast] at h1
  have CC := fun W hr => components_good k n A0_1 c0_1 l0_1 W hr hc0_1 ht (by omega) (edgesIn_of (n := 12) hE)
  have HC := Aside0.mk CC
  have H1 := Aside0.mk h1
  clear CC ht hE h1
  have hrl := rootsTo_le (forestOf l0_1) n
  generalize rootsTo (forestOf l0_1) n = m at HC H1 hrl
  by_cases hm : m = 1
  ·subst hm
   go_enter Try.func104, Try.ntmps104
   go_wp2_with (first | (go_at_call 112; refine (HC.out _ (Kd.C_alloc hr0_1 _)).mono ?_; rintro e w1 ⟨A1, c1, rfl, hb⟩; have HB := Aside0.mk (below_step (below_alloc (Below.refl w.heap.size w) _) hb); clear hb))
   go_ret2
   exact ⟨by rw [← H1.out]; rfl, HB.out⟩
  ·have hmi : ((m : Nat) : Int) ≠ 1 := by omega
   go_enter Try.func104, Try.ntmps104
   go_wp2_with (first | (go_at_call 112; refine (HC.out _ (Kd.C_alloc hr0_1 _)).mono ?_; rintro e w1 ⟨A1, c1, rfl, hb⟩; have HB := Aside0.mk (below_step (below_alloc (Below.refl w.heap.size w) _) hb); clear hb))
   go_ret2
   exact ⟨by rw [← H1.out, decide_eq_false hm, ← (beq_eq_false_iff_ne.2 hmi : ((m : Int) == 1) = false)]; rfl, HB.out⟩
 ·rename_i ht0
  injection h with h
  injection h with h1 h2
  subst h1
  subst h2
  have CC := fun W hr => components_bad k a0_0 A0_1 c0_1 l0_1 t W hr hc0_1 ht ht0
  have HC := Aside0.mk CC
  clear CC ht
  go_enter Try.func104, Try.ntmps104
  go_wp2_with (first | (go_at_call 112; refine (HC.out _ (Kd.C_alloc hr0_1 _)).mono ?_; rintro e w1 ⟨rfl, hb⟩; have HB := Aside0.mk (below_step (below_alloc (Below.refl w.heap.size w) _) hb); clear hb))
  go_ret2
  exact ⟨rfl, HB.out⟩
end Go.Proofs.Ytffdiakgjakngaa.P
