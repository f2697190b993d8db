/- SuperstableLists answers true whatever the input (text 5 of 15): own walks and plain laws; no conditions. -/
import Derived.Deep.RegionHeld3
import Derived.Deep.RegionLaw
import Derived.Lib.Hide
import Derived.Maps.OwnOps
import Derived.Maps.Views
import Derived.Outline
import Derived.WalkSpells
import Derived.Test.YtffdiakgjakngaaLists4
namespace Go.Proofs.Ytffdiakgjakngaa.P
open Go.RowKit Go.Proofs.YtffdiakgjakngaaW.PrintWords Go.Proofs.YtffdiakgjakngaaW.PrintLast Go.Proofs.YtffdiakgjakngaaW.PrintMore
set_option linter.unusedVariables false
set_option linter.unusedSimpArgs false
theorem made_ints (t : TypeId) (ht : Try.prog.underlying t = some (.slice 3)) (n : Nat) (hn : n ≤ 1000) : ∃ zs : Array Value, (∀ W : World, (Instr.makeSlice t (.int .i64 n) (.int .i64 n)).run Try.prog W = .ok (.slice (some ⟨W.heap.size, 0, none⟩) n n) (W.alloc (.cells zs 3))) ∧
    ∀ (W : World) (ok : Nat → Prop), ok W.heap.size → (Kd.int .i64).R 3 (W.alloc (.cells zs 3)) W.heap.size ok (.slice (some ⟨W.heap.size, 0, none⟩) n n) (List.replicate n 0) := by
  obtain ⟨i0, hi, hzz⟩ := Option.map_eq_some_iff.1 info3
  simp only [Prod.mk.injEq] at hzz
  obtain ⟨hz0, hz1, hz2⟩ := hzz
  refine ⟨madeCells (Value.int .i64 0).cells (n * 1), fun W => ?_, fun W ok hok => ⟨fun k hk => ?_, (madeCells (Value.int .i64 0).cells (n * 1)).toList, ?_, ?_⟩⟩
  · have hr := run_make (P := Try.prog) W t 3 i0 (.int .i64 0) ht hi hz0 .i64 .i64 (n : Int) (n : Int) (by omega) (by omega) (by rw [hz2]; omega) (by omega)
    simp only [Int.toNat_natCast] at hr
    rw [hz1] at hr
    exact hr
  · have : W.heap.size = k := by simpa [Value.ownBlock] using hk
    subst this; exact hok
  · have h := World.ownsRow_lit (base := W.heap.size) (e := 3) (size := 1) W (madeCells (Value.int .i64 0).cells (n * 1)) n (Nat.le_refl _) (by simp only [maxLen]; omega) (size_madeCells _ _)
    rw [List.length_replicate]
    exact h
  · exact Kd.reps_made (R := (Kd.int .i64).M (W.alloc (.cells (madeCells (Value.int .i64 0).cells (n * 1)) 3)) W.heap.size (fun k => ok k ∧ some k ≠ (Value.slice (some ⟨W.heap.size, 0, none⟩) n n).ownBlock)) (size := 1) (z := Value.int .i64 0) (z0 := (0 : Int)) rfl (by decide) rfl n
theorem held_start {w W : World} {gb : Nat} {v : Value} {cs : Array Value} {t : TypeId} (h1 : W.heap[gb]? = some (.cells cs t (0, 0))) (h2 : W.cell? ⟨gb, 0, none⟩ = some v) (h3 : Below gb w W) : W.drew.heap[gb]? = some (.cells cs t (0, 0)) ∧ W.drew.cell? ⟨gb, 0, none⟩ = some v ∧ Below gb w W.drew := ⟨h1, h2, below_drew1 h3⟩
theorem held_alloc {w W : World} {gb : Nat} {v : Value} {cs : Array Value} {t : TypeId} {o : Obj} (h1 : W.heap[gb]? = some (.cells cs t (0, 0))) (h2 : W.cell? ⟨gb, 0, none⟩ = some v) (h3 : Below gb w W) : (W.alloc o).heap[gb]? = some (.cells cs t (0, 0)) ∧ (W.alloc o).cell? ⟨gb, 0, none⟩ = some v ∧ Below gb w (W.alloc o) :=
  ⟨blk_alloc h1 _, by rw [blk_cell (blk_alloc h1 _) 0, ← blk_cell h1 0]; exact h2, h3.alloc (Nat.le_of_lt (blk_lt h1)) _⟩
theorem held_below {w W W1 : World} {gb : Nat} {v : Value} {cs : Array Value} {t : TypeId} (h1 : W.heap[gb]? = some (.cells cs t (0, 0))) (h2 : W.cell? ⟨gb, 0, none⟩ = some v) (h3 : Below gb w W) (hb : Below W.heap.size W W1) : W1.heap[gb]? = some (.cells cs t (0, 0)) ∧ W1.cell? ⟨gb, 0, none⟩ = some v ∧ Below gb w W1 :=
  ⟨blk_below h1 hb, by rw [blk_cell (blk_below h1 hb) 0, ← blk_cell h1 0]; exact h2, h3.trans ⟨hb.os, hb.tape, hb.output, hb.size, fun k hk => hb.block k (by have := blk_lt h1; omega)⟩⟩
theorem heapnew_at {W : World} {o : Obj} {g : Nat} (h : g = W.heap.size) : (W.alloc o).heap[g]? = some o := by rw [h]; exact heap_alloc_new W o
theorem pile_rd {Wx w1 W' : World} {gb bv : Nat} {v : Value} {dl : List Int} (hr : (Kd.int .i64).R 3 w1 Wx.heap.size (fun _ => True) v dl) (hgb : gb ≤ Wx.heap.size)
    (hup : ∀ {ok : Nat → Prop}, (Kd.int .i64).R 3 w1 gb ok v dl → (Kd.int .i64).R 3 W' gb ok v dl) (hne : bv < Wx.heap.size ∨ w1.heap.size ≤ bv) : (Kd.int .i64).R 3 W' gb (fun k => k ≠ bv) v dl :=
  hup (Kd.R_lower (Kd.R_mono (Kd.R_bound hr) (fun k hk => by have a1 := hk.2.1; have a2 := hk.2.2.1; omega)) hgb)
theorem pile_rv {Wx w1 W' Y : World} {gb bv n : Nat} {v : Value} {dl : List Int} {zs : Array Value} (hz : (Kd.int .i64).R 3 (Y.alloc (.cells zs 3)) Y.heap.size (fun k => k = Y.heap.size) (.slice (some ⟨Y.heap.size, 0, none⟩) n n) (List.replicate n 0)) (hbv : bv = Y.heap.size)
    (hb : Below (Y.alloc (.cells zs 3)).heap.size (Y.alloc (.cells zs 3)) W') (hr : (Kd.int .i64).R 3 w1 Wx.heap.size (fun _ => True) v dl) (hgb : gb ≤ bv) (hne : bv < Wx.heap.size ∨ w1.heap.size ≤ bv) :
    (Kd.int .i64).R 3 W' gb (fun k => some k ≠ v.ownBlock) (.slice (some ⟨bv, 0, none⟩) n n) (List.replicate n 0) := by
  subst hbv
  refine Kd.R_lower (Kd.R_mono (Kd.R_below hz hb) (fun k hk e => ?_)) hgb
  have h1 := Kd.R_base hr k e.symm
  have h2 := Kd.R_lt hr k e.symm
  omega
set_option maxHeartbeats 2000000 in
set_option maxRecDepth 100000 in
theorem pileOf_calls (k n : Nat) (A0 : Option Addr) (c0 : Nat) (E : List S66) (q : Int) (Ad : Option Addr) (cd : Nat) (dl : List Int) (w : World) (hr0 : Kd.C k66 w A0 E.length E) (hc0 : E.length ≤ c0) (hd : Kd.C (Kd.int .i64) w Ad dl.length dl) (hcd : dl.length ≤ cd)
    (hn : n ≤ 12) (hdl : dl.length = n) (ht : graph_Check.f k n E = some 0) (hE : multsOk E = true) (hin : EdgesIn n E) :
    Calls Try.prog 92 #[.agg #[.int .i64 n, .slice A0 E.length c0], .int .i64 q, .slice Ad dl.length cd] w fun e w' => ∃ (gp : Nat) (Av1 Av2 : Option Addr) (cv1 cv2 : Nat) (rv : Value), e = .returned (.tuple #[.pointer (some ⟨gp, 0, none⟩), .int .i64 0]) ∧ PileAt w' gp (.slice Av1 dl.length cv1) q rv (.slice Av2 n cv2) (fun x => if x < dl.length then looseB q (pileVal n E) dl x else false) ∧ (Kd.int .i64).R 3 w' w.heap.size (fun _ => True) (.slice Av2 n cv2) (pileVal n E) ∧ Below w.heap.size w w' := by
  have hu := Try.underlying24
  have hup := Try.underlying110
  have hub := Try.underlying108
  have hue := Try.underlying115
  have hd12 : dl.length ≤ 12 := by omega
  have Hdl := Aside0.mk hdl
  clear hdl
  have Ht := Aside0.mk ht
  have HE := Aside0.mk hE
  have HI := Aside0.mk hin.get
  clear ht hE hin
  have HC := Aside0.mk (fun W h => slices_Clone_int_int.calls Ad cd dl dl W h hcd (by unfold slices_Clone_int_int.f clone.f; rw [if_pos (by omega)]))
  obtain ⟨zs, hmk, hzr⟩ := made_ints 33 Try.underlying33 n (by omega)
  have HZ := Aside0.mk hzr
  clear hzr
  go_enter Try.func92, Try.ntmps92
  go_wp2_with fail
  have HX0 := Aside0.mk (show (w.alloc (.cells #[.int .i64 n, .slice A0 E.length c0] 24)).heap[w.heap.size]? = some (.cells #[.int .i64 n, .slice A0 E.length c0] 24 (0, 0)) from heap_alloc_new w _)
  have hx0 : (w.alloc (.cells #[.int .i64 n, .slice A0 E.length c0] 24)).cell? ⟨w.heap.size, 0, none⟩ = some (.int .i64 n) := (blk_cell HX0.out 0).trans rfl
  have HB := Aside0.mk (below_alloc (Below.refl w.heap.size w) (.cells #[.int .i64 n, .slice A0 E.length c0] 24))
  generalize (w.alloc (.cells #[.int .i64 n, .slice A0 E.length c0] 24)) = W0 at hx0 HX0 HB ⊢
  have hgw := blk_lt HX0.out
  have hC2 := fun W h => Kd.C_below (w := w) (w1 := W) hd h
  have HC2 := Aside0.mk hC2
  clear hC2
  generalize hgb : w.heap.size = gb at hx0 HX0 hgw HB HC2 ⊢
  refine Code.wp_mono (Q := fun e a W' => e = Exit.normal ∧ ∃ (gp bv bf cv1 : Nat) (Av1 : Option Addr) (u16 u17 u18 u19 u20 u21 u22 u23 u24 u25 u26 : Value), a = { tmps := #[.agg #[.int .i64 n, .slice A0 E.length c0], .int .i64 q, .slice Ad dl.length cd, .pointer (some ⟨gb, 0, none⟩), undef, undef, .pointer none, .int .i64 0, .pointer (some ⟨gp, 0, none⟩), undef, undef, undef, undef, undef, undef, undef, u16, u17, u18, u19, u20, u21, u22, u23, u24, u25, u26, undef, undef, undef, undef, undef, undef, undef, undef, undef, undef, undef, undef, undef, undef, undef, undef, undef, undef, undef, undef, undef, undef, undef, undef, undef, undef, undef, undef, undef, undef, undef, undef, undef, undef, undef, undef, undef, undef, undef, undef, undef, undef, undef, undef, undef, undef, undef, undef, undef, undef, undef, undef, undef, undef, undef, undef, undef, undef, undef, undef, undef, undef, undef, undef, undef, undef, undef, undef, undef, undef, undef, undef, undef, undef, undef, undef, undef, undef, undef, undef, undef, undef, undef, undef, undef, undef, undef, undef, undef, undef, undef, undef, undef, undef], defers := [] } ∧ gb < gp ∧ W'.heap[gp]? = some (.cells #[.slice Av1 dl.length cv1, .int .i64 q, .slice none 0 0, .slice (some ⟨bv, 0, none⟩) n n, .slice (some ⟨bf, 0, none⟩) n n, .int .i64 0, .bool false, .bool false, .bool false, .bool false, .bool false, .bool false, .bool false, .bool false, .bool false, .bool false, .bool false, .bool false] 110 (0, 0)) ∧ (Kd.int .i64).R 3 W' gb (fun k => k ≠ bv) (.slice Av1 dl.length cv1) dl ∧ (Kd.int .i64).R 3 W' gb (fun k => some k ≠ (Value.slice Av1 dl.length cv1).ownBlock) (.slice (some ⟨bv, 0, none⟩) n n) (List.replicate n 0) ∧ W'.heap[gb]? = some (.cells #[.int .i64 n, .slice A0 E.length c0] 24 (0, 0)) ∧ Below gb w W') ?_ ?_
  · rintro e a W' ⟨rfl, gp, bv, bf, cv1, Av1, u16, u17, u18, u19, u20, u21, u22, u23, u24, u25, u26, rfl, hgp, hpile, hRd, hRv, hbx, hB⟩
    dsimp only
    have HP := Aside0.mk (show PileAt W' gp (.slice Av1 dl.length cv1) q (.slice none 0 0) (.slice (some ⟨bv, 0, none⟩) n n) (fun _ => false) from ⟨_, hpile, rfl, rfl, rfl, rfl, rfl, fun i hi => by match i, hi with | 0, _ => rfl | 1, _ => rfl | 2, _ => rfl | 3, _ => rfl | 4, _ => rfl | 5, _ => rfl | 6, _ => rfl | 7, _ => rfl | 8, _ => rfl | 9, _ => rfl | 10, _ => rfl | 11, _ => rfl⟩)
    have HRd := Aside0.mk hRd
    have HRv := Aside0.mk hRv
    have HBX := Aside0.mk hbx
    have HB1 := Aside0.mk hB
    have hb0 : W'.cell? ⟨gb, 0, none⟩ = some (.int .i64 n) := (blk_cell hbx 0).trans rfl
    clear hpile hRd hRv hbx hB hx0 HX0 HB hgw HC HC2
    clear W0
    go_wp2
    go_loopw [29] (fun i wr => ∃ (j : Nat) (rv : Value) (rows : List (List Int)), j ≤ n ∧ i = .int .i64 j ∧ Aside0 (rows.length = j) ∧ Aside0 (∀ y ∈ rows, y.length = n) ∧ Aside0 (PileAt wr gp (.slice Av1 dl.length cv1) q rv (.slice (some ⟨bv, 0, none⟩) n n) (fun _ => false)) ∧ Aside0 ((Kd.int .i64).R 3 wr gb (fun k => k ≠ bv) (.slice Av1 dl.length cv1) dl) ∧ Aside0 ((Kd.int .i64).R 3 wr gb (fun k => some k ≠ (Value.slice Av1 dl.length cv1).ownBlock) (.slice (some ⟨bv, 0, none⟩) n n) (List.replicate n 0)) ∧ Aside0 (Kd.S (Kd.slice 3 (Kd.int .i64)) 33 wr gb (fun k => some k ≠ (Value.slice Av1 dl.length cv1).ownBlock ∧ k ≠ bv) rv rows) ∧ Aside0 (wr.heap[gb]? = some (.cells #[.int .i64 n, .slice A0 E.length c0] 24 (0, 0))) ∧ Aside0 (Below gb w wr)) (fun i _ => n - (intOf i).toNat)
    case atStart => exact ⟨0, _, [], by omega, rfl, ⟨rfl⟩, ⟨fun y hy => absurd hy (by simp)⟩, HP, HRd, HRv, ⟨Kd.S_nil _ _ _ _ _⟩, HBX, HB1⟩
    case round =>
      clear HP HRd HRv HBX HB1 hb0
      obtain ⟨j, rv, rows, hj, rfl, HL, HY, HP, HRd, HRv, HS, HBX, HB⟩ := hrel
      by_cases hjn : j < n
      · have hsz := blk_lt HBX.out
        obtain ⟨Ar, cr, rfl⟩ := Kd.S_slice HS.out
        have hcb := (blk_cell HBX.out 0).trans (show _ = some (.int .i64 n) from rfl)
        have hcb1 : (wr.alloc (.cells zs 3)).drew.cell? ⟨gb, 0, none⟩ = some (.int .i64 n) := (blk_cell (blk_alloc HBX.out _) 0).trans rfl
        have hcr := HP.out.cell_rows
        have hcr1 : (wr.alloc (.cells zs 3)).drew.cell? ⟨gp, 2, none⟩ = some (.slice Ar rows.length cr) := (HP.out.below (below_alloc (Below.refl _ _) _)).cell_rows
        have hcr2 : ((wr.alloc (.cells zs 3)).alloc (.cells #[.slice (some ⟨wr.heap.size, 0, none⟩) n n] 33)).drew.cell? ⟨gp, 2, none⟩ = some (.slice Ar rows.length cr) := (HP.out.below (below_alloc (below_alloc (Below.refl _ _) _) _)).cell_rows
        have hrl : rows.length ≤ 12 := by have := HL.out; omega
        have hdk : ∀ k, wr.heap.size ≤ k → some k ≠ (Value.slice Av1 dl.length cv1).ownBlock ∧ k ≠ bv := fun k hk => ⟨fun e => by have := Kd.R_lt HRd.out k e.symm; omega, fun e => by have := Kd.R_lt HRv.out bv (by simp [Value.ownBlock]); omega⟩
        have HN1 := Aside0.mk (Kd.M_row (Kd.R_drew (Kd.R_lower (HZ.out wr (fun k => k = wr.heap.size) rfl) (Nat.le_of_lt hsz))))
        have HN2 := Aside0.mk (Kd.S_drew (Kd.S_alloc (Kd.S_mono (ok' := fun k => (some k ≠ (Value.slice Av1 dl.length cv1).ownBlock ∧ k ≠ bv) ∧ ¬ k = wr.heap.size) (Kd.S_bound HS.out) (fun k hk => ⟨hk.1, by have := hk.2.2.1; omega⟩)) (.cells zs 3)))
        have HN3 := Aside0.mk (below_drew1 (HB.out.alloc (Nat.le_of_lt hsz) (.cells zs 3)))
        have HN4 : Aside0 (∀ k, k = wr.heap.size → (some k ≠ (Value.slice Av1 dl.length cv1).ownBlock ∧ k ≠ bv) ∧ some k ≠ (Value.slice Ar rows.length cr).ownBlock) := ⟨fun k hk => ⟨hdk k (by omega), fun e => by have := Kd.S_lt HS.out k e.symm; omega⟩⟩
        have HN5 : Aside0 (∀ k, (wr.alloc (.cells zs 3)).drew.heap.size ≤ k → some k ≠ (Value.slice Av1 dl.length cv1).ownBlock ∧ k ≠ bv) := ⟨fun k hk => hdk k (by have h1 : (wr.alloc (.cells zs 3)).drew.heap.size = wr.heap.size + 1 := World.size_alloc wr _; omega)⟩
        have HN6 : Aside0 (gb ≤ (wr.alloc (.cells zs 3)).drew.heap.size) := ⟨by have h1 : (wr.alloc (.cells zs 3)).drew.heap.size = wr.heap.size + 1 := World.size_alloc wr _; omega⟩
        have HP1 := Aside0.mk (show PileAt (wr.alloc (.cells zs 3)).drew gp (.slice Av1 dl.length cv1) q (.slice Ar rows.length cr) (.slice (some ⟨bv, 0, none⟩) n n) (fun _ => false) from (HP.out.below (below_alloc (Below.refl wr.heap.size wr) (.cells zs 3))).drew)
        have HX1 := Aside0.mk (show (wr.alloc (.cells zs 3)).drew.heap[gb]? = some (.cells #[.int .i64 n, .slice A0 E.length c0] 24 (0, 0)) from blk_alloc HBX.out _)
        have HS1 := Aside0.mk (Kd.S_drew (Kd.S_alloc HS.out (.cells zs 3)))
        have HD1 := Aside0.mk (Kd.R_drew (Kd.R_alloc HRd.out (.cells zs 3)))
        have HV1 := Aside0.mk (Kd.R_drew (Kd.R_alloc HRv.out (.cells zs 3)))
        clear hdk
        have HSZ := Aside0.mk (show (wr.alloc (.cells zs 3)).drew.heap.size = wr.heap.size + 1 from World.size_alloc wr _)
        go_wp2
        go_region_law ((refine Kd.S_append_step (Kd.slice 3 (Kd.int .i64)) (w0 := w) (W := (wr.alloc (.cells zs 3)).drew) gb (by rfl) (.tmp 35) (.tmp 39) 88 33 (.slice none 0 0) 24 (by rfl) Try.underlying88 info33 rfl (by decide) (by omega) _ rows (List.replicate n 0) [.slice (some ⟨wr.heap.size, 0, none⟩) n n] (fun k => some k ≠ (Value.slice Av1 dl.length cv1).ownBlock ∧ k ≠ bv) (fun k => k = wr.heap.size) (by rfl) (by rw [HSZ.out]; rfl) HN1.out HN4.out HN5.out HN2.out HN3.out HN6.out (by omega) ?_; intro v4 w4 hs4 hb4 hg4 hat4; obtain ⟨A4, c4, hv4⟩ := Kd.S_slice hs4; rw [show (rows ++ [List.replicate n (0 : Int)]).length = rows.length + 1 by simp] at hv4; subst hv4; have HS4 := Aside0.mk hs4; have HB4 := Aside0.mk hb4; have HP4 := Aside0.mk (HP1.out.grown hg4 (HP1.out.ne_of (Kd.S_typed HS1.out) (by decide))); have HX4 := Aside0.mk (blk_grown HX1.out hg4 (Kd.S_ne HS1.out HX1.out (by decide))); have HD4 := Aside0.mk (Kd.R_over' HD1.out (Kd.S_typed HS1.out) (by decide) hg4); have HV4 := Aside0.mk (Kd.R_over' HV1.out (Kd.S_typed HS1.out) (by decide) hg4); have hq1 := HP4.out.cell_rows; have hq2 := HP4.out.frozen 2; clear hs4 hb4 hg4 hat4))
        all_goals have n0 := Aside0.mk (HP4.out.set_rows (.slice A4 (rows.length + 1) c4))
        all_goals have n1 := Aside0.mk (HP4.out.R_set HD4.out (by decide) 2 (.slice A4 (rows.length + 1) c4))
        all_goals have n2 := Aside0.mk (HP4.out.R_set HV4.out (by decide) 2 (.slice A4 (rows.length + 1) c4))
        all_goals have n3 := Aside0.mk (HP4.out.S_set HS4.out (by decide) 2 (.slice A4 (rows.length + 1) c4))
        all_goals have n4 := Aside0.mk (blk_far (p := ⟨gp, 2, none⟩) HX4.out (show gb ≠ gp by omega) (.slice A4 (rows.length + 1) c4))
        all_goals have n5 := Aside0.mk (HB4.out.setCell (p := ⟨gp, 2, none⟩) (by show gb ≤ gp; omega) (.slice A4 (rows.length + 1) c4))
        all_goals clear hq1 hq2 hcb hcb1 hcr hcr1 hcr2 HP4 HX4 HD4 HV4 HB4 HS4
        all_goals generalize (w4.setCell ⟨gp, 2, none⟩ (.slice A4 (rows.length + 1) c4)) = w5 at n0 n1 n2 n3 n4 n5 ⊢
        all_goals go_wp2
        all_goals exact ⟨⟨j + 1, _, _, by omega, by go_num, ⟨by simp [HL.out]⟩, ⟨fun y hy => by rcases List.mem_append.1 hy with h | h; exact HY.out y h; (simp at h; subst h; simp)⟩, n0, n1, n2, n3, n4, n5⟩, (show n - ((j : Int) + 1).toNat < n - ((j : Int)).toNat by omega)⟩
      · obtain rfl : n = j := by omega
        have hb0 : wr.cell? ⟨gb, 0, none⟩ = some (.int .i64 n) := (blk_cell HBX.out 0).trans rfl
        have hb1 : wr.cell? ⟨gb, 1, none⟩ = some (.slice A0 E.length c0) := (blk_cell HBX.out 1).trans rfl
        have hsz := blk_lt HBX.out
        have HEN := Aside0.mk (ends_good k n A0 c0 E wr (Kd.C_below hr0 (by rw [hgb]; exact HB.out)) hc0 Ht.out HE.out)
        go_wp2_with (first | (go_at_call 105; refine HEN.out.mono ?_; rintro e w1 ⟨v9, rfl, hr9, hb9⟩; obtain ⟨A9, c9, hv9⟩ := Kd.R_slice hr9; rw [endRows_length] at hv9; subst hv9; have HR9 := Aside0.mk hr9; have HP9 := Aside0.mk (HP.out.below hb9); have HS9 := Aside0.mk (Kd.S_below HS.out hb9); have HD9 := Aside0.mk (Kd.R_below HRd.out hb9); have HV9 := Aside0.mk (Kd.R_below HRv.out hb9); have HB9 := Aside0.mk (HB.out.trans (hb9.mono (Nat.le_of_lt hsz))); clear hr9 hb9))
        all_goals go_wp2
        have HLI := Aside0.mk (singles_in (n := n) HI.out)
        have HLB := Aside0.mk (singles_le HE.out)
        obtain ⟨Ar, cr, hrv⟩ := Kd.S_slice HS9.out
        rw [HL.out] at hrv
        subst hrv
        replace HR9 := Aside0.mk (Kd.R_lower (Kd.raw_any HR9.out) (Nat.le_of_lt hsz))
        have HLE := Aside0.mk (show pileVal n E = valTo n (singlesTo E E.length) (singlesTo E E.length).length from rfl)
        generalize singlesTo E E.length = L at HR9 HLI HLB HLE ⊢
        have hlb := HLB.out
        have hv0 : List.replicate n (0 : Int) = valTo n L 0 := rfl
        rw [hv0] at HV9
        clear hv0 HEN HP HS HRd HRv HB HBX hb0 hb1 hsz
        go_loopw [54] (fun i wr => ∃ (j : Nat) (rows : List (List Int)), j ≤ L.length ∧ i = .int .i64 j ∧ Aside0 (rows.length = n) ∧ Aside0 (∀ y ∈ rows, y.length = n) ∧ Aside0 (PileAt wr gp (.slice Av1 dl.length cv1) q (.slice Ar n cr) (.slice (some ⟨bv, 0, none⟩) n n) (fun _ => false)) ∧ Aside0 ((Kd.int .i64).R 3 wr gb (fun k => k ≠ bv) (.slice Av1 dl.length cv1) dl) ∧ Aside0 ((Kd.int .i64).R 3 wr gb (fun k => some k ≠ (Value.slice Av1 dl.length cv1).ownBlock) (.slice (some ⟨bv, 0, none⟩) n n) (valTo n L j)) ∧ Aside0 (Kd.S (Kd.slice 3 (Kd.int .i64)) 33 wr gb (fun k => some k ≠ (Value.slice Av1 dl.length cv1).ownBlock ∧ k ≠ bv) (.slice Ar n cr) rows) ∧ Aside0 ((Kd.raw 2).R 115 wr gb (fun _ => True) (.slice A9 L.length c9) (endRows L)) ∧ Aside0 (Below gb w wr)) (fun i _ => L.length - (intOf i).toNat)
        case atStart => exact ⟨0, _, by omega, rfl, HL, HY, HP9, HD9, HV9, HS9, HR9, HB9⟩
        case round =>
          clear HP9 HD9 HV9 HS9 HR9 HB9 HL HY
          obtain ⟨j, rows, hj, rfl, HL, HY, HP, HD, HV, HS, HR, HB⟩ := hrel
          by_cases hjm : j < L.length
          · obtain ⟨-, -, hC9⟩ := Kd.R_reads' HR.out
            obtain ⟨ad, rfl, hx0, hx1⟩ := at_ends hC9 j (by rw [endRows_length]; exact hjm) hjm
            have hab := HLI.out _ (List.getElem_mem hjm)
            have Hvs := Lib.hid (valTo_succ n L j hjm)
            generalize L[j] = x at hx0 hx1 hab Hvs
            obtain ⟨i, a, b⟩ := x
            simp only at hx0 hx1 hab
            obtain ⟨a, rfl⟩ := Int.eq_ofNat_of_zero_le hab.1
            obtain ⟨b, rfl⟩ := Int.eq_ofNat_of_zero_le hab.2.2.1
            have ha : a < n := by omega
            have hb : b < n := by omega
            have hj0 : (0 : Int) ≤ (j : Int) := by omega
            have hj1 : (j : Int) < (L.length : Int) := by omega
            clear hab hC9
            have HO := Aside0.mk (show (wr.alloc (.cells #[.int .i64 a, .int .i64 b] 115)).heap[wr.heap.size]? = some (.cells #[.int .i64 a, .int .i64 b] 115 (0, 0)) from heap_alloc_new wr _)
            obtain ⟨g0, cr', hrv, -, -, -⟩ := Kd.S_form HS.out (by have := HL.out; omega)
            injection hrv with hrv _ hrc
            subst hrv
            have HPS := Aside0.mk (PS.mk (L := L) HL.out HY.out (HP.out.below (below_alloc (Below.refl _ _) (.cells #[.int .i64 a, .int .i64 b] 115))) (Kd.R_alloc HD.out (.cells #[.int .i64 a, .int .i64 b] 115)) (Kd.R_alloc HV.out (.cells #[.int .i64 a, .int .i64 b] 115)) (Kd.S_alloc HS.out (.cells #[.int .i64 a, .int .i64 b] 115)) (Kd.R_alloc HR.out (.cells #[.int .i64 a, .int .i64 b] 115)) (HB.out.alloc (by have := HB.out.size; omega) (.cells #[.int .i64 a, .int .i64 b] 115)))
            go_wp2
            clear HP HD HV HS HR HB hx0 hx1 HL HY hrc cr'
            generalize (wr.alloc (.cells #[.int .i64 a, .int .i64 b] 115)) = W1 at HO HPS ⊢
            generalize wr.heap.size = ob at HO ⊢
            have hx0 : W1.cell? ⟨ob, 0, none⟩ = some (.int .i64 a) := (blk_cell HO.out 0).trans rfl
            have hx1 : W1.cell? ⟨ob, 1, none⟩ = some (.int .i64 b) := (blk_cell HO.out 1).trans rfl
            go_quiet (fail)
            replace HPS := Aside0.mk (HPS.out.drewN nq)
            clear hx0 hx1 HO
            generalize W1.drewN nq = W2 at HPS ⊢
            clear W1
            have ha0 : (0 : Int) ≤ (a : Int) := by omega
            have ha1 : (a : Int) < (n : Int) := by omega
            have hb0 : (0 : Int) ≤ (b : Int) := by omega
            have hb1 : (b : Int) < (n : Int) := by omega
            by_cases hab : a = b
            · subst hab
              have hvs : valTo n L j = valTo n L (j + 1) := by rw [Hvs.out]; unfold valStep; rw [if_pos rfl]
              rw [hvs] at HPS
              clear hvs
              go_wp2
              exact ⟨⟨j + 1, rows, by omega, by go_num, ⟨HPS.out.len⟩, ⟨HPS.out.all⟩, ⟨HPS.out.pile⟩, ⟨HPS.out.d⟩, ⟨HPS.out.val⟩, ⟨HPS.out.rows⟩, ⟨HPS.out.ends⟩, ⟨HPS.out.below⟩⟩, (show L.length - ((j : Int) + 1).toNat < L.length - ((j : Int)).toNat by omega)⟩
            · have hab1 : ((a : Int) != (b : Int)) = true := by simp; omega
              have hrows := HPS.out.pile.cell_rows
              have hvb := valTo_bound n L j
              have hva := hvb a
              obtain ⟨gi, ci, z, hc1, hc2, hf2, hnx⟩ := HPS.out.row a b ha hb
              obtain ⟨rows3, h3⟩ := hnx (wrap64 (z + 1))
              have H3 := Aside0.mk h3
              have hrows3 := h3.pile.cell_rows
              obtain ⟨gi3, ci3, z3, hc13, hc23, hf23, hnx3⟩ := h3.row b a hb ha
              obtain ⟨rows4, h4⟩ := hnx3 (wrap64 (z3 + 1))
              have H4 := Aside0.mk h4
              have hval4 := h4.pile.cell_val
              obtain ⟨hc4, hf4, hnx4⟩ := h4.valb a ha
              have h5 := hnx4 (rd (valTo n L j) a + 1)
              have H5 := Aside0.mk h5
              have hval5 := h5.pile.cell_val
              obtain ⟨hc5, hf5, hnx5⟩ := h5.valb b hb
              have hbb := incr_bound (v := a) hvb b
              rw [show (valTo n L j).set a (rd (valTo n L j) a + 1) = incr (valTo n L j) a from rfl] at hc5 hnx5
              have H6 := Aside0.mk (hnx5 (rd (incr (valTo n L j) a) b + 1))
              rw [show (incr (valTo n L j) a).set b (rd (incr (valTo n L j) a) b + 1) = valTo n L (j + 1) from by rw [Hvs.out]; unfold valStep; rw [if_neg (show ¬ ((i, (a : Int), (b : Int)).2.1 = (i, (a : Int), (b : Int)).2.2) from fun e => hab (Int.ofNat.inj e))]; rfl] at H6
              clear hnx hnx3 hnx4 hnx5 h3 h4 h5 hvb H3 H4 H5
              generalize rd (valTo n L j) a = va at hva hc4 hval5 hc5 hf5 hbb H6
              generalize rd (incr (valTo n L j) a) b = vb at hbb hc5 H6
              go_wp2
              exact ⟨⟨j + 1, rows4, by omega, by go_num, ⟨H6.out.len⟩, ⟨H6.out.all⟩, ⟨H6.out.pile⟩, ⟨H6.out.d⟩, ⟨H6.out.val⟩, ⟨H6.out.rows⟩, ⟨H6.out.ends⟩, ⟨H6.out.below⟩⟩, (show L.length - ((j : Int) + 1).toNat < L.length - ((j : Int)).toNat by omega)⟩
          · obtain rfl : j = L.length := by omega
            have hcd0 := HP.out.cell_d
            go_wp2
            have HVL := Aside0.mk (valTo_length n L L.length)
            generalize valTo n L L.length = vl at HV HVL HLE ⊢
            clear HS HR HL HY hcd0 hlb HLI HLB hjm hj
            go_loopw [113] (fun i wr => ∃ (j : Nat), j ≤ dl.length ∧ i = .int .i64 j ∧ Aside0 (PileAt wr gp (.slice Av1 dl.length cv1) q (.slice Ar n cr) (.slice (some ⟨bv, 0, none⟩) n n) (fun x => if x < j then looseB q vl dl x else false)) ∧ Aside0 ((Kd.int .i64).R 3 wr gb (fun k => k ≠ bv) (.slice Av1 dl.length cv1) dl) ∧ Aside0 ((Kd.int .i64).R 3 wr gb (fun k => some k ≠ (Value.slice Av1 dl.length cv1).ownBlock) (.slice (some ⟨bv, 0, none⟩) n n) vl) ∧ Aside0 (Below gb w wr)) (fun i _ => dl.length - (intOf i).toNat)
            case atStart => exact ⟨0, by omega, rfl, ⟨by simpa using HP.out⟩, HD, HV, HB⟩
            case round =>
              clear HP HD HV HB
              obtain ⟨j, hj, rfl, HP, HD, HV, HB⟩ := hrel
              by_cases hjd : j < dl.length
              · obtain ⟨-, -, hCd⟩ := Kd.R_reads' HD.out
                obtain ⟨-, -, hCv⟩ := Kd.R_reads' HV.out
                rw [HVL.out] at hCv
                have HW := Aside0.mk (wait_calls2 gp j n q Av1 (some ⟨bv, 0, none⟩) cv1 n dl vl (.slice Ar n cr) _ wr (by omega) hjd HVL.out (by have := Hdl.out; omega) HP.out hCd hCv)
                clear hCd hCv
                go_wp2_with (go_at_call 106; refine HW.out.mono ?_; rintro e w5 ⟨rfl, hp5, hg5⟩; rw [waits_step] at hp5; have HP5 := Aside0.mk hp5; have HD5 := Aside0.mk (Kd.R_grown1 HD.out rfl hg5 (HP.out.ne_of (Kd.R_typed HD.out) (by decide))); have HV5 := Aside0.mk (Kd.R_grown1 HV.out rfl hg5 (HP.out.ne_of (Kd.R_typed HV.out) (by decide))); have HB5 := Aside0.mk (pw_below_grown HB.out (some gp) (by have := HB.out.size; omega) hg5 (fun k e => by cases e; omega)); clear hp5 hg5)
                all_goals go_wp2
                all_goals go_roundw
                case rel => exact ⟨j + 1, by omega, by go_num, HP5, HD5, HV5, HB5⟩
                case measure => exact (show dl.length - ((j : Int) + 1).toNat < dl.length - ((j : Int)).toNat by omega)
              · obtain rfl : j = dl.length := by omega
                go_wp2
                go_ret2
                exact ⟨gp, Av1, _, cv1, n, _, rfl, by rw [HLE.out]; exact HP.out, by rw [HLE.out, hgb]; exact Kd.R_mono HV.out (fun _ _ => trivial), by rw [hgb]; exact HB.out⟩
  · go_region_held3 (fun w' => w'.heap[gb]? = some (.cells #[.int .i64 n, .slice A0 E.length c0] 24 (0, 0)) ∧ w'.cell? ⟨gb, 0, none⟩ = some (.int .i64 n) ∧ Below gb w w')
      (first
        | exact held_start HX0.out hx0 HB.out
        | ((try go_split_ands); refine ⟨by assumption, by assumption, by assumption⟩)
        | ((try go_split_ands); exact held_alloc (by assumption) (by assumption) (by assumption))
        | ((try go_split_ands); exact held_below (by assumption) (by assumption) (by assumption) (by assumption))
        | fail)
      ((go_at_call 45; refine (HC.out _ (HC2.out _ (by go_split_ands; assumption))).mono ?_; rintro e w1 ⟨v1, rfl, hr1, hb1⟩; obtain ⟨Av1, cv1, rfl⟩ := Kd.R_slice hr1))
    · refine ⟨rfl, ?gp_0, ?bv_0, ?bf_0, ?cv_0, ?Av_0, ?u16_0, ?u17_0, ?u18_0, ?u19_0, ?u20_0, ?u21_0, ?u22_0, ?u23_0, ?u24_0, ?u25_0, ?u26_0, ?eq_0, ?gt_0, ?pile_0, ?rd_0, ?rv_0, by (go_split_ands; assumption), by (go_split_ands; assumption)⟩
      case eq_0 => rfl
      case pile_0 => (refine heapnew_at ?_; first | rfl | (simp; done))
      case gt_0 => (have h1 := hb1.size; first | omega | (simp at h1 ⊢; done) | (simp at h1 ⊢; omega) | (have h2 : W0.drew.heap.size = W0.heap.size := rfl; simp [World.drew] at h1 ⊢; omega))
      case rd_0 =>
        refine pile_rd hr1 ?_ ?_ ?_
        · (have h1 := hb1.size; first | omega | (simp at h1 ⊢; done) | (simp at h1 ⊢; omega) | (have h2 : W0.drew.heap.size = W0.heap.size := rfl; simp [World.drew] at h1 ⊢; omega))
        · (first | exact fun h => h | exact fun h => Kd.R_alloc h _ | exact fun h => Kd.R_alloc (Kd.R_alloc h _) _ | exact fun h => Kd.R_alloc (Kd.R_alloc (Kd.R_alloc h _) _) _)
        · (have h1 := hb1.size; first | omega | (simp at h1 ⊢; done) | (simp at h1 ⊢; omega) | (have h2 : W0.drew.heap.size = W0.heap.size := rfl; simp [World.drew] at h1 ⊢; omega))
      case rv_0 =>
        first
          | (refine pile_rv (Y := w1) (HZ.out _ _ rfl) ?_ ?_ hr1 ?_ ?_; (focus (first | rfl | (simp; done))); (focus ((repeat (first | exact Below.refl _ _ | apply below_alloc | apply below_drew1 | refine below_step ?_ hb1)); done)); (focus (have h1 := hb1.size; first | omega | (simp at h1 ⊢; done) | (simp at h1 ⊢; omega) | (have h2 : W0.drew.heap.size = W0.heap.size := rfl; simp [World.drew] at h1 ⊢; omega))); (focus (have h1 := hb1.size; first | omega | (simp at h1 ⊢; done) | (simp at h1 ⊢; omega) | (have h2 : W0.drew.heap.size = W0.heap.size := rfl; simp [World.drew] at h1 ⊢; omega))))
          | (refine pile_rv (Y := (w1.alloc (.cells zs 3))) (HZ.out _ _ rfl) ?_ ?_ hr1 ?_ ?_; (focus (first | rfl | (simp; done))); (focus ((repeat (first | exact Below.refl _ _ | apply below_alloc | apply below_drew1 | refine below_step ?_ hb1)); done)); (focus (have h1 := hb1.size; first | omega | (simp at h1 ⊢; done) | (simp at h1 ⊢; omega) | (have h2 : W0.drew.heap.size = W0.heap.size := rfl; simp [World.drew] at h1 ⊢; omega))); (focus (have h1 := hb1.size; first | omega | (simp at h1 ⊢; done) | (simp at h1 ⊢; omega) | (have h2 : W0.drew.heap.size = W0.heap.size := rfl; simp [World.drew] at h1 ⊢; omega))))
          | (refine pile_rv (Y := W0) (HZ.out _ _ rfl) ?_ ?_ hr1 ?_ ?_; (focus (first | rfl | (simp; done))); (focus ((repeat (first | exact Below.refl _ _ | apply below_alloc | apply below_drew1 | refine below_step ?_ hb1)); done)); (focus (have h1 := hb1.size; first | omega | (simp at h1 ⊢; done) | (simp at h1 ⊢; omega) | (have h2 : W0.drew.heap.size = W0.heap.size := rfl; simp [World.drew] at h1 ⊢; omega))); (focus (have h1 := hb1.size; first | omega | (simp at h1 ⊢; done) | (simp at h1 ⊢; omega) | (have h2 : W0.drew.heap.size = W0.heap.size := rfl; simp [World.drew] at h1 ⊢; omega))))
          | (refine pile_rv (Y := (W0.alloc (.cells zs 3))) (HZ.out _ _ rfl) ?_ ?_ hr1 ?_ ?_; (focus (first | rfl | (simp; done))); (focus ((repeat (first | exact Below.refl _ _ | apply below_alloc | apply below_drew1 | refine below_step ?_ hb1)); done)); (focus (have h1 := hb1.size; first | omega | (simp at h1 ⊢; done) | (simp at h1 ⊢; omega) | (have h2 : W0.drew.heap.size = W0.heap.size := rfl; simp [World.drew] at h1 ⊢; omega))); (focus (have h1 := hb1.size; first | omega | (simp at h1 ⊢; done) | (simp at h1 ⊢; omega) | (have h2 : W0.drew.heap.size = W0.heap.size := rfl; simp [World.drew] at h1 ⊢; omega))))
          | fail
    · refine ⟨rfl, ?gp_1, ?bv_1, ?bf_1, ?cv_1, ?Av_1, ?u16_1, ?u17_1, ?u18_1, ?u19_1, ?u20_1, ?u21_1, ?u22_1, ?u23_1, ?u24_1, ?u25_1, ?u26_1, ?eq_1, ?gt_1, ?pile_1, ?rd_1, ?rv_1, by (go_split_ands; assumption), by (go_split_ands; assumption)⟩
      case eq_1 => rfl
      case pile_1 => (refine heapnew_at ?_; first | rfl | (simp; done))
      case gt_1 => (have h1 := hb1.size; first | omega | (simp at h1 ⊢; done) | (simp at h1 ⊢; omega) | (have h2 : W0.drew.heap.size = W0.heap.size := rfl; simp [World.drew] at h1 ⊢; omega))
      case rd_1 =>
        refine pile_rd hr1 ?_ ?_ ?_
        · (have h1 := hb1.size; first | omega | (simp at h1 ⊢; done) | (simp at h1 ⊢; omega) | (have h2 : W0.drew.heap.size = W0.heap.size := rfl; simp [World.drew] at h1 ⊢; omega))
        · (first | exact fun h => h | exact fun h => Kd.R_alloc h _ | exact fun h => Kd.R_alloc (Kd.R_alloc h _) _ | exact fun h => Kd.R_alloc (Kd.R_alloc (Kd.R_alloc h _) _) _)
        · (have h1 := hb1.size; first | omega | (simp at h1 ⊢; done) | (simp at h1 ⊢; omega) | (have h2 : W0.drew.heap.size = W0.heap.size := rfl; simp [World.drew] at h1 ⊢; omega))
      case rv_1 =>
        first
          | (refine pile_rv (Y := w1) (HZ.out _ _ rfl) ?_ ?_ hr1 ?_ ?_; (focus (first | rfl | (simp; done))); (focus ((repeat (first | exact Below.refl _ _ | apply below_alloc | apply below_drew1 | refine below_step ?_ hb1)); done)); (focus (have h1 := hb1.size; first | omega | (simp at h1 ⊢; done) | (simp at h1 ⊢; omega) | (have h2 : W0.drew.heap.size = W0.heap.size := rfl; simp [World.drew] at h1 ⊢; omega))); (focus (have h1 := hb1.size; first | omega | (simp at h1 ⊢; done) | (simp at h1 ⊢; omega) | (have h2 : W0.drew.heap.size = W0.heap.size := rfl; simp [World.drew] at h1 ⊢; omega))))
          | (refine pile_rv (Y := (w1.alloc (.cells zs 3))) (HZ.out _ _ rfl) ?_ ?_ hr1 ?_ ?_; (focus (first | rfl | (simp; done))); (focus ((repeat (first | exact Below.refl _ _ | apply below_alloc | apply below_drew1 | refine below_step ?_ hb1)); done)); (focus (have h1 := hb1.size; first | omega | (simp at h1 ⊢; done) | (simp at h1 ⊢; omega) | (have h2 : W0.drew.heap.size = W0.heap.size := rfl; simp [World.drew] at h1 ⊢; omega))); (focus (have h1 := hb1.size; first | omega | (simp at h1 ⊢; done) | (simp at h1 ⊢; omega) | (have h2 : W0.drew.heap.size = W0.heap.size := rfl; simp [World.drew] at h1 ⊢; omega))))
          | (refine pile_rv (Y := W0) (HZ.out _ _ rfl) ?_ ?_ hr1 ?_ ?_; (focus (first | rfl | (simp; done))); (focus ((repeat (first | exact Below.refl _ _ | apply below_alloc | apply below_drew1 | refine below_step ?_ hb1)); done)); (focus (have h1 := hb1.size; first | omega | (simp at h1 ⊢; done) | (simp at h1 ⊢; omega) | (have h2 : W0.drew.heap.size = W0.heap.size := rfl; simp [World.drew] at h1 ⊢; omega))); (focus (have h1 := hb1.size; first | omega | (simp at h1 ⊢; done) | (simp at h1 ⊢; omega) | (have h2 : W0.drew.heap.size = W0.heap.size := rfl; simp [World.drew] at h1 ⊢; omega))))
          | (refine pile_rv (Y := (W0.alloc (.cells zs 3))) (HZ.out _ _ rfl) ?_ ?_ hr1 ?_ ?_; (focus (first | rfl | (simp; done))); (focus ((repeat (first | exact Below.refl _ _ | apply below_alloc | apply below_drew1 | refine below_step ?_ hb1)); done)); (focus (have h1 := hb1.size; first | omega | (simp at h1 ⊢; done) | (simp at h1 ⊢; omega) | (have h2 : W0.drew.heap.size = W0.heap.size := rfl; simp [World.drew] at h1 ⊢; omega))); (focus (have h1 := hb1.size; first | omega | (simp at h1 ⊢; done) | (simp at h1 ⊢; omega) | (have h2 : W0.drew.heap.size = W0.heap.size := rfl; simp [World.drew] at h1 ⊢; omega))))
          | fail
    · refine ⟨rfl, ?gp_2, ?bv_2, ?bf_2, ?cv_2, ?Av_2, ?u16_2, ?u17_2, ?u18_2, ?u19_2, ?u20_2, ?u21_2, ?u22_2, ?u23_2, ?u24_2, ?u25_2, ?u26_2, ?eq_2, ?gt_2, ?pile_2, ?rd_2, ?rv_2, by (go_split_ands; assumption), by (go_split_ands; assumption)⟩
      case eq_2 => rfl
      case pile_2 => (refine heapnew_at ?_; first | rfl | (simp; done))
      case gt_2 => (have h1 := hb1.size; first | omega | (simp at h1 ⊢; done) | (simp at h1 ⊢; omega) | (have h2 : W0.drew.heap.size = W0.heap.size := rfl; simp [World.drew] at h1 ⊢; omega))
      case rd_2 =>
        refine pile_rd hr1 ?_ ?_ ?_
        · (have h1 := hb1.size; first | omega | (simp at h1 ⊢; done) | (simp at h1 ⊢; omega) | (have h2 : W0.drew.heap.size = W0.heap.size := rfl; simp [World.drew] at h1 ⊢; omega))
        · (first | exact fun h => h | exact fun h => Kd.R_alloc h _ | exact fun h => Kd.R_alloc (Kd.R_alloc h _) _ | exact fun h => Kd.R_alloc (Kd.R_alloc (Kd.R_alloc h _) _) _)
        · (have h1 := hb1.size; first | omega | (simp at h1 ⊢; done) | (simp at h1 ⊢; omega) | (have h2 : W0.drew.heap.size = W0.heap.size := rfl; simp [World.drew] at h1 ⊢; omega))
      case rv_2 =>
        first
          | (refine pile_rv (Y := w1) (HZ.out _ _ rfl) ?_ ?_ hr1 ?_ ?_; (focus (first | rfl | (simp; done))); (focus ((repeat (first | exact Below.refl _ _ | apply below_alloc | apply below_drew1 | refine below_step ?_ hb1)); done)); (focus (have h1 := hb1.size; first | omega | (simp at h1 ⊢; done) | (simp at h1 ⊢; omega) | (have h2 : W0.drew.heap.size = W0.heap.size := rfl; simp [World.drew] at h1 ⊢; omega))); (focus (have h1 := hb1.size; first | omega | (simp at h1 ⊢; done) | (simp at h1 ⊢; omega) | (have h2 : W0.drew.heap.size = W0.heap.size := rfl; simp [World.drew] at h1 ⊢; omega))))
          | (refine pile_rv (Y := (w1.alloc (.cells zs 3))) (HZ.out _ _ rfl) ?_ ?_ hr1 ?_ ?_; (focus (first | rfl | (simp; done))); (focus ((repeat (first | exact Below.refl _ _ | apply below_alloc | apply below_drew1 | refine below_step ?_ hb1)); done)); (focus (have h1 := hb1.size; first | omega | (simp at h1 ⊢; done) | (simp at h1 ⊢; omega) | (have h2 : W0.drew.heap.size = W0.heap.size := rfl; simp [World.drew] at h1 ⊢; omega))); (focus (have h1 := hb1.size; first | omega | (simp at h1 ⊢; done) | (simp at h1 ⊢; omega) | (have h2 : W0.drew.heap.size = W0.heap.size := rfl; simp [World.drew] at h1 ⊢; omega))))
          | (refine pile_rv (Y := W0) (HZ.out _ _ rfl) ?_ ?_ hr1 ?_ ?_; (focus (first | rfl | (simp; done))); (focus ((repeat (first | exact Below.refl _ _ | apply below_alloc | apply below_drew1 | refine below_step ?_ hb1)); done)); (focus (have h1 := hb1.size; first | omega | (simp at h1 ⊢; done) | (simp at h1 ⊢; omega) | (have h2 : W0.drew.heap.size = W0.heap.size := rfl; simp [World.drew] at h1 ⊢; omega))); (focus (have h1 := hb1.size; first | omega | (simp at h1 ⊢; done) | (simp at h1 ⊢; omega) | (have h2 : W0.drew.heap.size = W0.heap.size := rfl; simp [World.drew] at h1 ⊢; omega))))
          | (refine pile_rv (Y := (W0.alloc (.cells zs 3))) (HZ.out _ _ rfl) ?_ ?_ hr1 ?_ ?_; (focus (first | rfl | (simp; done))); (focus ((repeat (first | exact Below.refl _ _ | apply below_alloc | apply below_drew1 | refine below_step ?_ hb1)); done)); (focus (have h1 := hb1.size; first | omega | (simp at h1 ⊢; done) | (simp at h1 ⊢; omega) | (have h2 : W0.drew.heap.size = W0.heap.size := rfl; simp [World.drew] at h1 ⊢; omega))); (focus (have h1 := hb1.size; first | omega | (simp at h1 ⊢; done) | (simp at h1 ⊢; omega) | (have h2 : W0.drew.heap.size = W0.heap.size := rfl; simp [World.drew] at h1 ⊢; omega))))
          | fail
    · refine ⟨rfl, ?gp_3, ?bv_3, ?bf_3, ?cv_3, ?Av_3, ?u16_3, ?u17_3, ?u18_3, ?u19_3, ?u20_3, ?u21_3, ?u22_3, ?u23_3, ?u24_3, ?u25_3, ?u26_3, ?eq_3, ?gt_3, ?pile_3, ?rd_3, ?rv_3, by (go_split_ands; assumption), by (go_split_ands; assumption)⟩
      case eq_3 => rfl
      case pile_3 => (refine heapnew_at ?_; first | rfl | (simp; done))
      case gt_3 => (have h1 := hb1.size; first | omega | (simp at h1 ⊢; done) | (simp at h1 ⊢; omega) | (have h2 : W0.drew.heap.size = W0.heap.size := rfl; simp [World.drew] at h1 ⊢; omega))
      case rd_3 =>
        refine pile_rd hr1 ?_ ?_ ?_
        · (have h1 := hb1.size; first | omega | (simp at h1 ⊢; done) | (simp at h1 ⊢; omega) | (have h2 : W0.drew.heap.size = W0.heap.size := rfl; simp [World.drew] at h1 ⊢; omega))
        · (first | exact fun h => h | exact fun h => Kd.R_alloc h _ | exact fun h => Kd.R_alloc (Kd.R_alloc h _) _ | exact fun h => Kd.R_alloc (Kd.R_alloc (Kd.R_alloc h _) _) _)
        · (have h1 := hb1.size; first | omega | (simp at h1 ⊢; done) | (simp at h1 ⊢; omega) | (have h2 : W0.drew.heap.size = W0.heap.size := rfl; simp [World.drew] at h1 ⊢; omega))
      case rv_3 =>
        first
          | (refine pile_rv (Y := w1) (HZ.out _ _ rfl) ?_ ?_ hr1 ?_ ?_; (focus (first | rfl | (simp; done))); (focus ((repeat (first | exact Below.refl _ _ | apply below_alloc | apply below_drew1 | refine below_step ?_ hb1)); done)); (focus (have h1 := hb1.size; first | omega | (simp at h1 ⊢; done) | (simp at h1 ⊢; omega) | (have h2 : W0.drew.heap.size = W0.heap.size := rfl; simp [World.drew] at h1 ⊢; omega))); (focus (have h1 := hb1.size; first | omega | (simp at h1 ⊢; done) | (simp at h1 ⊢; omega) | (have h2 : W0.drew.heap.size = W0.heap.size := rfl; simp [World.drew] at h1 ⊢; omega))))
          | (refine pile_rv (Y := (w1.alloc (.cells zs 3))) (HZ.out _ _ rfl) ?_ ?_ hr1 ?_ ?_; (focus (first | rfl | (simp; done))); (focus ((repeat (first | exact Below.refl _ _ | apply below_alloc | apply below_drew1 | refine below_step ?_ hb1)); done)); (focus (have h1 := hb1.size; first | omega | (simp at h1 ⊢; done) | (simp at h1 ⊢; omega) | (have h2 : W0.drew.heap.size = W0.heap.size := rfl; simp [World.drew] at h1 ⊢; omega))); (focus (have h1 := hb1.size; first | omega | (simp at h1 ⊢; done) | (simp at h1 ⊢; omega) | (have h2 : W0.drew.heap.size = W0.heap.size := rfl; simp [World.drew] at h1 ⊢; omega))))
          | (refine pile_rv (Y := W0) (HZ.out _ _ rfl) ?_ ?_ hr1 ?_ ?_; (focus (first | rfl | (simp; done))); (focus ((repeat (first | exact Below.refl _ _ | apply below_alloc | apply below_drew1 | refine below_step ?_ hb1)); done)); (focus (have h1 := hb1.size; first | omega | (simp at h1 ⊢; done) | (simp at h1 ⊢; omega) | (have h2 : W0.drew.heap.size = W0.heap.size := rfl; simp [World.drew] at h1 ⊢; omega))); (focus (have h1 := hb1.size; first | omega | (simp at h1 ⊢; done) | (simp at h1 ⊢; omega) | (have h2 : W0.drew.heap.size = W0.heap.size := rfl; simp [World.drew] at h1 ⊢; omega))))
          | (refine pile_rv (Y := (W0.alloc (.cells zs 3))) (HZ.out _ _ rfl) ?_ ?_ hr1 ?_ ?_; (focus (first | rfl | (simp; done))); (focus ((repeat (first | exact Below.refl _ _ | apply below_alloc | apply below_drew1 | refine below_step ?_ hb1)); done)); (focus (have h1 := hb1.size; first | omega | (simp at h1 ⊢; done) | (simp at h1 ⊢; omega) | (have h2 : W0.drew.heap.size = W0.heap.size := rfl; simp [World.drew] at h1 ⊢; omega))); (focus (have h1 := hb1.size; first | omega | (simp at h1 ⊢; done) | (simp at h1 ⊢; omega) | (have h2 : W0.drew.heap.size = W0.heap.size := rfl; simp [World.drew] at h1 ⊢; omega))))
          | fail
    · refine ⟨rfl, ?gp_4, ?bv_4, ?bf_4, ?cv_4, ?Av_4, ?u16_4, ?u17_4, ?u18_4, ?u19_4, ?u20_4, ?u21_4, ?u22_4, ?u23_4, ?u24_4, ?u25_4, ?u26_4, ?eq_4, ?gt_4, ?pile_4, ?rd_4, ?rv_4, by (go_split_ands; assumption), by (go_split_ands; assumption)⟩
      case eq_4 => rfl
      case pile_4 => (refine heapnew_at ?_; first | rfl | (simp; done))
      case gt_4 => (have h1 := hb1.size; first | omega | (simp at h1 ⊢; done) | (simp at h1 ⊢; omega) | (have h2 : W0.drew.heap.size = W0.heap.size := rfl; simp [World.drew] at h1 ⊢; omega))
      case rd_4 =>
        refine pile_rd hr1 ?_ ?_ ?_
        · (have h1 := hb1.size; first | omega | (simp at h1 ⊢; done) | (simp at h1 ⊢; omega) | (have h2 : W0.drew.heap.size = W0.heap.size := rfl; simp [World.drew] at h1 ⊢; omega))
        · (first | exact fun h => h | exact fun h => Kd.R_alloc h _ | exact fun h => Kd.R_alloc (Kd.R_alloc h _) _ | exact fun h => Kd.R_alloc (Kd.R_alloc (Kd.R_alloc h _) _) _)
        · (have h1 := hb1.size; first | omega | (simp at h1 ⊢; done) | (simp at h1 ⊢; omega) | (have h2 : W0.drew.heap.size = W0.heap.size := rfl; simp [World.drew] at h1 ⊢; omega))
      case rv_4 =>
        first
          | (refine pile_rv (Y := w1) (HZ.out _ _ rfl) ?_ ?_ hr1 ?_ ?_; (focus (first | rfl | (simp; done))); (focus ((repeat (first | exact Below.refl _ _ | apply below_alloc | apply below_drew1 | refine below_step ?_ hb1)); done)); (focus (have h1 := hb1.size; first | omega | (simp at h1 ⊢; done) | (simp at h1 ⊢; omega) | (have h2 : W0.drew.heap.size = W0.heap.size := rfl; simp [World.drew] at h1 ⊢; omega))); (focus (have h1 := hb1.size; first | omega | (simp at h1 ⊢; done) | (simp at h1 ⊢; omega) | (have h2 : W0.drew.heap.size = W0.heap.size := rfl; simp [World.drew] at h1 ⊢; omega))))
          | (refine pile_rv (Y := (w1.alloc (.cells zs 3))) (HZ.out _ _ rfl) ?_ ?_ hr1 ?_ ?_; (focus (first | rfl | (simp; done))); (focus ((repeat (first | exact Below.refl _ _ | apply below_alloc | apply below_drew1 | refine below_step ?_ hb1)); done)); (focus (have h1 := hb1.size; first | omega | (simp at h1 ⊢; done) | (simp at h1 ⊢; omega) | (have h2 : W0.drew.heap.size = W0.heap.size := rfl; simp [World.drew] at h1 ⊢; omega))); (focus (have h1 := hb1.size; first | omega | (simp at h1 ⊢; done) | (simp at h1 ⊢; omega) | (have h2 : W0.drew.heap.size = W0.heap.size := rfl; simp [World.drew] at h1 ⊢; omega))))
          | (refine pile_rv (Y := W0) (HZ.out _ _ rfl) ?_ ?_ hr1 ?_ ?_; (focus (first | rfl | (simp; done))); (focus ((repeat (first | exact Below.refl _ _ | apply below_alloc | apply below_drew1 | refine below_step ?_ hb1)); done)); (focus (have h1 := hb1.size; first | omega | (simp at h1 ⊢; done) | (simp at h1 ⊢; omega) | (have h2 : W0.drew.heap.size = W0.heap.size := rfl; simp [World.drew] at h1 ⊢; omega))); (focus (have h1 := hb1.size; first | omega | (simp at h1 ⊢; done) | (simp at h1 ⊢; omega) | (have h2 : W0.drew.heap.size = W0.heap.size := rfl; simp [World.drew] at h1 ⊢; omega))))
          | (refine pile_rv (Y := (W0.alloc (.cells zs 3))) (HZ.out _ _ rfl) ?_ ?_ hr1 ?_ ?_; (focus (first | rfl | (simp; done))); (focus ((repeat (first | exact Below.refl _ _ | apply below_alloc | apply below_drew1 | refine below_step ?_ hb1)); done)); (focus (have h1 := hb1.size; first | omega | (simp at h1 ⊢; done) | (simp at h1 ⊢; omega) | (have h2 : W0.drew.heap.size = W0.heap.size := rfl; simp [World.drew] at h1 ⊢; omega))); (focus (have h1 := hb1.size; first | omega | (simp at h1 ⊢; done) | (simp at h1 ⊢; omega) | (have h2 : W0.drew.heap.size = W0.heap.size := rfl; simp [World.drew] at h1 ⊢; omega))))
          | fail
    · refine ⟨rfl, ?gp_5, ?bv_5, ?bf_5, ?cv_5, ?Av_5, ?u16_5, ?u17_5, ?u18_5, ?u19_5, ?u20_5, ?u21_5, ?u22_5, ?u23_5, ?u24_5, ?u25_5, ?u26_5, ?eq_5, ?gt_5, ?pile_5, ?rd_5, ?rv_5, by (go_split_ands; assumption), by (go_split_ands; assumption)⟩
      case eq_5 => rfl
      case pile_5 => (refine heapnew_at ?_; first | rfl | (simp; done))
      case gt_5 => (have h1 := hb1.size; first | omega | (simp at h1 ⊢; done) | (simp at h1 ⊢; omega) | (have h2 : W0.drew.heap.size = W0.heap.size := rfl; simp [World.drew] at h1 ⊢; omega))
      case rd_5 =>
        refine pile_rd hr1 ?_ ?_ ?_
        · (have h1 := hb1.size; first | omega | (simp at h1 ⊢; done) | (simp at h1 ⊢; omega) | (have h2 : W0.drew.heap.size = W0.heap.size := rfl; simp [World.drew] at h1 ⊢; omega))
        · (first | exact fun h => h | exact fun h => Kd.R_alloc h _ | exact fun h => Kd.R_alloc (Kd.R_alloc h _) _ | exact fun h => Kd.R_alloc (Kd.R_alloc (Kd.R_alloc h _) _) _)
        · (have h1 := hb1.size; first | omega | (simp at h1 ⊢; done) | (simp at h1 ⊢; omega) | (have h2 : W0.drew.heap.size = W0.heap.size := rfl; simp [World.drew] at h1 ⊢; omega))
      case rv_5 =>
        first
          | (refine pile_rv (Y := w1) (HZ.out _ _ rfl) ?_ ?_ hr1 ?_ ?_; (focus (first | rfl | (simp; done))); (focus ((repeat (first | exact Below.refl _ _ | apply below_alloc | apply below_drew1 | refine below_step ?_ hb1)); done)); (focus (have h1 := hb1.size; first | omega | (simp at h1 ⊢; done) | (simp at h1 ⊢; omega) | (have h2 : W0.drew.heap.size = W0.heap.size := rfl; simp [World.drew] at h1 ⊢; omega))); (focus (have h1 := hb1.size; first | omega | (simp at h1 ⊢; done) | (simp at h1 ⊢; omega) | (have h2 : W0.drew.heap.size = W0.heap.size := rfl; simp [World.drew] at h1 ⊢; omega))))
          | (refine pile_rv (Y := (w1.alloc (.cells zs 3))) (HZ.out _ _ rfl) ?_ ?_ hr1 ?_ ?_; (focus (first | rfl | (simp; done))); (focus ((repeat (first | exact Below.refl _ _ | apply below_alloc | apply below_drew1 | refine below_step ?_ hb1)); done)); (focus (have h1 := hb1.size; first | omega | (simp at h1 ⊢; done) | (simp at h1 ⊢; omega) | (have h2 : W0.drew.heap.size = W0.heap.size := rfl; simp [World.drew] at h1 ⊢; omega))); (focus (have h1 := hb1.size; first | omega | (simp at h1 ⊢; done) | (simp at h1 ⊢; omega) | (have h2 : W0.drew.heap.size = W0.heap.size := rfl; simp [World.drew] at h1 ⊢; omega))))
          | (refine pile_rv (Y := W0) (HZ.out _ _ rfl) ?_ ?_ hr1 ?_ ?_; (focus (first | rfl | (simp; done))); (focus ((repeat (first | exact Below.refl _ _ | apply below_alloc | apply below_drew1 | refine below_step ?_ hb1)); done)); (focus (have h1 := hb1.size; first | omega | (simp at h1 ⊢; done) | (simp at h1 ⊢; omega) | (have h2 : W0.drew.heap.size = W0.heap.size := rfl; simp [World.drew] at h1 ⊢; omega))); (focus (have h1 := hb1.size; first | omega | (simp at h1 ⊢; done) | (simp at h1 ⊢; omega) | (have h2 : W0.drew.heap.size = W0.heap.size := rfl; simp [World.drew] at h1 ⊢; omega))))
          | (refine pile_rv (Y := (W0.alloc (.cells zs 3))) (HZ.out _ _ rfl) ?_ ?_ hr1 ?_ ?_; (focus (first | rfl | (simp; done))); (focus ((repeat (first | exact Below.refl _ _ | apply below_alloc | apply below_drew1 | refine below_step ?_ hb1)); done)); (focus (have h1 := hb1.size; first | omega | (simp at h1 ⊢; done) | (simp at h1 ⊢; omega) | (have h2 : W0.drew.heap.size = W0.heap.size := rfl; simp [World.drew] at h1 ⊢; omega))); (focus (have h1 := hb1.size; first | omega | (simp at h1 ⊢; done) | (simp at h1 ⊢; omega) | (have h2 : W0.drew.heap.size = W0.heap.size := rfl; simp [World.drew] at h1 ⊢; omega))))
          | fail
section
theorem grown_set1 (w : World) (g j : Nat) (v : Value) : w.grownBy (w.setCell ⟨g, j, none⟩ v) (some g) := ⟨rfl, rfl, rfl, by simp, fun k _ hk => Below.heap_setCell w _ v k (fun e => hk (by rw [e]))⟩
def ForestAt (w : World) (g : Nat) (p : Nat → Nat) : Prop := ∃ cs : Array Value, w.heap[g]? = some (.cells cs 139 (0, 0)) ∧ cs.size = 12 ∧ ∀ i, i < 12 → cs[i]? = some (.int .i64 (p i : Nat))
namespace ForestAt
variable {w w' : World} {g : Nat} {p : Nat → Nat}
theorem lt (h : ForestAt w g p) : g < w.heap.size := by
  obtain ⟨cs, hb, _⟩ := h
  exact blk_lt hb
theorem cell (h : ForestAt w g p) (i : Nat) (hi : i < 12) : w.cell? ⟨g, i, none⟩ = some (.int .i64 (p i : Nat)) := by
  obtain ⟨cs, hb, _, hc⟩ := h
  exact (blk_cell hb i).trans (hc i hi)
theorem frozen (h : ForestAt w g p) (k : Nat) : w.frozen? ⟨g, k, none⟩ = false := by
  obtain ⟨cs, hb, _⟩ := h
  exact blk_frozen hb k
theorem grown {row : Option Nat} (h : ForestAt w g p) (hg : w.grownBy w' row) (hne : some g ≠ row) : ForestAt w' g p := by
  obtain ⟨cs, hh, hc⟩ := h
  exact ⟨cs, blk_grown hh hg hne, hc⟩
theorem below (h : ForestAt w g p) (hb : Below w.heap.size w w') : ForestAt w' g p := by
  obtain ⟨cs, hh, hc⟩ := h
  exact ⟨cs, blk_below hh hb, hc⟩
theorem alloc (h : ForestAt w g p) (o : Obj) : ForestAt (w.alloc o) g p := h.below (below_alloc (Below.refl _ _) o)
theorem set (h : ForestAt w g p) (i : Nat) (hi : i < 12) (x : Nat) : ForestAt (w.setCell ⟨g, i, none⟩ (.int .i64 x)) g (fun j => if j = i then x else p j) := by
  obtain ⟨cs, hh, hs, hc⟩ := h
  refine ⟨cs.setIfInBounds i (.int .i64 x), by simpa using blk_set hh i (.int .i64 x), by simp [hs], ?_⟩
  intro k hk
  by_cases e : k = i
  · subst e
    rw [Array.getElem?_setIfInBounds_self_of_lt (by omega)]; simp
  · rw [Array.getElem?_setIfInBounds_ne (by omega), hc k hk]; simp [e]
theorem congr {q : Nat → Nat} (h : ForestAt w g p) (he : ∀ i, i < 12 → q i = p i) : ForestAt w g q := by
  obtain ⟨cs, hh, hs, hc⟩ := h
  exact ⟨cs, hh, hs, fun i hi => by rw [he i hi]; exact hc i hi⟩
end ForestAt
def Falls (p : Nat → Nat) : Prop := ∀ i, p i ≤ i
def rootOf (p : Nat → Nat) (v : Nat) : Nat := if h : p v < v then rootOf p (p v) else v
termination_by v
theorem rootOf_le (p : Nat → Nat) (v : Nat) : rootOf p v ≤ v := by
  induction v using Nat.strongRecOn with
  | ind v ih =>
    rw [rootOf]
    split
    · rename_i h
      exact Nat.le_trans (ih _ h) (Nat.le_of_lt h)
    · exact Nat.le_refl _
def joinOf (p : Nat → Nat) (a b : Nat) : Nat → Nat := fun j => if j = max (rootOf p a) (rootOf p b) then min (rootOf p a) (rootOf p b) else p j
theorem joinOf_falls {p : Nat → Nat} (h : Falls p) (a b : Nat) : Falls (joinOf p a b) := fun i => by
  unfold joinOf
  split
  · subst_vars; omega
  · exact h i
def forestOf (E : List S66) : Nat → Nat := E.foldl (fun p x => joinOf p x.f0.toNat x.f1.toNat) id
theorem forestOf_snoc (E : List S66) (k : Nat) (h : k < E.length) : forestOf (E.take (k + 1)) = joinOf (forestOf (E.take k)) (rd_T66 E k).f0.toNat (rd_T66 E k).f1.toNat := by
  unfold forestOf
  rw [List.take_succ_eq_append_getElem h, List.foldl_append]
  simp [rd_T66, List.getD_eq_getElem?_getD, List.getElem?_eq_getElem h]
theorem forestOf_falls (E : List S66) : Falls (forestOf E) := by
  suffices h : ∀ (E : List S66) p, Falls p → Falls (E.foldl (fun p x => joinOf p x.f0.toNat x.f1.toNat) p) from h E id (fun i => Nat.le_refl _)
  intro E
  induction E with
  | nil => exact fun p h => h
  | cons x E ih => exact fun p h => ih _ (joinOf_falls h _ _)
theorem ret_intn {k : IntKind} {a b : Int} (h : a = b) : Ending.returned (.int k a) = .returned (.int k b) := by rw [h]
set_option maxHeartbeats 4000000 in
set_option maxRecDepth 100000 in
theorem root_calls (g v : Nat) (p : Nat → Nat) (w : World) (hf : Falls p) (hv : v < 12) (hw : ForestAt w g p) :
    Calls Try.prog 124 #[.pointer (some ⟨g, 0, none⟩), .int .i64 v] w fun e w' => e = .returned (.int .i64 (rootOf p v : Nat)) ∧ w = w' := by
  go_enter Try.func124, Try.ntmps124
  go_wp2
  go_loop [1] (fun u => ∃ k : Nat, k < 12 ∧ u = .int .i64 k ∧ rootOf p k = rootOf p v) (fun u => (intOf u).toNat)
  case atStart => exact ⟨v, hv, rfl, rfl⟩
  case round =>
    obtain ⟨k, hk, rfl, hr⟩ := hrel
    have Hr := Lib.hid hr
    clear hr
    have hc := hw.cell k hk
    have hi0 : (0 : Int) ≤ (k : Int) := by omega
    have hi1 : (k : Int) < 12 := by omega
    have hle := hf k
    by_cases hlt : p k < k
    · have hs : rootOf p k = rootOf p (p k) := by rw [rootOf, dif_pos hlt]
      have Hs := Lib.hid hs
      clear hs
      have hne : ((p k : Nat) : Int) ≠ (k : Int) := by omega
      go_wp2
      go_round
      case rel => exact ⟨p k, by omega, rfl, by rw [← Hr.out, Hs.out]⟩
      case measure => simp [intOf]; omega
    · have hs : rootOf p k = k := by rw [rootOf, dif_neg hlt]
      have Hs := Lib.hid hs
      clear hs
      have hq : p k = k := by omega
      rw [hq] at hc
      clear hq
      go_wp2
      go_ret
      exact ⟨ret_intn (by rw [← Hr.out, Hs.out]), rfl⟩
set_option maxHeartbeats 4000000 in
set_option maxRecDepth 100000 in
theorem join_calls (g a b : Nat) (p : Nat → Nat) (w : World) (hf : Falls p) (ha : a < 12) (hb : b < 12) (hw : ForestAt w g p) :
    Calls Try.prog 123 #[.pointer (some ⟨g, 0, none⟩), .int .i64 a, .int .i64 b] w fun e w' => e = .returned (.tuple #[]) ∧ ForestAt w' g (joinOf p a b) ∧ w.grownBy w' (some g) := by
  have h1 := rootOf_le p a
  have h2 := rootOf_le p b
  generalize hra : rootOf p a = ra at h1
  generalize hrb : rootOf p b = rb at h2
  have ca := root_calls g a p w hf ha hw
  have cb := root_calls g b p w hf hb hw
  rw [hra] at ca
  rw [hrb] at cb
  have CA := Aside0.mk ca
  have CB := Aside0.mk cb
  have Hj : Aside0 (ForestAt (w.setCell ⟨g, max ra rb, none⟩ (.int .i64 (min ra rb : Nat))) g (joinOf p a b)) := ⟨by unfold joinOf; rw [hra, hrb]; exact hw.set _ (by omega) _⟩
  have Hg : Aside0 (w.grownBy (w.setCell ⟨g, max ra rb, none⟩ (.int .i64 (min ra rb : Nat))) (some g)) := ⟨grown_set1 ..⟩
  clear hra hrb ca cb
  have hra12 : ra < 12 := by omega
  have hrb12 : rb < 12 := by omega
  have hi0 : (0 : Int) ≤ (ra : Int) := by omega
  have hi1 : (ra : Int) < 12 := by omega
  have hj0 : (0 : Int) ≤ (rb : Int) := by omega
  have hj1 : (rb : Int) < 12 := by omega
  have hca := hw.cell ra hra12
  have hfa := hw.frozen ra
  have hcb := hw.cell rb hrb12
  have hfb := hw.frozen rb
  have HW := Aside0.mk hw
  clear hw h1 h2 hra12 hrb12
  rcases Nat.lt_trichotomy ra rb with hlt | heq | hlt
  · rw [show max ra rb = rb from by omega, show min ra rb = ra from by omega] at Hj Hg
    have hl1 : (ra : Int) < (rb : Int) := by omega
    have hl2 : ¬ (rb : Int) < (ra : Int) := by omega
    have hl3 : (ra : Int) ≤ (rb : Int) := by omega
    have hl4 : ¬ (rb : Int) ≤ (ra : Int) := by omega
    go_enter Try.func123, Try.ntmps123
    go_wp2_with (first | (go_at_call 124; (first | (with_reducible refine CA.out.mono ?_) | (with_reducible refine CB.out.mono ?_)); rintro e w1 ⟨rfl, rfl⟩))
    go_end0
    exact ⟨rfl, Hj.out, Hg.out⟩
  · subst heq
    rw [Nat.max_self, Nat.min_self] at Hj Hg
    clear hcb hfb hj0 hj1
    go_enter Try.func123, Try.ntmps123
    go_wp2_with (first | (go_at_call 124; (first | (with_reducible refine CA.out.mono ?_) | (with_reducible refine CB.out.mono ?_)); rintro e w1 ⟨rfl, rfl⟩))
    go_end0
    exact ⟨rfl, Hj.out, Hg.out⟩
  · rw [show max ra rb = ra from by omega, show min ra rb = rb from by omega] at Hj Hg
    have hl1 : (rb : Int) < (ra : Int) := by omega
    have hl2 : ¬ (ra : Int) < (rb : Int) := by omega
    have hl3 : (rb : Int) ≤ (ra : Int) := by omega
    have hl4 : ¬ (ra : Int) ≤ (rb : Int) := by omega
    go_enter Try.func123, Try.ntmps123
    go_wp2_with (first | (go_at_call 124; (first | (with_reducible refine CA.out.mono ?_) | (with_reducible refine CB.out.mono ?_)); rintro e w1 ⟨rfl, rfl⟩))
    go_end0
    exact ⟨rfl, Hj.out, Hg.out⟩
set_option maxHeartbeats 4000000 in
set_option maxRecDepth 100000 in
theorem grown_calls (w : World) : Calls Try.prog 122 #[] w fun e w' => e = .returned (.agg #[.int .i64 0, .int .i64 1, .int .i64 2, .int .i64 3, .int .i64 4, .int .i64 5, .int .i64 6, .int .i64 7, .int .i64 8, .int .i64 9, .int .i64 10, .int .i64 11]) ∧ Below w.heap.size w w' := by
  go_enter Try.func122, Try.ntmps122
  go_wp2
  have hB := below_alloc (below_alloc (Below.refl w.heap.size w) (.cells #[.int .i64 0, .int .i64 0, .int .i64 0, .int .i64 0, .int .i64 0, .int .i64 0, .int .i64 0, .int .i64 0, .int .i64 0, .int .i64 0, .int .i64 0, .int .i64 0] 139)) (.cells #[.int .i64 0, .int .i64 0, .int .i64 0, .int .i64 0, .int .i64 0, .int .i64 0, .int .i64 0, .int .i64 0, .int .i64 0, .int .i64 0, .int .i64 0, .int .i64 0] 139)
  have h0 : ((w.alloc (.cells #[.int .i64 0, .int .i64 0, .int .i64 0, .int .i64 0, .int .i64 0, .int .i64 0, .int .i64 0, .int .i64 0, .int .i64 0, .int .i64 0, .int .i64 0, .int .i64 0] 139)).alloc (.cells #[.int .i64 0, .int .i64 0, .int .i64 0, .int .i64 0, .int .i64 0, .int .i64 0, .int .i64 0, .int .i64 0, .int .i64 0, .int .i64 0, .int .i64 0, .int .i64 0] 139)).heap[w.heap.size]? = some (.cells #[.int .i64 0, .int .i64 0, .int .i64 0, .int .i64 0, .int .i64 0, .int .i64 0, .int .i64 0, .int .i64 0, .int .i64 0, .int .i64 0, .int .i64 0, .int .i64 0] 139 (0, 0)) := blk_alloc (heap_alloc_new w _) _
  have h1 : ForestAt ((w.alloc (.cells #[.int .i64 0, .int .i64 0, .int .i64 0, .int .i64 0, .int .i64 0, .int .i64 0, .int .i64 0, .int .i64 0, .int .i64 0, .int .i64 0, .int .i64 0, .int .i64 0] 139)).alloc (.cells #[.int .i64 0, .int .i64 0, .int .i64 0, .int .i64 0, .int .i64 0, .int .i64 0, .int .i64 0, .int .i64 0, .int .i64 0, .int .i64 0, .int .i64 0, .int .i64 0] 139)) (w.heap.size + 1) (fun i => if i < 0 then i else 0) := by
    refine ⟨#[.int .i64 0, .int .i64 0, .int .i64 0, .int .i64 0, .int .i64 0, .int .i64 0, .int .i64 0, .int .i64 0, .int .i64 0, .int .i64 0, .int .i64 0, .int .i64 0], by simpa using heap_alloc_new (w.alloc (.cells #[.int .i64 0, .int .i64 0, .int .i64 0, .int .i64 0, .int .i64 0, .int .i64 0, .int .i64 0, .int .i64 0, .int .i64 0, .int .i64 0, .int .i64 0, .int .i64 0] 139)) (.cells #[.int .i64 0, .int .i64 0, .int .i64 0, .int .i64 0, .int .i64 0, .int .i64 0, .int .i64 0, .int .i64 0, .int .i64 0, .int .i64 0, .int .i64 0, .int .i64 0] 139), rfl, fun i hi => ?_⟩
    match i, hi with | 0, _ => rfl | 1, _ => rfl | 2, _ => rfl | 3, _ => rfl | 4, _ => rfl | 5, _ => rfl | 6, _ => rfl | 7, _ => rfl | 8, _ => rfl | 9, _ => rfl | 10, _ => rfl | 11, _ => rfl
  generalize hgb : w.heap.size = gb at h0 h1 hB ⊢
  generalize ((w.alloc (.cells #[.int .i64 0, .int .i64 0, .int .i64 0, .int .i64 0, .int .i64 0, .int .i64 0, .int .i64 0, .int .i64 0, .int .i64 0, .int .i64 0, .int .i64 0, .int .i64 0] 139)).alloc (.cells #[.int .i64 0, .int .i64 0, .int .i64 0, .int .i64 0, .int .i64 0, .int .i64 0, .int .i64 0, .int .i64 0, .int .i64 0, .int .i64 0, .int .i64 0, .int .i64 0] 139)) = W0 at h0 h1 hB ⊢
  go_loopw [2, 3] (fun _ i wr => ∃ k : Nat, k ≤ 12 ∧ i = .int .i64 k ∧ Aside0 (wr.heap[gb]? = some (.cells #[.int .i64 0, .int .i64 0, .int .i64 0, .int .i64 0, .int .i64 0, .int .i64 0, .int .i64 0, .int .i64 0, .int .i64 0, .int .i64 0, .int .i64 0, .int .i64 0] 139 (0, 0))) ∧ Aside0 (ForestAt wr (gb + 1) (fun i => if i < k then i else 0)) ∧ Aside0 (Below gb w wr)) (fun _ i _ => 12 - (intOf i).toNat)
  case atStart => exact ⟨0, by omega, rfl, ⟨h0⟩, ⟨h1⟩, ⟨hB⟩⟩
  case round =>
    obtain ⟨k, hk, rfl, H0, H1, HB⟩ := hrel
    by_cases hlt : k < 12
    · have hc := H1.out.cell k hlt
      have hf := H1.out.frozen k
      have hi0 : (0 : Int) ≤ (k : Int) := by omega
      have hi1 : (k : Int) < 12 := by omega
      have n0 := Aside0.mk (blk_grown H0.out (grown_set1 wr (gb + 1) k (.int .i64 k)) (by simp))
      have n1 := Aside0.mk ((H1.out.set k hlt k).congr (q := fun i => if i < k + 1 then i else 0) (fun i hi => by (try dsimp only); split <;> split <;> (try split) <;> omega))
      have n2 := Aside0.mk (HB.out.grown (grown_set1 wr (gb + 1) k (.int .i64 k)) (by have := H1.out.lt; omega) (fun j e => by cases e; omega))
      go_wp2
      go_roundw
      case rel => exact ⟨k + 1, by omega, by go_num, n0, n1, n2⟩
      case measure => (show 12 - ((k : Int) + 1).toNat < 12 - ((k : Int)).toNat; omega)
    · obtain rfl : k = 12 := by omega
      have hc0 : wr.cell? ⟨gb + 1, 0, none⟩ = some (.int .i64 0) := H1.out.cell 0 (by omega)
      have hz0 : wr.cell? ⟨gb, 0, none⟩ = some (.int .i64 0) := (blk_cell H0.out 0).trans rfl
      have hf0 := blk_frozen H0.out 0
      have hc1 : wr.cell? ⟨gb + 1, 1, none⟩ = some (.int .i64 1) := H1.out.cell 1 (by omega)
      have hz1 : wr.cell? ⟨gb, 1, none⟩ = some (.int .i64 0) := (blk_cell H0.out 1).trans rfl
      have hf1 := blk_frozen H0.out 1
      have hc2 : wr.cell? ⟨gb + 1, 2, none⟩ = some (.int .i64 2) := H1.out.cell 2 (by omega)
      have hz2 : wr.cell? ⟨gb, 2, none⟩ = some (.int .i64 0) := (blk_cell H0.out 2).trans rfl
      have hf2 := blk_frozen H0.out 2
      have hc3 : wr.cell? ⟨gb + 1, 3, none⟩ = some (.int .i64 3) := H1.out.cell 3 (by omega)
      have hz3 : wr.cell? ⟨gb, 3, none⟩ = some (.int .i64 0) := (blk_cell H0.out 3).trans rfl
      have hf3 := blk_frozen H0.out 3
      have hc4 : wr.cell? ⟨gb + 1, 4, none⟩ = some (.int .i64 4) := H1.out.cell 4 (by omega)
      have hz4 : wr.cell? ⟨gb, 4, none⟩ = some (.int .i64 0) := (blk_cell H0.out 4).trans rfl
      have hf4 := blk_frozen H0.out 4
      have hc5 : wr.cell? ⟨gb + 1, 5, none⟩ = some (.int .i64 5) := H1.out.cell 5 (by omega)
      have hz5 : wr.cell? ⟨gb, 5, none⟩ = some (.int .i64 0) := (blk_cell H0.out 5).trans rfl
      have hf5 := blk_frozen H0.out 5
      have hc6 : wr.cell? ⟨gb + 1, 6, none⟩ = some (.int .i64 6) := H1.out.cell 6 (by omega)
      have hz6 : wr.cell? ⟨gb, 6, none⟩ = some (.int .i64 0) := (blk_cell H0.out 6).trans rfl
      have hf6 := blk_frozen H0.out 6
      have hc7 : wr.cell? ⟨gb + 1, 7, none⟩ = some (.int .i64 7) := H1.out.cell 7 (by omega)
      have hz7 : wr.cell? ⟨gb, 7, none⟩ = some (.int .i64 0) := (blk_cell H0.out 7).trans rfl
      have hf7 := blk_frozen H0.out 7
      have hc8 : wr.cell? ⟨gb + 1, 8, none⟩ = some (.int .i64 8) := H1.out.cell 8 (by omega)
      have hz8 : wr.cell? ⟨gb, 8, none⟩ = some (.int .i64 0) := (blk_cell H0.out 8).trans rfl
      have hf8 := blk_frozen H0.out 8
      have hc9 : wr.cell? ⟨gb + 1, 9, none⟩ = some (.int .i64 9) := H1.out.cell 9 (by omega)
      have hz9 : wr.cell? ⟨gb, 9, none⟩ = some (.int .i64 0) := (blk_cell H0.out 9).trans rfl
      have hf9 := blk_frozen H0.out 9
      have hc10 : wr.cell? ⟨gb + 1, 10, none⟩ = some (.int .i64 10) := H1.out.cell 10 (by omega)
      have hz10 : wr.cell? ⟨gb, 10, none⟩ = some (.int .i64 0) := (blk_cell H0.out 10).trans rfl
      have hf10 := blk_frozen H0.out 10
      have hc11 : wr.cell? ⟨gb + 1, 11, none⟩ = some (.int .i64 11) := H1.out.cell 11 (by omega)
      have hz11 : wr.cell? ⟨gb, 11, none⟩ = some (.int .i64 0) := (blk_cell H0.out 11).trans rfl
      have hf11 := blk_frozen H0.out 11
      go_wp2
      have hs := H0.out
      replace hs := blk_set hs 0 (.int .i64 0)
      replace hs := blk_set hs 1 (.int .i64 1)
      replace hs := blk_set hs 2 (.int .i64 2)
      replace hs := blk_set hs 3 (.int .i64 3)
      replace hs := blk_set hs 4 (.int .i64 4)
      replace hs := blk_set hs 5 (.int .i64 5)
      replace hs := blk_set hs 6 (.int .i64 6)
      replace hs := blk_set hs 7 (.int .i64 7)
      replace hs := blk_set hs 8 (.int .i64 8)
      replace hs := blk_set hs 9 (.int .i64 9)
      replace hs := blk_set hs 10 (.int .i64 10)
      replace hs := blk_set hs 11 (.int .i64 11)
      simp only [List.setIfInBounds_toArray, List.set_cons_zero, List.set_cons_succ] at hs
      refine bodyPost_ret (v := .agg #[.int .i64 0, .int .i64 1, .int .i64 2, .int .i64 3, .int .i64 4, .int .i64 5, .int .i64 6, .int .i64 7, .int .i64 8, .int .i64 9, .int .i64 10, .int .i64 11]) (results_cell_row rfl _ _ gb 139 #[.int .i64 0, .int .i64 1, .int .i64 2, .int .i64 3, .int .i64 4, .int .i64 5, .int .i64 6, .int .i64 7, .int .i64 8, .int .i64 9, .int .i64 10, .int .i64 11] (0, 0) _ rfl hs Try.underlying139 rfl rfl) rfl ⟨rfl, ?_⟩
      iterate 12 (refine below_set ?_ (by omega))
      rw [hgb]
      exact HB.out
end
set_option maxHeartbeats 8000000 in
set_option maxRecDepth 100000 in
theorem joined_calls (N : Int) (A0 : Option Addr) (c0 : Nat) (E : List S66) (w : World) (hr0 : Kd.C k66 w A0 E.length E) (hE : EdgesIn 12 E) :
    Calls Try.prog 117 #[.agg #[.int .i64 N, .slice A0 E.length c0]] w fun e w' => e = .returned (.agg #[.int .i64 (forestOf E 0 : Nat), .int .i64 (forestOf E 1 : Nat), .int .i64 (forestOf E 2 : Nat), .int .i64 (forestOf E 3 : Nat), .int .i64 (forestOf E 4 : Nat), .int .i64 (forestOf E 5 : Nat), .int .i64 (forestOf E 6 : Nat), .int .i64 (forestOf E 7 : Nat), .int .i64 (forestOf E 8 : Nat), .int .i64 (forestOf E 9 : Nat), .int .i64 (forestOf E 10 : Nat), .int .i64 (forestOf E 11 : Nat)]) ∧ Below w.heap.size w w' := by
  have hu := Try.underlying24
  have hue := Try.underlying66
  have HE := Aside0.mk hE.get
  clear hE
  go_enter Try.func117, Try.ntmps117
  go_wp2_with (first | (go_at_call 122; refine (grown_calls _).mono ?_; rintro e w1 ⟨rfl, hb⟩; have hbx : w1.heap[w.heap.size]? = some (.cells #[.int .i64 N, .slice A0 E.length c0] 24 (0, 0)) := blk_below (blk_alloc (heap_alloc_new w _) _) hb; have hbz : w1.heap[w.heap.size + 1]? = some (.cells #[.int .i64 0, .int .i64 0, .int .i64 0, .int .i64 0, .int .i64 0, .int .i64 0, .int .i64 0, .int .i64 0, .int .i64 0, .int .i64 0, .int .i64 0, .int .i64 0] 139 (0, 0)) := blk_below (heap_alloc2_new w _ _) hb; have HB0 := Aside0.mk (below_step (below_alloc (below_alloc (Below.refl w.heap.size w) _) _) hb); clear hb; have hc1 : (w1.alloc (.cells #[.int .i64 0, .int .i64 1, .int .i64 2, .int .i64 3, .int .i64 4, .int .i64 5, .int .i64 6, .int .i64 7, .int .i64 8, .int .i64 9, .int .i64 10, .int .i64 11] 139)).cell? ⟨w.heap.size, 1, none⟩ = some (.slice A0 E.length c0) := (blk_cell (blk_alloc hbx _) 1).trans rfl))
  have HBX := Aside0.mk (blk_alloc hbx (.cells #[.int .i64 0, .int .i64 1, .int .i64 2, .int .i64 3, .int .i64 4, .int .i64 5, .int .i64 6, .int .i64 7, .int .i64 8, .int .i64 9, .int .i64 10, .int .i64 11] 139))
  have HBZ := Aside0.mk (blk_alloc hbz (.cells #[.int .i64 0, .int .i64 1, .int .i64 2, .int .i64 3, .int .i64 4, .int .i64 5, .int .i64 6, .int .i64 7, .int .i64 8, .int .i64 9, .int .i64 10, .int .i64 11] 139))
  have HB1 := Aside0.mk (below_alloc HB0.out (.cells #[.int .i64 0, .int .i64 1, .int .i64 2, .int .i64 3, .int .i64 4, .int .i64 5, .int .i64 6, .int .i64 7, .int .i64 8, .int .i64 9, .int .i64 10, .int .i64 11] 139))
  have HF : Aside0 (ForestAt (w1.alloc (.cells #[.int .i64 0, .int .i64 1, .int .i64 2, .int .i64 3, .int .i64 4, .int .i64 5, .int .i64 6, .int .i64 7, .int .i64 8, .int .i64 9, .int .i64 10, .int .i64 11] 139)) w1.heap.size (forestOf (E.take 0))) := ⟨⟨#[.int .i64 0, .int .i64 1, .int .i64 2, .int .i64 3, .int .i64 4, .int .i64 5, .int .i64 6, .int .i64 7, .int .i64 8, .int .i64 9, .int .i64 10, .int .i64 11], heap_alloc_new _ _, rfl, fun i hi => by
    match i, hi with | 0, _ => rfl | 1, _ => rfl | 2, _ => rfl | 3, _ => rfl | 4, _ => rfl | 5, _ => rfl | 6, _ => rfl | 7, _ => rfl | 8, _ => rfl | 9, _ => rfl | 10, _ => rfl | 11, _ => rfl⟩⟩
  have hlt : w.heap.size + 1 < w1.heap.size := blk_lt hbz
  clear hbx hbz HB0 hc1
  generalize (w1.alloc (.cells #[.int .i64 0, .int .i64 1, .int .i64 2, .int .i64 3, .int .i64 4, .int .i64 5, .int .i64 6, .int .i64 7, .int .i64 8, .int .i64 9, .int .i64 10, .int .i64 11] 139)) = W0 at HBX HBZ HB1 HF ⊢
  generalize w1.heap.size = gf at HF hlt ⊢
  clear w1
  go_loopw [10] (fun i wr => ∃ k : Nat, k ≤ E.length ∧ i = .int .i64 k ∧ Aside0 (wr.heap[w.heap.size]? = some (.cells #[.int .i64 N, .slice A0 E.length c0] 24 (0, 0))) ∧ Aside0 (wr.heap[w.heap.size + 1]? = some (.cells #[.int .i64 0, .int .i64 0, .int .i64 0, .int .i64 0, .int .i64 0, .int .i64 0, .int .i64 0, .int .i64 0, .int .i64 0, .int .i64 0, .int .i64 0, .int .i64 0] 139 (0, 0))) ∧ Aside0 (ForestAt wr gf (forestOf (E.take k))) ∧ Aside0 (Below w.heap.size w wr)) (fun i _ => E.length - (intOf i).toNat)
  case atStart => exact ⟨0, by omega, rfl, HBX, HBZ, HF, HB1⟩
  case round =>
    clear HBX HBZ HF HB1
    obtain ⟨k, hk, rfl, HBX, HBZ, HF, HB⟩ := hrel
    by_cases hkl : k < E.length
    · obtain ⟨h1, h2, h3, h4, -, -⟩ := HE.out k hkl
      have Hs := Lib.hid (forestOf_snoc E k hkl)
      obtain ⟨ad, rfl, hx0, hx1, hx2⟩ := at_T66 hr0 k (by omega) (by omega)
      rw [Int.toNat_natCast] at hx0 hx1 hx2
      generalize rd_T66 E k = x at h1 h2 h3 h4 hx0 hx1 hx2 Hs
      obtain ⟨a, b, m⟩ := x
      simp only at h1 h2 h3 h4 hx0 hx1 hx2
      obtain ⟨a, rfl⟩ := Int.eq_ofNat_of_zero_le h1
      obtain ⟨b, rfl⟩ := Int.eq_ofNat_of_zero_le h3
      have hx0 := pw_cell_below HB.out hx0
      have hx1 := pw_cell_below HB.out hx1
      have hx2 := pw_cell_below HB.out hx2
      have hk0 : (0 : Int) ≤ (k : Int) := by omega
      have hk1 : (k : Int) < (E.length : Int) := by omega
      have hml := hr0.2.1
      have hw64 : wrap64 ((k : Int) + 1) = (k : Int) + 1 := by unfold wrap64; omega
      have HF1 := Aside0.mk (HF.out.alloc (.cells #[.int .i64 a, .int .i64 b, .int .i64 m] 66))
      have HX1 := Aside0.mk (blk_alloc HBX.out (.cells #[.int .i64 a, .int .i64 b, .int .i64 m] 66))
      have HZ1 := Aside0.mk (blk_alloc HBZ.out (.cells #[.int .i64 a, .int .i64 b, .int .i64 m] 66))
      have HB1 := Aside0.mk (below_alloc HB.out (.cells #[.int .i64 a, .int .i64 b, .int .i64 m] 66))
      have ha : a < 12 := by omega
      have hb : b < 12 := by omega
      clear h1 h2 h3 h4
      go_wp2_with (first | (go_at_call 123; refine (join_calls gf a b _ _ (forestOf_falls _) ha hb HF1.out).mono ?_; rintro e w2 ⟨rfl, hf, hg⟩; have n0 := Aside0.mk hf; have n1 := Aside0.mk (blk_grown HX1.out hg (by simp; omega)); have n2 := Aside0.mk (blk_grown HZ1.out hg (by simp; omega)); have n3 := Aside0.mk (Below.grown HB1.out hg HB1.out.size (fun j e => by cases e; omega)); clear hf hg))
      go_roundw
      case rel => exact ⟨k + 1, by omega, by go_num, n1, n2, ⟨by rw [Hs.out]; exact n0.out⟩, n3⟩
      case measure => (show E.length - ((k : Int) + 1).toNat < E.length - ((k : Int)).toNat; omega)
    · obtain rfl : k = E.length := by omega
      rw [List.take_length] at HF
      have hc0 := HF.out.cell 0 (by omega)
      have hz0 : wr.cell? ⟨w.heap.size + 1, 0, none⟩ = some (.int .i64 0) := (blk_cell HBZ.out 0).trans rfl
      have hf0 := blk_frozen HBZ.out 0
      have hc1 := HF.out.cell 1 (by omega)
      have hz1 : wr.cell? ⟨w.heap.size + 1, 1, none⟩ = some (.int .i64 0) := (blk_cell HBZ.out 1).trans rfl
      have hf1 := blk_frozen HBZ.out 1
      have hc2 := HF.out.cell 2 (by omega)
      have hz2 : wr.cell? ⟨w.heap.size + 1, 2, none⟩ = some (.int .i64 0) := (blk_cell HBZ.out 2).trans rfl
      have hf2 := blk_frozen HBZ.out 2
      have hc3 := HF.out.cell 3 (by omega)
      have hz3 : wr.cell? ⟨w.heap.size + 1, 3, none⟩ = some (.int .i64 0) := (blk_cell HBZ.out 3).trans rfl
      have hf3 := blk_frozen HBZ.out 3
      have hc4 := HF.out.cell 4 (by omega)
      have hz4 : wr.cell? ⟨w.heap.size + 1, 4, none⟩ = some (.int .i64 0) := (blk_cell HBZ.out 4).trans rfl
      have hf4 := blk_frozen HBZ.out 4
      have hc5 := HF.out.cell 5 (by omega)
      have hz5 : wr.cell? ⟨w.heap.size + 1, 5, none⟩ = some (.int .i64 0) := (blk_cell HBZ.out 5).trans rfl
      have hf5 := blk_frozen HBZ.out 5
      have hc6 := HF.out.cell 6 (by omega)
      have hz6 : wr.cell? ⟨w.heap.size + 1, 6, none⟩ = some (.int .i64 0) := (blk_cell HBZ.out 6).trans rfl
      have hf6 := blk_frozen HBZ.out 6
      have hc7 := HF.out.cell 7 (by omega)
      have hz7 : wr.cell? ⟨w.heap.size + 1, 7, none⟩ = some (.int .i64 0) := (blk_cell HBZ.out 7).trans rfl
      have hf7 := blk_frozen HBZ.out 7
      have hc8 := HF.out.cell 8 (by omega)
      have hz8 : wr.cell? ⟨w.heap.size + 1, 8, none⟩ = some (.int .i64 0) := (blk_cell HBZ.out 8).trans rfl
      have hf8 := blk_frozen HBZ.out 8
      have hc9 := HF.out.cell 9 (by omega)
      have hz9 : wr.cell? ⟨w.heap.size + 1, 9, none⟩ = some (.int .i64 0) := (blk_cell HBZ.out 9).trans rfl
      have hf9 := blk_frozen HBZ.out 9
      have hc10 := HF.out.cell 10 (by omega)
      have hz10 : wr.cell? ⟨w.heap.size + 1, 10, none⟩ = some (.int .i64 0) := (blk_cell HBZ.out 10).trans rfl
      have hf10 := blk_frozen HBZ.out 10
      have hc11 := HF.out.cell 11 (by omega)
      have hz11 : wr.cell? ⟨w.heap.size + 1, 11, none⟩ = some (.int .i64 0) := (blk_cell HBZ.out 11).trans rfl
      have hf11 := blk_frozen HBZ.out 11
      go_wp2
      have hs := HBZ.out
      replace hs := blk_set hs 0 (.int .i64 (forestOf E 0 : Nat))
      replace hs := blk_set hs 1 (.int .i64 (forestOf E 1 : Nat))
      replace hs := blk_set hs 2 (.int .i64 (forestOf E 2 : Nat))
      replace hs := blk_set hs 3 (.int .i64 (forestOf E 3 : Nat))
      replace hs := blk_set hs 4 (.int .i64 (forestOf E 4 : Nat))
      replace hs := blk_set hs 5 (.int .i64 (forestOf E 5 : Nat))
      replace hs := blk_set hs 6 (.int .i64 (forestOf E 6 : Nat))
      replace hs := blk_set hs 7 (.int .i64 (forestOf E 7 : Nat))
      replace hs := blk_set hs 8 (.int .i64 (forestOf E 8 : Nat))
      replace hs := blk_set hs 9 (.int .i64 (forestOf E 9 : Nat))
      replace hs := blk_set hs 10 (.int .i64 (forestOf E 10 : Nat))
      replace hs := blk_set hs 11 (.int .i64 (forestOf E 11 : Nat))
      simp only [List.setIfInBounds_toArray, List.set_cons_zero, List.set_cons_succ] at hs
      refine bodyPost_ret (v := .agg #[.int .i64 (forestOf E 0 : Nat), .int .i64 (forestOf E 1 : Nat), .int .i64 (forestOf E 2 : Nat), .int .i64 (forestOf E 3 : Nat), .int .i64 (forestOf E 4 : Nat), .int .i64 (forestOf E 5 : Nat), .int .i64 (forestOf E 6 : Nat), .int .i64 (forestOf E 7 : Nat), .int .i64 (forestOf E 8 : Nat), .int .i64 (forestOf E 9 : Nat), .int .i64 (forestOf E 10 : Nat), .int .i64 (forestOf E 11 : Nat)]) (results_cell_row rfl _ _ (w.heap.size + 1) 139 #[.int .i64 (forestOf E 0 : Nat), .int .i64 (forestOf E 1 : Nat), .int .i64 (forestOf E 2 : Nat), .int .i64 (forestOf E 3 : Nat), .int .i64 (forestOf E 4 : Nat), .int .i64 (forestOf E 5 : Nat), .int .i64 (forestOf E 6 : Nat), .int .i64 (forestOf E 7 : Nat), .int .i64 (forestOf E 8 : Nat), .int .i64 (forestOf E 9 : Nat), .int .i64 (forestOf E 10 : Nat), .int .i64 (forestOf E 11 : Nat)] (0, 0) _ rfl hs Try.underlying139 rfl rfl) rfl ⟨rfl, ?_⟩
      iterate 12 (refine below_set ?_ (by simp))
      exact HB.out
end Go.Proofs.Ytffdiakgjakngaa.P
namespace Go.Proofs.Ytffdiakgjakngaa.P
open Go.RowKit Go.Maps Go.Proofs.YtffdiakgjakngaaW.PrintWords Go.Proofs.YtffdiakgjakngaaW.PrintLast Go.Proofs.YtffdiakgjakngaaW.PrintMore
set_option linter.unusedVariables false
set_option linter.unusedSimpArgs false
def rootsTo (p : Nat → Nat) : Nat → Nat
  | 0 => 0
  | u + 1 => rootsTo p u + (if rootOf p u = u then 1 else 0)
theorem rootsTo_le (p : Nat → Nat) : ∀ u, rootsTo p u ≤ u
  | 0 => Nat.le_refl _
  | u + 1 => by
    have := rootsTo_le p u
    simp only [rootsTo]
    split <;> omega
theorem rootOf_root (p : Nat → Nat) (v : Nat) : rootOf p (rootOf p v) = rootOf p v := by
  induction v using Nat.strongRecOn with
  | ind v ih =>
    by_cases h : p v < v
    · rw [show rootOf p v = rootOf p (p v) by rw [rootOf, dif_pos h]]
      exact ih _ h
    · have e : rootOf p v = v := by rw [rootOf, dif_neg h]
      rw [e, e]
theorem zeroInt (w : World) : (zeroValue 3).run Try.prog w = .ok (.int .i64 0) w := by kernel_rfl
theorem keyedInt : Keyed Try.prog 3 := int_keyed Try.underlying3
theorem keyInt {a : Nat} (h : a ≤ 1000) : keyOf Try.prog 3 (.int .i64 a) = some (.int .i64 a) := keyOf_int_mk Try.underlying3 (WalkArith.wf_i64 (by omega))
def Places (p : Nat → Nat) (k m : Nat) (D : DataW Unit) : Prop := IsMap D ∧ ∀ r, r < k → rootOf p r = r → ∃ c : Nat, c < m ∧ D.atKey (.int .i64 r) (.lit (.int .i64 0)) = .lit (.int .i64 c)
theorem Places.skip {p : Nat → Nat} {k m : Nat} {D : DataW Unit} (h : Places p k m D) (hr : rootOf p k ≠ k) : Places p (k + 1) m D := by
  refine ⟨h.1, fun r hrk hrr => ?_⟩
  by_cases e : r = k
  · subst e; exact absurd hrr hr
  · exact h.2 r (by omega) hrr
theorem Places.put {p : Nat → Nat} {k m : Nat} {D : DataW Unit} (h : Places p k m D) (hk : k ≤ 1000) : Places p (k + 1) (m + 1) (D.put (.int .i64 k) (.lit (.int .i64 m))) := by
  refine ⟨h.1.put _ _, fun r hrk hrr => ?_⟩
  by_cases e : r = k
  · subst e
    exact ⟨m, by omega, atKey_put_same h.1 (by simp [WideAt.IsKeyLit]) _ _⟩
  · obtain ⟨c, hc, ha⟩ := h.2 r (by omega) hrr
    refine ⟨c, by omega, ?_⟩
    rw [atKey_put_other (fun e2 => e (by injection e2; omega))]
    exact ha
theorem S_put_back {W w4 : World} {gm g0 cap c : Nat} {X : List (List Int)} {oki : Nat → Prop} {ev s : Value} {y' : List Int} (hH : Kd.H (Kd.slice 3 (Kd.int .i64)) 33 W gm (fun q => True ∧ ¬ W.heap.size ≤ q) (.slice (some ⟨g0, 0, none⟩) X.length cap) X (c : Int) oki [ev]) (hcX : c < X.length)
    (hg : W.drew.grownBy w4 ev.ownBlock) (hok : ∀ q, ev.ownBlock = some q → oki q) (hR : (Kd.int .i64).R 3 w4 gm (fun q => oki q ∨ W.heap.size ≤ q) s y') (hlt : g0 < W.heap.size) :
    Kd.S (Kd.slice 3 (Kd.int .i64)) 33 (w4.setCell ⟨g0, c, none⟩ s) gm (fun _ => True) (.slice (some ⟨g0, 0, none⟩) X.length cap) (X.set c y') := by
  have h := (Kd.S_seg (d := Kd.slice 3 (Kd.int .i64)) (okg := fun q => W.heap.size ≤ q) (ok := fun _ => True) (okp := fun q => oki q ∨ W.heap.size ≤ q) (seg := [s]) (j := 0) (x' := y') (Kd.H_grown (Kd.H_drew hH) hg hok) (by omega) (by omega) (by simp [Kd.slice]) (Kd.M_row hR) (fun q hq => hq) (fun q hq => ⟨trivial, by omega⟩)).1
  rw [Int.toNat_natCast] at h
  simpa [Kd.slice, World.setCells] using h
theorem parts_len {X : List (List Int)} {c k : Nat} {y : List Int} {x : Int} (h : ∀ z ∈ X, z.length ≤ k) (hy : y.length ≤ k) : ∀ z ∈ X.set c (y ++ [x]), z.length ≤ k + 1 := fun z hz => by
  rcases List.mem_or_eq_of_mem_set hz with h1 | h1
  · exact Nat.le_succ_of_le (h z h1)
  · subst h1; simp; omega
set_option maxHeartbeats 8000000 in
set_option maxRecDepth 100000 in
theorem parts_calls (g n : Nat) (p : Nat → Nat) (w : World) (hn : n ≤ 12) (hf : Falls p) (hw : ForestAt w g p) :
    Calls Try.prog 118 #[.pointer (some ⟨g, 0, none⟩), .int .i64 n] w fun e w' => ∃ A c, e = .returned (.slice A (rootsTo p n) c) ∧ Below w.heap.size w w' := by
  have hmm := @run_makeMap Try.prog
  have hgw := hw.lt
  go_enter Try.func118, Try.ntmps118
  go_wp2
  have hB := below_alloc (Below.refl w.heap.size w) (.map #[] 0)
  have hM := World.ownsMap_made (H := Unit) w Try.prog 3 (plainElem Try.prog 3)
  generalize hgm : w.heap.size = gm at hM hB ⊢
  generalize (w.alloc (.map #[] 0)) = W0 at hM hB ⊢
  clear hmm
  go_loopw [5, 11] (fun v i wr => ∃ (k : Nat) (xs : List (List Int)) (D : DataW Unit), k ≤ n ∧ i = .int .i64 k ∧ Aside0 (xs.length = rootsTo p k) ∧ Aside0 (∀ y ∈ xs, y.length ≤ k) ∧ Aside0 (Kd.S (Kd.slice 3 (Kd.int .i64)) 33 wr gm (fun _ => True) v xs) ∧ Aside0 (wr.ownsMap Try.prog 3 (plainElem Try.prog 3) gm k D) ∧ Aside0 (Places p k (rootsTo p k) D) ∧ Aside0 (Below gm w wr)) (fun _ i _ => n - (intOf i).toNat)
  case atStart => exact ⟨0, [], _, by omega, rfl, ⟨rfl⟩, ⟨fun y hy => absurd hy (by simp)⟩, ⟨Kd.S_nil _ _ _ _ _⟩, ⟨hM⟩, ⟨isMap_empty, fun r hr => absurd hr (by omega)⟩, ⟨hB⟩⟩
  case round =>
    clear hM hB
    obtain ⟨k, xs, D, hk, rfl, HL, HY, HS, HM, HP, HB⟩ := hrel
    by_cases hkn : k < n
    · have hle := rootOf_le p k
      have hrt := rootsTo_le p k
      have CR := Aside0.mk (root_calls g k p wr hf (by omega) (hw.below (by rw [hgm]; exact HB.out)))
      have Hrr := Lib.hid (rootOf_root p k)
      have Hs : Hid (rootsTo p (k + 1) = rootsTo p k + (if rootOf p k = k then 1 else 0)) := Lib.hid rfl
      by_cases hrk : rootOf p k = k
      · have Hsk := Lib.hid hrk
        rw [hrk] at CR
        clear hrk hle
        obtain ⟨Ao, co, rfl⟩ := Kd.S_slice HS.out
        have hx12 : xs.length ≤ 12 := by have := HL.out; omega
        obtain ⟨es, ck, hes, -⟩ := HM.out
        have htm0 : some gm ≠ (Value.slice Ao xs.length co).ownBlock := fun e => by
          obtain ⟨cs, hcs⟩ := Kd.S_typed HS.out gm e.symm
          rw [hes] at hcs; cases hcs
        have HSm := Aside0.mk (Kd.S_mono (ok' := fun q => q ≠ gm) (Kd.S_bound HS.out) (fun q hq e => by obtain ⟨t, _, cs, hcs⟩ := hq.2.2.2; subst e; rw [hes] at hcs; cases hcs))
        clear hes es ck
        have hPk := HP.out.put (by omega)
        have hs1 : rootsTo p (k + 1) = rootsTo p k + 1 := by rw [Hs.out, if_pos Hsk.out]
        rw [← hs1, ← HL.out] at hPk
        have hX12 : rootsTo p (k + 1) = xs.length + 1 := by rw [hs1, HL.out]
        have HX12 := Aside0.mk hX12
        clear hs1 hX12
        have HPk := Aside0.mk hPk
        clear hPk
        go_wp2_with (first | (go_at_call 124; refine CR.out.mono ?_; rintro e w1 ⟨rfl, rfl⟩) | (at_mapUpdate; refine wpList_mapUpdate_own _ rfl _ _ _ 148 rfl 3 3 keyedInt Try.underlying148 _ gm k _ rfl HM.out (by unfold maxLen; omega) _ _ _ rfl rfl (keyInt (by omega)) _ [] (plainElem_int Try.underlying3 (WalkArith.wf_i64 (by omega))) ?_; intro w2 hm2 hg2; have HM2 := Aside0.mk hm2; have HS2 := Aside0.mk (Kd.S_grown HSm.out hg2 (fun q hq e => hq (by injection e))); have HB2 := Aside0.mk (HB.out.grown hg2 (by have := HM.out.lt; omega) (fun q e => by injection e with e; omega)); clear hm2 hg2) | (at_builtin; refine Kd.S_append (Kd.slice 3 (Kd.int .i64)) (w0 := w) gm rfl (.tmp 24) (.tmp 25) 88 33 (.slice none 0 0) 24 rfl Try.underlying88 info33 rfl (by decide) (by omega) _ xs [] [.slice none 0 0] (fun _ => True) (fun _ => False) rfl rfl (Kd.M_row (Kd.R_nil _ _ _ _ _)) (fun _ hk => hk.elim) (fun _ _ => trivial) (Kd.S_mono HS2.out (fun q _ => ⟨trivial, fun h => h⟩)) HB2.out (by have := HM2.out.lt; omega) (by omega) ?_; intro v3 W hs3 hb3 hg3 hat3; have HS1 := Aside0.mk hs3; have HB1 := Aside0.mk hb3; have HM1 := Aside0.mk (HM2.out.kept hg3 htm0); have HP1 := HPk; clear hs3 hb3 hg3 hat3))
        generalize hD1 : D.put (.int .i64 k) (.lit (.int .i64 xs.length)) = D1 at HM1 HP1
        have HX1 : Aside0 ((xs ++ [[]]).length = rootsTo p (k + 1)) := ⟨by rw [HX12.out]; simp⟩
        have HY1 : Aside0 (∀ y ∈ xs ++ [[]], y.length ≤ k) := ⟨fun y hy => by
          rcases List.mem_append.1 hy with h | h
          · exact HY.out y h
          · simp at h; subst h; simp⟩
        generalize hX : xs ++ [[]] = X at HS1 HX1 HY1
        obtain ⟨c, hcm, hat⟩ := HP1.out.2 k (by omega) Hsk.out
        have hlk : ∀ w' : World, w'.ownsMap Try.prog 3 (plainElem Try.prog 3) gm (k + 1) D1 → (Instr.lookup 148 (.map (some gm)) (.int .i64 (k : Nat)) false).run Try.prog w' = .ok (.int .i64 c) w' := fun w' h => by
          obtain ⟨c', hrun, hat', _⟩ := h.lookup_int keyedInt Try.underlying148 Try.underlying3 (zeroInt _) (keyInt (a := k) (by omega))
          rw [hat] at hat'
          injection hat' with hat'
          injection hat' with _ hat'
          rw [hrun, hat']
        have hXl := HX1.out
        have hXr := rootsTo_le p (k + 1)
        obtain ⟨g0, cap, hv, hge, hglt, cells, hbc⟩ := Kd.S_form HS1.out (by omega)
        (first | subst hv | (injection hv with h1_ _ h3_; subst h1_; subst h3_))
        obtain ⟨oki, cc, hcl, ⟨ev, rfl, hR⟩, hcc, hfr, hoki, hH⟩ := Kd.S_elem (Kd.S_mono (ok' := fun q => True ∧ ¬ W.heap.size ≤ q) (Kd.S_bound HS1.out) (fun q hq => ⟨trivial, by have := hq.2.2.1; omega⟩)) [] (c : Int) (by omega) (by omega)
        have hyk : (X.getD (c : Int).toNat []).length ≤ k := by
          have hcX : c < X.length := by omega
          rw [Int.toNat_natCast, List.getD_eq_getElem?_getD, List.getElem?_eq_getElem hcX]
          exact HY1.out _ (List.getElem_mem hcX)
        have hcx : W.cell? ⟨g0, c, none⟩ = some ev := by have h1 := hcc 0 _ rfl; rw [Int.toNat_natCast] at h1; simpa [Kd.slice] using h1
        have hfx : W.frozen? ⟨g0, c, none⟩ = false := by have h1 := hfr 0; rw [Int.toNat_natCast] at h1; simpa [Kd.slice] using h1
        rw [Int.toNat_natCast] at hR hyk
        have HXc := Lib.hid (show (X.getD (c : Int).toNat []) = X.getD c [] by rw [Int.toNat_natCast])
        generalize X.getD c [] = y at hR hyk HXc
        obtain ⟨Ae, ce, rfl⟩ := Kd.R_slice hR
        have htm : some gm ≠ (Value.slice Ae y.length ce).ownBlock := fun e => by
          obtain ⟨cs, hcs⟩ := Kd.R_typed hR gm e.symm
          obtain ⟨es, ck, hes, -⟩ := HM1.out
          rw [hes] at hcs; cases hcs
        have hg0m : g0 ≠ gm := fun e => by
          subst e
          obtain ⟨es, ck, hes, -⟩ := HM1.out
          rw [hes] at hbc; cases hbc
        have hkg : some g0 ≠ (Value.slice Ae y.length ce).ownBlock := fun e => (hoki g0 (hR.1 g0 e.symm)).2 rfl
        have HR := Aside0.mk (Kd.R_drew (Kd.R_mono (ok' := fun q => oki q ∨ W.heap.size ≤ q) hR (fun q hq => .inl hq)))
        have HHw := Aside0.mk hH
        have HOK := Aside0.mk hR.1
        have HOI := Aside0.mk hoki
        clear hH hcc hfr hR hoki hbc cells hcl
        have hl1 := hlk _ HM1.out.drew
        have hl2 := hlk _ ((HM1.out.alloc (.cells #[.int .i64 k] 3)).drew)
        have hi0 : (0 : Int) ≤ (c : Int) := by omega
        have hi1 : (c : Int) < (X.length : Int) := by omega
        have HLK := Aside0.mk hlk
        have hc12 : c < 12 := by omega
        have hX12 : X.length ≤ 12 := by omega
        have hcX : c < X.length := by omega
        clear hlk hat hcm hXl hXr
        go_region_law ((refine Kd.R_append_step (Kd.int .i64) (w0 := w) (W := W.drew) gm (by rfl) (.tmp 36) (.tmp 38) 33 3 (.int .i64 0) 8 (by rfl) Try.underlying33 info3 rfl (by decide) (by omega) _ y (k : Int) [.int .i64 k] (fun q => oki q ∨ W.heap.size ≤ q) (fun _ => False) (by rfl) (by rfl) rfl (fun _ hk => hk.elim) (fun q hq => .inr hq) HR.out (below_drew1 HB1.out) (by have := HB1.out.size; show gm ≤ W.heap.size; omega) (by omega) ?_; intro v4 w4 hr4 hb4 hg4 hat4; obtain ⟨Ai4, ci4, hv4⟩ := Kd.R_slice hr4; rw [show (y ++ [(k : Int)]).length = y.length + 1 by simp] at hv4; subst hv4; have HR4 := Aside0.mk hr4; have HB4 := Aside0.mk hb4; have HG4 := Aside0.mk hg4; have hl3 := HLK.out _ (HM1.out.drew.kept hg4 htm); have hcx4 : w4.cell? ⟨g0, c, none⟩ = some (.slice Ae y.length ce) := (hg4.cell_far ⟨g0, c, none⟩ hglt hkg).trans hcx; have hfx4 : w4.frozen? ⟨g0, c, none⟩ = false := (hg4.frozen_far ⟨g0, c, none⟩ hglt hkg).trans hfx; clear hr4 hb4 hg4 hat4))
        all_goals have n0 := Aside0.mk (S_put_back HHw.out (by omega) HG4.out HOK.out HR4.out hglt)
        all_goals have n1 := Aside0.mk ((HM1.out.drew.kept HG4.out htm).kept (grown_set1 w4 g0 c (.slice Ai4 (y.length + 1) ci4)) (by simp; omega))
        all_goals have n2 := Aside0.mk (HB4.out.grown (grown_set1 w4 g0 c (.slice Ai4 (y.length + 1) ci4)) (by have := HB4.out.size; have := HM1.out.lt; have : W.drew.heap.size = W.heap.size := rfl; have := HG4.out.size; omega) (fun q e => by injection e with e; omega))
        all_goals have n3 := Aside0.mk (HP1.out)
        all_goals have n4 : Aside0 (∀ z ∈ X.set c (y ++ [(k : Int)]), z.length ≤ k + 1) := ⟨parts_len HY1.out hyk⟩
        all_goals have n5 : Aside0 ((X.set c (y ++ [(k : Int)])).length = X.length) := ⟨List.length_set⟩
        all_goals clear hl1 hl2 hl3 hcx hfx hcx4 hfx4 HG4 HB4 HR4 HLK HHw HOK HOI HR
        all_goals generalize (w4.setCell ⟨g0, c, none⟩ (.slice Ai4 (y.length + 1) ci4)) = w5 at n0 n1 n2 ⊢
        all_goals go_wp2
        all_goals exact ⟨⟨k + 1, _, D1, by omega, by go_num, ⟨by rw [n5.out]; exact HX1.out⟩, n4, n0, n1, n3, n2⟩, (show n - ((k : Int) + 1).toNat < n - ((k : Int)).toNat by omega)⟩
      · have hle2 : rootOf p k < k := by omega
        have Hne := Lib.hid hrk
        have HP1 := Aside0.mk (HP.out.skip hrk)
        have hs1 : rootsTo p (k + 1) = rootsTo p k := by rw [Hs.out, if_neg hrk]; rfl
        have HX1 := Aside0.mk (HL.out.trans hs1.symm)
        rw [← hs1] at HP1
        clear hs1 hrk hle
        have HY1 := HY
        have HM1 := Aside0.mk (HM.out.mono (Nat.le_succ k))
        have HS1 := HS
        have HB1 := HB
        clear HM HS HB HP HL HY
        obtain ⟨Ao, co, rfl⟩ := Kd.S_slice HS1.out
        obtain ⟨W, rfl⟩ : ∃ W, W = wr := ⟨_, rfl⟩
        obtain ⟨X, rfl⟩ : ∃ X, X = xs := ⟨_, rfl⟩
        obtain ⟨D1, rfl⟩ : ∃ D1, D1 = D := ⟨_, rfl⟩
        generalize hro : rootOf p k = r at hle2 CR Hrr
        have Hro := Lib.hid hro
        clear hro
        have hne : ((r : Nat) : Int) ≠ (k : Int) := by omega
        go_wp2_with (first | (go_at_call 124; refine CR.out.mono ?_; rintro e w1 ⟨rfl, rfl⟩))
        obtain ⟨c, hcm, hat⟩ := HP1.out.2 r (by omega) Hrr.out
        have hlk : ∀ w' : World, w'.ownsMap Try.prog 3 (plainElem Try.prog 3) gm (k + 1) D1 → (Instr.lookup 148 (.map (some gm)) (.int .i64 (r : Nat)) false).run Try.prog w' = .ok (.int .i64 c) w' := fun w' h => by
          obtain ⟨c', hrun, hat', _⟩ := h.lookup_int keyedInt Try.underlying148 Try.underlying3 (zeroInt _) (keyInt (a := r) (by omega))
          rw [hat] at hat'
          injection hat' with hat'
          injection hat' with _ hat'
          rw [hrun, hat']
        have hXl := HX1.out
        have hXr := rootsTo_le p (k + 1)
        obtain ⟨g0, cap, hv, hge, hglt, cells, hbc⟩ := Kd.S_form HS1.out (by omega)
        (first | subst hv | (injection hv with h1_ _ h3_; subst h1_; subst h3_))
        obtain ⟨oki, cc, hcl, ⟨ev, rfl, hR⟩, hcc, hfr, hoki, hH⟩ := Kd.S_elem (Kd.S_mono (ok' := fun q => True ∧ ¬ W.heap.size ≤ q) (Kd.S_bound HS1.out) (fun q hq => ⟨trivial, by have := hq.2.2.1; omega⟩)) [] (c : Int) (by omega) (by omega)
        have hyk : (X.getD (c : Int).toNat []).length ≤ k := by
          have hcX : c < X.length := by omega
          rw [Int.toNat_natCast, List.getD_eq_getElem?_getD, List.getElem?_eq_getElem hcX]
          exact HY1.out _ (List.getElem_mem hcX)
        have hcx : W.cell? ⟨g0, c, none⟩ = some ev := by have h1 := hcc 0 _ rfl; rw [Int.toNat_natCast] at h1; simpa [Kd.slice] using h1
        have hfx : W.frozen? ⟨g0, c, none⟩ = false := by have h1 := hfr 0; rw [Int.toNat_natCast] at h1; simpa [Kd.slice] using h1
        rw [Int.toNat_natCast] at hR hyk
        have HXc := Lib.hid (show (X.getD (c : Int).toNat []) = X.getD c [] by rw [Int.toNat_natCast])
        generalize X.getD c [] = y at hR hyk HXc
        obtain ⟨Ae, ce, rfl⟩ := Kd.R_slice hR
        have htm : some gm ≠ (Value.slice Ae y.length ce).ownBlock := fun e => by
          obtain ⟨cs, hcs⟩ := Kd.R_typed hR gm e.symm
          obtain ⟨es, ck, hes, -⟩ := HM1.out
          rw [hes] at hcs; cases hcs
        have hg0m : g0 ≠ gm := fun e => by
          subst e
          obtain ⟨es, ck, hes, -⟩ := HM1.out
          rw [hes] at hbc; cases hbc
        have hkg : some g0 ≠ (Value.slice Ae y.length ce).ownBlock := fun e => (hoki g0 (hR.1 g0 e.symm)).2 rfl
        have HR := Aside0.mk (Kd.R_drew (Kd.R_mono (ok' := fun q => oki q ∨ W.heap.size ≤ q) hR (fun q hq => .inl hq)))
        have HHw := Aside0.mk hH
        have HOK := Aside0.mk hR.1
        have HOI := Aside0.mk hoki
        clear hH hcc hfr hR hoki hbc cells hcl
        have hl1 := hlk _ HM1.out.drew
        have hl2 := hlk _ ((HM1.out.alloc (.cells #[.int .i64 k] 3)).drew)
        have hi0 : (0 : Int) ≤ (c : Int) := by omega
        have hi1 : (c : Int) < (X.length : Int) := by omega
        have HLK := Aside0.mk hlk
        have hc12 : c < 12 := by omega
        have hX12 : X.length ≤ 12 := by omega
        have hcX : c < X.length := by omega
        clear hlk hat hcm hXl hXr
        go_region_law ((refine Kd.R_append_step (Kd.int .i64) (w0 := w) (W := W.drew) gm (by rfl) (.tmp 36) (.tmp 38) 33 3 (.int .i64 0) 8 (by rfl) Try.underlying33 info3 rfl (by decide) (by omega) _ y (k : Int) [.int .i64 k] (fun q => oki q ∨ W.heap.size ≤ q) (fun _ => False) (by rfl) (by rfl) rfl (fun _ hk => hk.elim) (fun q hq => .inr hq) HR.out (below_drew1 HB1.out) (by have := HB1.out.size; show gm ≤ W.heap.size; omega) (by omega) ?_; intro v4 w4 hr4 hb4 hg4 hat4; obtain ⟨Ai4, ci4, hv4⟩ := Kd.R_slice hr4; rw [show (y ++ [(k : Int)]).length = y.length + 1 by simp] at hv4; subst hv4; have HR4 := Aside0.mk hr4; have HB4 := Aside0.mk hb4; have HG4 := Aside0.mk hg4; have hl3 := HLK.out _ (HM1.out.drew.kept hg4 htm); have hcx4 : w4.cell? ⟨g0, c, none⟩ = some (.slice Ae y.length ce) := (hg4.cell_far ⟨g0, c, none⟩ hglt hkg).trans hcx; have hfx4 : w4.frozen? ⟨g0, c, none⟩ = false := (hg4.frozen_far ⟨g0, c, none⟩ hglt hkg).trans hfx; clear hr4 hb4 hg4 hat4))
        all_goals have n0 := Aside0.mk (S_put_back HHw.out (by omega) HG4.out HOK.out HR4.out hglt)
        all_goals have n1 := Aside0.mk ((HM1.out.drew.kept HG4.out htm).kept (grown_set1 w4 g0 c (.slice Ai4 (y.length + 1) ci4)) (by simp; omega))
        all_goals have n2 := Aside0.mk (HB4.out.grown (grown_set1 w4 g0 c (.slice Ai4 (y.length + 1) ci4)) (by have := HB4.out.size; have := HM1.out.lt; have : W.drew.heap.size = W.heap.size := rfl; have := HG4.out.size; omega) (fun q e => by injection e with e; omega))
        all_goals have n3 := Aside0.mk (HP1.out)
        all_goals have n4 : Aside0 (∀ z ∈ X.set c (y ++ [(k : Int)]), z.length ≤ k + 1) := ⟨parts_len HY1.out hyk⟩
        all_goals have n5 : Aside0 ((X.set c (y ++ [(k : Int)])).length = X.length) := ⟨List.length_set⟩
        all_goals clear hl1 hl2 hl3 hcx hfx hcx4 hfx4 HG4 HB4 HR4 HLK HHw HOK HOI HR
        all_goals generalize (w4.setCell ⟨g0, c, none⟩ (.slice Ai4 (y.length + 1) ci4)) = w5 at n0 n1 n2 ⊢
        all_goals go_wp2
        all_goals exact ⟨⟨k + 1, _, D1, by omega, by go_num, ⟨by rw [n5.out]; exact HX1.out⟩, n4, n0, n1, n3, n2⟩, (show n - ((k : Int) + 1).toNat < n - ((k : Int)).toNat by omega)⟩
    · obtain rfl : k = n := by omega
      go_wp2
      go_ret
      obtain ⟨A, c, rfl⟩ := Kd.S_slice HS.out
      exact ⟨A, c, by rw [HL.out]; rfl, by rw [hgm]; exact HB.out⟩
end Go.Proofs.Ytffdiakgjakngaa.P
namespace Go.Proofs.Ytffdiakgjakngaa.P
open Go.RowKit Go.Proofs.YtffdiakgjakngaaW.PrintWords Go.Proofs.YtffdiakgjakngaaW.PrintLast Go.Proofs.YtffdiakgjakngaaW.PrintMore
set_option linter.unusedVariables false
set_option linter.unusedSimpArgs false
def okConn (N : Int) (E : List S66) : Bool := decide (0 ≤ N ∧ N ≤ 12) && edgesInB 12 E
def connect_Connected.f (k : Nat) (N : Int) (E : List S66) : Option (Bool × Int) :=
  (graph_Check.f k N E).bind fun t => if t = 0 then (if okConn N E = true then some (decide (rootsTo (forestOf E) N.toNat = 1), 0) else none) else some (false, t)
theorem connect_Connected.mono : ∀ a0_0 l0_1 k, LeO (connect_Connected.f k a0_0 l0_1) (connect_Connected.f (k + 1) a0_0 l0_1) := by
  intro a0_0 l0_1 k
  unfold connect_Connected.f
  exact LeO.bind (graph_Check.mono _ _ _) (fun _ => LeO.refl _)
set_option maxHeartbeats 1000000 in
set_option maxRecDepth 100000 in
theorem components_bad (k : Nat) (N : Int) (A0 : Option Addr) (c0 : Nat) (E : List S66) (t : Int) (w : World) (hr0 : Kd.C k66 w A0 E.length E) (hc0 : E.length ≤ c0) (ht : graph_Check.f k N E = some t) (ht0 : t ≠ 0) :
    Calls Try.prog 112 #[.agg #[.int .i64 N, .slice A0 E.length c0]] w fun e w' => e = .returned (.tuple #[.slice none 0 0, .int .i64 t]) ∧ Below w.heap.size w w' := by
  have hu := Try.underlying24
  have Ht := Aside0.mk ht
  clear ht
  go_enter Try.func112, Try.ntmps112
  go_wp2_with (first | (go_at_call 113; refine (graph_Check.calls k N A0 c0 E t _ (Kd.C_alloc hr0 _) hc0 Ht.out).mono ?_; rintro e w1 ⟨rfl, hb⟩; have HB := Aside0.mk (below_step (below_alloc (Below.refl w.heap.size w) _) hb); clear hb))
  go_ret2
  exact ⟨rfl, HB.out⟩
theorem forest_cells (E : List S66) : ∀ i, i < 12 → (#[.int .i64 (forestOf E 0 : Nat), .int .i64 (forestOf E 1 : Nat), .int .i64 (forestOf E 2 : Nat), .int .i64 (forestOf E 3 : Nat), .int .i64 (forestOf E 4 : Nat), .int .i64 (forestOf E 5 : Nat), .int .i64 (forestOf E 6 : Nat), .int .i64 (forestOf E 7 : Nat), .int .i64 (forestOf E 8 : Nat), .int .i64 (forestOf E 9 : Nat), .int .i64 (forestOf E 10 : Nat), .int .i64 (forestOf E 11 : Nat)] : Array Value)[i]? = some (.int .i64 (forestOf E i : Nat)) := fun i hi => by
  match i, hi with | 0, _ => rfl | 1, _ => rfl | 2, _ => rfl | 3, _ => rfl | 4, _ => rfl | 5, _ => rfl | 6, _ => rfl | 7, _ => rfl | 8, _ => rfl | 9, _ => rfl | 10, _ => rfl | 11, _ => rfl
set_option maxHeartbeats 1000000 in
set_option maxRecDepth 100000 in
theorem components_good (k : Nat) (n : Nat) (A0 : Option Addr) (c0 : Nat) (E : List S66) (w : World) (hr0 : Kd.C k66 w A0 E.length E) (hc0 : E.length ≤ c0) (ht : graph_Check.f k n E = some 0) (hn : n ≤ 12) (hE : EdgesIn 12 E) :
    Calls Try.prog 112 #[.agg #[.int .i64 n, .slice A0 E.length c0]] w fun e w' => ∃ A c, e = .returned (.tuple #[.slice A (rootsTo (forestOf E) n) c, .int .i64 0]) ∧ Below w.heap.size w w' := by
  have hu := Try.underlying24
  have Ht := Aside0.mk ht
  clear ht
  have HE := Aside0.mk hE
  clear hE
  go_enter Try.func112, Try.ntmps112
  go_wp2_with (first | (go_at_call 113; refine (graph_Check.calls k n A0 c0 E 0 _ (Kd.C_alloc hr0 _) hc0 Ht.out).mono ?_; rintro e w1 ⟨rfl, hb⟩; have hbx : w1.heap[w.heap.size]? = some (.cells #[.int .i64 n, .slice A0 E.length c0] 24 (0, 0)) := blk_below (heap_alloc_new w _) hb; have HR1 := Aside0.mk (Kd.C_below hr0 (below_step (below_alloc (Below.refl w.heap.size w) _) hb)); have HB := Aside0.mk (below_step (below_alloc (Below.refl w.heap.size w) _) hb); clear hb; have hx0 : w1.cell? ⟨w.heap.size, 0, none⟩ = some (.int .i64 n) := (blk_cell hbx 0).trans rfl; have hx1 : w1.cell? ⟨w.heap.size, 1, none⟩ = some (.slice A0 E.length c0) := (blk_cell hbx 1).trans rfl) | (go_at_call 117; (with_reducible refine (joined_calls _ _ _ E _ HR1.out HE.out).mono ?_); rintro e w2 ⟨rfl, hb⟩; have hbx2 := blk_alloc (blk_below hbx hb) (.cells #[.int .i64 (forestOf E 0 : Nat), .int .i64 (forestOf E 1 : Nat), .int .i64 (forestOf E 2 : Nat), .int .i64 (forestOf E 3 : Nat), .int .i64 (forestOf E 4 : Nat), .int .i64 (forestOf E 5 : Nat), .int .i64 (forestOf E 6 : Nat), .int .i64 (forestOf E 7 : Nat), .int .i64 (forestOf E 8 : Nat), .int .i64 (forestOf E 9 : Nat), .int .i64 (forestOf E 10 : Nat), .int .i64 (forestOf E 11 : Nat)] 139); have hx2 : (w2.alloc (.cells #[.int .i64 (forestOf E 0 : Nat), .int .i64 (forestOf E 1 : Nat), .int .i64 (forestOf E 2 : Nat), .int .i64 (forestOf E 3 : Nat), .int .i64 (forestOf E 4 : Nat), .int .i64 (forestOf E 5 : Nat), .int .i64 (forestOf E 6 : Nat), .int .i64 (forestOf E 7 : Nat), .int .i64 (forestOf E 8 : Nat), .int .i64 (forestOf E 9 : Nat), .int .i64 (forestOf E 10 : Nat), .int .i64 (forestOf E 11 : Nat)] 139)).cell? ⟨w.heap.size, 0, none⟩ = some (.int .i64 n) := (blk_cell hbx2 0).trans rfl; have HB2 := Aside0.mk (below_alloc (below_step HB.out hb) (.cells #[.int .i64 (forestOf E 0 : Nat), .int .i64 (forestOf E 1 : Nat), .int .i64 (forestOf E 2 : Nat), .int .i64 (forestOf E 3 : Nat), .int .i64 (forestOf E 4 : Nat), .int .i64 (forestOf E 5 : Nat), .int .i64 (forestOf E 6 : Nat), .int .i64 (forestOf E 7 : Nat), .int .i64 (forestOf E 8 : Nat), .int .i64 (forestOf E 9 : Nat), .int .i64 (forestOf E 10 : Nat), .int .i64 (forestOf E 11 : Nat)] 139)); have HF := Aside0.mk (show ForestAt (w2.alloc (.cells #[.int .i64 (forestOf E 0 : Nat), .int .i64 (forestOf E 1 : Nat), .int .i64 (forestOf E 2 : Nat), .int .i64 (forestOf E 3 : Nat), .int .i64 (forestOf E 4 : Nat), .int .i64 (forestOf E 5 : Nat), .int .i64 (forestOf E 6 : Nat), .int .i64 (forestOf E 7 : Nat), .int .i64 (forestOf E 8 : Nat), .int .i64 (forestOf E 9 : Nat), .int .i64 (forestOf E 10 : Nat), .int .i64 (forestOf E 11 : Nat)] 139)) w2.heap.size (forestOf E) from ⟨_, heap_alloc_new _ _, rfl, forest_cells E⟩); clear hb hbx2) | (go_at_call 118; (with_reducible refine (parts_calls _ n (forestOf E) _ hn (forestOf_falls E) HF.out).mono ?_); rintro e w3 ⟨A3, c3, rfl, hb⟩; have HB3 := Aside0.mk (below_step HB2.out hb); clear hb))
  go_ret2
  exact ⟨A3, c3, rfl, HB3.out⟩
set_option maxHeartbeats 4000000 in
set_option maxRecDepth 100000 in
theorem connect_Connected.calls (k : Nat) (a0_0 : Int) (A0_1 : Option Addr) (c0_1 : Nat) (l0_1 : List (S66)) (r1 : Bool) (r2 : Int) (w : World) (hr0_1 : Kd.C k66 w A0_1 l0_1.length l0_1) (hc0_1 : l0_1.length ≤ c0_1) (h : connect_Connected.f k a0_0 l0_1 = some (r1, r2)) :
    Calls Try.prog 104 #[.agg #[.int .i64 a0_0, .slice A0_1 l0_1.length c0_1]] w fun e w' => e = .returned (.tuple #[.bool r1, .int .i64 r2]) ∧ Below w.heap.size w w' := by
  unfold connect_Connected.f at h
  obtain ⟨t, ht, h⟩ := Option.bind_eq_some_iff.1 h
  split at h
  · rename_i ht0
    subst ht0
    split at h
    case isFalse => cases h
    rename_i hok
    simp only [okConn, Bool.and_eq_true, decide_eq_true_eq] at hok
    obtain ⟨⟨h0, h12⟩, hE⟩ := hok
    obtain ⟨n, rfl⟩ := Int.eq_ofNat_of_zero_le h0
    injection h with h
    injection h with h1 h2
    subst h2
    rw [Int.toNat_natCast] at h1
    have CC := fun W hr => components_good k n A0_1 c0_1 l0_1 W hr hc0_1 ht (by omega) (edgesIn_of (n := 12) hE)
    have HC := Aside0.mk CC
    have H1 := Aside0.mk h1
    clear CC ht hE h1
    have hrl := rootsTo_le (forestOf l0_1) n
    generalize rootsTo (forestOf l0_1) n = m at HC H1 hrl
    by_cases hm : m = 1
    · subst hm
      go_enter Try.func104, Try.ntmps104
      go_wp2_with (first | (go_at_call 112; refine (HC.out _ (Kd.C_alloc hr0_1 _)).mono ?_; rintro e w1 ⟨A1, c1, rfl, hb⟩; have HB := Aside0.mk (below_step (below_alloc (Below.refl w.heap.size w) _) hb); clear hb))
      go_ret2
      exact ⟨by rw [← H1.out]; rfl, HB.out⟩
    · have hmi : ((m : Nat) : Int) ≠ 1 := by omega
      go_enter Try.func104, Try.ntmps104
      go_wp2_with (first | (go_at_call 112; refine (HC.out _ (Kd.C_alloc hr0_1 _)).mono ?_; rintro e w1 ⟨A1, c1, rfl, hb⟩; have HB := Aside0.mk (below_step (below_alloc (Below.refl w.heap.size w) _) hb); clear hb))
      go_ret2
      exact ⟨by rw [← H1.out, decide_eq_false hm, ← (beq_eq_false_iff_ne.2 hmi : ((m : Int) == 1) = false)]; rfl, HB.out⟩
  · rename_i ht0
    injection h with h
    injection h with h1 h2
    subst h1
    subst h2
    have CC := fun W hr => components_bad k a0_0 A0_1 c0_1 l0_1 t W hr hc0_1 ht ht0
    have HC := Aside0.mk CC
    clear CC ht
    go_enter Try.func104, Try.ntmps104
    go_wp2_with (first | (go_at_call 112; refine (HC.out _ (Kd.C_alloc hr0_1 _)).mono ?_; rintro e w1 ⟨rfl, hb⟩; have HB := Aside0.mk (below_step (below_alloc (Below.refl w.heap.size w) _) hb); clear hb))
    go_ret2
    exact ⟨rfl, HB.out⟩
end Go.Proofs.Ytffdiakgjakngaa.P
