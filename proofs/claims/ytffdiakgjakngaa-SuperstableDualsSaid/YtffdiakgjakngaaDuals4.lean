/- A part of the proof that SuperstableDuals answers true (text 4 of 15): own walks and plain laws; no conditions. -/
import Derived.Deep.RegionHeld3
import Derived.LoopIn
import Derived.LoopNIn
import Derived.OwnWalkIn
import Derived.RegionIn
import Derived.Shelf.RegionOpen
import Derived.Sort.LoopGhostIn
import Derived.TacticsInMore
import Derived.WalkKit
import Derived.Test.YtffdiakgjakngaaDuals3
namespace Go.Proofs.Ytffdiakgjakngaa.P
open Go.RowKit Go.Proofs.YtffdiakgjakngaaW.PrintWords Go.Proofs.YtffdiakgjakngaaW.PrintLast Go.Proofs.YtffdiakgjakngaaW.PrintMore
set_option linter.unusedVariables false
set_option linter.unusedSimpArgs false
set_option maxHeartbeats 8000000
set_option maxRecDepth 100000
section
def firstCatch (n : Nat) (c : (Nat → Bool) → Nat → Bool) (b : Nat → Bool) : Option Nat := (List.range n).find? (fun v => c b v)
def burn1 (b : Nat → Bool) (v : Nat) : Nat → Bool := fun u => if u = v then true else b u
def unb (n : Nat) (b : Nat → Bool) : Nat := (List.range n).countP (fun v => !b v)
def fireRun (n : Nat) (c : (Nat → Bool) → Nat → Bool) : Nat → (Nat → Bool) → List Nat
 | 0, _ => []
 | f + 1, b => match firstCatch n c b with
  | none => []
  | some v => v :: fireRun n c f (burn1 b v)
def fireList (n : Nat) (c : (Nat → Bool) → Nat → Bool) (b : Nat → Bool) : List Nat := fireRun n c (unb n b) b
def burnAll (b : Nat → Bool) (l : List Nat) : Nat → Bool := l.foldl burn1 b
theorem burnAll_snoc (b : Nat → Bool) (l : List Nat) (v : Nat) : burnAll b (l ++ [v]) = burn1 (burnAll b l) v := by simp [burnAll]
theorem unb_burn1 {n : Nat} {b : Nat → Bool} {v : Nat} (hv : v < n) (hb : b v = false) : unb n b = unb n (burn1 b v) + 1 := by
 unfold unb
 induction n with
 | zero => omega
 | succ n ih =>
  rw [List.range_succ, List.countP_append, List.countP_append]
  by_cases e : v = n
  ·subst e
   have h1 : (List.range v).countP (fun u => !b u) = (List.range v).countP (fun u => !burn1 b v u) := List.countP_congr (fun u hu => by have := List.mem_range.1 hu; simp [burn1, show u ≠ v from by omega])
   rw [h1]; simp [burn1, hb]
  ·have := ih (by omega)
   rw [this]; simp [burn1, show n ≠ v from by omega]; omega
theorem unb_le (n : Nat) (b : Nat → Bool) : unb n b ≤ n := by
 unfold unb
 exact Nat.le_trans List.countP_le_length (by simp)
theorem fireList_none {n : Nat} {c : (Nat → Bool) → Nat → Bool} {b : Nat → Bool} (h : ∀ v, v < n → c b v = false) : fireList n c b = [] := by
 have : firstCatch n c b = none := by
  unfold firstCatch
  rw [List.find?_eq_none]
  intro v hv
  simp [h v (List.mem_range.1 hv)]
 unfold fireList
 cases unb n b <;> simp [fireRun, this]
theorem fireList_some {n : Nat} {c : (Nat → Bool) → Nat → Bool} (hc : ∀ b v, c b v = true → b v = false) {b : Nat → Bool} {v : Nat} (hv : v < n) (hcv : c b v = true) (hl : ∀ u, u < v → c b u = false) : fireList n c b = v :: fireList n c (burn1 b v) := by
 have hfc : firstCatch n c b = some v := by
  unfold firstCatch
  rw [List.find?_eq_some_iff_append]
  refine ⟨hcv, (List.range n).take v, (List.range n).drop (v + 1), ?_, ?_⟩
  ·have h1 : (List.range n)[v]'(by simpa using hv) = v := by simp
   conv => lhs; rw [← List.take_append_drop v (List.range n)]
   rw [List.drop_eq_getElem_cons (by simpa using hv), h1]
  ·intro u hu
   have hu2 : u < v := by
    rw [List.mem_take_iff_getElem] at hu
    obtain ⟨j, hj, rfl⟩ := hu
    simp at hj ⊢; omega
   simp [hl u hu2]
 have h3 := unb_burn1 hv (hc b v hcv)
 unfold fireList
 rw [h3]
 simp only [fireRun, hfc]
def catchB (n : Nat) (times : Nat → Nat → Int) (l : List Int) (b : Nat → Bool) (v : Nat) : Bool := !b v && decide (rd l v < flamesTo times b v n)
theorem catchB_unb {n : Nat} {times : Nat → Nat → Int} {l : List Int} (b : Nat → Bool) (v : Nat) (h : catchB n times l b v = true) : b v = false := by
 unfold catchB at h
 cases hb : b v <;> simp_all
theorem catches_calls (g : Nat) (n v : Nat) (times : Nat → Nat → Int) (A : Option Addr) (c : Nat) (l : List Int) (burnt : Nat → Bool) (w : World) (hn : n ≤ 12) (hv : v < 12) (hvl : v < l.length) (ht : ∀ i j, 0 ≤ times i j ∧ times i j ≤ 50) (hw : WoodAt w g n times (.slice A l.length c) burnt) (hr : Kd.C (Kd.int .i64) w A l.length l) :
  Calls Try.prog 99 #[.pointer (some ⟨g, 0, none⟩), .int .i64 v] w fun e w' => e = .returned (.bool (catchB n times l burnt v)) ∧ Drawn0 w w' := by
 unfold catchB
 cases hb : burnt v with
 | true => simpa using catches_burnt g n v times _ burnt w hv hw hb
 | false => simpa using catches_not g n v times A c l burnt w hn hv hvl ht hw hr hb
attribute [local go_sem] Oper.semAt_some
theorem grown_drawn {w w1 : World} (h : Drawn0 w w1) (r : Option Nat) : w.grownBy w1 r := grown_of_below h.below r
theorem grown_set {w w1 : World} {g j : Nat} {v : Value} (h : w.grownBy w1 (some g)) : w.grownBy (w1.setCell ⟨g, j, none⟩ v) (some g) :=
 have hb := (Below.refl 0 w1).setCell (p := ⟨g, j, none⟩) (Nat.zero_le _) v
 h.trans ⟨hb.os, hb.tape, hb.output, hb.size, fun k _ hk => Below.heap_setCell _ _ _ _ (fun e => hk (by rw [e]))⟩
theorem WoodAt.of_heap {w w' : World} {g : Nat} {n : Int} {times : Nat → Nat → Int} {chips : Value} {burnt : Nat → Bool} (h : WoodAt w g n times chips burnt) (e : w'.heap[g]? = w.heap[g]?) : WoodAt w' g n times chips burnt := by
 obtain ⟨cs, hb, hc⟩ := h
 exact ⟨cs, e.trans hb, hc⟩
theorem keeps_box {w : World} {b : Nat} {v : Value} {t : TypeId} (h : w.heap[b]? = some (.cells #[v] t (0, 0))) : w.cell? ⟨b, 0, none⟩ = some v := (blk_cell h 0).trans rfl
theorem fire1_seq (g bw n : Nat) (times : Nat → Nat → Int) (A : Option Addr) (c : Nat) (l : List Int) (b0 : Nat → Bool) (W : World) (base : Nat) (hn : n ≤ 12) (hl : n ≤ l.length) (ht : ∀ i j, 0 ≤ times i j ∧ times i j ≤ 50) (hbg : bw ≠ g)
  (hW : WoodAt W g n times (.slice A l.length c) b0) (hbox : W.heap[bw]? = some (.cells #[.pointer (some ⟨g, 0, none⟩)] 99 (0, 0))) (hr : Kd.R (Kd.int .i64) 3 W base (fun k => some k = (Value.slice A l.length c).ownBlock) (.slice A l.length c) l) :
  SeqSt (σ := Unit) Fence.wide 9 Try.prog 98 #[.pointer (some ⟨bw, 0, none⟩)] (fun v : Nat => #[.int .i64 v]) (fun _ W W1 => W1 = W) (fun _ A B => A.grownBy B (some g)) (fun _ _ A B => A.grownBy B (some g))
   (fun _ X Y => ∀ k, (k = g ∨ k = bw ∨ some k = (Value.slice A l.length c).ownBlock) → Y.heap[k]? = X.heap[k]?)
   (fun _ xs W' => xs = fireList n (catchB n times l) b0 ∧ WoodAt W' g n times (.slice A l.length c) (burnAll b0 xs)) (fun _ _ _ => True) (fun pre => pre.length < n) W := by
 intro lp J Jx hJs0 hJxs0 hJ00 hY0
 have hJs := Aside0.mk hJs0
 have hJxs := Aside0.mk hJxs0
 have hY := Aside0.mk hY0
 have hJ0 := hJ00 () W rfl
 clear hJs0 hJxs0 hJ00 hY0
 refine callsIn_of_wp Try.func98 rfl trivial ?_ rfl
 simp only [Try.ntmps98, List.size_toArray, List.length_cons, List.length_nil, Nat.reduceAdd, Nat.reduceSub, Array.replicate_succ, Array.replicate_zero, List.push_toArray, List.append_toArray, List.nil_append, List.cons_append]
 gi_wp2
 gi_loopg [3] (13 * unb n b0 + n) (fun kq v wr => ∃ (pre : List Nat) (u : Nat), v = .int .i64 u ∧ u ≤ n ∧ Aside0 (J () pre wr) ∧ Aside0 (WoodAt wr g n times (.slice A l.length c) (burnAll b0 pre)) ∧ Aside0 (wr.heap[bw]? = some (.cells #[.pointer (some ⟨g, 0, none⟩)] 99 (0, 0))) ∧ Aside0 (Kd.R (Kd.int .i64) 3 wr base (fun k => some k = (Value.slice A l.length c).ownBlock) (.slice A l.length c) l) ∧ Aside0 (∀ x, x < u → catchB n times l (burnAll b0 pre) x = false) ∧ Aside0 (fireList n (catchB n times l) b0 = pre ++ fireList n (catchB n times l) (burnAll b0 pre)) ∧ Aside0 (kq = 13 * unb n (burnAll b0 pre) + (n - u)) ∧ Aside0 (pre.length + unb n (burnAll b0 pre) = unb n b0))
 case atStart => exact ⟨[], 0, rfl, Nat.zero_le _, ⟨hJ0⟩, ⟨hW⟩, ⟨hbox⟩, ⟨hr⟩, ⟨fun x hx => by omega⟩, ⟨by simp [burnAll]⟩, ⟨by simp [burnAll]⟩, ⟨by simp [burnAll]⟩⟩
 case round =>
  obtain ⟨pre, u, rfl, hu, HJ, HW, HBX, HR, HN, HF, HK, HL⟩ := hrel
  have hcx := keeps_box HBX.out
  have hcn := HW.out.cell_n
  by_cases hlt : u < n
  ·have hCr : Kd.C (Kd.int .i64) wr A l.length l := by
    obtain ⟨A', c', e, _, hC⟩ := Kd.R_reads HR.out
    injection e with e1 e2 e3
    rw [e1]; exact hC
   have HC := Aside0.mk (catches_calls g n u times A c l (burnAll b0 pre) wr hn (by omega) (by omega) ht HW.out hCr)
   clear hCr
   cases hcb : catchB n times l (burnAll b0 pre) u with
   | false =>
    rw [hcb] at HC
    have Hcb := Lib.hid hcb
    clear hcb
    gi_wp2_with (refine ⟨trivial, ?_⟩; gi_at_call 99; refine (callsIn_wide.2 HC.out).mono ?_; rintro e w1 ⟨rfl, hD⟩; have HD := Aside0.mk hD; clear hD)
    gi_roundg (13 * unb n (burnAll b0 pre) + (n - (u + 1)))
    case measure => rw [HK.out]; omega
    case rel =>
     obtain ⟨m, rfl⟩ := HD.out.out
     refine ⟨pre, u + 1, by go_num, by omega, ⟨hJs.out () pre wr _ HJ.out (grown_drawn HD.out _)⟩, HW, HBX, HR, ⟨fun x hx => ?_⟩, HF, ⟨rfl⟩, HL⟩
     by_cases e : x = u
     ·rw [e]; exact Hcb.out
     ·exact HN.out x (by omega)
   | true =>
    rw [hcb] at HC
    have hbu := catchB_unb _ _ hcb
    have hun := unb_burn1 hlt hbu
    have hfl := fireList_some catchB_unb hlt hcb HN.out
    have Hun := Lib.hid hun
    have Hfl := Lib.hid hfl
    have Hcb := Lib.hid hcb
    clear hcb hbu hun hfl
    have HG : Aside0 (∀ w1, Drawn0 wr w1 → w1.cell? ⟨bw, 0, none⟩ = some (.pointer (some ⟨g, 0, none⟩)) ∧ w1.cell? ⟨g, 146 + u, none⟩ = some (.bool (burnAll b0 pre u)) ∧ w1.frozen? ⟨g, 146 + u, none⟩ = false ∧
      WoodAt (w1.setCell ⟨g, 146 + u, none⟩ (.bool true)) g n times (.slice A l.length c) (burnAll b0 (pre ++ [u])) ∧ (w1.setCell ⟨g, 146 + u, none⟩ (.bool true)).heap[bw]? = some (.cells #[.pointer (some ⟨g, 0, none⟩)] 99 (0, 0)) ∧
      Kd.R (Kd.int .i64) 3 (w1.setCell ⟨g, 146 + u, none⟩ (.bool true)) base (fun k => some k = (Value.slice A l.length c).ownBlock) (.slice A l.length c) l ∧ wr.grownBy (w1.setCell ⟨g, 146 + u, none⟩ (.bool true)) (some g)) := by
     refine ⟨fun w1 hD => ?_⟩
     obtain ⟨m, rfl⟩ := hD.out
     refine ⟨hcx, HW.out.cell_burnt u (by omega), HW.out.frozen _, ?_, ?_, ?_, grown_set (grown_drawn hD _)⟩
     ·rw [burnAll_snoc]; exact (HW.out.drewN m).set_burnt u (by omega) true
     ·exact blk_far (w := wr.drewN m) HBX.out hbg _
     ·exact (HW.out.drewN m).R_set (Kd.R_drewN HR.out m) (by decide) (146 + u) (.bool true)
    gi_wp2_with (refine ⟨trivial, ?_⟩; gi_at_call 99; refine (callsIn_wide.2 HC.out).mono ?_; rintro e w1 ⟨rfl, hD⟩; obtain ⟨q1, q2, q3, hW2, hB2, hR2, hG2⟩ := HG.out w1 hD; have HW2 := Aside0.mk hW2; have HB2 := Aside0.mk hB2; have HR2 := Aside0.mk hR2; have HG2 := Aside0.mk hG2; obtain ⟨fn, tmps, asg, bdy, hy, hRo⟩ := hY.out () pre u wr _ HJ.out hG2 (by have := HL.out; have := Hun.out; have := unb_le n b0; omega); have HRo := Aside0.mk hRo; clear hD hW2 hB2 hR2 hG2 hRo)
    refine HRo.out.mono ?_
    rintro e W3 (⟨rfl, hJ3, hk3⟩ | ⟨rfl, hJx3⟩)
    ·have HW3 := Aside0.mk (HW2.out.of_heap (hk3 g (.inl rfl)))
     have HB3 := Aside0.mk ((hk3 bw (.inr (.inl rfl))).trans HB2.out)
     have HR3 := Aside0.mk (Kd.R_move HR2.out (fun k hk => hk3 k (.inr (.inr hk))))
     have HJ3 := Aside0.mk hJ3
     clear hJ3 hk3 hy q1 q2 q3
     gi_wp2
     gi_roundg (13 * unb n (burnAll b0 (pre ++ [u])) + n)
     case measure => rw [HK.out, Hun.out, burnAll_snoc]; omega
     case rel =>
      refine ⟨pre ++ [u], 0, rfl, by omega, HJ3, HW3, HB3, HR3, ⟨fun x hx => by omega⟩, ⟨?_⟩, ⟨rfl⟩, ⟨by have := HL.out; have := Hun.out; rw [burnAll_snoc]; simp; omega⟩⟩
      rw [HF.out, Hfl.out, burnAll_snoc]; simp
    ·clear hy q1 q2 q3
     have HJx3 := Aside0.mk hJx3
     clear hJx3
     gi_wp2
     refine bodyPost_ret (results_none rfl _ _ _) rfl ?_
     exact ⟨⟨_, rfl⟩, .inr ⟨(), pre ++ [u], trivial, HJx3.out⟩⟩
  ·have hun : u = n := by omega
   subst hun
   gi_wp2
   go_end0
   exact ⟨⟨_, rfl⟩, .inl ⟨(), pre, ⟨by rw [HF.out, fireList_none HN.out]; simp, HW.out⟩, HJ.out⟩⟩
end
section
section
variable {F : Fence} {n : Nat} {P : Program} {ops : Array Oper} {rest : List Oper} {o : Oper} {a : Act} {Q : Exit → Act → World → Prop} {α : Type}
theorem R_append_in (d : Kd α) {w0 W : World} (base : Nat) (hgd : o.guard = none) (s x : Operand) (t e : TypeId) (z : Value) (bytes : Nat)
  (ho : o.op = .call { callee := .builtin .append, args := #[s, x], argTypes := #[t, t] })
  (ht : P.underlying t = some (.slice e)) (hinfo : (P.info? e).map (fun i => (i.zero, i.size, i.bytes)) = some (some z, d.sz, bytes)) (hz : z.cells.size = d.sz) (hs0 : 0 < d.sz) (hb0 : 0 < bytes)
  (v : Value) (xs : List α) (p : α) (cs : List Value) (ok okp : Nat → Prop) (hs : a.eval s = v) (hx : a.eval x = .slice (some ⟨W.heap.size, 0, none⟩) 1 1) (hp : d.M W base okp p cs) (hokp : ∀ k, okp k → ok k ∧ some k ≠ v.ownBlock) (hfresh : ∀ k, W.heap.size ≤ k → ok k)
  (HO : d.R e W base ok v xs) (HB : Below base w0 W) (hbase : base ≤ W.heap.size) (hl : (xs.length + 1) * bytes ≤ 140737488355328)
  (h : ∀ v1 w1, d.R e w1 base ok v1 (xs ++ [p]) → Below base w0 w1 → W.grownBy w1 v.ownBlock → (v1.ownBlock = v.ownBlock ∨ ∃ b, v1.ownBlock = some b ∧ W.heap.size ≤ b) → wpListIn F n P ops Q rest (a.put o.dst v1) w1) :
  wpListIn F n P ops Q (o :: rest) a (W.alloc (.cells cs.toArray e)) := by
 obtain ⟨h0, inner, hown, hr⟩ := HO
 have hys : cs.length = d.sz := d.K_len (d.K_of_M hp)
 have h1 := d.K_one (d.K_of_M hp)
 obtain ⟨i0, hi, hzz⟩ := Option.map_eq_some_iff.1 hinfo
 simp only [Prod.mk.injEq] at hzz
 obtain ⟨hz0, hz1, hz2⟩ := hzz
 have hlen : xs.length + 1 ≤ 140737488355328 := Nat.le_trans (Nat.le_mul_of_pos_right _ hb0) hl
 refine wpListIn_plain hgd fun K hK' => ?_
 obtain ⟨v1, w1, hrun, hown1, hg, _, hat⟩ := run_append_own_at (P := P) (W.alloc (.cells cs.toArray e)) base t o.type e i0 z d.sz bytes ht hi hz0 hz1 hz2 hz hs0 v xs.length inner (hown.alloc _) ⟨W.heap.size, 0, none⟩ 1 1 cs (by rw [hys]; simp)
  (by simpa using World.news_of_block (cs := cs.toArray) (t := e) (fr := (0, 0)) (heap_alloc_new W (.cells cs.toArray e))) h1 (by simp only [maxLen]; omega) hl (by simp; omega)
 have hgg : W.grownBy w1 v.ownBlock := World.grownBy.trans (World.grownBy_alloc W _ _) hg
 have hat' : v1.ownBlock = v.ownBlock ∨ ∃ b, v1.ownBlock = some b ∧ W.heap.size ≤ b := by
  rcases hat with hat | hat
  ·exact .inl hat
  ·exact .inr ⟨_, hat, by simp⟩
 unfold Oper.wpIn
 refine ⟨?_, ?_⟩
 ·simp [Oper.about, ho, resolve, Target.leads, Sem.run_pure]
 ·rw [Oper.semAt_plain F _ _ (by rw [ho]; intro c hc'; cases hc')]
  simp [execOp, ho, resolve, invoke, builtin, hs, hx, hrun, Result.andThen]
  exact hK' _ _ (h v1 w1 (Kd.R_appended h0 hr hp hokp hfresh hown1 hgg hat') ((HB.alloc hbase _).grown hg (by simp; omega) (own_base hown)) hgg hat')
end
theorem keepLD_append {α : Type} {d : Kd α} {e base nw : Nat} {ok : Nat → Prop} {v : Value} {xs : List α} {W w1 : World} (hR : d.R e W base ok v xs) (hg : W.grownBy w1 v.ownBlock) : KeepLD nw W w1 := fun k o h1 h2 h3 h4 => by
 refine (hg.block k (Array.getElem?_eq_some_iff.1 h3).1 (fun e => ?_)).trans h3
 obtain ⟨cells, hc⟩ := Kd.R_typed hR k e.symm
 rw [h3] at hc; injection hc with hc; subst hc; simp [Obj.isCells] at h4
theorem keepLD_set {nw bo j : Nat} (W : World) (v : Value) (h : bo < nw) : KeepLD nw W (W.setCell ⟨bo, j, none⟩ v) := fun k o h1 h2 h3 h4 => by
 rw [Below.heap_setCell _ _ _ _ (by simp; omega)]; exact h3
theorem R_bk {α : Type} {d : Kd α} {e base l : Nat} {ok : Nat → Prop} {v : Value} {xs : List α} {A B : World} (h : d.R e A base ok v xs) (hb : Bk l A B) : d.R e B base ok v xs :=
 Kd.R_mono (Kd.R_move (Kd.R_bound h) (fun k hk => by obtain ⟨_, _, _, q, _, cells, hc⟩ := hk; exact (hb.cells hc).trans hc.symm)) (fun k hk => hk.1)
theorem own_len (A : Option Addr) (m m' c : Nat) : (Value.slice A m c).ownBlock = (Value.slice A m' c).ownBlock := by cases A <;> rfl
theorem bodyPostM_one {F : Fence} {n : Nat} {P : Program} {fn : Func} {R : Ending → World → Prop} {a : Act} {w : World} {D : Nat} {v : Value} (hd : a.defers = [{ target := .collected D, args := #[] }]) (hdf : w.heap[D]? = some (.deferred (some [])))
  (hres : (results fn a.tmps).run P (w.putObj D (.deferred none)) = .ok v (w.putObj D (.deferred none))) (hR : R (.returned v) (w.putObj D (.deferred none))) : bodyPostM F n P fn R .ret a w := by
 show LeavesInM F n P fn a.tmps R a.defers .returning w
 rw [hd]
 exact ⟨by simp, .inl ⟨_, _, rfl, run_takeDeferred hdf, ⟨_, hres, hR⟩⟩⟩
theorem no_exits {F : Fence} {n : Nat} {P : Program} {c : Code} {K : Act → World → Prop} {Q : Exit → Act → World → Prop} {a : Act} {w : World} (h : c.wpIn F n P (Exit.then K (fun _ _ _ => False)) a w) : c.wpIn F n P (Exit.then K Q) a w :=
 wpIn_mono h (fun e a w h => by cases e <;> first | exact h | exact h.elim)
end
section
attribute [local go_sem] Oper.semAt_some
theorem singles_calls (N : Int) (A0 : Option Addr) (c0 : Nat) (E : List S66) (w : World) : Calls Try.prog 114 #[.agg #[.int .i64 N, .slice A0 E.length c0]] w fun e w' => e = .returned (.func (.func 121) #[] #[.pointer (some ⟨w.heap.size, 0, none⟩)]) ∧ w' = w.alloc (.cells #[.int .i64 N, .slice A0 E.length c0] 24) := by
 go_enter Try.func114, Try.ntmps114
 go_wp2
 go_ret
 exact ⟨rfl, rfl⟩
def someOf (s : Nat) (a b : Int) : Nat → List (Nat × Int × Int)
 | 0 => []
 | j + 1 => someOf s a b j ++ [(s + j, a, b)]
def singlesTo (E : List S66) : Nat → List (Nat × Int × Int)
 | 0 => []
 | k + 1 => singlesTo E k ++ someOf (sizeTo E k) (rd_T66 E k).f0 (rd_T66 E k).f1 (rd_T66 E k).f2.toNat
theorem someOf_length (s : Nat) (a b : Int) : ∀ j, (someOf s a b j).length = j
 | 0 => rfl
 | j + 1 => by simp [someOf, someOf_length s a b j]
theorem singlesTo_length (E : List S66) : ∀ k, (singlesTo E k).length = sizeTo E k
 | 0 => rfl
 | k + 1 => by simp [singlesTo, sizeTo, singlesTo_length E k, someOf_length]
def KeepG (base : Nat) (X Y : World) : Prop := (base ≤ X.heap.size → Below base X Y) ∧ ∀ (k : Nat) (cs : Array Value) (t : TypeId), (t = 24 ∨ t = 66) → X.heap[k]? = some (Obj.cells cs t (0, 0)) → Y.heap[k]? = some (Obj.cells cs t (0, 0))
theorem singles1_seq (bx : Nat) (N : Int) (A0 : Option Addr) (c0 : Nat) (E : List S66) (w0 W : World) (hr0 : Kd.C k66 w0 A0 E.length E) (hE : multsOk E = true) (hB : Below w0.heap.size w0 W)
  (hbox : W.heap[bx]? = some (.cells #[.int .i64 N, .slice A0 E.length c0] 24 (0, 0))) :
  SeqSt (σ := Unit) Fence.wide 9 Try.prog 121 #[.pointer (some ⟨bx, 0, none⟩)] (fun x : Nat × Int × Int => #[.int .i64 x.1, .agg #[.int .i64 x.2.1, .int .i64 x.2.2]]) (fun _ W W1 => W1 = W) (fun _ A B => Below A.heap.size A B) (fun _ _ A B => Below A.heap.size A B)
   (fun _ X Y => KeepG w0.heap.size X Y)
   (fun _ xs W' => xs = singlesTo E E.length) (fun _ _ _ => True) (fun pre => pre.length < 2000) W := by
 intro lp J Jx hJs0 hJxs0 hJ00 hY0
 have hJs := Aside0.mk hJs0
 have hJxs := Aside0.mk hJxs0
 have hY := Aside0.mk hY0
 have hJ0 := hJ00 () W rfl
 clear hJs0 hJxs0 hJ00 hY0
 have hu := Try.underlying24
 have hue := Try.underlying66
 obtain ⟨hlen, hm⟩ := multsOk_get hE
 have hsz := fun i hi => sizeTo_le hm i hi
 have HM := Aside0.mk hm
 have HS := Aside0.mk hsz
 clear hm hsz hE
 refine callsIn_of_wp Try.func121 rfl trivial ?_ rfl
 simp only [Try.ntmps121, List.size_toArray, List.length_cons, List.length_nil, Nat.reduceAdd, Nat.reduceSub, Array.replicate_succ, Array.replicate_zero, List.push_toArray, List.append_toArray, List.nil_append, List.cons_append]
 have hb1 : W.cell? ⟨bx, 1, none⟩ = some (.slice A0 E.length c0) := (blk_cell hbox 1).trans rfl
 have HBX := Aside0.mk hbox
 clear hbox
 gi_wp2
 gi_loopg [3, 9] (E.length) (fun kq s i wr => ∃ k : Nat, i = .int .i64 k ∧ s = .int .i64 (sizeTo E k : Nat) ∧ k ≤ E.length ∧ Aside0 (J () (singlesTo E k) wr) ∧ Aside0 (wr.heap[bx]? = some (.cells #[.int .i64 N, .slice A0 E.length c0] 24 (0, 0))) ∧ Aside0 (Below w0.heap.size w0 wr) ∧ Aside0 (kq = E.length - k))
 case atStart => exact ⟨0, rfl, rfl, Nat.zero_le _, ⟨hJ0⟩, HBX, ⟨hB⟩, ⟨rfl⟩⟩
 case round =>
  obtain ⟨k, rfl, rfl, hk, HJ, HX, HB, HK⟩ := hrel
  by_cases hlt : k < E.length
  ·have hmk := HM.out k hlt
   have Hss := Lib.hid (show sizeTo E (k + 1) = sizeTo E k + (rd_T66 E k).f2.toNat from rfl)
   have Hst := Lib.hid (show singlesTo E (k + 1) = singlesTo E k ++ someOf (sizeTo E k) (rd_T66 E k).f0 (rd_T66 E k).f1 (rd_T66 E k).f2.toNat from rfl)
   have hsk := HS.out (k + 1) (by omega)
   have hss := Hss.out
   obtain ⟨ad, rfl, hx0, hx1, hx2⟩ := at_T66 hr0 k (by omega) (by omega)
   rw [Int.toNat_natCast] at hx0 hx1 hx2
   generalize rd_T66 E k = x at hmk hx0 hx1 hx2 Hss Hst hss
   obtain ⟨a, b, m⟩ := x
   simp only at hmk hx0 hx1 hx2
   obtain ⟨m, rfl⟩ := Int.eq_ofNat_of_zero_le (show 0 ≤ m by omega)
   simp only [Int.toNat_natCast] at hss
   have hbig : sizeTo E k + m ≤ 2000 := by omega
   have hm50 : m ≤ 50 := by omega
   have hk0 : (0 : Int) ≤ (k : Int) := by omega
   have hk1 : (k : Int) < (E.length : Int) := by omega
   have hx0 := pw_cell_below HB.out hx0
   have hx1 := pw_cell_below HB.out hx1
   have hx2 := pw_cell_below HB.out hx2
   have HJ1 := Aside0.mk (hJs.out () _ _ _ HJ.out (below_alloc (Below.refl wr.heap.size wr) (.cells #[.int .i64 a, .int .i64 b, .int .i64 m] 66)))
   have HX1 := Aside0.mk (blk_alloc HX.out (.cells #[.int .i64 a, .int .i64 b, .int .i64 m] 66))
   have HB1 := Aside0.mk (below_alloc HB.out (.cells #[.int .i64 a, .int .i64 b, .int .i64 m] 66))
   have HE1 := Aside0.mk (show (wr.alloc (.cells #[.int .i64 a, .int .i64 b, .int .i64 m] 66)).heap[wr.heap.size]? = some (.cells #[.int .i64 a, .int .i64 b, .int .i64 m] 66 (0, 0)) from heap_alloc_new _ _)
   clear hss hsk hmk
   gi_wp2
   clear hx0 hx1 hx2
   generalize (wr.alloc (.cells #[.int .i64 a, .int .i64 b, .int .i64 m] 66)) = W1 at HJ1 HX1 HB1 HE1 ⊢
   generalize wr.heap.size = eb at HE1 ⊢
   gi_loopg [3, 15] (m) (fun kq s i wi => ∃ j : Nat, i = .int .i64 j ∧ s = .int .i64 (sizeTo E k + j : Nat) ∧ j ≤ m ∧ Aside0 (J () (singlesTo E k ++ someOf (sizeTo E k) a b j) wi) ∧ Aside0 (wi.heap[bx]? = some (.cells #[.int .i64 N, .slice (some ad) E.length c0] 24 (0, 0))) ∧ Aside0 (wi.heap[eb]? = some (.cells #[.int .i64 a, .int .i64 b, .int .i64 m] 66 (0, 0))) ∧ Aside0 (Below w0.heap.size w0 wi) ∧ Aside0 (kq = m - j))
   case atStart => exact ⟨0, rfl, rfl, Nat.zero_le _, ⟨by simpa [someOf] using HJ1.out⟩, HX1, HE1, HB1, ⟨rfl⟩⟩
   case round =>
    clear HJ1 HX1 HB1 HE1
    obtain ⟨j, rfl, rfl, hj, HJ2, HX2, HE2, HB2, HK2⟩ := hrel
    by_cases hjm : j < m
    ·have hlp := singlesTo_length E k
     have hlj := someOf_length (sizeTo E k) a b j
     obtain ⟨fn, tmps, asg, bdy, hy, hRo⟩ := hY.out () (singlesTo E k ++ someOf (sizeTo E k) a b j) (sizeTo E k + j, a, b) wr wr HJ2.out (Below.refl _ _) (by rw [List.length_append]; omega)
     have HRo := Aside0.mk hRo
     simp only [Int.natCast_add] at hy
     have hc0 : wr.cell? ⟨eb, 0, none⟩ = some (.int .i64 a) := (blk_cell HE2.out 0).trans rfl
     have hc1 : wr.cell? ⟨eb, 1, none⟩ = some (.int .i64 b) := (blk_cell HE2.out 1).trans rfl
     clear hRo hlp hlj
     gi_wp2
     refine HRo.out.mono ?_
     rintro e W3 (⟨rfl, hJ3, hk3⟩ | ⟨rfl, hJx3⟩)
     ·have HJ3 := Aside0.mk hJ3
      have HX3 := Aside0.mk (hk3.2 bx _ _ (.inl rfl) HX2.out)
      have HE3 := Aside0.mk (hk3.2 eb _ _ (.inr rfl) HE2.out)
      have HB3 := Aside0.mk (HB2.out.trans (hk3.1 HB2.out.size))
      clear hJ3 hk3 hy hc0 hc1
      gi_wp2
      gi_roundg (m - (j + 1))
      case measure => rw [HK2.out]; omega
      case rel => exact ⟨j + 1, by go_num, by go_num, by omega, ⟨by simpa [someOf] using HJ3.out⟩, HX3, HE3, HB3, ⟨rfl⟩⟩
     ·have HJx3 := Aside0.mk hJx3
      clear hJx3 hy hc0 hc1
      gi_wp2
      refine bodyPost_ret (results_none rfl _ _ _) rfl ?_
      exact ⟨⟨_, rfl⟩, .inr ⟨(), _, trivial, HJx3.out⟩⟩
    ·obtain rfl : j = m := by omega
     gi_wp2
     gi_roundg (E.length - (k + 1))
     case measure => rw [HK.out]; omega
     case rel => exact ⟨k + 1, by go_num, by rw [Hss.out, Int.toNat_natCast], by omega, ⟨by rw [Hst.out, Int.toNat_natCast]; exact HJ2.out⟩, HX2, HB2, ⟨rfl⟩⟩
  ·obtain rfl : k = E.length := by omega
   gi_wp2
   go_end0
   exact ⟨⟨_, rfl⟩, .inl ⟨(), _, rfl, HJ.out⟩⟩
end
end Go.Proofs.Ytffdiakgjakngaa.P
namespace Go.Proofs.Ytffdiakgjakngaa.P
open Go Go.RowKit
set_option linter.unusedVariables false
set_option linter.unusedSimpArgs false
set_option maxHeartbeats 8000000
set_option maxRecDepth 100000
section
variable {F : Fence} {n : Nat} {P : Program}
theorem wpIn_rangeFunc_sta {σ α : Type} {g : Operand} {ps : Array Tmp} {assign body : Code} {Q : Exit → Act → World → Prop} {a : Act} {w : World}
  (hro : F.round = none) (h1 : 1 ≤ n) {gf : Nat} {lb : Array Value} (hg : a.eval g = .func (.func gf) #[] lb) (hFg : F.fn gf) (eg : ∀ args w, (callFunc gf args).run P w = .ok (.enter gf args) w)
  {encs : α → Array Value} {Start : σ → World → World → Prop} {St : σ → World → World → Prop} {Ar : σ → α → World → World → Prop} {Kp : σ → World → World → Prop} {S Sp : σ → List α → World → Prop} {Bd : List α → Prop}
  (hseq : ∀ o, SeqSt F (n - 1) P gf lb encs Start St Ar Kp S Sp Bd ((w.alloc (.deferred (some []))).alloc (.loop o))) (hps : ∀ x, (encs x).size = ps.size)
  (Adm : σ → Prop) (hAdm : ∀ o s W1, Start s ((w.alloc (.deferred (some []))).alloc (.loop o)) W1 → Adm s ∧ KeepLD w.heap.size ((w.alloc (.deferred (some []))).alloc (.loop o)) W1)
  (hSt : ∀ s A B, Adm s → St s A B → KeepLD w.heap.size A B) (hAr : ∀ s x A B, Adm s → Ar s x A B → KeepLD w.heap.size A B)
  (I : σ → List α → World → Prop) (Ix : Code → σ → List α → World → Prop)
  (hIs : ∀ s pre A B, Adm s → I s pre A → St s A B → I s pre B) (hIxs : ∀ c s pre A B, Adm s → Ix c s pre A → St s A B → Ix c s pre B)
  (hIb : ∀ s pre A B, I s pre A → Bk (w.heap.size + 1) A B → I s pre B) (hIxb : ∀ c s pre A B, Ix c s pre A → Bk (w.heap.size + 1) A B → Ix c s pre B)
  (hKt : ∀ s A B C D, Bk (w.heap.size + 1) A B → Kp s B C → Bk (w.heap.size + 1) C D → Kp s A D)
  (h0 : ∀ o s W1, Start s ((w.alloc (.deferred (some []))).alloc (.loop o)) W1 → I s [] W1) (a₁ : α → World → Act) (w₁ : α → World → World)
  (hw₁ : ∀ x W, KeepLD w.heap.size W (w₁ x W)) (hKa : ∀ s x A D, Kp s (w₁ x A) D → Kp s A D)
  (hassign : ∀ (l : Nat) (x : α) (W : World) (K : Act → World → Prop), K (a₁ x W) (w₁ x W) →
   assign.wpIn (F.inRound l) (n - 1 - 1) P (Exit.then K (fun _ _ _ => False)) { tmps := (ps.zip (encs x)).foldl (fun t (p, v) => t.setIfInBounds p v) a.tmps, defers := [] } W)
  (hbody : ∀ (l : Nat) (s : σ) (pre : List α) (x : α) (Wb W1 W : World), Adm s → I s pre Wb → Ar s x Wb W1 → Bd pre → Bk (w.heap.size + 1) (w₁ x W1) W → body.wpIn (F.inRound l) (n - 1 - 1) P (postSt (σ := σ) w.heap.size (Kp s) (I s) (fun c => Ix c s) (pre ++ [x]) W) (a₁ x W1) W)
  (hdone : ∀ (s : σ) (xs : List α) (W W' : World), Adm s → S s xs W → I s xs W → Bk (w.heap.size + 1) W W' → W'.heap[w.heap.size]? = some (.deferred (some [])) → Q .normal { a with defers := { target := .collected w.heap.size, args := #[] } :: a.defers } W')
  (hstop : ∀ (c : Code) (s : σ) (pre : List α) (W W' : World), Adm s → Sp s pre W → Ix c s pre W → Bk (w.heap.size + 1) W W' → W'.heap[w.heap.size]? = some (.deferred (some [])) → c.wpIn F n P Q { a with defers := { target := .collected w.heap.size, args := #[] } :: a.defers } W') :
  (Code.rangeFunc g ps assign body).wpIn F n P Q a w := by
 refine wpIn_rangeFunc ?_
 intro fn hfn
 rw [hro]
 obtain ⟨rec, hrec⟩ : ∃ rec : LoopState → Option Code → Loop, rec = fun st pe => { state := st, pending := pe, fn, tmps := a.tmps, params := ps, assign, body, defers := w.heap.size } := ⟨_, rfl⟩
 obtain ⟨W1, hW1⟩ : ∃ W1, (w.alloc (.deferred (some []))).alloc (.loop (rec .ready none)) = W1 := ⟨_, rfl⟩
 have hL1 : W1.heap[w.heap.size + 1]? = some (.loop (rec .ready none)) := by
  rw [← hW1]; have := World.alloc_heap_new (w.alloc (.deferred (some []))) (.loop (rec .ready none)); rwa [World.size_alloc] at this
 have hK1 : W1.heap[w.heap.size]? = some (.deferred (some [])) := by
  rw [← hW1]; exact (Below.heap_alloc _ _ _ (by simp)).trans (World.alloc_heap_new w _)
 refine ⟨w.heap.size + 1, [{ target := .collected w.heap.size, args := #[] }], W1, { target := .fn (.func gf) lb, args := #[.func (.yield (w.heap.size + 1)) #[] #[]] }, W1, gf,
  #[.func (.yield (w.heap.size + 1)) #[] #[]] ++ lb, W1, ?_, ?_, ?_, ?_, fun _ => h1, ?_⟩
 ·rw [← hW1, hrec]; exact run_enterLoop_outer _ _ _ _ _
 ·simp only [resolve, hg]
  simp [go_sem]
 ·intro f' hf'; simp [Target.leads] at hf'; subst hf'; exact hFg
 ·simp [invoke, go_sem, eg]
 ·have hs := hseq (rec .ready none)
  rw [hW1] at hs
  have ld : ∀ {A B : World} {r : Loop}, KeepLD w.heap.size A B → A.heap[w.heap.size + 1]? = some (.loop r) → B.heap[w.heap.size + 1]? = some (.loop r) := fun h ho => h _ _ (by omega) (by omega) ho rfl
  have ldd : ∀ {A B : World}, KeepLD w.heap.size A B → A.heap[w.heap.size]? = some (.deferred (some [])) → B.heap[w.heap.size]? = some (.deferred (some [])) := fun h ho => h _ _ (by omega) (by omega) ho rfl
  refine (hs (w.heap.size + 1)
   (fun s pre W => Adm s ∧ I s pre W ∧ W.heap[w.heap.size + 1]? = some (.loop (rec .ready none)) ∧ W.heap[w.heap.size]? = some (.deferred (some [])))
   (fun s pre W => Adm s ∧ ∃ c, Ix c s pre W ∧ W.heap[w.heap.size + 1]? = some (.loop (rec .done (some c))) ∧ W.heap[w.heap.size]? = some (.deferred (some [])))
   (fun s pre A B h hst => ⟨h.1, hIs s pre A B h.1 h.2.1 hst, ld (hSt s A B h.1 hst) h.2.2.1, ldd (hSt s A B h.1 hst) h.2.2.2⟩)
   (fun s pre A B h hst => by
    obtain ⟨ha, c, hc, hl, hk⟩ := h
    exact ⟨ha, c, hIxs c s pre A B ha hc hst, ld (hSt s A B ha hst) hl, ldd (hSt s A B ha hst) hk⟩)
   (fun s W2 hst => by
    rw [← hW1] at hst
    have hk := hAdm (rec .ready none) s W2 hst
    have hkk := hk.2
    rw [hW1] at hkk
    exact ⟨hk.1, h0 _ s W2 hst, ld hkk hL1, ldd hkk hK1⟩)
   ?_).mono ?_
  ·rintro s pre x Wb W ⟨ha, hi, hl0, hk0⟩ har hbd
   have hkk := hAr s x Wb W ha har
   have hl := ld hkk hl0
   have hk := ldd hkk hk0
   have hy := run_yield (P := P) (args := encs x) hl (by rw [hrec]; exact hps x)
   rw [hrec] at hy
   obtain ⟨Wr, hWr⟩ : ∃ Wr, Wr = W := ⟨_, rfl⟩
   have hKW := hw₁ x W
   have hl := ld hKW hl
   have hk := ldd hKW hk
   have hKa' := fun D => hKa s x W D
   have hB' := hbody (w.heap.size + 1) s pre x Wb W
   have hA' := hassign (w.heap.size + 1) x W
   clear hkk hl0 hk0
   rw [← hWr] at hy hA' hKa' hB' hl hk hKW har ⊢
   generalize hw1W : w₁ x Wr = W at hl hk hKW hKa' hB' hA'
   have hlt : w.heap.size + 1 < W.heap.size := (Array.getElem?_eq_some_iff.1 hl).1
   have hbk : Bk (w.heap.size + 1) W (W.putObj (w.heap.size + 1) (.loop { rec .ready none with state := .busy })) := ⟨_, _, hl, rfl, rfl⟩
   refine ⟨fn, _, assign, body, hy, roundIn_of_wpIn hfn (hA' _ ⟨_, run_beginRound hl (by rw [hrec]), ?_⟩)⟩
   have hl2 : (W.putObj (w.heap.size + 1) (.loop { rec .ready none with state := .busy })).heap[w.heap.size + 1]? = some (.loop { rec .ready none with state := .busy }) := World.putObj_heap_same hlt
   have hk2 : (W.putObj (w.heap.size + 1) (.loop { rec .ready none with state := .busy })).heap[w.heap.size]? = some (.deferred (some [])) := (World.putObj_heap_other (by omega)).trans hk
   refine wpIn_mono (hB' _ ha hi har hbd hbk) ?_
   have fin : ∀ (jump : Option Code) (W3 : World), KeepLD w.heap.size (W.putObj (w.heap.size + 1) (.loop { rec .ready none with state := .busy })) W3 →
     (Instr.endRound (w.heap.size + 1) jump).run P W3 = .ok (.bool jump.isNone) (W3.putObj (w.heap.size + 1) (.loop (rec (if jump.isNone then .ready else .done) jump))) ∧
     Bk (w.heap.size + 1) W3 (W3.putObj (w.heap.size + 1) (.loop (rec (if jump.isNone then .ready else .done) jump))) ∧
     (W3.putObj (w.heap.size + 1) (.loop (rec (if jump.isNone then .ready else .done) jump))).heap[w.heap.size + 1]? = some (.loop (rec (if jump.isNone then .ready else .done) jump)) ∧
     (W3.putObj (w.heap.size + 1) (.loop (rec (if jump.isNone then .ready else .done) jump))).heap[w.heap.size]? = some (.deferred (some [])) := fun jump W3 hk3 => by
    have hl3 := ld hk3 hl2
    have := run_endRound (P := P) jump hl3
    rw [hrec] at this ⊢
    exact ⟨this, ⟨_, _, hl3, rfl, rfl⟩, World.putObj_heap_same (Array.getElem?_eq_some_iff.1 hl3).1, (World.putObj_heap_other (by omega)).trans (ldd hk3 hk2)⟩
   rintro e a3 W3 hp
   cases e with
   | normal =>
    obtain ⟨hk3, hkp3, hi3⟩ := hp
    obtain ⟨hr, hb4, hl4, hk4⟩ := fin none W3 hk3
    exact ⟨_, _, hr, .inl ⟨rfl, ⟨ha, hIb s _ _ _ hi3 hb4, hl4, hk4⟩, hKa' _ (hKt s _ _ _ _ hbk hkp3 hb4)⟩⟩
   | ret =>
    obtain ⟨hk3, hi3⟩ := hp
    obtain ⟨hr, hb4, hl4, hk4⟩ := fin (some .ret) W3 hk3
    exact ⟨_, _, hr, .inr ⟨rfl, ha, .ret, hIxb _ s _ _ _ hi3 hb4, hl4, hk4⟩⟩
   | exit id => exact hp.elim
   | goto t => exact hp.elim
   | panic ch => exact hp.elim
   | outgrown => exact hp.elim
  ·rintro e W2 ⟨⟨v, rfl⟩, (⟨s, xs, hS, ha, hi, hl, hk⟩ | ⟨s, pre, hSp, ha, c, hi, hl, hk⟩)⟩
   ·exact ⟨none, _, by have := run_endLoop (P := P) hl (by rw [hrec]; simp); rw [hrec] at this; exact this, hdone s xs W2 _ ha hS hi ⟨_, _, hl, rfl, rfl⟩ ((World.putObj_heap_other (by omega)).trans hk)⟩
   ·exact ⟨some c, _, by have := run_endLoop (P := P) hl (by rw [hrec]; simp); rw [hrec] at this; exact this, hstop c s pre W2 _ ha hSp hi ⟨_, _, hl, rfl, rfl⟩ ((World.putObj_heap_other (by omega)).trans hk)⟩
end
end Go.Proofs.Ytffdiakgjakngaa.P
namespace Go.Proofs.Ytffdiakgjakngaa.P
open Go.RowKit Go.Proofs.YtffdiakgjakngaaW.PrintWords Go.Proofs.YtffdiakgjakngaaW.PrintLast Go.Proofs.YtffdiakgjakngaaW.PrintMore
set_option linter.unusedVariables false
set_option linter.unusedSimpArgs false
set_option maxHeartbeats 8000000
set_option maxRecDepth 100000
section
attribute [local go_sem] Oper.semAt_some
def endRows (xs : List (Nat × Int × Int)) : List (List Value) := xs.map fun x => [.int .i64 x.2.1, .int .i64 x.2.2]
theorem ends_good (k : Nat) (N : Int) (A0 : Option Addr) (c0 : Nat) (E : List S66) (w : World) (hr0 : Kd.C k66 w A0 E.length E) (hc0 : E.length ≤ c0) (ht : graph_Check.f k N E = some 0) (hE : multsOk E = true) :
  Calls Try.prog 105 #[.agg #[.int .i64 N, .slice A0 E.length c0]] w fun e w' => ∃ v, e = .returned (.tuple #[v, .int .i64 0]) ∧ (Kd.raw 2).R 115 w' w.heap.size (fun _ => True) v (endRows (singlesTo E E.length)) ∧ Below w.heap.size w w' := by
 have hu := Try.underlying24
 have Ht := Aside0.mk ht
 have HE := Aside0.mk hE
 clear ht hE
 refine (callsIn_wide (n := 10)).1 ?_
 refine callsIn_of_wp_marks Try.func105 rfl trivial ?_ rfl
 simp only [Try.ntmps105, List.size_toArray, List.length_cons, List.length_nil, Nat.reduceAdd, Nat.reduceSub, Array.replicate_succ, Array.replicate_zero, List.push_toArray, List.append_toArray, List.nil_append, List.cons_append]
 gi_wp2_with (first | (refine ⟨trivial, ?_⟩; gi_at_call 113; refine (callsIn_wide.2 (graph_Check.calls k N A0 c0 E 0 _ (Kd.C_alloc hr0 _) hc0 Ht.out)).mono ?_; rintro e w1 ⟨rfl, hb⟩; have HBX := Aside0.mk (blk_below (heap_alloc_new w (.cells #[.int .i64 N, .slice A0 E.length c0] 24)) hb); have hx0 : w1.cell? ⟨w.heap.size, 0, none⟩ = some (.int .i64 N) := (blk_cell HBX.out 0).trans rfl; have hx1 : w1.cell? ⟨w.heap.size, 1, none⟩ = some (.slice A0 E.length c0) := (blk_cell HBX.out 1).trans rfl; have hy0 : (w1.alloc (.cells #[.slice none 0 0] 95)).cell? ⟨w.heap.size, 0, none⟩ = some (.int .i64 N) := (blk_cell (blk_alloc HBX.out _) 0).trans rfl; have hy1 : (w1.alloc (.cells #[.slice none 0 0] 95)).cell? ⟨w.heap.size, 1, none⟩ = some (.slice A0 E.length c0) := (blk_cell (blk_alloc HBX.out _) 1).trans rfl; have HB := Aside0.mk (below_step (below_alloc (Below.refl w.heap.size w) _) hb); clear hb) | (refine ⟨trivial, ?_⟩; gi_at_call 114; refine (callsIn_wide.2 (singles_calls N A0 c0 E _)).mono ?_; rintro e w3 ⟨rfl, rfl⟩))
 have hwl : w.heap.size < w1.heap.size := blk_lt HBX.out
 have HX3 := Aside0.mk (show ((w1.alloc (.cells #[.slice none 0 0] 95)).alloc (.cells #[.int .i64 N, .slice A0 E.length c0] 24)).heap[w1.heap.size]? = some (.cells #[.slice none 0 0] 95 (0, 0)) from blk_alloc (heap_alloc_new w1 _) _)
 have HG3 := Aside0.mk (show ((w1.alloc (.cells #[.slice none 0 0] 95)).alloc (.cells #[.int .i64 N, .slice A0 E.length c0] 24)).heap[w1.heap.size + 1]? = some (.cells #[.int .i64 N, .slice A0 E.length c0] 24 (0, 0)) from heap_alloc2_new w1 _ _)
 have HB3 := Aside0.mk (below_alloc (below_alloc HB.out (.cells #[.slice none 0 0] 95)) (.cells #[.int .i64 N, .slice A0 E.length c0] 24))
 clear hx0 hx1 hy0 hy1 HBX HB
 generalize ((w1.alloc (.cells #[.slice none 0 0] 95)).alloc (.cells #[.int .i64 N, .slice A0 E.length c0] 24)) = W3 at HX3 HG3 HB3 ⊢
 have hbo := blk_lt HX3.out
 have hbx := blk_lt HG3.out
 generalize hbx1 : w1.heap.size + 1 = bx at HG3 hbx ⊢
 generalize w1.heap.size = bo at HX3 hwl hbo hbx1 ⊢
 have hws := HB3.out.size
 refine wpIn_rangeFunc_sta (σ := Unit) (α := Nat × Int × Int) (F := Fence.wide) (n := 10) rfl (by decide) (gf := 121) (lb := #[.pointer (some ⟨bx, 0, none⟩)]) rfl trivial (enters_of Try.func121 (by kernel_rfl) rfl)
  (fun o => singles1_seq bx N A0 c0 E w _ hr0 HE.out (below_alloc (below_alloc HB3.out _) _) (blk_alloc (blk_alloc HG3.out _) _)) (fun _ => rfl)
  (fun _ => True) ?adm ?st ?ar
  (fun _ pre W => W3.heap.size ≤ W.heap.size ∧ ∃ v, W.heap[bo]? = some (.cells #[v] 95 (0, 0)) ∧ (Kd.raw 2).R 115 W w.heap.size (fun _ => True) v (endRows pre) ∧ Below w.heap.size w W) (fun _ _ _ _ => False)
  ?is (fun _ _ _ _ _ _ h _ => h) ?ib (fun _ _ _ _ _ h _ => h) ?kt ?h0 ?a1 (fun x W => W.alloc (.cells #[.int .i64 x.2.1, .int .i64 x.2.2] 137)) ?hw ?hka ?assign ?body ?done (fun _ _ _ _ _ _ _ h => h.elim)
 case assign =>
  intro l x W K hK
  gi_wp2
  exact hK
 case adm =>
  intro o s W1 h
  exact ⟨trivial, by rw [h]; exact KeepLD.refl _ _⟩
 case st => intro s A B _ h k o h1 h2 h3 _; exact (h.block k (Array.getElem?_eq_some_iff.1 h3).1).trans h3
 case ar => intro s x A B _ h k o h1 h2 h3 _; exact (h.block k (Array.getElem?_eq_some_iff.1 h3).1).trans h3
 case hw => intro x W k o h1 h2 h3 _; exact blk_alloc h3 _
 case hka =>
  intro s x A D h
  exact ⟨fun hsz => ((Below.refl w.heap.size A).alloc hsz _).trans (h.1 (by simp; omega)), fun k cs t ht hk => h.2 k cs t ht (blk_alloc hk _)⟩
 case is =>
  rintro s pre A B _ ⟨hs, v, h1, h2, h3⟩ hst
  exact ⟨Nat.le_trans hs hst.size, v, blk_below h1 hst, Kd.R_below h2 hst, below_step h3 hst⟩
 case ib =>
  rintro s pre A B ⟨hs, v, h1, h2, h3⟩ hb
  exact ⟨by rw [hb.size]; exact hs, v, hb.cells h1, R_bk h2 hb, h3.trans (hb.below w.heap.size (by omega))⟩
 case kt =>
  intro s A B C D hab hbc hcd
  exact ⟨fun hsz => ((hab.below w.heap.size (by omega)).trans (hbc.1 (by rw [hab.size]; exact hsz))).trans (hcd.below w.heap.size (by omega)), fun k cs t ht hk => hcd.cells (hbc.2 k cs t ht (hab.cells hk))⟩
 case h0 =>
  rintro o s W1 rfl
  exact ⟨by simp; omega, _, blk_alloc (blk_alloc HX3.out _) _, Kd.R_nil _ _ _ _ _, below_alloc (below_alloc HB3.out _) _⟩
 case body =>
  rintro l s pre ⟨i, a, b⟩ Wb W1 W _ ⟨hs, v, i1, i2, i3⟩ har hbd hbk
  have c1 := blk_below i1 har
  have c2 := Kd.R_below i2 har
  have c3 := below_step i3 har
  have hsW : W3.heap.size ≤ W1.heap.size := Nat.le_trans hs har.size
  have b1 := Aside0.mk (hbk.cells (blk_alloc c1 (.cells #[.int .i64 a, .int .i64 b] 137)))
  have b2 := Aside0.mk (R_bk (Kd.R_alloc c2 (.cells #[.int .i64 a, .int .i64 b] 137)) hbk)
  have b3 := Aside0.mk ((below_alloc c3 (.cells #[.int .i64 a, .int .i64 b] 137)).trans (hbk.below w.heap.size (by omega)))
  have b4 := Aside0.mk (hbk.cells (heap_alloc_new W1 (.cells #[.int .i64 a, .int .i64 b] 137)))
  have hsz : W.heap.size = W1.heap.size + 1 := by rw [hbk.size]; simp
  have hWb : W3.heap.size ≤ W.heap.size := by omega
  clear i1 i2 i3 har hbk c1 c2 c3 hsz hsW hs
  generalize W1.heap.size = pb at b4 ⊢
  obtain ⟨Ar, cr, rfl⟩ := Kd.R_slice b2.out
  have hep : (endRows pre).length = pre.length := by simp [endRows]
  rw [hep] at b1 b2
  have hc := keeps_box b1.out
  have hf := blk_frozen b1.out 0
  have hp0 : W.cell? ⟨pb, 0, none⟩ = some (.int .i64 a) := (blk_cell b4.out 0).trans rfl
  have hp1 : W.cell? ⟨pb, 1, none⟩ = some (.int .i64 b) := (blk_cell b4.out 1).trans rfl
  have LN : Aside0 (((endRows pre).length + 1) * 16 ≤ 140737488355328) := ⟨by rw [hep]; omega⟩
  have hup := Try.underlying137
  gi_wp2_with (gi_at_builtin; go_loud (refine R_append_in (Kd.raw 2) (w0 := w) w.heap.size rfl (.tmp 17) (.tmp 23) 95 115 (.agg #[.int .i64 0, .int .i64 0]) 16 rfl Try.underlying95 infoEnds rfl (by decide) (by omega) _ _ [.int .i64 a, .int .i64 b] [.int .i64 a, .int .i64 b] (fun _ => True) (fun _ => False) rfl rfl ⟨rfl, rfl, by simp [Value.oneCell']⟩ (fun _ hk => hk.elim) (fun _ _ => trivial) b2.out b3.out b3.out.size LN.out ?_; intro v1 w1' hown hb hgr hat; obtain ⟨A1, c1, rfl⟩ := Kd.R_slice hown; have X1 := Aside0.mk ((hgr.block bo (blk_lt b1.out) (Kd.R_ne b2.out b1.out (by decide))).trans b1.out); have hc1 := keeps_box X1.out; have hf1 := blk_frozen X1.out 0; have HO1 := Aside0.mk hown; have HB1 := Aside0.mk hb; have HG1 := Aside0.mk hgr; clear hown hb hgr hat))
  have hln : (endRows pre ++ [[Value.int .i64 a, Value.int .i64 b]]).length = pre.length + 1 := by simp [endRows]
  refine ⟨(keepLD_append b2.out HG1.out).trans (keepLD_set _ _ (blk_lt HX3.out)), ⟨fun hsz => Below.setCell ((Below.refl w.heap.size W).grown HG1.out hsz (Kd.R_base b2.out)) (by show w.heap.size ≤ bo; omega) _, fun k cs t ht hk => ?_⟩, by have := HG1.out.size; simp; omega, .slice A1 (pre.length + 1) c1, by simpa using blk_set X1.out 0 (.slice A1 (pre.length + 1) c1), ?_, below_set HB1.out (by show w.heap.size ≤ bo; omega)⟩
  ·have hkb : k ≠ bo := by
    rintro rfl
    have h1 := hk.symm.trans b1.out
    injection h1 with h1
    injection h1 with _ h1 _
    rcases ht with rfl | rfl <;> exact absurd h1 (by decide)
   rw [Below.heap_setCell _ _ _ _ hkb]
   exact (HG1.out.block k (blk_lt hk) (Kd.R_ne b2.out hk (by rcases ht with rfl | rfl <;> decide))).trans hk
  ·have h := Kd.R_set HO1.out X1.out (by decide) 0 (.slice A1 (pre.length + 1) c1)
   rw [hln] at h
   simpa [endRows] using h
 case done =>
  rintro s xs W W' _ rfl ⟨hs, v, i1, i2, i3⟩ hbk hdf
  have b1 := Aside0.mk (hbk.cells i1)
  have b2 := Aside0.mk (R_bk i2 hbk)
  have b3 := Aside0.mk (i3.trans (hbk.below w.heap.size (by omega)))
  have HDF := Aside0.mk hdf
  clear i1 i2 i3 hdf
  have hc := keeps_box b1.out
  gi_wp2_with fail
  have hbk5 : Bk W3.heap.size W' (W'.putObj W3.heap.size (.deferred none)) := ⟨_, _, HDF.out, rfl, rfl⟩
  exact bodyPostM_one (D := W3.heap.size) rfl HDF.out (results_tmp2 rfl _ _ _) ⟨_, rfl, R_bk b2.out hbk5, b3.out.trans (hbk5.below w.heap.size (by omega))⟩
end
section
theorem endRows_length (L : List (Nat × Int × Int)) : (endRows L).length = L.length := by simp [endRows]
theorem someOf_mem {s : Nat} {a b : Int} : ∀ {j : Nat} {x : Nat × Int × Int}, x ∈ someOf s a b j → x.2.1 = a ∧ x.2.2 = b
 | 0, x, h => absurd h (by simp [someOf])
 | j + 1, x, h => by
  simp only [someOf, List.mem_append, List.mem_singleton] at h
  rcases h with h | rfl
  ·exact someOf_mem h
  ·exact ⟨rfl, rfl⟩
theorem singlesTo_in {n : Nat} {E : List S66} (h : ∀ k, k < E.length → 0 ≤ (rd_T66 E k).f0 ∧ (rd_T66 E k).f0 < n ∧ 0 ≤ (rd_T66 E k).f1 ∧ (rd_T66 E k).f1 < n ∧ 1 ≤ (rd_T66 E k).f2 ∧ (rd_T66 E k).f2 ≤ 50) :
  ∀ k, k ≤ E.length → ∀ x ∈ singlesTo E k, 0 ≤ x.2.1 ∧ x.2.1 < n ∧ 0 ≤ x.2.2 ∧ x.2.2 < n
 | 0, _ => fun x hx => absurd hx (by simp [singlesTo])
 | k + 1, hk => fun x hx => by
  simp only [singlesTo, List.mem_append] at hx
  rcases hx with hx | hx
  ·exact singlesTo_in h k (by omega) x hx
  ·obtain ⟨h1, h2⟩ := someOf_mem hx
   have := h k (by omega)
   omega
theorem singles_in {n : Nat} {E : List S66} (h : ∀ k, k < E.length → 0 ≤ (rd_T66 E k).f0 ∧ (rd_T66 E k).f0 < n ∧ 0 ≤ (rd_T66 E k).f1 ∧ (rd_T66 E k).f1 < n ∧ 1 ≤ (rd_T66 E k).f2 ∧ (rd_T66 E k).f2 ≤ 50) :
  ∀ x ∈ singlesTo E E.length, 0 ≤ x.2.1 ∧ x.2.1 < n ∧ 0 ≤ x.2.2 ∧ x.2.2 < n := singlesTo_in h _ (Nat.le_refl _)
theorem singles_le {E : List S66} (h : multsOk E = true) : (singlesTo E E.length).length ≤ 2000 := by
 obtain ⟨h1, h2⟩ := multsOk_get h
 have := sizeTo_le h2 E.length (Nat.le_refl _)
 rw [singlesTo_length]; omega
def incr (l : List Int) (v : Nat) : List Int := l.set v (rd l v + 1)
def valStep (l : List Int) (x : Nat × Int × Int) : List Int := if x.2.1 = x.2.2 then l else incr (incr l x.2.1.toNat) x.2.2.toNat
def valTo (n : Nat) (L : List (Nat × Int × Int)) (k : Nat) : List Int := (L.take k).foldl valStep (List.replicate n 0)
theorem incr_length (l : List Int) (v : Nat) : (incr l v).length = l.length := by simp [incr]
theorem valStep_length (l : List Int) (x : Nat × Int × Int) : (valStep l x).length = l.length := by
 unfold valStep
 split <;> simp [incr_length]
theorem foldl_valStep_length : ∀ (L : List (Nat × Int × Int)) (l : List Int), (L.foldl valStep l).length = l.length
 | [], l => rfl
 | x :: L, l => by rw [List.foldl_cons, foldl_valStep_length L, valStep_length]
theorem valTo_length (n : Nat) (L : List (Nat × Int × Int)) (k : Nat) : (valTo n L k).length = n := by simp [valTo, foldl_valStep_length]
theorem valTo_succ (n : Nat) (L : List (Nat × Int × Int)) (k : Nat) (hk : k < L.length) : valTo n L (k + 1) = valStep (valTo n L k) L[k] := by
 unfold valTo
 rw [List.take_succ_eq_append_getElem hk, List.foldl_append]
 rfl
theorem rd_set_bound {l : List Int} {v : Nat} {B : Int} {x : Int} (h : ∀ i : Nat, 0 ≤ rd l i ∧ rd l i ≤ B) (hx : 0 ≤ x ∧ x ≤ B + 1) (i : Nat) : 0 ≤ rd (l.set v x) i ∧ rd (l.set v x) i ≤ B + 1 := by
 have hi := h i
 simp only [rd, Int.toNat_natCast, List.getD_eq_getElem?_getD, List.getElem?_set] at hi ⊢
 split
 ·split
  ·simpa using hx
  ·simp; omega
 ·omega
theorem incr_bound {l : List Int} {v : Nat} {B : Int} (h : ∀ i : Nat, 0 ≤ rd l i ∧ rd l i ≤ B) (i : Nat) : 0 ≤ rd (incr l v) i ∧ rd (incr l v) i ≤ B + 1 :=
 rd_set_bound h (by have := h v; omega) i
theorem valStep_bound {l : List Int} {x : Nat × Int × Int} {B : Int} (h : ∀ i : Nat, 0 ≤ rd l i ∧ rd l i ≤ B) (i : Nat) : 0 ≤ rd (valStep l x) i ∧ rd (valStep l x) i ≤ B + 2 := by
 unfold valStep
 split
 ·have := h i; omega
 ·have := incr_bound (v := x.2.2.toNat) (incr_bound (v := x.2.1.toNat) h) i; omega
theorem foldl_valStep_bound : ∀ (L : List (Nat × Int × Int)) (l : List Int) (B : Int), (∀ i : Nat, 0 ≤ rd l i ∧ rd l i ≤ B) → ∀ i : Nat, 0 ≤ rd (L.foldl valStep l) i ∧ rd (L.foldl valStep l) i ≤ B + 2 * L.length
 | [], l, B, h => fun i => by have := h i; simpa using this
 | x :: L, l, B, h => fun i => by
  have := foldl_valStep_bound L (valStep l x) (B + 2) (valStep_bound h) i
  simp only [List.foldl_cons, List.length_cons]
  omega
theorem valTo_bound (n : Nat) (L : List (Nat × Int × Int)) (k : Nat) (i : Nat) : 0 ≤ rd (valTo n L k) i ∧ rd (valTo n L k) i ≤ 2 * L.length := by
 have h := foldl_valStep_bound (L.take k) (List.replicate n 0) 0 (fun i => by simp [rd, List.getD_eq_getElem?_getD, List.getElem?_replicate]; split <;> simp) i
 have hl : (L.take k).length ≤ L.length := by simp; omega
 unfold valTo
 omega
theorem rows_bump {W : World} {gb n : Nat} {ok : Nat → Prop} {g0 len cap : Nat} {rows : List (List Int)} (h : Kd.S (Kd.slice 3 (Kd.int .i64)) 33 W gb ok (.slice (some ⟨g0, 0, none⟩) len cap) rows) (hl : rows.length = len) (hY : ∀ y ∈ rows, y.length = n) (a b : Nat) (ha : a < len) (hb : b < n) :
  ∃ (gi ci : Nat) (z : Int), W.cell? ⟨g0, a, none⟩ = some (.slice (some ⟨gi, 0, none⟩) n ci) ∧ W.cell? ⟨gi, b, none⟩ = some (.int .i64 z) ∧ W.frozen? ⟨gi, b, none⟩ = false ∧ ok gi ∧ gb ≤ gi ∧ (∃ cells, W.heap[gi]? = some (.cells cells 3 (0, 0))) ∧
   ∀ x : Int, ∃ rows' : List (List Int), rows'.length = len ∧ (∀ y ∈ rows', y.length = n) ∧ Kd.S (Kd.slice 3 (Kd.int .i64)) 33 (W.setCell ⟨gi, b, none⟩ (.int .i64 x)) gb ok (.slice (some ⟨g0, 0, none⟩) len cap) rows' := by
 obtain ⟨oki, c, hcl, ⟨ev, rfl, hR⟩, hcc, hoki, hback⟩ := Kd.S_borrow h [] (a : Int) (by omega) (by omega)
 rw [Int.toNat_natCast] at hR hcc hback
 have hya : (rows.getD a []).length = n := by
  rw [List.getD_eq_getElem?_getD, List.getElem?_eq_getElem (by omega)]
  exact hY _ (List.getElem_mem (by omega))
 obtain ⟨gi, ci, rfl, hgb, hlt, cells, hbk⟩ := Kd.R_form hR (by omega)
 rw [hya] at hR hback hcc
 obtain ⟨hc1, hc2⟩ := Kd.R_celln (0 : Int) hR (b : Int) (by omega) (by omega)
 rw [Int.toNat_natCast] at hc1 hc2
 have h0 := hcc 0 _ rfl
 refine ⟨gi, ci, _, ?_, hc1, hc2, (hoki gi (hR.1 gi rfl)).1, hgb, ⟨cells, hbk⟩, fun x => ⟨rows.set a ((rows.getD a []).set b x), by simp [hl], ?_, ?_⟩⟩
 ·rw [show (⟨g0, 0, none⟩ : Addr).add (a * (Kd.slice 3 (Kd.int .i64)).sz + 0) = ⟨g0, a, none⟩ from by simp [Kd.slice, Addr.add]; intro e; exact e.symm] at h0
  exact h0
 ·intro y hy
  rcases List.mem_or_eq_of_mem_set hy with h1 | h1
  ·exact hY y h1
  ·subst h1; simpa using hya
 ·have hp := Kd.R_putg hR (b : Int) x
  rw [Int.toNat_natCast] at hp
  exact hback hp.2 (fun k hk => by cases hk; exact hR.1 gi rfl) ⟨_, rfl, hp.1⟩
theorem at_ends {w : World} {A : Option Addr} {n : Nat} {L : List (Nat × Int × Int)} (h : Kd.C (Kd.raw 2) w A n (endRows L)) (j : Nat) (hj : j < n) (hL : j < L.length) : ∃ ad, A = some ad ∧ w.cell? (ad.add (j * 2)) = some (.int .i64 L[j].2.1) ∧ w.cell? ⟨(ad.add (j * 2)).block, (ad.add (j * 2)).off + 1, none⟩ = some (.int .i64 L[j].2.2) := by
 obtain ⟨ad, c, e, _, hK, hc0⟩ := Kd.C_get h [] (j : Int) (by omega) (by omega)
 rw [Int.toNat_natCast] at hK hc0
 have hr : (endRows L).getD j [] = [.int .i64 L[j].2.1, .int .i64 L[j].2.2] := by
  rw [List.getD_eq_getElem?_getD, List.getElem?_eq_getElem (by simpa [endRows] using hL)]
  simp [endRows]
 rw [hr] at hK
 obtain rfl := hK.1
 have hc : ∀ k u, [Value.int .i64 L[j].2.1, .int .i64 L[j].2.2][k]? = some u → w.cell? (ad.add (j * 2 + k)) = some u := hc0
 exact ⟨ad, e, hc 0 _ rfl, by rw [← add_field _ _ 1 (by omega)]; exact hc 1 _ rfl⟩
structure PS (w : World) (gb n gp bv g0 cr : Nat) (q : Int) (dv : Value) (dl : List Int) (ev : Value) (L : List (Nat × Int × Int)) (W : World) (rows : List (List Int)) (vl : List Int) : Prop where
 len : rows.length = n
 all : ∀ y ∈ rows, y.length = n
 pile : PileAt W gp dv q (.slice (some ⟨g0, 0, none⟩) n cr) (.slice (some ⟨bv, 0, none⟩) n n) (fun _ => false)
 d : (Kd.int .i64).R 3 W gb (fun k => k ≠ bv) dv dl
 val : (Kd.int .i64).R 3 W gb (fun k => some k ≠ dv.ownBlock) (.slice (some ⟨bv, 0, none⟩) n n) vl
 rows : Kd.S (Kd.slice 3 (Kd.int .i64)) 33 W gb (fun k => some k ≠ dv.ownBlock ∧ k ≠ bv) (.slice (some ⟨g0, 0, none⟩) n cr) rows
 ends : (Kd.raw 2).R 115 W gb (fun _ => True) ev (endRows L)
 below : Below gb w W
namespace PS
variable {w : World} {gb n gp bv g0 cr : Nat} {q : Int} {dv : Value} {dl : List Int} {ev : Value} {L : List (Nat × Int × Int)} {W : World} {rows : List (List Int)} {vl : List Int}
theorem drewN (h : PS w gb n gp bv g0 cr q dv dl ev L W rows vl) (m : Nat) : PS w gb n gp bv g0 cr q dv dl ev L (W.drewN m) rows vl :=
 ⟨h.len, h.all, h.pile, Kd.R_drewN h.d m, Kd.R_drewN h.val m, Kd.S_drewN h.rows m, Kd.R_drewN h.ends m, pw_below_drewN h.below m⟩
theorem row (h : PS w gb n gp bv g0 cr q dv dl ev L W rows vl) (a b : Nat) (ha : a < n) (hb : b < n) : ∃ (gi ci : Nat) (z : Int), W.cell? ⟨g0, a, none⟩ = some (.slice (some ⟨gi, 0, none⟩) n ci) ∧ W.cell? ⟨gi, b, none⟩ = some (.int .i64 z) ∧ W.frozen? ⟨gi, b, none⟩ = false ∧
  ∀ x : Int, ∃ rows', PS w gb n gp bv g0 cr q dv dl ev L (W.setCell ⟨gi, b, none⟩ (.int .i64 x)) rows' vl := by
 obtain ⟨gi, ci, z, h1, h2, h3, ⟨h4, h5⟩, h6, ⟨cells, h7⟩, h8⟩ := rows_bump h.rows h.len h.all a b ha hb
 refine ⟨gi, ci, z, h1, h2, h3, fun x => ?_⟩
 obtain ⟨rows', l1, l2, l3⟩ := h8 x
 have hg : W.grownBy (W.setCell ⟨gi, b, none⟩ (.int .i64 x)) (some gi) := grown_set1p (Below.refl _ _)
 refine ⟨rows', l1, l2, h.pile.grown hg (fun e => ?_), Kd.R_grown1 h.d rfl hg h4, Kd.R_grown1 h.val rfl hg (fun e => h5 (by simpa [Value.ownBlock] using e)), l3, Kd.R_set h.ends h7 (by decide) _ _, Below.setCell h.below h6 _⟩
 obtain ⟨cs, hp, _⟩ := h.pile
 injection e with e
 subst e
 rw [h7] at hp
 injection hp with hp
 injection hp with _ hp _
 exact absurd hp (by decide)
theorem valb (h : PS w gb n gp bv g0 cr q dv dl ev L W rows vl) (a : Nat) (ha : a < n) : W.cell? ⟨bv, a, none⟩ = some (.int .i64 (rd vl a)) ∧ W.frozen? ⟨bv, a, none⟩ = false ∧
  ∀ x : Int, PS w gb n gp bv g0 cr q dv dl ev L (W.setCell ⟨bv, a, none⟩ (.int .i64 x)) rows (vl.set a x) := by
 obtain ⟨h1, h2⟩ := Kd.R_celln (0 : Int) h.val (a : Int) (by omega) (by omega)
 rw [Int.toNat_natCast] at h1 h2
 obtain ⟨cells, hb⟩ := Kd.R_typed h.val bv rfl
 refine ⟨h1, h2, fun x => ?_⟩
 have hp := Kd.R_putg h.val (a : Int) x
 rw [Int.toNat_natCast] at hp
 have hg := hp.2
 refine ⟨h.len, h.all, h.pile.grown hg (fun e => ?_), Kd.R_grown1 h.d rfl hg (fun e => h.d.1 bv e.symm rfl), hp.1, Kd.S_grown h.rows hg (fun k hk e => hk.2 (by injection e)), Kd.R_set h.ends hb (by decide) _ _, Below.setCell h.below (Kd.R_base h.val bv rfl) _⟩
 obtain ⟨cs, hpp, _⟩ := h.pile
 injection e with e
 subst e
 rw [hb] at hpp
 injection hpp with hpp
 injection hpp with _ hpp _
 exact absurd hpp (by decide)
end PS
def pileVal (n : Nat) (E : List S66) : List Int := valTo n (singlesTo E E.length) (singlesTo E E.length).length
theorem wait_calls2 (g v n : Nat) (q : Int) (Ad Av : Option Addr) (cd cv : Nat) (dl vl : List Int) (rows : Value) (waits : Nat → Bool) (w : World) (hv : v < 12) (hvd : v < dl.length) (hvn : vl.length = n) (hvv : v < n)
  (hw : PileAt w g (.slice Ad dl.length cd) q rows (.slice Av n cv) waits) (hd : Kd.C (Kd.int .i64) w Ad dl.length dl) (hr : Kd.C (Kd.int .i64) w Av n vl) :
  Calls Try.prog 106 #[.pointer (some ⟨g, 0, none⟩), .int .i64 v] w fun e w' => e = .returned (.tuple #[]) ∧ PileAt w' g (.slice Ad dl.length cd) q rows (.slice Av n cv) (fun j => if j = v then looseB q vl dl v else waits j) ∧ w.grownBy w' (some g) := by
 subst hvn
 exact wait_calls g v q Ad Av cd cv dl vl rows waits w hv hvd hvv hw hd hr
theorem waits_step (q : Int) (vl dl : List Int) (v : Nat) : (fun j => if j = v then looseB q vl dl v else (if j < v then looseB q vl dl j else false)) = fun j => if j < v + 1 then looseB q vl dl j else false := by
 funext j
 by_cases e : j = v
 ·subst e; simp
 ·by_cases h : j < v
  ·rw [if_neg e, if_pos h, if_pos (by omega)]
  ·rw [if_neg e, if_neg h, if_neg (by omega)]
end
theorem made_ints (t : TypeId) (ht : Try.prog.underlying t = some (.slice 3)) (n : Nat) (hn : n ≤ 1000) : ∃ zs : Array Value, (∀ W : World, (Instr.makeSlice t (.int .i64 n) (.int .i64 n)).run Try.prog W = .ok (.slice (some ⟨W.heap.size, 0, none⟩) n n) (W.alloc (.cells zs 3))) ∧
  ∀ (W : World) (ok : Nat → Prop), ok W.heap.size → (Kd.int .i64).R 3 (W.alloc (.cells zs 3)) W.heap.size ok (.slice (some ⟨W.heap.size, 0, none⟩) n n) (List.replicate n 0) := by
 obtain ⟨i0, hi, hzz⟩ := Option.map_eq_some_iff.1 info3
 simp only [Prod.mk.injEq] at hzz
 obtain ⟨hz0, hz1, hz2⟩ := hzz
 refine ⟨madeCells (Value.int .i64 0).cells (n * 1), fun W => ?_, fun W ok hok => ⟨fun k hk => ?_, (madeCells (Value.int .i64 0).cells (n * 1)).toList, ?_, ?_⟩⟩
 ·have hr := run_make (P := Try.prog) W t 3 i0 (.int .i64 0) ht hi hz0 .i64 .i64 (n : Int) (n : Int) (by omega) (by omega) (by rw [hz2]; omega) (by omega)
  simp only [Int.toNat_natCast] at hr
  rw [hz1] at hr
  exact hr
 ·have : W.heap.size = k := by simpa [Value.ownBlock] using hk
  subst this; exact hok
 ·have h := World.ownsRow_lit (base := W.heap.size) (e := 3) (size := 1) W (madeCells (Value.int .i64 0).cells (n * 1)) n (Nat.le_refl _) (by simp only [maxLen]; omega) (size_madeCells _ _)
  rw [List.length_replicate]
  exact h
 ·exact Kd.reps_made (R := (Kd.int .i64).M (W.alloc (.cells (madeCells (Value.int .i64 0).cells (n * 1)) 3)) W.heap.size (fun k => ok k ∧ some k ≠ (Value.slice (some ⟨W.heap.size, 0, none⟩) n n).ownBlock)) (size := 1) (z := Value.int .i64 0) (z0 := (0 : Int)) rfl (by decide) rfl n
theorem held_start {w W : World} {gb : Nat} {v : Value} {cs : Array Value} {t : TypeId} (h1 : W.heap[gb]? = some (.cells cs t (0, 0))) (h2 : W.cell? ⟨gb, 0, none⟩ = some v) (h3 : Below gb w W) : W.drew.heap[gb]? = some (.cells cs t (0, 0)) ∧ W.drew.cell? ⟨gb, 0, none⟩ = some v ∧ Below gb w W.drew := ⟨h1, h2, below_drew1 h3⟩
theorem held_alloc {w W : World} {gb : Nat} {v : Value} {cs : Array Value} {t : TypeId} {o : Obj} (h1 : W.heap[gb]? = some (.cells cs t (0, 0))) (h2 : W.cell? ⟨gb, 0, none⟩ = some v) (h3 : Below gb w W) : (W.alloc o).heap[gb]? = some (.cells cs t (0, 0)) ∧ (W.alloc o).cell? ⟨gb, 0, none⟩ = some v ∧ Below gb w (W.alloc o) :=
 ⟨blk_alloc h1 _, by rw [blk_cell (blk_alloc h1 _) 0, ← blk_cell h1 0]; exact h2, h3.alloc (Nat.le_of_lt (blk_lt h1)) _⟩
theorem held_below {w W W1 : World} {gb : Nat} {v : Value} {cs : Array Value} {t : TypeId} (h1 : W.heap[gb]? = some (.cells cs t (0, 0))) (h2 : W.cell? ⟨gb, 0, none⟩ = some v) (h3 : Below gb w W) (hb : Below W.heap.size W W1) : W1.heap[gb]? = some (.cells cs t (0, 0)) ∧ W1.cell? ⟨gb, 0, none⟩ = some v ∧ Below gb w W1 :=
 ⟨blk_below h1 hb, by rw [blk_cell (blk_below h1 hb) 0, ← blk_cell h1 0]; exact h2, h3.trans ⟨hb.os, hb.tape, hb.output, hb.size, fun k hk => hb.block k (by have := blk_lt h1; omega)⟩⟩
theorem heapnew_at {W : World} {o : Obj} {g : Nat} (h : g = W.heap.size) : (W.alloc o).heap[g]? = some o := by rw [h]; exact heap_alloc_new W o
theorem pile_rd {Wx w1 W' : World} {gb bv : Nat} {v : Value} {dl : List Int} (hr : (Kd.int .i64).R 3 w1 Wx.heap.size (fun _ => True) v dl) (hgb : gb ≤ Wx.heap.size)
  (hup : ∀ {ok : Nat → Prop}, (Kd.int .i64).R 3 w1 gb ok v dl → (Kd.int .i64).R 3 W' gb ok v dl) (hne : bv < Wx.heap.size ∨ w1.heap.size ≤ bv) : (Kd.int .i64).R 3 W' gb (fun k => k ≠ bv) v dl :=
 hup (Kd.R_lower (Kd.R_mono (Kd.R_bound hr) (fun k hk => by have a1 := hk.2.1; have a2 := hk.2.2.1; omega)) hgb)
theorem pile_rv {Wx w1 W' Y : World} {gb bv n : Nat} {v : Value} {dl : List Int} {zs : Array Value} (hz : (Kd.int .i64).R 3 (Y.alloc (.cells zs 3)) Y.heap.size (fun k => k = Y.heap.size) (.slice (some ⟨Y.heap.size, 0, none⟩) n n) (List.replicate n 0)) (hbv : bv = Y.heap.size)
  (hb : Below (Y.alloc (.cells zs 3)).heap.size (Y.alloc (.cells zs 3)) W') (hr : (Kd.int .i64).R 3 w1 Wx.heap.size (fun _ => True) v dl) (hgb : gb ≤ bv) (hne : bv < Wx.heap.size ∨ w1.heap.size ≤ bv) :
  (Kd.int .i64).R 3 W' gb (fun k => some k ≠ v.ownBlock) (.slice (some ⟨bv, 0, none⟩) n n) (List.replicate n 0) := by
 subst hbv
 refine Kd.R_lower (Kd.R_mono (Kd.R_below hz hb) (fun k hk e => ?_)) hgb
 have h1 := Kd.R_base hr k e.symm
 have h2 := Kd.R_lt hr k e.symm
 omega
theorem pileOf_calls (k n : Nat) (A0 : Option Addr) (c0 : Nat) (E : List S66) (q : Int) (Ad : Option Addr) (cd : Nat) (dl : List Int) (w : World) (hr0 : Kd.C k66 w A0 E.length E) (hc0 : E.length ≤ c0) (hd : Kd.C (Kd.int .i64) w Ad dl.length dl) (hcd : dl.length ≤ cd)
  (hn : n ≤ 12) (hdl : dl.length = n) (ht : graph_Check.f k n E = some 0) (hE : multsOk E = true) (hin : EdgesIn n E) :
  Calls Try.prog 92 #[.agg #[.int .i64 n, .slice A0 E.length c0], .int .i64 q, .slice Ad dl.length cd] w fun e w' => ∃ (gp : Nat) (Av1 Av2 : Option Addr) (cv1 cv2 : Nat) (rv : Value), e = .returned (.tuple #[.pointer (some ⟨gp, 0, none⟩), .int .i64 0]) ∧ PileAt w' gp (.slice Av1 dl.length cv1) q rv (.slice Av2 n cv2) (fun x => if x < dl.length then looseB q (pileVal n E) dl x else false) ∧ (Kd.int .i64).R 3 w' w.heap.size (fun _ => True) (.slice Av2 n cv2) (pileVal n E) ∧ Below w.heap.size w w' := by
 have hu := Try.underlying24
 have hup := Try.underlying110
 have hub := Try.underlying108
 have hue := Try.underlying115
 have hd12 : dl.length ≤ 12 := by omega
 have Hdl := Aside0.mk hdl
 clear hdl
 have Ht := Aside0.mk ht
 have HE := Aside0.mk hE
 have HI := Aside0.mk hin.get
 clear ht hE hin
 have HC := Aside0.mk (fun W h => slices_Clone_int_int.calls Ad cd dl dl W h hcd (by unfold slices_Clone_int_int.f clone.f; rw [if_pos (by omega)]))
 obtain ⟨zs, hmk, hzr⟩ := made_ints 33 Try.underlying33 n (by omega)
 have HZ := Aside0.mk hzr
 clear hzr
 go_enter Try.func92, Try.ntmps92
 go_wp2_with fail
 have HX0 := Aside0.mk (show (w.alloc (.cells #[.int .i64 n, .slice A0 E.length c0] 24)).heap[w.heap.size]? = some (.cells #[.int .i64 n, .slice A0 E.length c0] 24 (0, 0)) from heap_alloc_new w _)
 have hx0 : (w.alloc (.cells #[.int .i64 n, .slice A0 E.length c0] 24)).cell? ⟨w.heap.size, 0, none⟩ = some (.int .i64 n) := (blk_cell HX0.out 0).trans rfl
 have HB := Aside0.mk (below_alloc (Below.refl w.heap.size w) (.cells #[.int .i64 n, .slice A0 E.length c0] 24))
 generalize (w.alloc (.cells #[.int .i64 n, .slice A0 E.length c0] 24)) = W0 at hx0 HX0 HB ⊢
 have hgw := blk_lt HX0.out
 have hC2 := fun W h => Kd.C_below (w := w) (w1 := W) hd h
 have HC2 := Aside0.mk hC2
 clear hC2
 generalize hgb : w.heap.size = gb at hx0 HX0 hgw HB HC2 ⊢
 refine Code.wp_mono (Q := fun e a W' => e = Exit.normal ∧ ∃ (gp bv bf cv1 : Nat) (Av1 : Option Addr) (u16 u17 u18 u19 u20 u21 u22 u23 u24 u25 u26 : Value), a = { tmps := #[.agg #[.int .i64 n, .slice A0 E.length c0], .int .i64 q, .slice Ad dl.length cd, .pointer (some ⟨gb, 0, none⟩), undef, undef, .pointer none, .int .i64 0, .pointer (some ⟨gp, 0, none⟩), undef, undef, undef, undef, undef, undef, undef, u16, u17, u18, u19, u20, u21, u22, u23, u24, u25, u26, undef, undef, undef, undef, undef, undef, undef, undef, undef, undef, undef, undef, undef, undef, undef, undef, undef, undef, undef, undef, undef, undef, undef, undef, undef, undef, undef, undef, undef, undef, undef, undef, undef, undef, undef, undef, undef, undef, undef, undef, undef, undef, undef, undef, undef, undef, undef, undef, undef, undef, undef, undef, undef, undef, undef, undef, undef, undef, undef, undef, undef, undef, undef, undef, undef, undef, undef, undef, undef, undef, undef, undef, undef, undef, undef, undef, undef, undef, undef, undef, undef, undef, undef, undef, undef, undef, undef, undef, undef, undef, undef, undef, undef, undef], defers := [] } ∧ gb < gp ∧ W'.heap[gp]? = some (.cells #[.slice Av1 dl.length cv1, .int .i64 q, .slice none 0 0, .slice (some ⟨bv, 0, none⟩) n n, .slice (some ⟨bf, 0, none⟩) n n, .int .i64 0, .bool false, .bool false, .bool false, .bool false, .bool false, .bool false, .bool false, .bool false, .bool false, .bool false, .bool false, .bool false] 110 (0, 0)) ∧ (Kd.int .i64).R 3 W' gb (fun k => k ≠ bv) (.slice Av1 dl.length cv1) dl ∧ (Kd.int .i64).R 3 W' gb (fun k => some k ≠ (Value.slice Av1 dl.length cv1).ownBlock) (.slice (some ⟨bv, 0, none⟩) n n) (List.replicate n 0) ∧ W'.heap[gb]? = some (.cells #[.int .i64 n, .slice A0 E.length c0] 24 (0, 0)) ∧ Below gb w W') ?_ ?_
 ·rintro e a W' ⟨rfl, gp, bv, bf, cv1, Av1, u16, u17, u18, u19, u20, u21, u22, u23, u24, u25, u26, rfl, hgp, hpile, hRd, hRv, hbx, hB⟩
  dsimp only
  have HP := Aside0.mk (show PileAt W' gp (.slice Av1 dl.length cv1) q (.slice none 0 0) (.slice (some ⟨bv, 0, none⟩) n n) (fun _ => false) from ⟨_, hpile, rfl, rfl, rfl, rfl, rfl, fun i hi => by match i, hi with | 0, _ => rfl | 1, _ => rfl | 2, _ => rfl | 3, _ => rfl | 4, _ => rfl | 5, _ => rfl | 6, _ => rfl | 7, _ => rfl | 8, _ => rfl | 9, _ => rfl | 10, _ => rfl | 11, _ => rfl⟩)
  have HRd := Aside0.mk hRd
  have HRv := Aside0.mk hRv
  have HBX := Aside0.mk hbx
  have HB1 := Aside0.mk hB
  have hb0 : W'.cell? ⟨gb, 0, none⟩ = some (.int .i64 n) := (blk_cell hbx 0).trans rfl
  clear hpile hRd hRv hbx hB hx0 HX0 HB hgw HC HC2
  clear W0
  go_wp2
  go_loopw [29] (fun i wr => ∃ (j : Nat) (rv : Value) (rows : List (List Int)), j ≤ n ∧ i = .int .i64 j ∧ Aside0 (rows.length = j) ∧ Aside0 (∀ y ∈ rows, y.length = n) ∧ Aside0 (PileAt wr gp (.slice Av1 dl.length cv1) q rv (.slice (some ⟨bv, 0, none⟩) n n) (fun _ => false)) ∧ Aside0 ((Kd.int .i64).R 3 wr gb (fun k => k ≠ bv) (.slice Av1 dl.length cv1) dl) ∧ Aside0 ((Kd.int .i64).R 3 wr gb (fun k => some k ≠ (Value.slice Av1 dl.length cv1).ownBlock) (.slice (some ⟨bv, 0, none⟩) n n) (List.replicate n 0)) ∧ Aside0 (Kd.S (Kd.slice 3 (Kd.int .i64)) 33 wr gb (fun k => some k ≠ (Value.slice Av1 dl.length cv1).ownBlock ∧ k ≠ bv) rv rows) ∧ Aside0 (wr.heap[gb]? = some (.cells #[.int .i64 n, .slice A0 E.length c0] 24 (0, 0))) ∧ Aside0 (Below gb w wr)) (fun i _ => n - (intOf i).toNat)
  case atStart => exact ⟨0, _, [], by omega, rfl, ⟨rfl⟩, ⟨fun y hy => absurd hy (by simp)⟩, HP, HRd, HRv, ⟨Kd.S_nil _ _ _ _ _⟩, HBX, HB1⟩
  case round =>
   clear HP HRd HRv HBX HB1 hb0
   obtain ⟨j, rv, rows, hj, rfl, HL, HY, HP, HRd, HRv, HS, HBX, HB⟩ := hrel
   by_cases hjn : j < n
   ·have hsz := blk_lt HBX.out
    obtain ⟨Ar, cr, rfl⟩ := Kd.S_slice HS.out
    have hcb := (blk_cell HBX.out 0).trans (show _ = some (.int .i64 n) from rfl)
    have hcb1 : (wr.alloc (.cells zs 3)).drew.cell? ⟨gb, 0, none⟩ = some (.int .i64 n) := (blk_cell (blk_alloc HBX.out _) 0).trans rfl
    have hcr := HP.out.cell_rows
    have hcr1 : (wr.alloc (.cells zs 3)).drew.cell? ⟨gp, 2, none⟩ = some (.slice Ar rows.length cr) := (HP.out.below (below_alloc (Below.refl _ _) _)).cell_rows
    have hcr2 : ((wr.alloc (.cells zs 3)).alloc (.cells #[.slice (some ⟨wr.heap.size, 0, none⟩) n n] 33)).drew.cell? ⟨gp, 2, none⟩ = some (.slice Ar rows.length cr) := (HP.out.below (below_alloc (below_alloc (Below.refl _ _) _) _)).cell_rows
    have hrl : rows.length ≤ 12 := by have := HL.out; omega
    have hdk : ∀ k, wr.heap.size ≤ k → some k ≠ (Value.slice Av1 dl.length cv1).ownBlock ∧ k ≠ bv := fun k hk => ⟨fun e => by have := Kd.R_lt HRd.out k e.symm; omega, fun e => by have := Kd.R_lt HRv.out bv (by simp [Value.ownBlock]); omega⟩
    have HN1 := Aside0.mk (Kd.M_row (Kd.R_drew (Kd.R_lower (HZ.out wr (fun k => k = wr.heap.size) rfl) (Nat.le_of_lt hsz))))
    have HN2 := Aside0.mk (Kd.S_drew (Kd.S_alloc (Kd.S_mono (ok' := fun k => (some k ≠ (Value.slice Av1 dl.length cv1).ownBlock ∧ k ≠ bv) ∧ ¬ k = wr.heap.size) (Kd.S_bound HS.out) (fun k hk => ⟨hk.1, by have := hk.2.2.1; omega⟩)) (.cells zs 3)))
    have HN3 := Aside0.mk (below_drew1 (HB.out.alloc (Nat.le_of_lt hsz) (.cells zs 3)))
    have HN4 : Aside0 (∀ k, k = wr.heap.size → (some k ≠ (Value.slice Av1 dl.length cv1).ownBlock ∧ k ≠ bv) ∧ some k ≠ (Value.slice Ar rows.length cr).ownBlock) := ⟨fun k hk => ⟨hdk k (by omega), fun e => by have := Kd.S_lt HS.out k e.symm; omega⟩⟩
    have HN5 : Aside0 (∀ k, (wr.alloc (.cells zs 3)).drew.heap.size ≤ k → some k ≠ (Value.slice Av1 dl.length cv1).ownBlock ∧ k ≠ bv) := ⟨fun k hk => hdk k (by have h1 : (wr.alloc (.cells zs 3)).drew.heap.size = wr.heap.size + 1 := World.size_alloc wr _; omega)⟩
    have HN6 : Aside0 (gb ≤ (wr.alloc (.cells zs 3)).drew.heap.size) := ⟨by have h1 : (wr.alloc (.cells zs 3)).drew.heap.size = wr.heap.size + 1 := World.size_alloc wr _; omega⟩
    have HP1 := Aside0.mk (show PileAt (wr.alloc (.cells zs 3)).drew gp (.slice Av1 dl.length cv1) q (.slice Ar rows.length cr) (.slice (some ⟨bv, 0, none⟩) n n) (fun _ => false) from (HP.out.below (below_alloc (Below.refl wr.heap.size wr) (.cells zs 3))).drew)
    have HX1 := Aside0.mk (show (wr.alloc (.cells zs 3)).drew.heap[gb]? = some (.cells #[.int .i64 n, .slice A0 E.length c0] 24 (0, 0)) from blk_alloc HBX.out _)
    have HS1 := Aside0.mk (Kd.S_drew (Kd.S_alloc HS.out (.cells zs 3)))
    have HD1 := Aside0.mk (Kd.R_drew (Kd.R_alloc HRd.out (.cells zs 3)))
    have HV1 := Aside0.mk (Kd.R_drew (Kd.R_alloc HRv.out (.cells zs 3)))
    clear hdk
    have HSZ := Aside0.mk (show (wr.alloc (.cells zs 3)).drew.heap.size = wr.heap.size + 1 from World.size_alloc wr _)
    go_wp2
    go_region_law ((refine Kd.S_append_step (Kd.slice 3 (Kd.int .i64)) (w0 := w) (W := (wr.alloc (.cells zs 3)).drew) gb (by rfl) (.tmp 35) (.tmp 39) 88 33 (.slice none 0 0) 24 (by rfl) Try.underlying88 info33 rfl (by decide) (by omega) _ rows (List.replicate n 0) [.slice (some ⟨wr.heap.size, 0, none⟩) n n] (fun k => some k ≠ (Value.slice Av1 dl.length cv1).ownBlock ∧ k ≠ bv) (fun k => k = wr.heap.size) (by rfl) (by rw [HSZ.out]; rfl) HN1.out HN4.out HN5.out HN2.out HN3.out HN6.out (by omega) ?_; intro v4 w4 hs4 hb4 hg4 hat4; obtain ⟨A4, c4, hv4⟩ := Kd.S_slice hs4; rw [show (rows ++ [List.replicate n (0 : Int)]).length = rows.length + 1 by simp] at hv4; subst hv4; have HS4 := Aside0.mk hs4; have HB4 := Aside0.mk hb4; have HP4 := Aside0.mk (HP1.out.grown hg4 (HP1.out.ne_of (Kd.S_typed HS1.out) (by decide))); have HX4 := Aside0.mk (blk_grown HX1.out hg4 (Kd.S_ne HS1.out HX1.out (by decide))); have HD4 := Aside0.mk (Kd.R_over' HD1.out (Kd.S_typed HS1.out) (by decide) hg4); have HV4 := Aside0.mk (Kd.R_over' HV1.out (Kd.S_typed HS1.out) (by decide) hg4); have hq1 := HP4.out.cell_rows; have hq2 := HP4.out.frozen 2; clear hs4 hb4 hg4 hat4))
    all_goals have n0 := Aside0.mk (HP4.out.set_rows (.slice A4 (rows.length + 1) c4))
    all_goals have n1 := Aside0.mk (HP4.out.R_set HD4.out (by decide) 2 (.slice A4 (rows.length + 1) c4))
    all_goals have n2 := Aside0.mk (HP4.out.R_set HV4.out (by decide) 2 (.slice A4 (rows.length + 1) c4))
    all_goals have n3 := Aside0.mk (HP4.out.S_set HS4.out (by decide) 2 (.slice A4 (rows.length + 1) c4))
    all_goals have n4 := Aside0.mk (blk_far (p := ⟨gp, 2, none⟩) HX4.out (show gb ≠ gp by omega) (.slice A4 (rows.length + 1) c4))
    all_goals have n5 := Aside0.mk (HB4.out.setCell (p := ⟨gp, 2, none⟩) (by show gb ≤ gp; omega) (.slice A4 (rows.length + 1) c4))
    all_goals clear hq1 hq2 hcb hcb1 hcr hcr1 hcr2 HP4 HX4 HD4 HV4 HB4 HS4
    all_goals generalize (w4.setCell ⟨gp, 2, none⟩ (.slice A4 (rows.length + 1) c4)) = w5 at n0 n1 n2 n3 n4 n5 ⊢
    all_goals go_wp2
    all_goals exact ⟨⟨j + 1, _, _, by omega, by go_num, ⟨by simp [HL.out]⟩, ⟨fun y hy => by rcases List.mem_append.1 hy with h | h; exact HY.out y h; (simp at h; subst h; simp)⟩, n0, n1, n2, n3, n4, n5⟩, (show n - ((j : Int) + 1).toNat < n - ((j : Int)).toNat by omega)⟩
   ·obtain rfl : n = j := by omega
    have hb0 : wr.cell? ⟨gb, 0, none⟩ = some (.int .i64 n) := (blk_cell HBX.out 0).trans rfl
    have hb1 : wr.cell? ⟨gb, 1, none⟩ = some (.slice A0 E.length c0) := (blk_cell HBX.out 1).trans rfl
    have hsz := blk_lt HBX.out
    have HEN := Aside0.mk (ends_good k n A0 c0 E wr (Kd.C_below hr0 (by rw [hgb]; exact HB.out)) hc0 Ht.out HE.out)
    go_wp2_with (first | (go_at_call 105; refine HEN.out.mono ?_; rintro e w1 ⟨v9, rfl, hr9, hb9⟩; obtain ⟨A9, c9, hv9⟩ := Kd.R_slice hr9; rw [endRows_length] at hv9; subst hv9; have HR9 := Aside0.mk hr9; have HP9 := Aside0.mk (HP.out.below hb9); have HS9 := Aside0.mk (Kd.S_below HS.out hb9); have HD9 := Aside0.mk (Kd.R_below HRd.out hb9); have HV9 := Aside0.mk (Kd.R_below HRv.out hb9); have HB9 := Aside0.mk (HB.out.trans (hb9.mono (Nat.le_of_lt hsz))); clear hr9 hb9))
    all_goals go_wp2
    have HLI := Aside0.mk (singles_in (n := n) HI.out)
    have HLB := Aside0.mk (singles_le HE.out)
    obtain ⟨Ar, cr, hrv⟩ := Kd.S_slice HS9.out
    rw [HL.out] at hrv
    subst hrv
    replace HR9 := Aside0.mk (Kd.R_lower (Kd.raw_any HR9.out) (Nat.le_of_lt hsz))
    have HLE := Aside0.mk (show pileVal n E = valTo n (singlesTo E E.length) (singlesTo E E.length).length from rfl)
    generalize singlesTo E E.length = L at HR9 HLI HLB HLE ⊢
    have hlb := HLB.out
    have hv0 : List.replicate n (0 : Int) = valTo n L 0 := rfl
    rw [hv0] at HV9
    clear hv0 HEN HP HS HRd HRv HB HBX hb0 hb1 hsz
    go_loopw [54] (fun i wr => ∃ (j : Nat) (rows : List (List Int)), j ≤ L.length ∧ i = .int .i64 j ∧ Aside0 (rows.length = n) ∧ Aside0 (∀ y ∈ rows, y.length = n) ∧ Aside0 (PileAt wr gp (.slice Av1 dl.length cv1) q (.slice Ar n cr) (.slice (some ⟨bv, 0, none⟩) n n) (fun _ => false)) ∧ Aside0 ((Kd.int .i64).R 3 wr gb (fun k => k ≠ bv) (.slice Av1 dl.length cv1) dl) ∧ Aside0 ((Kd.int .i64).R 3 wr gb (fun k => some k ≠ (Value.slice Av1 dl.length cv1).ownBlock) (.slice (some ⟨bv, 0, none⟩) n n) (valTo n L j)) ∧ Aside0 (Kd.S (Kd.slice 3 (Kd.int .i64)) 33 wr gb (fun k => some k ≠ (Value.slice Av1 dl.length cv1).ownBlock ∧ k ≠ bv) (.slice Ar n cr) rows) ∧ Aside0 ((Kd.raw 2).R 115 wr gb (fun _ => True) (.slice A9 L.length c9) (endRows L)) ∧ Aside0 (Below gb w wr)) (fun i _ => L.length - (intOf i).toNat)
    case atStart => exact ⟨0, _, by omega, rfl, HL, HY, HP9, HD9, HV9, HS9, HR9, HB9⟩
    case round =>
     clear HP9 HD9 HV9 HS9 HR9 HB9 HL HY
     obtain ⟨j, rows, hj, rfl, HL, HY, HP, HD, HV, HS, HR, HB⟩ := hrel
     by_cases hjm : j < L.length
     ·obtain ⟨-, -, hC9⟩ := Kd.R_reads' HR.out
      obtain ⟨ad, rfl, hx0, hx1⟩ := at_ends hC9 j (by rw [endRows_length]; exact hjm) hjm
      have hab := HLI.out _ (List.getElem_mem hjm)
      have Hvs := Lib.hid (valTo_succ n L j hjm)
      generalize L[j] = x at hx0 hx1 hab Hvs
      obtain ⟨i, a, b⟩ := x
      simp only at hx0 hx1 hab
      obtain ⟨a, rfl⟩ := Int.eq_ofNat_of_zero_le hab.1
      obtain ⟨b, rfl⟩ := Int.eq_ofNat_of_zero_le hab.2.2.1
      have ha : a < n := by omega
      have hb : b < n := by omega
      have hj0 : (0 : Int) ≤ (j : Int) := by omega
      have hj1 : (j : Int) < (L.length : Int) := by omega
      clear hab hC9
      have HO := Aside0.mk (show (wr.alloc (.cells #[.int .i64 a, .int .i64 b] 115)).heap[wr.heap.size]? = some (.cells #[.int .i64 a, .int .i64 b] 115 (0, 0)) from heap_alloc_new wr _)
      obtain ⟨g0, cr', hrv, -, -, -⟩ := Kd.S_form HS.out (by have := HL.out; omega)
      injection hrv with hrv _ hrc
      subst hrv
      have HPS := Aside0.mk (PS.mk (L := L) HL.out HY.out (HP.out.below (below_alloc (Below.refl _ _) (.cells #[.int .i64 a, .int .i64 b] 115))) (Kd.R_alloc HD.out (.cells #[.int .i64 a, .int .i64 b] 115)) (Kd.R_alloc HV.out (.cells #[.int .i64 a, .int .i64 b] 115)) (Kd.S_alloc HS.out (.cells #[.int .i64 a, .int .i64 b] 115)) (Kd.R_alloc HR.out (.cells #[.int .i64 a, .int .i64 b] 115)) (HB.out.alloc (by have := HB.out.size; omega) (.cells #[.int .i64 a, .int .i64 b] 115)))
      go_wp2
      clear HP HD HV HS HR HB hx0 hx1 HL HY hrc cr'
      generalize (wr.alloc (.cells #[.int .i64 a, .int .i64 b] 115)) = W1 at HO HPS ⊢
      generalize wr.heap.size = ob at HO ⊢
      have hx0 : W1.cell? ⟨ob, 0, none⟩ = some (.int .i64 a) := (blk_cell HO.out 0).trans rfl
      have hx1 : W1.cell? ⟨ob, 1, none⟩ = some (.int .i64 b) := (blk_cell HO.out 1).trans rfl
      go_quiet (fail)
      replace HPS := Aside0.mk (HPS.out.drewN nq)
      clear hx0 hx1 HO
      generalize W1.drewN nq = W2 at HPS ⊢
      clear W1
      have ha0 : (0 : Int) ≤ (a : Int) := by omega
      have ha1 : (a : Int) < (n : Int) := by omega
      have hb0 : (0 : Int) ≤ (b : Int) := by omega
      have hb1 : (b : Int) < (n : Int) := by omega
      by_cases hab : a = b
      ·subst hab
       have hvs : valTo n L j = valTo n L (j + 1) := by rw [Hvs.out]; unfold valStep; rw [if_pos rfl]
       rw [hvs] at HPS
       clear hvs
       go_wp2
       exact ⟨⟨j + 1, rows, by omega, by go_num, ⟨HPS.out.len⟩, ⟨HPS.out.all⟩, ⟨HPS.out.pile⟩, ⟨HPS.out.d⟩, ⟨HPS.out.val⟩, ⟨HPS.out.rows⟩, ⟨HPS.out.ends⟩, ⟨HPS.out.below⟩⟩, (show L.length - ((j : Int) + 1).toNat < L.length - ((j : Int)).toNat by omega)⟩
      ·have hab1 : ((a : Int) != (b : Int)) = true := by simp; omega
       have hrows := HPS.out.pile.cell_rows
       have hvb := valTo_bound n L j
       have hva := hvb a
       obtain ⟨gi, ci, z, hc1, hc2, hf2, hnx⟩ := HPS.out.row a b ha hb
       obtain ⟨rows3, h3⟩ := hnx (wrap64 (z + 1))
       have H3 := Aside0.mk h3
       have hrows3 := h3.pile.cell_rows
       obtain ⟨gi3, ci3, z3, hc13, hc23, hf23, hnx3⟩ := h3.row b a hb ha
       obtain ⟨rows4, h4⟩ := hnx3 (wrap64 (z3 + 1))
       have H4 := Aside0.mk h4
       have hval4 := h4.pile.cell_val
       obtain ⟨hc4, hf4, hnx4⟩ := h4.valb a ha
       have h5 := hnx4 (rd (valTo n L j) a + 1)
       have H5 := Aside0.mk h5
       have hval5 := h5.pile.cell_val
       obtain ⟨hc5, hf5, hnx5⟩ := h5.valb b hb
       have hbb := incr_bound (v := a) hvb b
       rw [show (valTo n L j).set a (rd (valTo n L j) a + 1) = incr (valTo n L j) a from rfl] at hc5 hnx5
       have H6 := Aside0.mk (hnx5 (rd (incr (valTo n L j) a) b + 1))
       rw [show (incr (valTo n L j) a).set b (rd (incr (valTo n L j) a) b + 1) = valTo n L (j + 1) from by rw [Hvs.out]; unfold valStep; rw [if_neg (show ¬ ((i, (a : Int), (b : Int)).2.1 = (i, (a : Int), (b : Int)).2.2) from fun e => hab (Int.ofNat.inj e))]; rfl] at H6
       clear hnx hnx3 hnx4 hnx5 h3 h4 h5 hvb H3 H4 H5
       generalize rd (valTo n L j) a = va at hva hc4 hval5 hc5 hf5 hbb H6
       generalize rd (incr (valTo n L j) a) b = vb at hbb hc5 H6
       go_wp2
       exact ⟨⟨j + 1, rows4, by omega, by go_num, ⟨H6.out.len⟩, ⟨H6.out.all⟩, ⟨H6.out.pile⟩, ⟨H6.out.d⟩, ⟨H6.out.val⟩, ⟨H6.out.rows⟩, ⟨H6.out.ends⟩, ⟨H6.out.below⟩⟩, (show L.length - ((j : Int) + 1).toNat < L.length - ((j : Int)).toNat by omega)⟩
     ·obtain rfl : j = L.length := by omega
      have hcd0 := HP.out.cell_d
      go_wp2
      have HVL := Aside0.mk (valTo_length n L L.length)
      generalize valTo n L L.length = vl at HV HVL HLE ⊢
      clear HS HR HL HY hcd0 hlb HLI HLB hjm hj
      go_loopw [113] (fun i wr => ∃ (j : Nat), j ≤ dl.length ∧ i = .int .i64 j ∧ Aside0 (PileAt wr gp (.slice Av1 dl.length cv1) q (.slice Ar n cr) (.slice (some ⟨bv, 0, none⟩) n n) (fun x => if x < j then looseB q vl dl x else false)) ∧ Aside0 ((Kd.int .i64).R 3 wr gb (fun k => k ≠ bv) (.slice Av1 dl.length cv1) dl) ∧ Aside0 ((Kd.int .i64).R 3 wr gb (fun k => some k ≠ (Value.slice Av1 dl.length cv1).ownBlock) (.slice (some ⟨bv, 0, none⟩) n n) vl) ∧ Aside0 (Below gb w wr)) (fun i _ => dl.length - (intOf i).toNat)
      case atStart => exact ⟨0, by omega, rfl, ⟨by simpa using HP.out⟩, HD, HV, HB⟩
      case round =>
       clear HP HD HV HB
       obtain ⟨j, hj, rfl, HP, HD, HV, HB⟩ := hrel
       by_cases hjd : j < dl.length
       ·obtain ⟨-, -, hCd⟩ := Kd.R_reads' HD.out
        obtain ⟨-, -, hCv⟩ := Kd.R_reads' HV.out
        rw [HVL.out] at hCv
        have HW := Aside0.mk (wait_calls2 gp j n q Av1 (some ⟨bv, 0, none⟩) cv1 n dl vl (.slice Ar n cr) _ wr (by omega) hjd HVL.out (by have := Hdl.out; omega) HP.out hCd hCv)
        clear hCd hCv
        go_wp2_with (go_at_call 106; refine HW.out.mono ?_; rintro e w5 ⟨rfl, hp5, hg5⟩; rw [waits_step] at hp5; have HP5 := Aside0.mk hp5; have HD5 := Aside0.mk (Kd.R_grown1 HD.out rfl hg5 (HP.out.ne_of (Kd.R_typed HD.out) (by decide))); have HV5 := Aside0.mk (Kd.R_grown1 HV.out rfl hg5 (HP.out.ne_of (Kd.R_typed HV.out) (by decide))); have HB5 := Aside0.mk (pw_below_grown HB.out (some gp) (by have := HB.out.size; omega) hg5 (fun k e => by cases e; omega)); clear hp5 hg5)
        all_goals go_wp2
        all_goals go_roundw
        case rel => exact ⟨j + 1, by omega, by go_num, HP5, HD5, HV5, HB5⟩
        case measure => exact (show dl.length - ((j : Int) + 1).toNat < dl.length - ((j : Int)).toNat by omega)
       ·obtain rfl : j = dl.length := by omega
        go_wp2
        go_ret2
        exact ⟨gp, Av1, _, cv1, n, _, rfl, by rw [HLE.out]; exact HP.out, by rw [HLE.out, hgb]; exact Kd.R_mono HV.out (fun _ _ => trivial), by rw [hgb]; exact HB.out⟩
 ·go_region_held3 (fun w' => w'.heap[gb]? = some (.cells #[.int .i64 n, .slice A0 E.length c0] 24 (0, 0)) ∧ w'.cell? ⟨gb, 0, none⟩ = some (.int .i64 n) ∧ Below gb w w')
   (first
    | exact held_start HX0.out hx0 HB.out
    | ((try go_split_ands); refine ⟨by assumption, by assumption, by assumption⟩)
    | ((try go_split_ands); exact held_alloc (by assumption) (by assumption) (by assumption))
    | ((try go_split_ands); exact held_below (by assumption) (by assumption) (by assumption) (by assumption))
    | fail)
   ((go_at_call 45; refine (HC.out _ (HC2.out _ (by go_split_ands; assumption))).mono ?_; rintro e w1 ⟨v1, rfl, hr1, hb1⟩; obtain ⟨Av1, cv1, rfl⟩ := Kd.R_slice hr1))
  ·refine ⟨rfl, ?gp_0, ?bv_0, ?bf_0, ?cv_0, ?Av_0, ?u16_0, ?u17_0, ?u18_0, ?u19_0, ?u20_0, ?u21_0, ?u22_0, ?u23_0, ?u24_0, ?u25_0, ?u26_0, ?eq_0, ?gt_0, ?pile_0, ?rd_0, ?rv_0, by (go_split_ands; assumption), by (go_split_ands; assumption)⟩
   case eq_0 => rfl
   case pile_0 => (refine heapnew_at ?_; first | rfl | (simp; done))
   case gt_0 => (have h1 := hb1.size; first | omega | (simp at h1 ⊢; done) | (simp at h1 ⊢; omega) | (have h2 : W0.drew.heap.size = W0.heap.size := rfl; simp [World.drew] at h1 ⊢; omega))
   case rd_0 =>
    refine pile_rd hr1 ?_ ?_ ?_
    ·(have h1 := hb1.size; first | omega | (simp at h1 ⊢; done) | (simp at h1 ⊢; omega) | (have h2 : W0.drew.heap.size = W0.heap.size := rfl; simp [World.drew] at h1 ⊢; omega))
    ·(first | exact fun h => h | exact fun h => Kd.R_alloc h _ | exact fun h => Kd.R_alloc (Kd.R_alloc h _) _ | exact fun h => Kd.R_alloc (Kd.R_alloc (Kd.R_alloc h _) _) _)
    ·(have h1 := hb1.size; first | omega | (simp at h1 ⊢; done) | (simp at h1 ⊢; omega) | (have h2 : W0.drew.heap.size = W0.heap.size := rfl; simp [World.drew] at h1 ⊢; omega))
   case rv_0 =>
    first
     | (refine pile_rv (Y := w1) (HZ.out _ _ rfl) ?_ ?_ hr1 ?_ ?_; (focus (first | rfl | (simp; done))); (focus ((repeat (first | exact Below.refl _ _ | apply below_alloc | apply below_drew1 | refine below_step ?_ hb1)); done)); (focus (have h1 := hb1.size; first | omega | (simp at h1 ⊢; done) | (simp at h1 ⊢; omega) | (have h2 : W0.drew.heap.size = W0.heap.size := rfl; simp [World.drew] at h1 ⊢; omega))); (focus (have h1 := hb1.size; first | omega | (simp at h1 ⊢; done) | (simp at h1 ⊢; omega) | (have h2 : W0.drew.heap.size = W0.heap.size := rfl; simp [World.drew] at h1 ⊢; omega))))
     | (refine pile_rv (Y := (w1.alloc (.cells zs 3))) (HZ.out _ _ rfl) ?_ ?_ hr1 ?_ ?_; (focus (first | rfl | (simp; done))); (focus ((repeat (first | exact Below.refl _ _ | apply below_alloc | apply below_drew1 | refine below_step ?_ hb1)); done)); (focus (have h1 := hb1.size; first | omega | (simp at h1 ⊢; done) | (simp at h1 ⊢; omega) | (have h2 : W0.drew.heap.size = W0.heap.size := rfl; simp [World.drew] at h1 ⊢; omega))); (focus (have h1 := hb1.size; first | omega | (simp at h1 ⊢; done) | (simp at h1 ⊢; omega) | (have h2 : W0.drew.heap.size = W0.heap.size := rfl; simp [World.drew] at h1 ⊢; omega))))
     | (refine pile_rv (Y := W0) (HZ.out _ _ rfl) ?_ ?_ hr1 ?_ ?_; (focus (first | rfl | (simp; done))); (focus ((repeat (first | exact Below.refl _ _ | apply below_alloc | apply below_drew1 | refine below_step ?_ hb1)); done)); (focus (have h1 := hb1.size; first | omega | (simp at h1 ⊢; done) | (simp at h1 ⊢; omega) | (have h2 : W0.drew.heap.size = W0.heap.size := rfl; simp [World.drew] at h1 ⊢; omega))); (focus (have h1 := hb1.size; first | omega | (simp at h1 ⊢; done) | (simp at h1 ⊢; omega) | (have h2 : W0.drew.heap.size = W0.heap.size := rfl; simp [World.drew] at h1 ⊢; omega))))
     | (refine pile_rv (Y := (W0.alloc (.cells zs 3))) (HZ.out _ _ rfl) ?_ ?_ hr1 ?_ ?_; (focus (first | rfl | (simp; done))); (focus ((repeat (first | exact Below.refl _ _ | apply below_alloc | apply below_drew1 | refine below_step ?_ hb1)); done)); (focus (have h1 := hb1.size; first | omega | (simp at h1 ⊢; done) | (simp at h1 ⊢; omega) | (have h2 : W0.drew.heap.size = W0.heap.size := rfl; simp [World.drew] at h1 ⊢; omega))); (focus (have h1 := hb1.size; first | omega | (simp at h1 ⊢; done) | (simp at h1 ⊢; omega) | (have h2 : W0.drew.heap.size = W0.heap.size := rfl; simp [World.drew] at h1 ⊢; omega))))
     | fail
  ·refine ⟨rfl, ?gp_1, ?bv_1, ?bf_1, ?cv_1, ?Av_1, ?u16_1, ?u17_1, ?u18_1, ?u19_1, ?u20_1, ?u21_1, ?u22_1, ?u23_1, ?u24_1, ?u25_1, ?u26_1, ?eq_1, ?gt_1, ?pile_1, ?rd_1, ?rv_1, by (go_split_ands; assumption), by (go_split_ands; assumption)⟩
   case eq_1 => rfl
   case pile_1 => (refine heapnew_at ?_; first | rfl | (simp; done))
   case gt_1 => (have h1 := hb1.size; first | omega | (simp at h1 ⊢; done) | (simp at h1 ⊢; omega) | (have h2 : W0.drew.heap.size = W0.heap.size := rfl; simp [World.drew] at h1 ⊢; omega))
   case rd_1 =>
    refine pile_rd hr1 ?_ ?_ ?_
    ·(have h1 := hb1.size; first | omega | (simp at h1 ⊢; done) | (simp at h1 ⊢; omega) | (have h2 : W0.drew.heap.size = W0.heap.size := rfl; simp [World.drew] at h1 ⊢; omega))
    ·(first | exact fun h => h | exact fun h => Kd.R_alloc h _ | exact fun h => Kd.R_alloc (Kd.R_alloc h _) _ | exact fun h => Kd.R_alloc (Kd.R_alloc (Kd.R_alloc h _) _) _)
    ·(have h1 := hb1.size; first | omega | (simp at h1 ⊢; done) | (simp at h1 ⊢; omega) | (have h2 : W0.drew.heap.size = W0.heap.size := rfl; simp [World.drew] at h1 ⊢; omega))
   case rv_1 =>
    first
     | (refine pile_rv (Y := w1) (HZ.out _ _ rfl) ?_ ?_ hr1 ?_ ?_; (focus (first | rfl | (simp; done))); (focus ((repeat (first | exact Below.refl _ _ | apply below_alloc | apply below_drew1 | refine below_step ?_ hb1)); done)); (focus (have h1 := hb1.size; first | omega | (simp at h1 ⊢; done) | (simp at h1 ⊢; omega) | (have h2 : W0.drew.heap.size = W0.heap.size := rfl; simp [World.drew] at h1 ⊢; omega))); (focus (have h1 := hb1.size; first | omega | (simp at h1 ⊢; done) | (simp at h1 ⊢; omega) | (have h2 : W0.drew.heap.size = W0.heap.size := rfl; simp [World.drew] at h1 ⊢; omega))))
     | (refine pile_rv (Y := (w1.alloc (.cells zs 3))) (HZ.out _ _ rfl) ?_ ?_ hr1 ?_ ?_; (focus (first | rfl | (simp; done))); (focus ((repeat (first | exact Below.refl _ _ | apply below_alloc | apply below_drew1 | refine below_step ?_ hb1)); done)); (focus (have h1 := hb1.size; first | omega | (simp at h1 ⊢; done) | (simp at h1 ⊢; omega) | (have h2 : W0.drew.heap.size = W0.heap.size := rfl; simp [World.drew] at h1 ⊢; omega))); (focus (have h1 := hb1.size; first | omega | (simp at h1 ⊢; done) | (simp at h1 ⊢; omega) | (have h2 : W0.drew.heap.size = W0.heap.size := rfl; simp [World.drew] at h1 ⊢; omega))))
     | (refine pile_rv (Y := W0) (HZ.out _ _ rfl) ?_ ?_ hr1 ?_ ?_; (focus (first | rfl | (simp; done))); (focus ((repeat (first | exact Below.refl _ _ | apply below_alloc | apply below_drew1 | refine below_step ?_ hb1)); done)); (focus (have h1 := hb1.size; first | omega | (simp at h1 ⊢; done) | (simp at h1 ⊢; omega) | (have h2 : W0.drew.heap.size = W0.heap.size := rfl; simp [World.drew] at h1 ⊢; omega))); (focus (have h1 := hb1.size; first | omega | (simp at h1 ⊢; done) | (simp at h1 ⊢; omega) | (have h2 : W0.drew.heap.size = W0.heap.size := rfl; simp [World.drew] at h1 ⊢; omega))))
     | (refine pile_rv (Y := (W0.alloc (.cells zs 3))) (HZ.out _ _ rfl) ?_ ?_ hr1 ?_ ?_; (focus (first | rfl | (simp; done))); (focus ((repeat (first | exact Below.refl _ _ | apply below_alloc | apply below_drew1 | refine below_step ?_ hb1)); done)); (focus (have h1 := hb1.size; first | omega | (simp at h1 ⊢; done) | (simp at h1 ⊢; omega) | (have h2 : W0.drew.heap.size = W0.heap.size := rfl; simp [World.drew] at h1 ⊢; omega))); (focus (have h1 := hb1.size; first | omega | (simp at h1 ⊢; done) | (simp at h1 ⊢; omega) | (have h2 : W0.drew.heap.size = W0.heap.size := rfl; simp [World.drew] at h1 ⊢; omega))))
     | fail
  ·refine ⟨rfl, ?gp_2, ?bv_2, ?bf_2, ?cv_2, ?Av_2, ?u16_2, ?u17_2, ?u18_2, ?u19_2, ?u20_2, ?u21_2, ?u22_2, ?u23_2, ?u24_2, ?u25_2, ?u26_2, ?eq_2, ?gt_2, ?pile_2, ?rd_2, ?rv_2, by (go_split_ands; assumption), by (go_split_ands; assumption)⟩
   case eq_2 => rfl
   case pile_2 => (refine heapnew_at ?_; first | rfl | (simp; done))
   case gt_2 => (have h1 := hb1.size; first | omega | (simp at h1 ⊢; done) | (simp at h1 ⊢; omega) | (have h2 : W0.drew.heap.size = W0.heap.size := rfl; simp [World.drew] at h1 ⊢; omega))
   case rd_2 =>
    refine pile_rd hr1 ?_ ?_ ?_
    ·(have h1 := hb1.size; first | omega | (simp at h1 ⊢; done) | (simp at h1 ⊢; omega) | (have h2 : W0.drew.heap.size = W0.heap.size := rfl; simp [World.drew] at h1 ⊢; omega))
    ·(first | exact fun h => h | exact fun h => Kd.R_alloc h _ | exact fun h => Kd.R_alloc (Kd.R_alloc h _) _ | exact fun h => Kd.R_alloc (Kd.R_alloc (Kd.R_alloc h _) _) _)
    ·(have h1 := hb1.size; first | omega | (simp at h1 ⊢; done) | (simp at h1 ⊢; omega) | (have h2 : W0.drew.heap.size = W0.heap.size := rfl; simp [World.drew] at h1 ⊢; omega))
   case rv_2 =>
    first
     | (refine pile_rv (Y := w1) (HZ.out _ _ rfl) ?_ ?_ hr1 ?_ ?_; (focus (first | rfl | (simp; done))); (focus ((repeat (first | exact Below.refl _ _ | apply below_alloc | apply below_drew1 | refine below_step ?_ hb1)); done)); (focus (have h1 := hb1.size; first | omega | (simp at h1 ⊢; done) | (simp at h1 ⊢; omega) | (have h2 : W0.drew.heap.size = W0.heap.size := rfl; simp [World.drew] at h1 ⊢; omega))); (focus (have h1 := hb1.size; first | omega | (simp at h1 ⊢; done) | (simp at h1 ⊢; omega) | (have h2 : W0.drew.heap.size = W0.heap.size := rfl; simp [World.drew] at h1 ⊢; omega))))
     | (refine pile_rv (Y := (w1.alloc (.cells zs 3))) (HZ.out _ _ rfl) ?_ ?_ hr1 ?_ ?_; (focus (first | rfl | (simp; done))); (focus ((repeat (first | exact Below.refl _ _ | apply below_alloc | apply below_drew1 | refine below_step ?_ hb1)); done)); (focus (have h1 := hb1.size; first | omega | (simp at h1 ⊢; done) | (simp at h1 ⊢; omega) | (have h2 : W0.drew.heap.size = W0.heap.size := rfl; simp [World.drew] at h1 ⊢; omega))); (focus (have h1 := hb1.size; first | omega | (simp at h1 ⊢; done) | (simp at h1 ⊢; omega) | (have h2 : W0.drew.heap.size = W0.heap.size := rfl; simp [World.drew] at h1 ⊢; omega))))
     | (refine pile_rv (Y := W0) (HZ.out _ _ rfl) ?_ ?_ hr1 ?_ ?_; (focus (first | rfl | (simp; done))); (focus ((repeat (first | exact Below.refl _ _ | apply below_alloc | apply below_drew1 | refine below_step ?_ hb1)); done)); (focus (have h1 := hb1.size; first | omega | (simp at h1 ⊢; done) | (simp at h1 ⊢; omega) | (have h2 : W0.drew.heap.size = W0.heap.size := rfl; simp [World.drew] at h1 ⊢; omega))); (focus (have h1 := hb1.size; first | omega | (simp at h1 ⊢; done) | (simp at h1 ⊢; omega) | (have h2 : W0.drew.heap.size = W0.heap.size := rfl; simp [World.drew] at h1 ⊢; omega))))
     | (refine pile_rv (Y := (W0.alloc (.cells zs 3))) (HZ.out _ _ rfl) ?_ ?_ hr1 ?_ ?_; (focus (first | rfl | (simp; done))); (focus ((repeat (first | exact Below.refl _ _ | apply below_alloc | apply below_drew1 | refine below_step ?_ hb1)); done)); (focus (have h1 := hb1.size; first | omega | (simp at h1 ⊢; done) | (simp at h1 ⊢; omega) | (have h2 : W0.drew.heap.size = W0.heap.size := rfl; simp [World.drew] at h1 ⊢; omega))); (focus (have h1 := hb1.size; first | omega | (simp at h1 ⊢; done) | (simp at h1 ⊢; omega) | (have h2 : W0.drew.heap.size = W0.heap.size := rfl; simp [World.drew] at h1 ⊢; omega))))
     | fail
  ·refine ⟨rfl, ?gp_3, ?bv_3, ?bf_3, ?cv_3, ?Av_3, ?u16_3, ?u17_3, ?u18_3, ?u19_3, ?u20_3, ?u21_3, ?u22_3, ?u23_3, ?u24_3, ?u25_3, ?u26_3, ?eq_3, ?gt_3, ?pile_3, ?rd_3, ?rv_3, by (go_split_ands; assumption), by (go_split_ands; assumption)⟩
   case eq_3 => rfl
   case pile_3 => (refine heapnew_at ?_; first | rfl | (simp; done))
   case gt_3 => (have h1 := hb1.size; first | omega | (simp at h1 ⊢; done) | (simp at h1 ⊢; omega) | (have h2 : W0.drew.heap.size = W0.heap.size := rfl; simp [World.drew] at h1 ⊢; omega))
   case rd_3 =>
    refine pile_rd hr1 ?_ ?_ ?_
    ·(have h1 := hb1.size; first | omega | (simp at h1 ⊢; done) | (simp at h1 ⊢; omega) | (have h2 : W0.drew.heap.size = W0.heap.size := rfl; simp [World.drew] at h1 ⊢; omega))
    ·(first | exact fun h => h | exact fun h => Kd.R_alloc h _ | exact fun h => Kd.R_alloc (Kd.R_alloc h _) _ | exact fun h => Kd.R_alloc (Kd.R_alloc (Kd.R_alloc h _) _) _)
    ·(have h1 := hb1.size; first | omega | (simp at h1 ⊢; done) | (simp at h1 ⊢; omega) | (have h2 : W0.drew.heap.size = W0.heap.size := rfl; simp [World.drew] at h1 ⊢; omega))
   case rv_3 =>
    first
     | (refine pile_rv (Y := w1) (HZ.out _ _ rfl) ?_ ?_ hr1 ?_ ?_; (focus (first | rfl | (simp; done))); (focus ((repeat (first | exact Below.refl _ _ | apply below_alloc | apply below_drew1 | refine below_step ?_ hb1)); done)); (focus (have h1 := hb1.size; first | omega | (simp at h1 ⊢; done) | (simp at h1 ⊢; omega) | (have h2 : W0.drew.heap.size = W0.heap.size := rfl; simp [World.drew] at h1 ⊢; omega))); (focus (have h1 := hb1.size; first | omega | (simp at h1 ⊢; done) | (simp at h1 ⊢; omega) | (have h2 : W0.drew.heap.size = W0.heap.size := rfl; simp [World.drew] at h1 ⊢; omega))))
     | (refine pile_rv (Y := (w1.alloc (.cells zs 3))) (HZ.out _ _ rfl) ?_ ?_ hr1 ?_ ?_; (focus (first | rfl | (simp; done))); (focus ((repeat (first | exact Below.refl _ _ | apply below_alloc | apply below_drew1 | refine below_step ?_ hb1)); done)); (focus (have h1 := hb1.size; first | omega | (simp at h1 ⊢; done) | (simp at h1 ⊢; omega) | (have h2 : W0.drew.heap.size = W0.heap.size := rfl; simp [World.drew] at h1 ⊢; omega))); (focus (have h1 := hb1.size; first | omega | (simp at h1 ⊢; done) | (simp at h1 ⊢; omega) | (have h2 : W0.drew.heap.size = W0.heap.size := rfl; simp [World.drew] at h1 ⊢; omega))))
     | (refine pile_rv (Y := W0) (HZ.out _ _ rfl) ?_ ?_ hr1 ?_ ?_; (focus (first | rfl | (simp; done))); (focus ((repeat (first | exact Below.refl _ _ | apply below_alloc | apply below_drew1 | refine below_step ?_ hb1)); done)); (focus (have h1 := hb1.size; first | omega | (simp at h1 ⊢; done) | (simp at h1 ⊢; omega) | (have h2 : W0.drew.heap.size = W0.heap.size := rfl; simp [World.drew] at h1 ⊢; omega))); (focus (have h1 := hb1.size; first | omega | (simp at h1 ⊢; done) | (simp at h1 ⊢; omega) | (have h2 : W0.drew.heap.size = W0.heap.size := rfl; simp [World.drew] at h1 ⊢; omega))))
     | (refine pile_rv (Y := (W0.alloc (.cells zs 3))) (HZ.out _ _ rfl) ?_ ?_ hr1 ?_ ?_; (focus (first | rfl | (simp; done))); (focus ((repeat (first | exact Below.refl _ _ | apply below_alloc | apply below_drew1 | refine below_step ?_ hb1)); done)); (focus (have h1 := hb1.size; first | omega | (simp at h1 ⊢; done) | (simp at h1 ⊢; omega) | (have h2 : W0.drew.heap.size = W0.heap.size := rfl; simp [World.drew] at h1 ⊢; omega))); (focus (have h1 := hb1.size; first | omega | (simp at h1 ⊢; done) | (simp at h1 ⊢; omega) | (have h2 : W0.drew.heap.size = W0.heap.size := rfl; simp [World.drew] at h1 ⊢; omega))))
     | fail
  ·refine ⟨rfl, ?gp_4, ?bv_4, ?bf_4, ?cv_4, ?Av_4, ?u16_4, ?u17_4, ?u18_4, ?u19_4, ?u20_4, ?u21_4, ?u22_4, ?u23_4, ?u24_4, ?u25_4, ?u26_4, ?eq_4, ?gt_4, ?pile_4, ?rd_4, ?rv_4, by (go_split_ands; assumption), by (go_split_ands; assumption)⟩
   case eq_4 => rfl
   case pile_4 => (refine heapnew_at ?_; first | rfl | (simp; done))
   case gt_4 => (have h1 := hb1.size; first | omega | (simp at h1 ⊢; done) | (simp at h1 ⊢; omega) | (have h2 : W0.drew.heap.size = W0.heap.size := rfl; simp [World.drew] at h1 ⊢; omega))
   case rd_4 =>
    refine pile_rd hr1 ?_ ?_ ?_
    ·(have h1 := hb1.size; first | omega | (simp at h1 ⊢; done) | (simp at h1 ⊢; omega) | (have h2 : W0.drew.heap.size = W0.heap.size := rfl; simp [World.drew] at h1 ⊢; omega))
    ·(first | exact fun h => h | exact fun h => Kd.R_alloc h _ | exact fun h => Kd.R_alloc (Kd.R_alloc h _) _ | exact fun h => Kd.R_alloc (Kd.R_alloc (Kd.R_alloc h _) _) _)
    ·(have h1 := hb1.size; first | omega | (simp at h1 ⊢; done) | (simp at h1 ⊢; omega) | (have h2 : W0.drew.heap.size = W0.heap.size := rfl; simp [World.drew] at h1 ⊢; omega))
   case rv_4 =>
    first
     | (refine pile_rv (Y := w1) (HZ.out _ _ rfl) ?_ ?_ hr1 ?_ ?_; (focus (first | rfl | (simp; done))); (focus ((repeat (first | exact Below.refl _ _ | apply below_alloc | apply below_drew1 | refine below_step ?_ hb1)); done)); (focus (have h1 := hb1.size; first | omega | (simp at h1 ⊢; done) | (simp at h1 ⊢; omega) | (have h2 : W0.drew.heap.size = W0.heap.size := rfl; simp [World.drew] at h1 ⊢; omega))); (focus (have h1 := hb1.size; first | omega | (simp at h1 ⊢; done) | (simp at h1 ⊢; omega) | (have h2 : W0.drew.heap.size = W0.heap.size := rfl; simp [World.drew] at h1 ⊢; omega))))
     | (refine pile_rv (Y := (w1.alloc (.cells zs 3))) (HZ.out _ _ rfl) ?_ ?_ hr1 ?_ ?_; (focus (first | rfl | (simp; done))); (focus ((repeat (first | exact Below.refl _ _ | apply below_alloc | apply below_drew1 | refine below_step ?_ hb1)); done)); (focus (have h1 := hb1.size; first | omega | (simp at h1 ⊢; done) | (simp at h1 ⊢; omega) | (have h2 : W0.drew.heap.size = W0.heap.size := rfl; simp [World.drew] at h1 ⊢; omega))); (focus (have h1 := hb1.size; first | omega | (simp at h1 ⊢; done) | (simp at h1 ⊢; omega) | (have h2 : W0.drew.heap.size = W0.heap.size := rfl; simp [World.drew] at h1 ⊢; omega))))
     | (refine pile_rv (Y := W0) (HZ.out _ _ rfl) ?_ ?_ hr1 ?_ ?_; (focus (first | rfl | (simp; done))); (focus ((repeat (first | exact Below.refl _ _ | apply below_alloc | apply below_drew1 | refine below_step ?_ hb1)); done)); (focus (have h1 := hb1.size; first | omega | (simp at h1 ⊢; done) | (simp at h1 ⊢; omega) | (have h2 : W0.drew.heap.size = W0.heap.size := rfl; simp [World.drew] at h1 ⊢; omega))); (focus (have h1 := hb1.size; first | omega | (simp at h1 ⊢; done) | (simp at h1 ⊢; omega) | (have h2 : W0.drew.heap.size = W0.heap.size := rfl; simp [World.drew] at h1 ⊢; omega))))
     | (refine pile_rv (Y := (W0.alloc (.cells zs 3))) (HZ.out _ _ rfl) ?_ ?_ hr1 ?_ ?_; (focus (first | rfl | (simp; done))); (focus ((repeat (first | exact Below.refl _ _ | apply below_alloc | apply below_drew1 | refine below_step ?_ hb1)); done)); (focus (have h1 := hb1.size; first | omega | (simp at h1 ⊢; done) | (simp at h1 ⊢; omega) | (have h2 : W0.drew.heap.size = W0.heap.size := rfl; simp [World.drew] at h1 ⊢; omega))); (focus (have h1 := hb1.size; first | omega | (simp at h1 ⊢; done) | (simp at h1 ⊢; omega) | (have h2 : W0.drew.heap.size = W0.heap.size := rfl; simp [World.drew] at h1 ⊢; omega))))
     | fail
  ·refine ⟨rfl, ?gp_5, ?bv_5, ?bf_5, ?cv_5, ?Av_5, ?u16_5, ?u17_5, ?u18_5, ?u19_5, ?u20_5, ?u21_5, ?u22_5, ?u23_5, ?u24_5, ?u25_5, ?u26_5, ?eq_5, ?gt_5, ?pile_5, ?rd_5, ?rv_5, by (go_split_ands; assumption), by (go_split_ands; assumption)⟩
   case eq_5 => rfl
   case pile_5 => (refine heapnew_at ?_; first | rfl | (simp; done))
   case gt_5 => (have h1 := hb1.size; first | omega | (simp at h1 ⊢; done) | (simp at h1 ⊢; omega) | (have h2 : W0.drew.heap.size = W0.heap.size := rfl; simp [World.drew] at h1 ⊢; omega))
   case rd_5 =>
    refine pile_rd hr1 ?_ ?_ ?_
    ·(have h1 := hb1.size; first | omega | (simp at h1 ⊢; done) | (simp at h1 ⊢; omega) | (have h2 : W0.drew.heap.size = W0.heap.size := rfl; simp [World.drew] at h1 ⊢; omega))
    ·(first | exact fun h => h | exact fun h => Kd.R_alloc h _ | exact fun h => Kd.R_alloc (Kd.R_alloc h _) _ | exact fun h => Kd.R_alloc (Kd.R_alloc (Kd.R_alloc h _) _) _)
    ·(have h1 := hb1.size; first | omega | (simp at h1 ⊢; done) | (simp at h1 ⊢; omega) | (have h2 : W0.drew.heap.size = W0.heap.size := rfl; simp [World.drew] at h1 ⊢; omega))
   case rv_5 =>
    first
     | (refine pile_rv (Y := w1) (HZ.out _ _ rfl) ?_ ?_ hr1 ?_ ?_; (focus (first | rfl | (simp; done))); (focus ((repeat (first | exact Below.refl _ _ | apply below_alloc | apply below_drew1 | refine below_step ?_ hb1)); done)); (focus (have h1 := hb1.size; first | omega | (simp at h1 ⊢; done) | (simp at h1 ⊢; omega) | (have h2 : W0.drew.heap.size = W0.heap.size := rfl; simp [World.drew] at h1 ⊢; omega))); (focus (have h1 := hb1.size; first | omega | (simp at h1 ⊢; done) | (simp at h1 ⊢; omega) | (have h2 : W0.drew.heap.size = W0.heap.size := rfl; simp [World.drew] at h1 ⊢; omega))))
     | (refine pile_rv (Y := (w1.alloc (.cells zs 3))) (HZ.out _ _ rfl) ?_ ?_ hr1 ?_ ?_; (focus (first | rfl | (simp; done))); (focus ((repeat (first | exact Below.refl _ _ | apply below_alloc | apply below_drew1 | refine below_step ?_ hb1)); done)); (focus (have h1 := hb1.size; first | omega | (simp at h1 ⊢; done) | (simp at h1 ⊢; omega) | (have h2 : W0.drew.heap.size = W0.heap.size := rfl; simp [World.drew] at h1 ⊢; omega))); (focus (have h1 := hb1.size; first | omega | (simp at h1 ⊢; done) | (simp at h1 ⊢; omega) | (have h2 : W0.drew.heap.size = W0.heap.size := rfl; simp [World.drew] at h1 ⊢; omega))))
     | (refine pile_rv (Y := W0) (HZ.out _ _ rfl) ?_ ?_ hr1 ?_ ?_; (focus (first | rfl | (simp; done))); (focus ((repeat (first | exact Below.refl _ _ | apply below_alloc | apply below_drew1 | refine below_step ?_ hb1)); done)); (focus (have h1 := hb1.size; first | omega | (simp at h1 ⊢; done) | (simp at h1 ⊢; omega) | (have h2 : W0.drew.heap.size = W0.heap.size := rfl; simp [World.drew] at h1 ⊢; omega))); (focus (have h1 := hb1.size; first | omega | (simp at h1 ⊢; done) | (simp at h1 ⊢; omega) | (have h2 : W0.drew.heap.size = W0.heap.size := rfl; simp [World.drew] at h1 ⊢; omega))))
     | (refine pile_rv (Y := (W0.alloc (.cells zs 3))) (HZ.out _ _ rfl) ?_ ?_ hr1 ?_ ?_; (focus (first | rfl | (simp; done))); (focus ((repeat (first | exact Below.refl _ _ | apply below_alloc | apply below_drew1 | refine below_step ?_ hb1)); done)); (focus (have h1 := hb1.size; first | omega | (simp at h1 ⊢; done) | (simp at h1 ⊢; omega) | (have h2 : W0.drew.heap.size = W0.heap.size := rfl; simp [World.drew] at h1 ⊢; omega))); (focus (have h1 := hb1.size; first | omega | (simp at h1 ⊢; done) | (simp at h1 ⊢; omega) | (have h2 : W0.drew.heap.size = W0.heap.size := rfl; simp [World.drew] at h1 ⊢; omega))))
     | fail
end Go.Proofs.Ytffdiakgjakngaa.P
