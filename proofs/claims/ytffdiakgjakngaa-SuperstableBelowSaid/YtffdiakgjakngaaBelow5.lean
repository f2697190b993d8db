/- A part of the proof that SuperstableBelow answers true (text 5 of 12): own walks and plain laws; no conditions. -/
import Derived.Deep.RegionHeld3
import Derived.Laws.EntriesVeiled
import Derived.Test.YtffdiakgjakngaaBelow4
namespace Go.Proofs.Ytffdiakgjakngaa.P
open Go.RowKit Go.Proofs.YtffdiakgjakngaaW.PrintWords Go.Proofs.YtffdiakgjakngaaW.PrintLast Go.Proofs.YtffdiakgjakngaaW.PrintMore
set_option linter.unusedVariables false
set_option linter.unusedSimpArgs false
set_option maxHeartbeats 8000000
set_option maxRecDepth 100000
section
attribute [local go_sem] Oper.semAt_some
theorem singles_calls (N : Int) (A0 : Option Addr) (c0 : Nat) (E : List S66) (w : World) : Calls Try.prog 114 #[.agg #[.int .i64 N, .slice A0 E.length c0]] w fun e w' => e = .returned (.func (.func 121) #[] #[.pointer (some ⟨w.heap.size, 0, none⟩)]) ∧ w' = w.alloc (.cells #[.int .i64 N, .slice A0 E.length c0] 24) := by
 go_enter Try.func114, Try.ntmps114
 go_wp2
 go_ret
 exact ⟨rfl, rfl⟩
def someOf (s : Nat) (a b : Int) : Nat → List (Nat × Int × Int)
 | 0 => []
 | j + 1 => someOf s a b j ++ [(s + j, a, b)]
def singlesTo (E : List S66) : Nat → List (Nat × Int × Int)
 | 0 => []
 | k + 1 => singlesTo E k ++ someOf (sizeTo E k) (rd_T66 E k).f0 (rd_T66 E k).f1 (rd_T66 E k).f2.toNat
theorem someOf_length (s : Nat) (a b : Int) : ∀ j, (someOf s a b j).length = j
 | 0 => rfl
 | j + 1 => by simp [someOf, someOf_length s a b j]
theorem singlesTo_length (E : List S66) : ∀ k, (singlesTo E k).length = sizeTo E k
 | 0 => rfl
 | k + 1 => by simp [singlesTo, sizeTo, singlesTo_length E k, someOf_length]
def KeepG (base : Nat) (X Y : World) : Prop := (base ≤ X.heap.size → Below base X Y) ∧ ∀ (k : Nat) (cs : Array Value) (t : TypeId), (t = 24 ∨ t = 66) → X.heap[k]? = some (Obj.cells cs t (0, 0)) → Y.heap[k]? = some (Obj.cells cs t (0, 0))
theorem singles1_seq (bx : Nat) (N : Int) (A0 : Option Addr) (c0 : Nat) (E : List S66) (w0 W : World) (hr0 : Kd.C k66 w0 A0 E.length E) (hE : multsOk E = true) (hB : Below w0.heap.size w0 W)
  (hbox : W.heap[bx]? = some (.cells #[.int .i64 N, .slice A0 E.length c0] 24 (0, 0))) :
  SeqSt (σ := Unit) Fence.wide 9 Try.prog 121 #[.pointer (some ⟨bx, 0, none⟩)] (fun x : Nat × Int × Int => #[.int .i64 x.1, .agg #[.int .i64 x.2.1, .int .i64 x.2.2]]) (fun _ W W1 => W1 = W) (fun _ A B => Below A.heap.size A B) (fun _ _ A B => Below A.heap.size A B)
   (fun _ X Y => KeepG w0.heap.size X Y)
   (fun _ xs W' => xs = singlesTo E E.length) (fun _ _ _ => True) (fun pre => pre.length < 2000) W := by
 intro lp J Jx hJs0 hJxs0 hJ00 hY0
 have hJs := Aside0.mk hJs0
 have hJxs := Aside0.mk hJxs0
 have hY := Aside0.mk hY0
 have hJ0 := hJ00 () W rfl
 clear hJs0 hJxs0 hJ00 hY0
 have hu := Try.underlying24
 have hue := Try.underlying66
 obtain ⟨hlen, hm⟩ := multsOk_get hE
 have hsz := fun i hi => sizeTo_le hm i hi
 have HM := Aside0.mk hm
 have HS := Aside0.mk hsz
 clear hm hsz hE
 refine callsIn_of_wp Try.func121 rfl trivial ?_ rfl
 simp only [Try.ntmps121, List.size_toArray, List.length_cons, List.length_nil, Nat.reduceAdd, Nat.reduceSub, Array.replicate_succ, Array.replicate_zero, List.push_toArray, List.append_toArray, List.nil_append, List.cons_append]
 have hb1 : W.cell? ⟨bx, 1, none⟩ = some (.slice A0 E.length c0) := (blk_cell hbox 1).trans rfl
 have HBX := Aside0.mk hbox
 clear hbox
 gi_wp2
 gi_loopg [3, 9] (E.length) (fun kq s i wr => ∃ k : Nat, i = .int .i64 k ∧ s = .int .i64 (sizeTo E k : Nat) ∧ k ≤ E.length ∧ Aside0 (J () (singlesTo E k) wr) ∧ Aside0 (wr.heap[bx]? = some (.cells #[.int .i64 N, .slice A0 E.length c0] 24 (0, 0))) ∧ Aside0 (Below w0.heap.size w0 wr) ∧ Aside0 (kq = E.length - k))
 case atStart => exact ⟨0, rfl, rfl, Nat.zero_le _, ⟨hJ0⟩, HBX, ⟨hB⟩, ⟨rfl⟩⟩
 case round =>
  obtain ⟨k, rfl, rfl, hk, HJ, HX, HB, HK⟩ := hrel
  by_cases hlt : k < E.length
  ·have hmk := HM.out k hlt
   have Hss := Lib.hid (show sizeTo E (k + 1) = sizeTo E k + (rd_T66 E k).f2.toNat from rfl)
   have Hst := Lib.hid (show singlesTo E (k + 1) = singlesTo E k ++ someOf (sizeTo E k) (rd_T66 E k).f0 (rd_T66 E k).f1 (rd_T66 E k).f2.toNat from rfl)
   have hsk := HS.out (k + 1) (by omega)
   have hss := Hss.out
   obtain ⟨ad, rfl, hx0, hx1, hx2⟩ := at_T66 hr0 k (by omega) (by omega)
   rw [Int.toNat_natCast] at hx0 hx1 hx2
   generalize rd_T66 E k = x at hmk hx0 hx1 hx2 Hss Hst hss
   obtain ⟨a, b, m⟩ := x
   simp only at hmk hx0 hx1 hx2
   obtain ⟨m, rfl⟩ := Int.eq_ofNat_of_zero_le (show 0 ≤ m by omega)
   simp only [Int.toNat_natCast] at hss
   have hbig : sizeTo E k + m ≤ 2000 := by omega
   have hm50 : m ≤ 50 := by omega
   have hk0 : (0 : Int) ≤ (k : Int) := by omega
   have hk1 : (k : Int) < (E.length : Int) := by omega
   have hx0 := pw_cell_below HB.out hx0
   have hx1 := pw_cell_below HB.out hx1
   have hx2 := pw_cell_below HB.out hx2
   have HJ1 := Aside0.mk (hJs.out () _ _ _ HJ.out (below_alloc (Below.refl wr.heap.size wr) (.cells #[.int .i64 a, .int .i64 b, .int .i64 m] 66)))
   have HX1 := Aside0.mk (blk_alloc HX.out (.cells #[.int .i64 a, .int .i64 b, .int .i64 m] 66))
   have HB1 := Aside0.mk (below_alloc HB.out (.cells #[.int .i64 a, .int .i64 b, .int .i64 m] 66))
   have HE1 := Aside0.mk (show (wr.alloc (.cells #[.int .i64 a, .int .i64 b, .int .i64 m] 66)).heap[wr.heap.size]? = some (.cells #[.int .i64 a, .int .i64 b, .int .i64 m] 66 (0, 0)) from heap_alloc_new _ _)
   clear hss hsk hmk
   gi_wp2
   clear hx0 hx1 hx2
   generalize (wr.alloc (.cells #[.int .i64 a, .int .i64 b, .int .i64 m] 66)) = W1 at HJ1 HX1 HB1 HE1 ⊢
   generalize wr.heap.size = eb at HE1 ⊢
   gi_loopg [3, 15] (m) (fun kq s i wi => ∃ j : Nat, i = .int .i64 j ∧ s = .int .i64 (sizeTo E k + j : Nat) ∧ j ≤ m ∧ Aside0 (J () (singlesTo E k ++ someOf (sizeTo E k) a b j) wi) ∧ Aside0 (wi.heap[bx]? = some (.cells #[.int .i64 N, .slice (some ad) E.length c0] 24 (0, 0))) ∧ Aside0 (wi.heap[eb]? = some (.cells #[.int .i64 a, .int .i64 b, .int .i64 m] 66 (0, 0))) ∧ Aside0 (Below w0.heap.size w0 wi) ∧ Aside0 (kq = m - j))
   case atStart => exact ⟨0, rfl, rfl, Nat.zero_le _, ⟨by simpa [someOf] using HJ1.out⟩, HX1, HE1, HB1, ⟨rfl⟩⟩
   case round =>
    clear HJ1 HX1 HB1 HE1
    obtain ⟨j, rfl, rfl, hj, HJ2, HX2, HE2, HB2, HK2⟩ := hrel
    by_cases hjm : j < m
    ·have hlp := singlesTo_length E k
     have hlj := someOf_length (sizeTo E k) a b j
     obtain ⟨fn, tmps, asg, bdy, hy, hRo⟩ := hY.out () (singlesTo E k ++ someOf (sizeTo E k) a b j) (sizeTo E k + j, a, b) wr wr HJ2.out (Below.refl _ _) (by rw [List.length_append]; omega)
     have HRo := Aside0.mk hRo
     simp only [Int.natCast_add] at hy
     have hc0 : wr.cell? ⟨eb, 0, none⟩ = some (.int .i64 a) := (blk_cell HE2.out 0).trans rfl
     have hc1 : wr.cell? ⟨eb, 1, none⟩ = some (.int .i64 b) := (blk_cell HE2.out 1).trans rfl
     clear hRo hlp hlj
     gi_wp2
     refine HRo.out.mono ?_
     rintro e W3 (⟨rfl, hJ3, hk3⟩ | ⟨rfl, hJx3⟩)
     ·have HJ3 := Aside0.mk hJ3
      have HX3 := Aside0.mk (hk3.2 bx _ _ (.inl rfl) HX2.out)
      have HE3 := Aside0.mk (hk3.2 eb _ _ (.inr rfl) HE2.out)
      have HB3 := Aside0.mk (HB2.out.trans (hk3.1 HB2.out.size))
      clear hJ3 hk3 hy hc0 hc1
      gi_wp2
      gi_roundg (m - (j + 1))
      case measure => rw [HK2.out]; omega
      case rel => exact ⟨j + 1, by go_num, by go_num, by omega, ⟨by simpa [someOf] using HJ3.out⟩, HX3, HE3, HB3, ⟨rfl⟩⟩
     ·have HJx3 := Aside0.mk hJx3
      clear hJx3 hy hc0 hc1
      gi_wp2
      refine bodyPost_ret (results_none rfl _ _ _) rfl ?_
      exact ⟨⟨_, rfl⟩, .inr ⟨(), _, trivial, HJx3.out⟩⟩
    ·obtain rfl : j = m := by omega
     gi_wp2
     gi_roundg (E.length - (k + 1))
     case measure => rw [HK.out]; omega
     case rel => exact ⟨k + 1, by go_num, by rw [Hss.out, Int.toNat_natCast], by omega, ⟨by rw [Hst.out, Int.toNat_natCast]; exact HJ2.out⟩, HX2, HB2, ⟨rfl⟩⟩
  ·obtain rfl : k = E.length := by omega
   gi_wp2
   go_end0
   exact ⟨⟨_, rfl⟩, .inl ⟨(), _, rfl, HJ.out⟩⟩
end
end Go.Proofs.Ytffdiakgjakngaa.P
namespace Go.Proofs.Ytffdiakgjakngaa.P
open Go Go.RowKit
set_option linter.unusedVariables false
set_option linter.unusedSimpArgs false
set_option maxHeartbeats 8000000
set_option maxRecDepth 100000
section
variable {F : Fence} {n : Nat} {P : Program}
theorem wpIn_rangeFunc_sta {σ α : Type} {g : Operand} {ps : Array Tmp} {assign body : Code} {Q : Exit → Act → World → Prop} {a : Act} {w : World}
  (hro : F.round = none) (h1 : 1 ≤ n) {gf : Nat} {lb : Array Value} (hg : a.eval g = .func (.func gf) #[] lb) (hFg : F.fn gf) (eg : ∀ args w, (callFunc gf args).run P w = .ok (.enter gf args) w)
  {encs : α → Array Value} {Start : σ → World → World → Prop} {St : σ → World → World → Prop} {Ar : σ → α → World → World → Prop} {Kp : σ → World → World → Prop} {S Sp : σ → List α → World → Prop} {Bd : List α → Prop}
  (hseq : ∀ o, SeqSt F (n - 1) P gf lb encs Start St Ar Kp S Sp Bd ((w.alloc (.deferred (some []))).alloc (.loop o))) (hps : ∀ x, (encs x).size = ps.size)
  (Adm : σ → Prop) (hAdm : ∀ o s W1, Start s ((w.alloc (.deferred (some []))).alloc (.loop o)) W1 → Adm s ∧ KeepLD w.heap.size ((w.alloc (.deferred (some []))).alloc (.loop o)) W1)
  (hSt : ∀ s A B, Adm s → St s A B → KeepLD w.heap.size A B) (hAr : ∀ s x A B, Adm s → Ar s x A B → KeepLD w.heap.size A B)
  (I : σ → List α → World → Prop) (Ix : Code → σ → List α → World → Prop)
  (hIs : ∀ s pre A B, Adm s → I s pre A → St s A B → I s pre B) (hIxs : ∀ c s pre A B, Adm s → Ix c s pre A → St s A B → Ix c s pre B)
  (hIb : ∀ s pre A B, I s pre A → Bk (w.heap.size + 1) A B → I s pre B) (hIxb : ∀ c s pre A B, Ix c s pre A → Bk (w.heap.size + 1) A B → Ix c s pre B)
  (hKt : ∀ s A B C D, Bk (w.heap.size + 1) A B → Kp s B C → Bk (w.heap.size + 1) C D → Kp s A D)
  (h0 : ∀ o s W1, Start s ((w.alloc (.deferred (some []))).alloc (.loop o)) W1 → I s [] W1) (a₁ : α → World → Act) (w₁ : α → World → World)
  (hw₁ : ∀ x W, KeepLD w.heap.size W (w₁ x W)) (hKa : ∀ s x A D, Kp s (w₁ x A) D → Kp s A D)
  (hassign : ∀ (l : Nat) (x : α) (W : World) (K : Act → World → Prop), K (a₁ x W) (w₁ x W) →
   assign.wpIn (F.inRound l) (n - 1 - 1) P (Exit.then K (fun _ _ _ => False)) { tmps := (ps.zip (encs x)).foldl (fun t (p, v) => t.setIfInBounds p v) a.tmps, defers := [] } W)
  (hbody : ∀ (l : Nat) (s : σ) (pre : List α) (x : α) (Wb W1 W : World), Adm s → I s pre Wb → Ar s x Wb W1 → Bd pre → Bk (w.heap.size + 1) (w₁ x W1) W → body.wpIn (F.inRound l) (n - 1 - 1) P (postSt (σ := σ) w.heap.size (Kp s) (I s) (fun c => Ix c s) (pre ++ [x]) W) (a₁ x W1) W)
  (hdone : ∀ (s : σ) (xs : List α) (W W' : World), Adm s → S s xs W → I s xs W → Bk (w.heap.size + 1) W W' → W'.heap[w.heap.size]? = some (.deferred (some [])) → Q .normal { a with defers := { target := .collected w.heap.size, args := #[] } :: a.defers } W')
  (hstop : ∀ (c : Code) (s : σ) (pre : List α) (W W' : World), Adm s → Sp s pre W → Ix c s pre W → Bk (w.heap.size + 1) W W' → W'.heap[w.heap.size]? = some (.deferred (some [])) → c.wpIn F n P Q { a with defers := { target := .collected w.heap.size, args := #[] } :: a.defers } W') :
  (Code.rangeFunc g ps assign body).wpIn F n P Q a w := by
 refine wpIn_rangeFunc ?_
 intro fn hfn
 rw [hro]
 obtain ⟨rec, hrec⟩ : ∃ rec : LoopState → Option Code → Loop, rec = fun st pe => { state := st, pending := pe, fn, tmps := a.tmps, params := ps, assign, body, defers := w.heap.size } := ⟨_, rfl⟩
 obtain ⟨W1, hW1⟩ : ∃ W1, (w.alloc (.deferred (some []))).alloc (.loop (rec .ready none)) = W1 := ⟨_, rfl⟩
 have hL1 : W1.heap[w.heap.size + 1]? = some (.loop (rec .ready none)) := by
  rw [← hW1]; have := World.alloc_heap_new (w.alloc (.deferred (some []))) (.loop (rec .ready none)); rwa [World.size_alloc] at this
 have hK1 : W1.heap[w.heap.size]? = some (.deferred (some [])) := by
  rw [← hW1]; exact (Below.heap_alloc _ _ _ (by simp)).trans (World.alloc_heap_new w _)
 refine ⟨w.heap.size + 1, [{ target := .collected w.heap.size, args := #[] }], W1, { target := .fn (.func gf) lb, args := #[.func (.yield (w.heap.size + 1)) #[] #[]] }, W1, gf,
  #[.func (.yield (w.heap.size + 1)) #[] #[]] ++ lb, W1, ?_, ?_, ?_, ?_, fun _ => h1, ?_⟩
 ·rw [← hW1, hrec]; exact run_enterLoop_outer _ _ _ _ _
 ·simp only [resolve, hg]
  simp [go_sem]
 ·intro f' hf'; simp [Target.leads] at hf'; subst hf'; exact hFg
 ·simp [invoke, go_sem, eg]
 ·have hs := hseq (rec .ready none)
  rw [hW1] at hs
  have ld : ∀ {A B : World} {r : Loop}, KeepLD w.heap.size A B → A.heap[w.heap.size + 1]? = some (.loop r) → B.heap[w.heap.size + 1]? = some (.loop r) := fun h ho => h _ _ (by omega) (by omega) ho rfl
  have ldd : ∀ {A B : World}, KeepLD w.heap.size A B → A.heap[w.heap.size]? = some (.deferred (some [])) → B.heap[w.heap.size]? = some (.deferred (some [])) := fun h ho => h _ _ (by omega) (by omega) ho rfl
  refine (hs (w.heap.size + 1)
   (fun s pre W => Adm s ∧ I s pre W ∧ W.heap[w.heap.size + 1]? = some (.loop (rec .ready none)) ∧ W.heap[w.heap.size]? = some (.deferred (some [])))
   (fun s pre W => Adm s ∧ ∃ c, Ix c s pre W ∧ W.heap[w.heap.size + 1]? = some (.loop (rec .done (some c))) ∧ W.heap[w.heap.size]? = some (.deferred (some [])))
   (fun s pre A B h hst => ⟨h.1, hIs s pre A B h.1 h.2.1 hst, ld (hSt s A B h.1 hst) h.2.2.1, ldd (hSt s A B h.1 hst) h.2.2.2⟩)
   (fun s pre A B h hst => by
    obtain ⟨ha, c, hc, hl, hk⟩ := h
    exact ⟨ha, c, hIxs c s pre A B ha hc hst, ld (hSt s A B ha hst) hl, ldd (hSt s A B ha hst) hk⟩)
   (fun s W2 hst => by
    rw [← hW1] at hst
    have hk := hAdm (rec .ready none) s W2 hst
    have hkk := hk.2
    rw [hW1] at hkk
    exact ⟨hk.1, h0 _ s W2 hst, ld hkk hL1, ldd hkk hK1⟩)
   ?_).mono ?_
  ·rintro s pre x Wb W ⟨ha, hi, hl0, hk0⟩ har hbd
   have hkk := hAr s x Wb W ha har
   have hl := ld hkk hl0
   have hk := ldd hkk hk0
   have hy := run_yield (P := P) (args := encs x) hl (by rw [hrec]; exact hps x)
   rw [hrec] at hy
   obtain ⟨Wr, hWr⟩ : ∃ Wr, Wr = W := ⟨_, rfl⟩
   have hKW := hw₁ x W
   have hl := ld hKW hl
   have hk := ldd hKW hk
   have hKa' := fun D => hKa s x W D
   have hB' := hbody (w.heap.size + 1) s pre x Wb W
   have hA' := hassign (w.heap.size + 1) x W
   clear hkk hl0 hk0
   rw [← hWr] at hy hA' hKa' hB' hl hk hKW har ⊢
   generalize hw1W : w₁ x Wr = W at hl hk hKW hKa' hB' hA'
   have hlt : w.heap.size + 1 < W.heap.size := (Array.getElem?_eq_some_iff.1 hl).1
   have hbk : Bk (w.heap.size + 1) W (W.putObj (w.heap.size + 1) (.loop { rec .ready none with state := .busy })) := ⟨_, _, hl, rfl, rfl⟩
   refine ⟨fn, _, assign, body, hy, roundIn_of_wpIn hfn (hA' _ ⟨_, run_beginRound hl (by rw [hrec]), ?_⟩)⟩
   have hl2 : (W.putObj (w.heap.size + 1) (.loop { rec .ready none with state := .busy })).heap[w.heap.size + 1]? = some (.loop { rec .ready none with state := .busy }) := World.putObj_heap_same hlt
   have hk2 : (W.putObj (w.heap.size + 1) (.loop { rec .ready none with state := .busy })).heap[w.heap.size]? = some (.deferred (some [])) := (World.putObj_heap_other (by omega)).trans hk
   refine wpIn_mono (hB' _ ha hi har hbd hbk) ?_
   have fin : ∀ (jump : Option Code) (W3 : World), KeepLD w.heap.size (W.putObj (w.heap.size + 1) (.loop { rec .ready none with state := .busy })) W3 →
     (Instr.endRound (w.heap.size + 1) jump).run P W3 = .ok (.bool jump.isNone) (W3.putObj (w.heap.size + 1) (.loop (rec (if jump.isNone then .ready else .done) jump))) ∧
     Bk (w.heap.size + 1) W3 (W3.putObj (w.heap.size + 1) (.loop (rec (if jump.isNone then .ready else .done) jump))) ∧
     (W3.putObj (w.heap.size + 1) (.loop (rec (if jump.isNone then .ready else .done) jump))).heap[w.heap.size + 1]? = some (.loop (rec (if jump.isNone then .ready else .done) jump)) ∧
     (W3.putObj (w.heap.size + 1) (.loop (rec (if jump.isNone then .ready else .done) jump))).heap[w.heap.size]? = some (.deferred (some [])) := fun jump W3 hk3 => by
    have hl3 := ld hk3 hl2
    have := run_endRound (P := P) jump hl3
    rw [hrec] at this ⊢
    exact ⟨this, ⟨_, _, hl3, rfl, rfl⟩, World.putObj_heap_same (Array.getElem?_eq_some_iff.1 hl3).1, (World.putObj_heap_other (by omega)).trans (ldd hk3 hk2)⟩
   rintro e a3 W3 hp
   cases e with
   | normal =>
    obtain ⟨hk3, hkp3, hi3⟩ := hp
    obtain ⟨hr, hb4, hl4, hk4⟩ := fin none W3 hk3
    exact ⟨_, _, hr, .inl ⟨rfl, ⟨ha, hIb s _ _ _ hi3 hb4, hl4, hk4⟩, hKa' _ (hKt s _ _ _ _ hbk hkp3 hb4)⟩⟩
   | ret =>
    obtain ⟨hk3, hi3⟩ := hp
    obtain ⟨hr, hb4, hl4, hk4⟩ := fin (some .ret) W3 hk3
    exact ⟨_, _, hr, .inr ⟨rfl, ha, .ret, hIxb _ s _ _ _ hi3 hb4, hl4, hk4⟩⟩
   | exit id => exact hp.elim
   | goto t => exact hp.elim
   | panic ch => exact hp.elim
   | outgrown => exact hp.elim
  ·rintro e W2 ⟨⟨v, rfl⟩, (⟨s, xs, hS, ha, hi, hl, hk⟩ | ⟨s, pre, hSp, ha, c, hi, hl, hk⟩)⟩
   ·exact ⟨none, _, by have := run_endLoop (P := P) hl (by rw [hrec]; simp); rw [hrec] at this; exact this, hdone s xs W2 _ ha hS hi ⟨_, _, hl, rfl, rfl⟩ ((World.putObj_heap_other (by omega)).trans hk)⟩
   ·exact ⟨some c, _, by have := run_endLoop (P := P) hl (by rw [hrec]; simp); rw [hrec] at this; exact this, hstop c s pre W2 _ ha hSp hi ⟨_, _, hl, rfl, rfl⟩ ((World.putObj_heap_other (by omega)).trans hk)⟩
end
end Go.Proofs.Ytffdiakgjakngaa.P
namespace Go.Proofs.Ytffdiakgjakngaa.P
open Go.RowKit Go.Proofs.YtffdiakgjakngaaW.PrintWords Go.Proofs.YtffdiakgjakngaaW.PrintLast Go.Proofs.YtffdiakgjakngaaW.PrintMore
set_option linter.unusedVariables false
set_option linter.unusedSimpArgs false
set_option maxHeartbeats 8000000
set_option maxRecDepth 100000
section
attribute [local go_sem] Oper.semAt_some
def endRows (xs : List (Nat × Int × Int)) : List (List Value) := xs.map fun x => [.int .i64 x.2.1, .int .i64 x.2.2]
theorem ends_good (k : Nat) (N : Int) (A0 : Option Addr) (c0 : Nat) (E : List S66) (w : World) (hr0 : Kd.C k66 w A0 E.length E) (hc0 : E.length ≤ c0) (ht : graph_Check.f k N E = some 0) (hE : multsOk E = true) :
  Calls Try.prog 105 #[.agg #[.int .i64 N, .slice A0 E.length c0]] w fun e w' => ∃ v, e = .returned (.tuple #[v, .int .i64 0]) ∧ (Kd.raw 2).R 115 w' w.heap.size (fun _ => True) v (endRows (singlesTo E E.length)) ∧ Below w.heap.size w w' := by
 have hu := Try.underlying24
 have Ht := Aside0.mk ht
 have HE := Aside0.mk hE
 clear ht hE
 refine (callsIn_wide (n := 10)).1 ?_
 refine callsIn_of_wp_marks Try.func105 rfl trivial ?_ rfl
 simp only [Try.ntmps105, List.size_toArray, List.length_cons, List.length_nil, Nat.reduceAdd, Nat.reduceSub, Array.replicate_succ, Array.replicate_zero, List.push_toArray, List.append_toArray, List.nil_append, List.cons_append]
 gi_wp2_with (first | (refine ⟨trivial, ?_⟩; gi_at_call 113; refine (callsIn_wide.2 (graph_Check.calls k N A0 c0 E 0 _ (Kd.C_alloc hr0 _) hc0 Ht.out)).mono ?_; rintro e w1 ⟨rfl, hb⟩; have HBX := Aside0.mk (blk_below (heap_alloc_new w (.cells #[.int .i64 N, .slice A0 E.length c0] 24)) hb); have hx0 : w1.cell? ⟨w.heap.size, 0, none⟩ = some (.int .i64 N) := (blk_cell HBX.out 0).trans rfl; have hx1 : w1.cell? ⟨w.heap.size, 1, none⟩ = some (.slice A0 E.length c0) := (blk_cell HBX.out 1).trans rfl; have hy0 : (w1.alloc (.cells #[.slice none 0 0] 95)).cell? ⟨w.heap.size, 0, none⟩ = some (.int .i64 N) := (blk_cell (blk_alloc HBX.out _) 0).trans rfl; have hy1 : (w1.alloc (.cells #[.slice none 0 0] 95)).cell? ⟨w.heap.size, 1, none⟩ = some (.slice A0 E.length c0) := (blk_cell (blk_alloc HBX.out _) 1).trans rfl; have HB := Aside0.mk (below_step (below_alloc (Below.refl w.heap.size w) _) hb); clear hb) | (refine ⟨trivial, ?_⟩; gi_at_call 114; refine (callsIn_wide.2 (singles_calls N A0 c0 E _)).mono ?_; rintro e w3 ⟨rfl, rfl⟩))
 have hwl : w.heap.size < w1.heap.size := blk_lt HBX.out
 have HX3 := Aside0.mk (show ((w1.alloc (.cells #[.slice none 0 0] 95)).alloc (.cells #[.int .i64 N, .slice A0 E.length c0] 24)).heap[w1.heap.size]? = some (.cells #[.slice none 0 0] 95 (0, 0)) from blk_alloc (heap_alloc_new w1 _) _)
 have HG3 := Aside0.mk (show ((w1.alloc (.cells #[.slice none 0 0] 95)).alloc (.cells #[.int .i64 N, .slice A0 E.length c0] 24)).heap[w1.heap.size + 1]? = some (.cells #[.int .i64 N, .slice A0 E.length c0] 24 (0, 0)) from heap_alloc2_new w1 _ _)
 have HB3 := Aside0.mk (below_alloc (below_alloc HB.out (.cells #[.slice none 0 0] 95)) (.cells #[.int .i64 N, .slice A0 E.length c0] 24))
 clear hx0 hx1 hy0 hy1 HBX HB
 generalize ((w1.alloc (.cells #[.slice none 0 0] 95)).alloc (.cells #[.int .i64 N, .slice A0 E.length c0] 24)) = W3 at HX3 HG3 HB3 ⊢
 have hbo := blk_lt HX3.out
 have hbx := blk_lt HG3.out
 generalize hbx1 : w1.heap.size + 1 = bx at HG3 hbx ⊢
 generalize w1.heap.size = bo at HX3 hwl hbo hbx1 ⊢
 have hws := HB3.out.size
 refine wpIn_rangeFunc_sta (σ := Unit) (α := Nat × Int × Int) (F := Fence.wide) (n := 10) rfl (by decide) (gf := 121) (lb := #[.pointer (some ⟨bx, 0, none⟩)]) rfl trivial (enters_of Try.func121 (by kernel_rfl) rfl)
  (fun o => singles1_seq bx N A0 c0 E w _ hr0 HE.out (below_alloc (below_alloc HB3.out _) _) (blk_alloc (blk_alloc HG3.out _) _)) (fun _ => rfl)
  (fun _ => True) ?adm ?st ?ar
  (fun _ pre W => W3.heap.size ≤ W.heap.size ∧ ∃ v, W.heap[bo]? = some (.cells #[v] 95 (0, 0)) ∧ (Kd.raw 2).R 115 W w.heap.size (fun _ => True) v (endRows pre) ∧ Below w.heap.size w W) (fun _ _ _ _ => False)
  ?is (fun _ _ _ _ _ _ h _ => h) ?ib (fun _ _ _ _ _ h _ => h) ?kt ?h0 ?a1 (fun x W => W.alloc (.cells #[.int .i64 x.2.1, .int .i64 x.2.2] 137)) ?hw ?hka ?assign ?body ?done (fun _ _ _ _ _ _ _ h => h.elim)
 case assign =>
  intro l x W K hK
  gi_wp2
  exact hK
 case adm =>
  intro o s W1 h
  exact ⟨trivial, by rw [h]; exact KeepLD.refl _ _⟩
 case st => intro s A B _ h k o h1 h2 h3 _; exact (h.block k (Array.getElem?_eq_some_iff.1 h3).1).trans h3
 case ar => intro s x A B _ h k o h1 h2 h3 _; exact (h.block k (Array.getElem?_eq_some_iff.1 h3).1).trans h3
 case hw => intro x W k o h1 h2 h3 _; exact blk_alloc h3 _
 case hka =>
  intro s x A D h
  exact ⟨fun hsz => ((Below.refl w.heap.size A).alloc hsz _).trans (h.1 (by simp; omega)), fun k cs t ht hk => h.2 k cs t ht (blk_alloc hk _)⟩
 case is =>
  rintro s pre A B _ ⟨hs, v, h1, h2, h3⟩ hst
  exact ⟨Nat.le_trans hs hst.size, v, blk_below h1 hst, Kd.R_below h2 hst, below_step h3 hst⟩
 case ib =>
  rintro s pre A B ⟨hs, v, h1, h2, h3⟩ hb
  exact ⟨by rw [hb.size]; exact hs, v, hb.cells h1, R_bk h2 hb, h3.trans (hb.below w.heap.size (by omega))⟩
 case kt =>
  intro s A B C D hab hbc hcd
  exact ⟨fun hsz => ((hab.below w.heap.size (by omega)).trans (hbc.1 (by rw [hab.size]; exact hsz))).trans (hcd.below w.heap.size (by omega)), fun k cs t ht hk => hcd.cells (hbc.2 k cs t ht (hab.cells hk))⟩
 case h0 =>
  rintro o s W1 rfl
  exact ⟨by simp; omega, _, blk_alloc (blk_alloc HX3.out _) _, Kd.R_nil _ _ _ _ _, below_alloc (below_alloc HB3.out _) _⟩
 case body =>
  rintro l s pre ⟨i, a, b⟩ Wb W1 W _ ⟨hs, v, i1, i2, i3⟩ har hbd hbk
  have c1 := blk_below i1 har
  have c2 := Kd.R_below i2 har
  have c3 := below_step i3 har
  have hsW : W3.heap.size ≤ W1.heap.size := Nat.le_trans hs har.size
  have b1 := Aside0.mk (hbk.cells (blk_alloc c1 (.cells #[.int .i64 a, .int .i64 b] 137)))
  have b2 := Aside0.mk (R_bk (Kd.R_alloc c2 (.cells #[.int .i64 a, .int .i64 b] 137)) hbk)
  have b3 := Aside0.mk ((below_alloc c3 (.cells #[.int .i64 a, .int .i64 b] 137)).trans (hbk.below w.heap.size (by omega)))
  have b4 := Aside0.mk (hbk.cells (heap_alloc_new W1 (.cells #[.int .i64 a, .int .i64 b] 137)))
  have hsz : W.heap.size = W1.heap.size + 1 := by rw [hbk.size]; simp
  have hWb : W3.heap.size ≤ W.heap.size := by omega
  clear i1 i2 i3 har hbk c1 c2 c3 hsz hsW hs
  generalize W1.heap.size = pb at b4 ⊢
  obtain ⟨Ar, cr, rfl⟩ := Kd.R_slice b2.out
  have hep : (endRows pre).length = pre.length := by simp [endRows]
  rw [hep] at b1 b2
  have hc := keeps_box b1.out
  have hf := blk_frozen b1.out 0
  have hp0 : W.cell? ⟨pb, 0, none⟩ = some (.int .i64 a) := (blk_cell b4.out 0).trans rfl
  have hp1 : W.cell? ⟨pb, 1, none⟩ = some (.int .i64 b) := (blk_cell b4.out 1).trans rfl
  have LN : Aside0 (((endRows pre).length + 1) * 16 ≤ 140737488355328) := ⟨by rw [hep]; omega⟩
  have hup := Try.underlying137
  gi_wp2_with (gi_at_builtin; go_loud (refine R_append_in (Kd.raw 2) (w0 := w) w.heap.size rfl (.tmp 17) (.tmp 23) 95 115 (.agg #[.int .i64 0, .int .i64 0]) 16 rfl Try.underlying95 infoEnds rfl (by decide) (by omega) _ _ [.int .i64 a, .int .i64 b] [.int .i64 a, .int .i64 b] (fun _ => True) (fun _ => False) rfl rfl ⟨rfl, rfl, by simp [Value.oneCell']⟩ (fun _ hk => hk.elim) (fun _ _ => trivial) b2.out b3.out b3.out.size LN.out ?_; intro v1 w1' hown hb hgr hat; obtain ⟨A1, c1, rfl⟩ := Kd.R_slice hown; have X1 := Aside0.mk ((hgr.block bo (blk_lt b1.out) (Kd.R_ne b2.out b1.out (by decide))).trans b1.out); have hc1 := keeps_box X1.out; have hf1 := blk_frozen X1.out 0; have HO1 := Aside0.mk hown; have HB1 := Aside0.mk hb; have HG1 := Aside0.mk hgr; clear hown hb hgr hat))
  have hln : (endRows pre ++ [[Value.int .i64 a, Value.int .i64 b]]).length = pre.length + 1 := by simp [endRows]
  refine ⟨(keepLD_append b2.out HG1.out).trans (keepLD_set _ _ (blk_lt HX3.out)), ⟨fun hsz => Below.setCell ((Below.refl w.heap.size W).grown HG1.out hsz (Kd.R_base b2.out)) (by show w.heap.size ≤ bo; omega) _, fun k cs t ht hk => ?_⟩, by have := HG1.out.size; simp; omega, .slice A1 (pre.length + 1) c1, by simpa using blk_set X1.out 0 (.slice A1 (pre.length + 1) c1), ?_, below_set HB1.out (by show w.heap.size ≤ bo; omega)⟩
  ·have hkb : k ≠ bo := by
    rintro rfl
    have h1 := hk.symm.trans b1.out
    injection h1 with h1
    injection h1 with _ h1 _
    rcases ht with rfl | rfl <;> exact absurd h1 (by decide)
   rw [Below.heap_setCell _ _ _ _ hkb]
   exact (HG1.out.block k (blk_lt hk) (Kd.R_ne b2.out hk (by rcases ht with rfl | rfl <;> decide))).trans hk
  ·have h := Kd.R_set HO1.out X1.out (by decide) 0 (.slice A1 (pre.length + 1) c1)
   rw [hln] at h
   simpa [endRows] using h
 case done =>
  rintro s xs W W' _ rfl ⟨hs, v, i1, i2, i3⟩ hbk hdf
  have b1 := Aside0.mk (hbk.cells i1)
  have b2 := Aside0.mk (R_bk i2 hbk)
  have b3 := Aside0.mk (i3.trans (hbk.below w.heap.size (by omega)))
  have HDF := Aside0.mk hdf
  clear i1 i2 i3 hdf
  have hc := keeps_box b1.out
  gi_wp2_with fail
  have hbk5 : Bk W3.heap.size W' (W'.putObj W3.heap.size (.deferred none)) := ⟨_, _, HDF.out, rfl, rfl⟩
  exact bodyPostM_one (D := W3.heap.size) rfl HDF.out (results_tmp2 rfl _ _ _) ⟨_, rfl, R_bk b2.out hbk5, b3.out.trans (hbk5.below w.heap.size (by omega))⟩
end
section
theorem endRows_length (L : List (Nat × Int × Int)) : (endRows L).length = L.length := by simp [endRows]
theorem someOf_mem {s : Nat} {a b : Int} : ∀ {j : Nat} {x : Nat × Int × Int}, x ∈ someOf s a b j → x.2.1 = a ∧ x.2.2 = b
 | 0, x, h => absurd h (by simp [someOf])
 | j + 1, x, h => by
  simp only [someOf, List.mem_append, List.mem_singleton] at h
  rcases h with h | rfl
  ·exact someOf_mem h
  ·exact ⟨rfl, rfl⟩
theorem singlesTo_in {n : Nat} {E : List S66} (h : ∀ k, k < E.length → 0 ≤ (rd_T66 E k).f0 ∧ (rd_T66 E k).f0 < n ∧ 0 ≤ (rd_T66 E k).f1 ∧ (rd_T66 E k).f1 < n ∧ 1 ≤ (rd_T66 E k).f2 ∧ (rd_T66 E k).f2 ≤ 50) :
  ∀ k, k ≤ E.length → ∀ x ∈ singlesTo E k, 0 ≤ x.2.1 ∧ x.2.1 < n ∧ 0 ≤ x.2.2 ∧ x.2.2 < n
 | 0, _ => fun x hx => absurd hx (by simp [singlesTo])
 | k + 1, hk => fun x hx => by
  simp only [singlesTo, List.mem_append] at hx
  rcases hx with hx | hx
  ·exact singlesTo_in h k (by omega) x hx
  ·obtain ⟨h1, h2⟩ := someOf_mem hx
   have := h k (by omega)
   omega
theorem singles_in {n : Nat} {E : List S66} (h : ∀ k, k < E.length → 0 ≤ (rd_T66 E k).f0 ∧ (rd_T66 E k).f0 < n ∧ 0 ≤ (rd_T66 E k).f1 ∧ (rd_T66 E k).f1 < n ∧ 1 ≤ (rd_T66 E k).f2 ∧ (rd_T66 E k).f2 ≤ 50) :
  ∀ x ∈ singlesTo E E.length, 0 ≤ x.2.1 ∧ x.2.1 < n ∧ 0 ≤ x.2.2 ∧ x.2.2 < n := singlesTo_in h _ (Nat.le_refl _)
theorem singles_le {E : List S66} (h : multsOk E = true) : (singlesTo E E.length).length ≤ 2000 := by
 obtain ⟨h1, h2⟩ := multsOk_get h
 have := sizeTo_le h2 E.length (Nat.le_refl _)
 rw [singlesTo_length]; omega
def incr (l : List Int) (v : Nat) : List Int := l.set v (rd l v + 1)
def valStep (l : List Int) (x : Nat × Int × Int) : List Int := if x.2.1 = x.2.2 then l else incr (incr l x.2.1.toNat) x.2.2.toNat
def valTo (n : Nat) (L : List (Nat × Int × Int)) (k : Nat) : List Int := (L.take k).foldl valStep (List.replicate n 0)
theorem incr_length (l : List Int) (v : Nat) : (incr l v).length = l.length := by simp [incr]
theorem valStep_length (l : List Int) (x : Nat × Int × Int) : (valStep l x).length = l.length := by
 unfold valStep
 split <;> simp [incr_length]
theorem foldl_valStep_length : ∀ (L : List (Nat × Int × Int)) (l : List Int), (L.foldl valStep l).length = l.length
 | [], l => rfl
 | x :: L, l => by rw [List.foldl_cons, foldl_valStep_length L, valStep_length]
theorem valTo_length (n : Nat) (L : List (Nat × Int × Int)) (k : Nat) : (valTo n L k).length = n := by simp [valTo, foldl_valStep_length]
theorem valTo_succ (n : Nat) (L : List (Nat × Int × Int)) (k : Nat) (hk : k < L.length) : valTo n L (k + 1) = valStep (valTo n L k) L[k] := by
 unfold valTo
 rw [List.take_succ_eq_append_getElem hk, List.foldl_append]
 rfl
theorem rd_set_bound {l : List Int} {v : Nat} {B : Int} {x : Int} (h : ∀ i : Nat, 0 ≤ rd l i ∧ rd l i ≤ B) (hx : 0 ≤ x ∧ x ≤ B + 1) (i : Nat) : 0 ≤ rd (l.set v x) i ∧ rd (l.set v x) i ≤ B + 1 := by
 have hi := h i
 simp only [rd, Int.toNat_natCast, List.getD_eq_getElem?_getD, List.getElem?_set] at hi ⊢
 split
 ·split
  ·simpa using hx
  ·simp; omega
 ·omega
theorem incr_bound {l : List Int} {v : Nat} {B : Int} (h : ∀ i : Nat, 0 ≤ rd l i ∧ rd l i ≤ B) (i : Nat) : 0 ≤ rd (incr l v) i ∧ rd (incr l v) i ≤ B + 1 :=
 rd_set_bound h (by have := h v; omega) i
theorem valStep_bound {l : List Int} {x : Nat × Int × Int} {B : Int} (h : ∀ i : Nat, 0 ≤ rd l i ∧ rd l i ≤ B) (i : Nat) : 0 ≤ rd (valStep l x) i ∧ rd (valStep l x) i ≤ B + 2 := by
 unfold valStep
 split
 ·have := h i; omega
 ·have := incr_bound (v := x.2.2.toNat) (incr_bound (v := x.2.1.toNat) h) i; omega
theorem foldl_valStep_bound : ∀ (L : List (Nat × Int × Int)) (l : List Int) (B : Int), (∀ i : Nat, 0 ≤ rd l i ∧ rd l i ≤ B) → ∀ i : Nat, 0 ≤ rd (L.foldl valStep l) i ∧ rd (L.foldl valStep l) i ≤ B + 2 * L.length
 | [], l, B, h => fun i => by have := h i; simpa using this
 | x :: L, l, B, h => fun i => by
  have := foldl_valStep_bound L (valStep l x) (B + 2) (valStep_bound h) i
  simp only [List.foldl_cons, List.length_cons]
  omega
theorem valTo_bound (n : Nat) (L : List (Nat × Int × Int)) (k : Nat) (i : Nat) : 0 ≤ rd (valTo n L k) i ∧ rd (valTo n L k) i ≤ 2 * L.length := by
 have h := foldl_valStep_bound (L.take k) (List.replicate n 0) 0 (fun i => by simp [rd, List.getD_eq_getElem?_getD, List.getElem?_replicate]; split <;> simp) i
 have hl : (L.take k).length ≤ L.length := by simp; omega
 unfold valTo
 omega
theorem rows_bump {W : World} {gb n : Nat} {ok : Nat → Prop} {g0 len cap : Nat} {rows : List (List Int)} (h : Kd.S (Kd.slice 3 (Kd.int .i64)) 33 W gb ok (.slice (some ⟨g0, 0, none⟩) len cap) rows) (hl : rows.length = len) (hY : ∀ y ∈ rows, y.length = n) (a b : Nat) (ha : a < len) (hb : b < n) :
  ∃ (gi ci : Nat) (z : Int), W.cell? ⟨g0, a, none⟩ = some (.slice (some ⟨gi, 0, none⟩) n ci) ∧ W.cell? ⟨gi, b, none⟩ = some (.int .i64 z) ∧ W.frozen? ⟨gi, b, none⟩ = false ∧ ok gi ∧ gb ≤ gi ∧ (∃ cells, W.heap[gi]? = some (.cells cells 3 (0, 0))) ∧
   ∀ x : Int, ∃ rows' : List (List Int), rows'.length = len ∧ (∀ y ∈ rows', y.length = n) ∧ Kd.S (Kd.slice 3 (Kd.int .i64)) 33 (W.setCell ⟨gi, b, none⟩ (.int .i64 x)) gb ok (.slice (some ⟨g0, 0, none⟩) len cap) rows' := by
 obtain ⟨oki, c, hcl, ⟨ev, rfl, hR⟩, hcc, hoki, hback⟩ := Kd.S_borrow h [] (a : Int) (by omega) (by omega)
 rw [Int.toNat_natCast] at hR hcc hback
 have hya : (rows.getD a []).length = n := by
  rw [List.getD_eq_getElem?_getD, List.getElem?_eq_getElem (by omega)]
  exact hY _ (List.getElem_mem (by omega))
 obtain ⟨gi, ci, rfl, hgb, hlt, cells, hbk⟩ := Kd.R_form hR (by omega)
 rw [hya] at hR hback hcc
 obtain ⟨hc1, hc2⟩ := Kd.R_celln (0 : Int) hR (b : Int) (by omega) (by omega)
 rw [Int.toNat_natCast] at hc1 hc2
 have h0 := hcc 0 _ rfl
 refine ⟨gi, ci, _, ?_, hc1, hc2, (hoki gi (hR.1 gi rfl)).1, hgb, ⟨cells, hbk⟩, fun x => ⟨rows.set a ((rows.getD a []).set b x), by simp [hl], ?_, ?_⟩⟩
 ·rw [show (⟨g0, 0, none⟩ : Addr).add (a * (Kd.slice 3 (Kd.int .i64)).sz + 0) = ⟨g0, a, none⟩ from by simp [Kd.slice, Addr.add]; intro e; exact e.symm] at h0
  exact h0
 ·intro y hy
  rcases List.mem_or_eq_of_mem_set hy with h1 | h1
  ·exact hY y h1
  ·subst h1; simpa using hya
 ·have hp := Kd.R_putg hR (b : Int) x
  rw [Int.toNat_natCast] at hp
  exact hback hp.2 (fun k hk => by cases hk; exact hR.1 gi rfl) ⟨_, rfl, hp.1⟩
theorem at_ends {w : World} {A : Option Addr} {n : Nat} {L : List (Nat × Int × Int)} (h : Kd.C (Kd.raw 2) w A n (endRows L)) (j : Nat) (hj : j < n) (hL : j < L.length) : ∃ ad, A = some ad ∧ w.cell? (ad.add (j * 2)) = some (.int .i64 L[j].2.1) ∧ w.cell? ⟨(ad.add (j * 2)).block, (ad.add (j * 2)).off + 1, none⟩ = some (.int .i64 L[j].2.2) := by
 obtain ⟨ad, c, e, _, hK, hc0⟩ := Kd.C_get h [] (j : Int) (by omega) (by omega)
 rw [Int.toNat_natCast] at hK hc0
 have hr : (endRows L).getD j [] = [.int .i64 L[j].2.1, .int .i64 L[j].2.2] := by
  rw [List.getD_eq_getElem?_getD, List.getElem?_eq_getElem (by simpa [endRows] using hL)]
  simp [endRows]
 rw [hr] at hK
 obtain rfl := hK.1
 have hc : ∀ k u, [Value.int .i64 L[j].2.1, .int .i64 L[j].2.2][k]? = some u → w.cell? (ad.add (j * 2 + k)) = some u := hc0
 exact ⟨ad, e, hc 0 _ rfl, by rw [← add_field _ _ 1 (by omega)]; exact hc 1 _ rfl⟩
structure PS (w : World) (gb n gp bv g0 cr : Nat) (q : Int) (dv : Value) (dl : List Int) (ev : Value) (L : List (Nat × Int × Int)) (W : World) (rows : List (List Int)) (vl : List Int) : Prop where
 len : rows.length = n
 all : ∀ y ∈ rows, y.length = n
 pile : PileAt W gp dv q (.slice (some ⟨g0, 0, none⟩) n cr) (.slice (some ⟨bv, 0, none⟩) n n) (fun _ => false)
 d : (Kd.int .i64).R 3 W gb (fun k => k ≠ bv) dv dl
 val : (Kd.int .i64).R 3 W gb (fun k => some k ≠ dv.ownBlock) (.slice (some ⟨bv, 0, none⟩) n n) vl
 rows : Kd.S (Kd.slice 3 (Kd.int .i64)) 33 W gb (fun k => some k ≠ dv.ownBlock ∧ k ≠ bv) (.slice (some ⟨g0, 0, none⟩) n cr) rows
 ends : (Kd.raw 2).R 115 W gb (fun _ => True) ev (endRows L)
 below : Below gb w W
namespace PS
variable {w : World} {gb n gp bv g0 cr : Nat} {q : Int} {dv : Value} {dl : List Int} {ev : Value} {L : List (Nat × Int × Int)} {W : World} {rows : List (List Int)} {vl : List Int}
theorem drewN (h : PS w gb n gp bv g0 cr q dv dl ev L W rows vl) (m : Nat) : PS w gb n gp bv g0 cr q dv dl ev L (W.drewN m) rows vl :=
 ⟨h.len, h.all, h.pile, Kd.R_drewN h.d m, Kd.R_drewN h.val m, Kd.S_drewN h.rows m, Kd.R_drewN h.ends m, pw_below_drewN h.below m⟩
theorem row (h : PS w gb n gp bv g0 cr q dv dl ev L W rows vl) (a b : Nat) (ha : a < n) (hb : b < n) : ∃ (gi ci : Nat) (z : Int), W.cell? ⟨g0, a, none⟩ = some (.slice (some ⟨gi, 0, none⟩) n ci) ∧ W.cell? ⟨gi, b, none⟩ = some (.int .i64 z) ∧ W.frozen? ⟨gi, b, none⟩ = false ∧
  ∀ x : Int, ∃ rows', PS w gb n gp bv g0 cr q dv dl ev L (W.setCell ⟨gi, b, none⟩ (.int .i64 x)) rows' vl := by
 obtain ⟨gi, ci, z, h1, h2, h3, ⟨h4, h5⟩, h6, ⟨cells, h7⟩, h8⟩ := rows_bump h.rows h.len h.all a b ha hb
 refine ⟨gi, ci, z, h1, h2, h3, fun x => ?_⟩
 obtain ⟨rows', l1, l2, l3⟩ := h8 x
 have hg : W.grownBy (W.setCell ⟨gi, b, none⟩ (.int .i64 x)) (some gi) := grown_set1p (Below.refl _ _)
 refine ⟨rows', l1, l2, h.pile.grown hg (fun e => ?_), Kd.R_grown1 h.d rfl hg h4, Kd.R_grown1 h.val rfl hg (fun e => h5 (by simpa [Value.ownBlock] using e)), l3, Kd.R_set h.ends h7 (by decide) _ _, Below.setCell h.below h6 _⟩
 obtain ⟨cs, hp, _⟩ := h.pile
 injection e with e
 subst e
 rw [h7] at hp
 injection hp with hp
 injection hp with _ hp _
 exact absurd hp (by decide)
theorem valb (h : PS w gb n gp bv g0 cr q dv dl ev L W rows vl) (a : Nat) (ha : a < n) : W.cell? ⟨bv, a, none⟩ = some (.int .i64 (rd vl a)) ∧ W.frozen? ⟨bv, a, none⟩ = false ∧
  ∀ x : Int, PS w gb n gp bv g0 cr q dv dl ev L (W.setCell ⟨bv, a, none⟩ (.int .i64 x)) rows (vl.set a x) := by
 obtain ⟨h1, h2⟩ := Kd.R_celln (0 : Int) h.val (a : Int) (by omega) (by omega)
 rw [Int.toNat_natCast] at h1 h2
 obtain ⟨cells, hb⟩ := Kd.R_typed h.val bv rfl
 refine ⟨h1, h2, fun x => ?_⟩
 have hp := Kd.R_putg h.val (a : Int) x
 rw [Int.toNat_natCast] at hp
 have hg := hp.2
 refine ⟨h.len, h.all, h.pile.grown hg (fun e => ?_), Kd.R_grown1 h.d rfl hg (fun e => h.d.1 bv e.symm rfl), hp.1, Kd.S_grown h.rows hg (fun k hk e => hk.2 (by injection e)), Kd.R_set h.ends hb (by decide) _ _, Below.setCell h.below (Kd.R_base h.val bv rfl) _⟩
 obtain ⟨cs, hpp, _⟩ := h.pile
 injection e with e
 subst e
 rw [hb] at hpp
 injection hpp with hpp
 injection hpp with _ hpp _
 exact absurd hpp (by decide)
end PS
def pileVal (n : Nat) (E : List S66) : List Int := valTo n (singlesTo E E.length) (singlesTo E E.length).length
theorem wait_calls2 (g v n : Nat) (q : Int) (Ad Av : Option Addr) (cd cv : Nat) (dl vl : List Int) (rows : Value) (waits : Nat → Bool) (w : World) (hv : v < 12) (hvd : v < dl.length) (hvn : vl.length = n) (hvv : v < n)
  (hw : PileAt w g (.slice Ad dl.length cd) q rows (.slice Av n cv) waits) (hd : Kd.C (Kd.int .i64) w Ad dl.length dl) (hr : Kd.C (Kd.int .i64) w Av n vl) :
  Calls Try.prog 106 #[.pointer (some ⟨g, 0, none⟩), .int .i64 v] w fun e w' => e = .returned (.tuple #[]) ∧ PileAt w' g (.slice Ad dl.length cd) q rows (.slice Av n cv) (fun j => if j = v then looseB q vl dl v else waits j) ∧ w.grownBy w' (some g) := by
 subst hvn
 exact wait_calls g v q Ad Av cd cv dl vl rows waits w hv hvd hvv hw hd hr
theorem waits_step (q : Int) (vl dl : List Int) (v : Nat) : (fun j => if j = v then looseB q vl dl v else (if j < v then looseB q vl dl j else false)) = fun j => if j < v + 1 then looseB q vl dl j else false := by
 funext j
 by_cases e : j = v
 ·subst e; simp
 ·by_cases h : j < v
  ·rw [if_neg e, if_pos h, if_pos (by omega)]
  ·rw [if_neg e, if_neg h, if_neg (by omega)]
end
theorem made_ints (t : TypeId) (ht : Try.prog.underlying t = some (.slice 3)) (n : Nat) (hn : n ≤ 1000) : ∃ zs : Array Value, (∀ W : World, (Instr.makeSlice t (.int .i64 n) (.int .i64 n)).run Try.prog W = .ok (.slice (some ⟨W.heap.size, 0, none⟩) n n) (W.alloc (.cells zs 3))) ∧
  ∀ (W : World) (ok : Nat → Prop), ok W.heap.size → (Kd.int .i64).R 3 (W.alloc (.cells zs 3)) W.heap.size ok (.slice (some ⟨W.heap.size, 0, none⟩) n n) (List.replicate n 0) := by
 obtain ⟨i0, hi, hzz⟩ := Option.map_eq_some_iff.1 info3
 simp only [Prod.mk.injEq] at hzz
 obtain ⟨hz0, hz1, hz2⟩ := hzz
 refine ⟨madeCells (Value.int .i64 0).cells (n * 1), fun W => ?_, fun W ok hok => ⟨fun k hk => ?_, (madeCells (Value.int .i64 0).cells (n * 1)).toList, ?_, ?_⟩⟩
 ·have hr := run_make (P := Try.prog) W t 3 i0 (.int .i64 0) ht hi hz0 .i64 .i64 (n : Int) (n : Int) (by omega) (by omega) (by rw [hz2]; omega) (by omega)
  simp only [Int.toNat_natCast] at hr
  rw [hz1] at hr
  exact hr
 ·have : W.heap.size = k := by simpa [Value.ownBlock] using hk
  subst this; exact hok
 ·have h := World.ownsRow_lit (base := W.heap.size) (e := 3) (size := 1) W (madeCells (Value.int .i64 0).cells (n * 1)) n (Nat.le_refl _) (by simp only [maxLen]; omega) (size_madeCells _ _)
  rw [List.length_replicate]
  exact h
 ·exact Kd.reps_made (R := (Kd.int .i64).M (W.alloc (.cells (madeCells (Value.int .i64 0).cells (n * 1)) 3)) W.heap.size (fun k => ok k ∧ some k ≠ (Value.slice (some ⟨W.heap.size, 0, none⟩) n n).ownBlock)) (size := 1) (z := Value.int .i64 0) (z0 := (0 : Int)) rfl (by decide) rfl n
theorem held_start {w W : World} {gb : Nat} {v : Value} {cs : Array Value} {t : TypeId} (h1 : W.heap[gb]? = some (.cells cs t (0, 0))) (h2 : W.cell? ⟨gb, 0, none⟩ = some v) (h3 : Below gb w W) : W.drew.heap[gb]? = some (.cells cs t (0, 0)) ∧ W.drew.cell? ⟨gb, 0, none⟩ = some v ∧ Below gb w W.drew := ⟨h1, h2, below_drew1 h3⟩
theorem held_alloc {w W : World} {gb : Nat} {v : Value} {cs : Array Value} {t : TypeId} {o : Obj} (h1 : W.heap[gb]? = some (.cells cs t (0, 0))) (h2 : W.cell? ⟨gb, 0, none⟩ = some v) (h3 : Below gb w W) : (W.alloc o).heap[gb]? = some (.cells cs t (0, 0)) ∧ (W.alloc o).cell? ⟨gb, 0, none⟩ = some v ∧ Below gb w (W.alloc o) :=
 ⟨blk_alloc h1 _, by rw [blk_cell (blk_alloc h1 _) 0, ← blk_cell h1 0]; exact h2, h3.alloc (Nat.le_of_lt (blk_lt h1)) _⟩
theorem held_below {w W W1 : World} {gb : Nat} {v : Value} {cs : Array Value} {t : TypeId} (h1 : W.heap[gb]? = some (.cells cs t (0, 0))) (h2 : W.cell? ⟨gb, 0, none⟩ = some v) (h3 : Below gb w W) (hb : Below W.heap.size W W1) : W1.heap[gb]? = some (.cells cs t (0, 0)) ∧ W1.cell? ⟨gb, 0, none⟩ = some v ∧ Below gb w W1 :=
 ⟨blk_below h1 hb, by rw [blk_cell (blk_below h1 hb) 0, ← blk_cell h1 0]; exact h2, h3.trans ⟨hb.os, hb.tape, hb.output, hb.size, fun k hk => hb.block k (by have := blk_lt h1; omega)⟩⟩
theorem heapnew_at {W : World} {o : Obj} {g : Nat} (h : g = W.heap.size) : (W.alloc o).heap[g]? = some o := by rw [h]; exact heap_alloc_new W o
theorem pile_rd {Wx w1 W' : World} {gb bv : Nat} {v : Value} {dl : List Int} (hr : (Kd.int .i64).R 3 w1 Wx.heap.size (fun _ => True) v dl) (hgb : gb ≤ Wx.heap.size)
  (hup : ∀ {ok : Nat → Prop}, (Kd.int .i64).R 3 w1 gb ok v dl → (Kd.int .i64).R 3 W' gb ok v dl) (hne : bv < Wx.heap.size ∨ w1.heap.size ≤ bv) : (Kd.int .i64).R 3 W' gb (fun k => k ≠ bv) v dl :=
 hup (Kd.R_lower (Kd.R_mono (Kd.R_bound hr) (fun k hk => by have a1 := hk.2.1; have a2 := hk.2.2.1; omega)) hgb)
theorem pile_rv {Wx w1 W' Y : World} {gb bv n : Nat} {v : Value} {dl : List Int} {zs : Array Value} (hz : (Kd.int .i64).R 3 (Y.alloc (.cells zs 3)) Y.heap.size (fun k => k = Y.heap.size) (.slice (some ⟨Y.heap.size, 0, none⟩) n n) (List.replicate n 0)) (hbv : bv = Y.heap.size)
  (hb : Below (Y.alloc (.cells zs 3)).heap.size (Y.alloc (.cells zs 3)) W') (hr : (Kd.int .i64).R 3 w1 Wx.heap.size (fun _ => True) v dl) (hgb : gb ≤ bv) (hne : bv < Wx.heap.size ∨ w1.heap.size ≤ bv) :
  (Kd.int .i64).R 3 W' gb (fun k => some k ≠ v.ownBlock) (.slice (some ⟨bv, 0, none⟩) n n) (List.replicate n 0) := by
 subst hbv
 refine Kd.R_lower (Kd.R_mono (Kd.R_below hz hb) (fun k hk e => ?_)) hgb
 have h1 := Kd.R_base hr k e.symm
 have h2 := Kd.R_lt hr k e.symm
 omega
theorem pileOf_calls (k n : Nat) (A0 : Option Addr) (c0 : Nat) (E : List S66) (q : Int) (Ad : Option Addr) (cd : Nat) (dl : List Int) (w : World) (hr0 : Kd.C k66 w A0 E.length E) (hc0 : E.length ≤ c0) (hd : Kd.C (Kd.int .i64) w Ad dl.length dl) (hcd : dl.length ≤ cd)
  (hn : n ≤ 12) (hdl : dl.length = n) (ht : graph_Check.f k n E = some 0) (hE : multsOk E = true) (hin : EdgesIn n E) :
  Calls Try.prog 92 #[.agg #[.int .i64 n, .slice A0 E.length c0], .int .i64 q, .slice Ad dl.length cd] w fun e w' => ∃ (gp : Nat) (Av1 Av2 : Option Addr) (cv1 cv2 : Nat) (rv : Value), e = .returned (.tuple #[.pointer (some ⟨gp, 0, none⟩), .int .i64 0]) ∧ PileAt w' gp (.slice Av1 dl.length cv1) q rv (.slice Av2 n cv2) (fun x => if x < dl.length then looseB q (pileVal n E) dl x else false) ∧ (Kd.int .i64).R 3 w' w.heap.size (fun _ => True) (.slice Av2 n cv2) (pileVal n E) ∧ Below w.heap.size w w' := by
 have hu := Try.underlying24
 have hup := Try.underlying110
 have hub := Try.underlying108
 have hue := Try.underlying115
 have hd12 : dl.length ≤ 12 := by omega
 have Hdl := Aside0.mk hdl
 clear hdl
 have Ht := Aside0.mk ht
 have HE := Aside0.mk hE
 have HI := Aside0.mk hin.get
 clear ht hE hin
 have HC := Aside0.mk (fun W h => slices_Clone_int_int.calls Ad cd dl dl W h hcd (by unfold slices_Clone_int_int.f clone.f; rw [if_pos (by omega)]))
 obtain ⟨zs, hmk, hzr⟩ := made_ints 33 Try.underlying33 n (by omega)
 have HZ := Aside0.mk hzr
 clear hzr
 go_enter Try.func92, Try.ntmps92
 go_wp2_with fail
 have HX0 := Aside0.mk (show (w.alloc (.cells #[.int .i64 n, .slice A0 E.length c0] 24)).heap[w.heap.size]? = some (.cells #[.int .i64 n, .slice A0 E.length c0] 24 (0, 0)) from heap_alloc_new w _)
 have hx0 : (w.alloc (.cells #[.int .i64 n, .slice A0 E.length c0] 24)).cell? ⟨w.heap.size, 0, none⟩ = some (.int .i64 n) := (blk_cell HX0.out 0).trans rfl
 have HB := Aside0.mk (below_alloc (Below.refl w.heap.size w) (.cells #[.int .i64 n, .slice A0 E.length c0] 24))
 generalize (w.alloc (.cells #[.int .i64 n, .slice A0 E.length c0] 24)) = W0 at hx0 HX0 HB ⊢
 have hgw := blk_lt HX0.out
 have hC2 := fun W h => Kd.C_below (w := w) (w1 := W) hd h
 have HC2 := Aside0.mk hC2
 clear hC2
 generalize hgb : w.heap.size = gb at hx0 HX0 hgw HB HC2 ⊢
 refine Code.wp_mono (Q := fun e a W' => e = Exit.normal ∧ ∃ (gp bv bf cv1 : Nat) (Av1 : Option Addr) (u16 u17 u18 u19 u20 u21 u22 u23 u24 u25 u26 : Value), a = { tmps := #[.agg #[.int .i64 n, .slice A0 E.length c0], .int .i64 q, .slice Ad dl.length cd, .pointer (some ⟨gb, 0, none⟩), undef, undef, .pointer none, .int .i64 0, .pointer (some ⟨gp, 0, none⟩), undef, undef, undef, undef, undef, undef, undef, u16, u17, u18, u19, u20, u21, u22, u23, u24, u25, u26, undef, undef, undef, undef, undef, undef, undef, undef, undef, undef, undef, undef, undef, undef, undef, undef, undef, undef, undef, undef, undef, undef, undef, undef, undef, undef, undef, undef, undef, undef, undef, undef, undef, undef, undef, undef, undef, undef, undef, undef, undef, undef, undef, undef, undef, undef, undef, undef, undef, undef, undef, undef, undef, undef, undef, undef, undef, undef, undef, undef, undef, undef, undef, undef, undef, undef, undef, undef, undef, undef, undef, undef, undef, undef, undef, undef, undef, undef, undef, undef, undef, undef, undef, undef, undef, undef, undef, undef, undef, undef, undef, undef, undef, undef], defers := [] } ∧ gb < gp ∧ W'.heap[gp]? = some (.cells #[.slice Av1 dl.length cv1, .int .i64 q, .slice none 0 0, .slice (some ⟨bv, 0, none⟩) n n, .slice (some ⟨bf, 0, none⟩) n n, .int .i64 0, .bool false, .bool false, .bool false, .bool false, .bool false, .bool false, .bool false, .bool false, .bool false, .bool false, .bool false, .bool false] 110 (0, 0)) ∧ (Kd.int .i64).R 3 W' gb (fun k => k ≠ bv) (.slice Av1 dl.length cv1) dl ∧ (Kd.int .i64).R 3 W' gb (fun k => some k ≠ (Value.slice Av1 dl.length cv1).ownBlock) (.slice (some ⟨bv, 0, none⟩) n n) (List.replicate n 0) ∧ W'.heap[gb]? = some (.cells #[.int .i64 n, .slice A0 E.length c0] 24 (0, 0)) ∧ Below gb w W') ?_ ?_
 ·rintro e a W' ⟨rfl, gp, bv, bf, cv1, Av1, u16, u17, u18, u19, u20, u21, u22, u23, u24, u25, u26, rfl, hgp, hpile, hRd, hRv, hbx, hB⟩
  dsimp only
  have HP := Aside0.mk (show PileAt W' gp (.slice Av1 dl.length cv1) q (.slice none 0 0) (.slice (some ⟨bv, 0, none⟩) n n) (fun _ => false) from ⟨_, hpile, rfl, rfl, rfl, rfl, rfl, fun i hi => by match i, hi with | 0, _ => rfl | 1, _ => rfl | 2, _ => rfl | 3, _ => rfl | 4, _ => rfl | 5, _ => rfl | 6, _ => rfl | 7, _ => rfl | 8, _ => rfl | 9, _ => rfl | 10, _ => rfl | 11, _ => rfl⟩)
  have HRd := Aside0.mk hRd
  have HRv := Aside0.mk hRv
  have HBX := Aside0.mk hbx
  have HB1 := Aside0.mk hB
  have hb0 : W'.cell? ⟨gb, 0, none⟩ = some (.int .i64 n) := (blk_cell hbx 0).trans rfl
  clear hpile hRd hRv hbx hB hx0 HX0 HB hgw HC HC2
  clear W0
  go_wp2
  go_loopw [29] (fun i wr => ∃ (j : Nat) (rv : Value) (rows : List (List Int)), j ≤ n ∧ i = .int .i64 j ∧ Aside0 (rows.length = j) ∧ Aside0 (∀ y ∈ rows, y.length = n) ∧ Aside0 (PileAt wr gp (.slice Av1 dl.length cv1) q rv (.slice (some ⟨bv, 0, none⟩) n n) (fun _ => false)) ∧ Aside0 ((Kd.int .i64).R 3 wr gb (fun k => k ≠ bv) (.slice Av1 dl.length cv1) dl) ∧ Aside0 ((Kd.int .i64).R 3 wr gb (fun k => some k ≠ (Value.slice Av1 dl.length cv1).ownBlock) (.slice (some ⟨bv, 0, none⟩) n n) (List.replicate n 0)) ∧ Aside0 (Kd.S (Kd.slice 3 (Kd.int .i64)) 33 wr gb (fun k => some k ≠ (Value.slice Av1 dl.length cv1).ownBlock ∧ k ≠ bv) rv rows) ∧ Aside0 (wr.heap[gb]? = some (.cells #[.int .i64 n, .slice A0 E.length c0] 24 (0, 0))) ∧ Aside0 (Below gb w wr)) (fun i _ => n - (intOf i).toNat)
  case atStart => exact ⟨0, _, [], by omega, rfl, ⟨rfl⟩, ⟨fun y hy => absurd hy (by simp)⟩, HP, HRd, HRv, ⟨Kd.S_nil _ _ _ _ _⟩, HBX, HB1⟩
  case round =>
   clear HP HRd HRv HBX HB1 hb0
   obtain ⟨j, rv, rows, hj, rfl, HL, HY, HP, HRd, HRv, HS, HBX, HB⟩ := hrel
   by_cases hjn : j < n
   ·have hsz := blk_lt HBX.out
    obtain ⟨Ar, cr, rfl⟩ := Kd.S_slice HS.out
    have hcb := (blk_cell HBX.out 0).trans (show _ = some (.int .i64 n) from rfl)
    have hcb1 : (wr.alloc (.cells zs 3)).drew.cell? ⟨gb, 0, none⟩ = some (.int .i64 n) := (blk_cell (blk_alloc HBX.out _) 0).trans rfl
    have hcr := HP.out.cell_rows
    have hcr1 : (wr.alloc (.cells zs 3)).drew.cell? ⟨gp, 2, none⟩ = some (.slice Ar rows.length cr) := (HP.out.below (below_alloc (Below.refl _ _) _)).cell_rows
    have hcr2 : ((wr.alloc (.cells zs 3)).alloc (.cells #[.slice (some ⟨wr.heap.size, 0, none⟩) n n] 33)).drew.cell? ⟨gp, 2, none⟩ = some (.slice Ar rows.length cr) := (HP.out.below (below_alloc (below_alloc (Below.refl _ _) _) _)).cell_rows
    have hrl : rows.length ≤ 12 := by have := HL.out; omega
    have hdk : ∀ k, wr.heap.size ≤ k → some k ≠ (Value.slice Av1 dl.length cv1).ownBlock ∧ k ≠ bv := fun k hk => ⟨fun e => by have := Kd.R_lt HRd.out k e.symm; omega, fun e => by have := Kd.R_lt HRv.out bv (by simp [Value.ownBlock]); omega⟩
    have HN1 := Aside0.mk (Kd.M_row (Kd.R_drew (Kd.R_lower (HZ.out wr (fun k => k = wr.heap.size) rfl) (Nat.le_of_lt hsz))))
    have HN2 := Aside0.mk (Kd.S_drew (Kd.S_alloc (Kd.S_mono (ok' := fun k => (some k ≠ (Value.slice Av1 dl.length cv1).ownBlock ∧ k ≠ bv) ∧ ¬ k = wr.heap.size) (Kd.S_bound HS.out) (fun k hk => ⟨hk.1, by have := hk.2.2.1; omega⟩)) (.cells zs 3)))
    have HN3 := Aside0.mk (below_drew1 (HB.out.alloc (Nat.le_of_lt hsz) (.cells zs 3)))
    have HN4 : Aside0 (∀ k, k = wr.heap.size → (some k ≠ (Value.slice Av1 dl.length cv1).ownBlock ∧ k ≠ bv) ∧ some k ≠ (Value.slice Ar rows.length cr).ownBlock) := ⟨fun k hk => ⟨hdk k (by omega), fun e => by have := Kd.S_lt HS.out k e.symm; omega⟩⟩
    have HN5 : Aside0 (∀ k, (wr.alloc (.cells zs 3)).drew.heap.size ≤ k → some k ≠ (Value.slice Av1 dl.length cv1).ownBlock ∧ k ≠ bv) := ⟨fun k hk => hdk k (by have h1 : (wr.alloc (.cells zs 3)).drew.heap.size = wr.heap.size + 1 := World.size_alloc wr _; omega)⟩
    have HN6 : Aside0 (gb ≤ (wr.alloc (.cells zs 3)).drew.heap.size) := ⟨by have h1 : (wr.alloc (.cells zs 3)).drew.heap.size = wr.heap.size + 1 := World.size_alloc wr _; omega⟩
    have HP1 := Aside0.mk (show PileAt (wr.alloc (.cells zs 3)).drew gp (.slice Av1 dl.length cv1) q (.slice Ar rows.length cr) (.slice (some ⟨bv, 0, none⟩) n n) (fun _ => false) from (HP.out.below (below_alloc (Below.refl wr.heap.size wr) (.cells zs 3))).drew)
    have HX1 := Aside0.mk (show (wr.alloc (.cells zs 3)).drew.heap[gb]? = some (.cells #[.int .i64 n, .slice A0 E.length c0] 24 (0, 0)) from blk_alloc HBX.out _)
    have HS1 := Aside0.mk (Kd.S_drew (Kd.S_alloc HS.out (.cells zs 3)))
    have HD1 := Aside0.mk (Kd.R_drew (Kd.R_alloc HRd.out (.cells zs 3)))
    have HV1 := Aside0.mk (Kd.R_drew (Kd.R_alloc HRv.out (.cells zs 3)))
    clear hdk
    have HSZ := Aside0.mk (show (wr.alloc (.cells zs 3)).drew.heap.size = wr.heap.size + 1 from World.size_alloc wr _)
    go_wp2
    go_region_law ((refine Kd.S_append_step (Kd.slice 3 (Kd.int .i64)) (w0 := w) (W := (wr.alloc (.cells zs 3)).drew) gb (by rfl) (.tmp 35) (.tmp 39) 88 33 (.slice none 0 0) 24 (by rfl) Try.underlying88 info33 rfl (by decide) (by omega) _ rows (List.replicate n 0) [.slice (some ⟨wr.heap.size, 0, none⟩) n n] (fun k => some k ≠ (Value.slice Av1 dl.length cv1).ownBlock ∧ k ≠ bv) (fun k => k = wr.heap.size) (by rfl) (by rw [HSZ.out]; rfl) HN1.out HN4.out HN5.out HN2.out HN3.out HN6.out (by omega) ?_; intro v4 w4 hs4 hb4 hg4 hat4; obtain ⟨A4, c4, hv4⟩ := Kd.S_slice hs4; rw [show (rows ++ [List.replicate n (0 : Int)]).length = rows.length + 1 by simp] at hv4; subst hv4; have HS4 := Aside0.mk hs4; have HB4 := Aside0.mk hb4; have HP4 := Aside0.mk (HP1.out.grown hg4 (HP1.out.ne_of (Kd.S_typed HS1.out) (by decide))); have HX4 := Aside0.mk (blk_grown HX1.out hg4 (Kd.S_ne HS1.out HX1.out (by decide))); have HD4 := Aside0.mk (Kd.R_over' HD1.out (Kd.S_typed HS1.out) (by decide) hg4); have HV4 := Aside0.mk (Kd.R_over' HV1.out (Kd.S_typed HS1.out) (by decide) hg4); have hq1 := HP4.out.cell_rows; have hq2 := HP4.out.frozen 2; clear hs4 hb4 hg4 hat4))
    all_goals have n0 := Aside0.mk (HP4.out.set_rows (.slice A4 (rows.length + 1) c4))
    all_goals have n1 := Aside0.mk (HP4.out.R_set HD4.out (by decide) 2 (.slice A4 (rows.length + 1) c4))
    all_goals have n2 := Aside0.mk (HP4.out.R_set HV4.out (by decide) 2 (.slice A4 (rows.length + 1) c4))
    all_goals have n3 := Aside0.mk (HP4.out.S_set HS4.out (by decide) 2 (.slice A4 (rows.length + 1) c4))
    all_goals have n4 := Aside0.mk (blk_far (p := ⟨gp, 2, none⟩) HX4.out (show gb ≠ gp by omega) (.slice A4 (rows.length + 1) c4))
    all_goals have n5 := Aside0.mk (HB4.out.setCell (p := ⟨gp, 2, none⟩) (by show gb ≤ gp; omega) (.slice A4 (rows.length + 1) c4))
    all_goals clear hq1 hq2 hcb hcb1 hcr hcr1 hcr2 HP4 HX4 HD4 HV4 HB4 HS4
    all_goals generalize (w4.setCell ⟨gp, 2, none⟩ (.slice A4 (rows.length + 1) c4)) = w5 at n0 n1 n2 n3 n4 n5 ⊢
    all_goals go_wp2
    all_goals exact ⟨⟨j + 1, _, _, by omega, by go_num, ⟨by simp [HL.out]⟩, ⟨fun y hy => by rcases List.mem_append.1 hy with h | h; exact HY.out y h; (simp at h; subst h; simp)⟩, n0, n1, n2, n3, n4, n5⟩, (show n - ((j : Int) + 1).toNat < n - ((j : Int)).toNat by omega)⟩
   ·obtain rfl : n = j := by omega
    have hb0 : wr.cell? ⟨gb, 0, none⟩ = some (.int .i64 n) := (blk_cell HBX.out 0).trans rfl
    have hb1 : wr.cell? ⟨gb, 1, none⟩ = some (.slice A0 E.length c0) := (blk_cell HBX.out 1).trans rfl
    have hsz := blk_lt HBX.out
    have HEN := Aside0.mk (ends_good k n A0 c0 E wr (Kd.C_below hr0 (by rw [hgb]; exact HB.out)) hc0 Ht.out HE.out)
    go_wp2_with (first | (go_at_call 105; refine HEN.out.mono ?_; rintro e w1 ⟨v9, rfl, hr9, hb9⟩; obtain ⟨A9, c9, hv9⟩ := Kd.R_slice hr9; rw [endRows_length] at hv9; subst hv9; have HR9 := Aside0.mk hr9; have HP9 := Aside0.mk (HP.out.below hb9); have HS9 := Aside0.mk (Kd.S_below HS.out hb9); have HD9 := Aside0.mk (Kd.R_below HRd.out hb9); have HV9 := Aside0.mk (Kd.R_below HRv.out hb9); have HB9 := Aside0.mk (HB.out.trans (hb9.mono (Nat.le_of_lt hsz))); clear hr9 hb9))
    all_goals go_wp2
    have HLI := Aside0.mk (singles_in (n := n) HI.out)
    have HLB := Aside0.mk (singles_le HE.out)
    obtain ⟨Ar, cr, hrv⟩ := Kd.S_slice HS9.out
    rw [HL.out] at hrv
    subst hrv
    replace HR9 := Aside0.mk (Kd.R_lower (Kd.raw_any HR9.out) (Nat.le_of_lt hsz))
    have HLE := Aside0.mk (show pileVal n E = valTo n (singlesTo E E.length) (singlesTo E E.length).length from rfl)
    generalize singlesTo E E.length = L at HR9 HLI HLB HLE ⊢
    have hlb := HLB.out
    have hv0 : List.replicate n (0 : Int) = valTo n L 0 := rfl
    rw [hv0] at HV9
    clear hv0 HEN HP HS HRd HRv HB HBX hb0 hb1 hsz
    go_loopw [54] (fun i wr => ∃ (j : Nat) (rows : List (List Int)), j ≤ L.length ∧ i = .int .i64 j ∧ Aside0 (rows.length = n) ∧ Aside0 (∀ y ∈ rows, y.length = n) ∧ Aside0 (PileAt wr gp (.slice Av1 dl.length cv1) q (.slice Ar n cr) (.slice (some ⟨bv, 0, none⟩) n n) (fun _ => false)) ∧ Aside0 ((Kd.int .i64).R 3 wr gb (fun k => k ≠ bv) (.slice Av1 dl.length cv1) dl) ∧ Aside0 ((Kd.int .i64).R 3 wr gb (fun k => some k ≠ (Value.slice Av1 dl.length cv1).ownBlock) (.slice (some ⟨bv, 0, none⟩) n n) (valTo n L j)) ∧ Aside0 (Kd.S (Kd.slice 3 (Kd.int .i64)) 33 wr gb (fun k => some k ≠ (Value.slice Av1 dl.length cv1).ownBlock ∧ k ≠ bv) (.slice Ar n cr) rows) ∧ Aside0 ((Kd.raw 2).R 115 wr gb (fun _ => True) (.slice A9 L.length c9) (endRows L)) ∧ Aside0 (Below gb w wr)) (fun i _ => L.length - (intOf i).toNat)
    case atStart => exact ⟨0, _, by omega, rfl, HL, HY, HP9, HD9, HV9, HS9, HR9, HB9⟩
    case round =>
     clear HP9 HD9 HV9 HS9 HR9 HB9 HL HY
     obtain ⟨j, rows, hj, rfl, HL, HY, HP, HD, HV, HS, HR, HB⟩ := hrel
     by_cases hjm : j < L.length
     ·obtain ⟨-, -, hC9⟩ := Kd.R_reads' HR.out
      obtain ⟨ad, rfl, hx0, hx1⟩ := at_ends hC9 j (by rw [endRows_length]; exact hjm) hjm
      have hab := HLI.out _ (List.getElem_mem hjm)
      have Hvs := Lib.hid (valTo_succ n L j hjm)
      generalize L[j] = x at hx0 hx1 hab Hvs
      obtain ⟨i, a, b⟩ := x
      simp only at hx0 hx1 hab
      obtain ⟨a, rfl⟩ := Int.eq_ofNat_of_zero_le hab.1
      obtain ⟨b, rfl⟩ := Int.eq_ofNat_of_zero_le hab.2.2.1
      have ha : a < n := by omega
      have hb : b < n := by omega
      have hj0 : (0 : Int) ≤ (j : Int) := by omega
      have hj1 : (j : Int) < (L.length : Int) := by omega
      clear hab hC9
      have HO := Aside0.mk (show (wr.alloc (.cells #[.int .i64 a, .int .i64 b] 115)).heap[wr.heap.size]? = some (.cells #[.int .i64 a, .int .i64 b] 115 (0, 0)) from heap_alloc_new wr _)
      obtain ⟨g0, cr', hrv, -, -, -⟩ := Kd.S_form HS.out (by have := HL.out; omega)
      injection hrv with hrv _ hrc
      subst hrv
      have HPS := Aside0.mk (PS.mk (L := L) HL.out HY.out (HP.out.below (below_alloc (Below.refl _ _) (.cells #[.int .i64 a, .int .i64 b] 115))) (Kd.R_alloc HD.out (.cells #[.int .i64 a, .int .i64 b] 115)) (Kd.R_alloc HV.out (.cells #[.int .i64 a, .int .i64 b] 115)) (Kd.S_alloc HS.out (.cells #[.int .i64 a, .int .i64 b] 115)) (Kd.R_alloc HR.out (.cells #[.int .i64 a, .int .i64 b] 115)) (HB.out.alloc (by have := HB.out.size; omega) (.cells #[.int .i64 a, .int .i64 b] 115)))
      go_wp2
      clear HP HD HV HS HR HB hx0 hx1 HL HY hrc cr'
      generalize (wr.alloc (.cells #[.int .i64 a, .int .i64 b] 115)) = W1 at HO HPS ⊢
      generalize wr.heap.size = ob at HO ⊢
      have hx0 : W1.cell? ⟨ob, 0, none⟩ = some (.int .i64 a) := (blk_cell HO.out 0).trans rfl
      have hx1 : W1.cell? ⟨ob, 1, none⟩ = some (.int .i64 b) := (blk_cell HO.out 1).trans rfl
      go_quiet (fail)
      replace HPS := Aside0.mk (HPS.out.drewN nq)
      clear hx0 hx1 HO
      generalize W1.drewN nq = W2 at HPS ⊢
      clear W1
      have ha0 : (0 : Int) ≤ (a : Int) := by omega
      have ha1 : (a : Int) < (n : Int) := by omega
      have hb0 : (0 : Int) ≤ (b : Int) := by omega
      have hb1 : (b : Int) < (n : Int) := by omega
      by_cases hab : a = b
      ·subst hab
       have hvs : valTo n L j = valTo n L (j + 1) := by rw [Hvs.out]; unfold valStep; rw [if_pos rfl]
       rw [hvs] at HPS
       clear hvs
       go_wp2
       exact ⟨⟨j + 1, rows, by omega, by go_num, ⟨HPS.out.len⟩, ⟨HPS.out.all⟩, ⟨HPS.out.pile⟩, ⟨HPS.out.d⟩, ⟨HPS.out.val⟩, ⟨HPS.out.rows⟩, ⟨HPS.out.ends⟩, ⟨HPS.out.below⟩⟩, (show L.length - ((j : Int) + 1).toNat < L.length - ((j : Int)).toNat by omega)⟩
      ·have hab1 : ((a : Int) != (b : Int)) = true := by simp; omega
       have hrows := HPS.out.pile.cell_rows
       have hvb := valTo_bound n L j
       have hva := hvb a
       obtain ⟨gi, ci, z, hc1, hc2, hf2, hnx⟩ := HPS.out.row a b ha hb
       obtain ⟨rows3, h3⟩ := hnx (wrap64 (z + 1))
       have H3 := Aside0.mk h3
       have hrows3 := h3.pile.cell_rows
       obtain ⟨gi3, ci3, z3, hc13, hc23, hf23, hnx3⟩ := h3.row b a hb ha
       obtain ⟨rows4, h4⟩ := hnx3 (wrap64 (z3 + 1))
       have H4 := Aside0.mk h4
       have hval4 := h4.pile.cell_val
       obtain ⟨hc4, hf4, hnx4⟩ := h4.valb a ha
       have h5 := hnx4 (rd (valTo n L j) a + 1)
       have H5 := Aside0.mk h5
       have hval5 := h5.pile.cell_val
       obtain ⟨hc5, hf5, hnx5⟩ := h5.valb b hb
       have hbb := incr_bound (v := a) hvb b
       rw [show (valTo n L j).set a (rd (valTo n L j) a + 1) = incr (valTo n L j) a from rfl] at hc5 hnx5
       have H6 := Aside0.mk (hnx5 (rd (incr (valTo n L j) a) b + 1))
       rw [show (incr (valTo n L j) a).set b (rd (incr (valTo n L j) a) b + 1) = valTo n L (j + 1) from by rw [Hvs.out]; unfold valStep; rw [if_neg (show ¬ ((i, (a : Int), (b : Int)).2.1 = (i, (a : Int), (b : Int)).2.2) from fun e => hab (Int.ofNat.inj e))]; rfl] at H6
       clear hnx hnx3 hnx4 hnx5 h3 h4 h5 hvb H3 H4 H5
       generalize rd (valTo n L j) a = va at hva hc4 hval5 hc5 hf5 hbb H6
       generalize rd (incr (valTo n L j) a) b = vb at hbb hc5 H6
       go_wp2
       exact ⟨⟨j + 1, rows4, by omega, by go_num, ⟨H6.out.len⟩, ⟨H6.out.all⟩, ⟨H6.out.pile⟩, ⟨H6.out.d⟩, ⟨H6.out.val⟩, ⟨H6.out.rows⟩, ⟨H6.out.ends⟩, ⟨H6.out.below⟩⟩, (show L.length - ((j : Int) + 1).toNat < L.length - ((j : Int)).toNat by omega)⟩
     ·obtain rfl : j = L.length := by omega
      have hcd0 := HP.out.cell_d
      go_wp2
      have HVL := Aside0.mk (valTo_length n L L.length)
      generalize valTo n L L.length = vl at HV HVL HLE ⊢
      clear HS HR HL HY hcd0 hlb HLI HLB hjm hj
      go_loopw [113] (fun i wr => ∃ (j : Nat), j ≤ dl.length ∧ i = .int .i64 j ∧ Aside0 (PileAt wr gp (.slice Av1 dl.length cv1) q (.slice Ar n cr) (.slice (some ⟨bv, 0, none⟩) n n) (fun x => if x < j then looseB q vl dl x else false)) ∧ Aside0 ((Kd.int .i64).R 3 wr gb (fun k => k ≠ bv) (.slice Av1 dl.length cv1) dl) ∧ Aside0 ((Kd.int .i64).R 3 wr gb (fun k => some k ≠ (Value.slice Av1 dl.length cv1).ownBlock) (.slice (some ⟨bv, 0, none⟩) n n) vl) ∧ Aside0 (Below gb w wr)) (fun i _ => dl.length - (intOf i).toNat)
      case atStart => exact ⟨0, by omega, rfl, ⟨by simpa using HP.out⟩, HD, HV, HB⟩
      case round =>
       clear HP HD HV HB
       obtain ⟨j, hj, rfl, HP, HD, HV, HB⟩ := hrel
       by_cases hjd : j < dl.length
       ·obtain ⟨-, -, hCd⟩ := Kd.R_reads' HD.out
        obtain ⟨-, -, hCv⟩ := Kd.R_reads' HV.out
        rw [HVL.out] at hCv
        have HW := Aside0.mk (wait_calls2 gp j n q Av1 (some ⟨bv, 0, none⟩) cv1 n dl vl (.slice Ar n cr) _ wr (by omega) hjd HVL.out (by have := Hdl.out; omega) HP.out hCd hCv)
        clear hCd hCv
        go_wp2_with (go_at_call 106; refine HW.out.mono ?_; rintro e w5 ⟨rfl, hp5, hg5⟩; rw [waits_step] at hp5; have HP5 := Aside0.mk hp5; have HD5 := Aside0.mk (Kd.R_grown1 HD.out rfl hg5 (HP.out.ne_of (Kd.R_typed HD.out) (by decide))); have HV5 := Aside0.mk (Kd.R_grown1 HV.out rfl hg5 (HP.out.ne_of (Kd.R_typed HV.out) (by decide))); have HB5 := Aside0.mk (pw_below_grown HB.out (some gp) (by have := HB.out.size; omega) hg5 (fun k e => by cases e; omega)); clear hp5 hg5)
        all_goals go_wp2
        all_goals go_roundw
        case rel => exact ⟨j + 1, by omega, by go_num, HP5, HD5, HV5, HB5⟩
        case measure => exact (show dl.length - ((j : Int) + 1).toNat < dl.length - ((j : Int)).toNat by omega)
       ·obtain rfl : j = dl.length := by omega
        go_wp2
        go_ret2
        exact ⟨gp, Av1, _, cv1, n, _, rfl, by rw [HLE.out]; exact HP.out, by rw [HLE.out, hgb]; exact Kd.R_mono HV.out (fun _ _ => trivial), by rw [hgb]; exact HB.out⟩
 ·go_region_held3 (fun w' => w'.heap[gb]? = some (.cells #[.int .i64 n, .slice A0 E.length c0] 24 (0, 0)) ∧ w'.cell? ⟨gb, 0, none⟩ = some (.int .i64 n) ∧ Below gb w w')
   (first
    | exact held_start HX0.out hx0 HB.out
    | ((try go_split_ands); refine ⟨by assumption, by assumption, by assumption⟩)
    | ((try go_split_ands); exact held_alloc (by assumption) (by assumption) (by assumption))
    | ((try go_split_ands); exact held_below (by assumption) (by assumption) (by assumption) (by assumption))
    | fail)
   ((go_at_call 45; refine (HC.out _ (HC2.out _ (by go_split_ands; assumption))).mono ?_; rintro e w1 ⟨v1, rfl, hr1, hb1⟩; obtain ⟨Av1, cv1, rfl⟩ := Kd.R_slice hr1))
  ·refine ⟨rfl, ?gp_0, ?bv_0, ?bf_0, ?cv_0, ?Av_0, ?u16_0, ?u17_0, ?u18_0, ?u19_0, ?u20_0, ?u21_0, ?u22_0, ?u23_0, ?u24_0, ?u25_0, ?u26_0, ?eq_0, ?gt_0, ?pile_0, ?rd_0, ?rv_0, by (go_split_ands; assumption), by (go_split_ands; assumption)⟩
   case eq_0 => rfl
   case pile_0 => (refine heapnew_at ?_; first | rfl | (simp; done))
   case gt_0 => (have h1 := hb1.size; first | omega | (simp at h1 ⊢; done) | (simp at h1 ⊢; omega) | (have h2 : W0.drew.heap.size = W0.heap.size := rfl; simp [World.drew] at h1 ⊢; omega))
   case rd_0 =>
    refine pile_rd hr1 ?_ ?_ ?_
    ·(have h1 := hb1.size; first | omega | (simp at h1 ⊢; done) | (simp at h1 ⊢; omega) | (have h2 : W0.drew.heap.size = W0.heap.size := rfl; simp [World.drew] at h1 ⊢; omega))
    ·(first | exact fun h => h | exact fun h => Kd.R_alloc h _ | exact fun h => Kd.R_alloc (Kd.R_alloc h _) _ | exact fun h => Kd.R_alloc (Kd.R_alloc (Kd.R_alloc h _) _) _)
    ·(have h1 := hb1.size; first | omega | (simp at h1 ⊢; done) | (simp at h1 ⊢; omega) | (have h2 : W0.drew.heap.size = W0.heap.size := rfl; simp [World.drew] at h1 ⊢; omega))
   case rv_0 =>
    first
     | (refine pile_rv (Y := w1) (HZ.out _ _ rfl) ?_ ?_ hr1 ?_ ?_; (focus (first | rfl | (simp; done))); (focus ((repeat (first | exact Below.refl _ _ | apply below_alloc | apply below_drew1 | refine below_step ?_ hb1)); done)); (focus (have h1 := hb1.size; first | omega | (simp at h1 ⊢; done) | (simp at h1 ⊢; omega) | (have h2 : W0.drew.heap.size = W0.heap.size := rfl; simp [World.drew] at h1 ⊢; omega))); (focus (have h1 := hb1.size; first | omega | (simp at h1 ⊢; done) | (simp at h1 ⊢; omega) | (have h2 : W0.drew.heap.size = W0.heap.size := rfl; simp [World.drew] at h1 ⊢; omega))))
     | (refine pile_rv (Y := (w1.alloc (.cells zs 3))) (HZ.out _ _ rfl) ?_ ?_ hr1 ?_ ?_; (focus (first | rfl | (simp; done))); (focus ((repeat (first | exact Below.refl _ _ | apply below_alloc | apply below_drew1 | refine below_step ?_ hb1)); done)); (focus (have h1 := hb1.size; first | omega | (simp at h1 ⊢; done) | (simp at h1 ⊢; omega) | (have h2 : W0.drew.heap.size = W0.heap.size := rfl; simp [World.drew] at h1 ⊢; omega))); (focus (have h1 := hb1.size; first | omega | (simp at h1 ⊢; done) | (simp at h1 ⊢; omega) | (have h2 : W0.drew.heap.size = W0.heap.size := rfl; simp [World.drew] at h1 ⊢; omega))))
     | (refine pile_rv (Y := W0) (HZ.out _ _ rfl) ?_ ?_ hr1 ?_ ?_; (focus (first | rfl | (simp; done))); (focus ((repeat (first | exact Below.refl _ _ | apply below_alloc | apply below_drew1 | refine below_step ?_ hb1)); done)); (focus (have h1 := hb1.size; first | omega | (simp at h1 ⊢; done) | (simp at h1 ⊢; omega) | (have h2 : W0.drew.heap.size = W0.heap.size := rfl; simp [World.drew] at h1 ⊢; omega))); (focus (have h1 := hb1.size; first | omega | (simp at h1 ⊢; done) | (simp at h1 ⊢; omega) | (have h2 : W0.drew.heap.size = W0.heap.size := rfl; simp [World.drew] at h1 ⊢; omega))))
     | (refine pile_rv (Y := (W0.alloc (.cells zs 3))) (HZ.out _ _ rfl) ?_ ?_ hr1 ?_ ?_; (focus (first | rfl | (simp; done))); (focus ((repeat (first | exact Below.refl _ _ | apply below_alloc | apply below_drew1 | refine below_step ?_ hb1)); done)); (focus (have h1 := hb1.size; first | omega | (simp at h1 ⊢; done) | (simp at h1 ⊢; omega) | (have h2 : W0.drew.heap.size = W0.heap.size := rfl; simp [World.drew] at h1 ⊢; omega))); (focus (have h1 := hb1.size; first | omega | (simp at h1 ⊢; done) | (simp at h1 ⊢; omega) | (have h2 : W0.drew.heap.size = W0.heap.size := rfl; simp [World.drew] at h1 ⊢; omega))))
     | fail
  ·refine ⟨rfl, ?gp_1, ?bv_1, ?bf_1, ?cv_1, ?Av_1, ?u16_1, ?u17_1, ?u18_1, ?u19_1, ?u20_1, ?u21_1, ?u22_1, ?u23_1, ?u24_1, ?u25_1, ?u26_1, ?eq_1, ?gt_1, ?pile_1, ?rd_1, ?rv_1, by (go_split_ands; assumption), by (go_split_ands; assumption)⟩
   case eq_1 => rfl
   case pile_1 => (refine heapnew_at ?_; first | rfl | (simp; done))
   case gt_1 => (have h1 := hb1.size; first | omega | (simp at h1 ⊢; done) | (simp at h1 ⊢; omega) | (have h2 : W0.drew.heap.size = W0.heap.size := rfl; simp [World.drew] at h1 ⊢; omega))
   case rd_1 =>
    refine pile_rd hr1 ?_ ?_ ?_
    ·(have h1 := hb1.size; first | omega | (simp at h1 ⊢; done) | (simp at h1 ⊢; omega) | (have h2 : W0.drew.heap.size = W0.heap.size := rfl; simp [World.drew] at h1 ⊢; omega))
    ·(first | exact fun h => h | exact fun h => Kd.R_alloc h _ | exact fun h => Kd.R_alloc (Kd.R_alloc h _) _ | exact fun h => Kd.R_alloc (Kd.R_alloc (Kd.R_alloc h _) _) _)
    ·(have h1 := hb1.size; first | omega | (simp at h1 ⊢; done) | (simp at h1 ⊢; omega) | (have h2 : W0.drew.heap.size = W0.heap.size := rfl; simp [World.drew] at h1 ⊢; omega))
   case rv_1 =>
    first
     | (refine pile_rv (Y := w1) (HZ.out _ _ rfl) ?_ ?_ hr1 ?_ ?_; (focus (first | rfl | (simp; done))); (focus ((repeat (first | exact Below.refl _ _ | apply below_alloc | apply below_drew1 | refine below_step ?_ hb1)); done)); (focus (have h1 := hb1.size; first | omega | (simp at h1 ⊢; done) | (simp at h1 ⊢; omega) | (have h2 : W0.drew.heap.size = W0.heap.size := rfl; simp [World.drew] at h1 ⊢; omega))); (focus (have h1 := hb1.size; first | omega | (simp at h1 ⊢; done) | (simp at h1 ⊢; omega) | (have h2 : W0.drew.heap.size = W0.heap.size := rfl; simp [World.drew] at h1 ⊢; omega))))
     | (refine pile_rv (Y := (w1.alloc (.cells zs 3))) (HZ.out _ _ rfl) ?_ ?_ hr1 ?_ ?_; (focus (first | rfl | (simp; done))); (focus ((repeat (first | exact Below.refl _ _ | apply below_alloc | apply below_drew1 | refine below_step ?_ hb1)); done)); (focus (have h1 := hb1.size; first | omega | (simp at h1 ⊢; done) | (simp at h1 ⊢; omega) | (have h2 : W0.drew.heap.size = W0.heap.size := rfl; simp [World.drew] at h1 ⊢; omega))); (focus (have h1 := hb1.size; first | omega | (simp at h1 ⊢; done) | (simp at h1 ⊢; omega) | (have h2 : W0.drew.heap.size = W0.heap.size := rfl; simp [World.drew] at h1 ⊢; omega))))
     | (refine pile_rv (Y := W0) (HZ.out _ _ rfl) ?_ ?_ hr1 ?_ ?_; (focus (first | rfl | (simp; done))); (focus ((repeat (first | exact Below.refl _ _ | apply below_alloc | apply below_drew1 | refine below_step ?_ hb1)); done)); (focus (have h1 := hb1.size; first | omega | (simp at h1 ⊢; done) | (simp at h1 ⊢; omega) | (have h2 : W0.drew.heap.size = W0.heap.size := rfl; simp [World.drew] at h1 ⊢; omega))); (focus (have h1 := hb1.size; first | omega | (simp at h1 ⊢; done) | (simp at h1 ⊢; omega) | (have h2 : W0.drew.heap.size = W0.heap.size := rfl; simp [World.drew] at h1 ⊢; omega))))
     | (refine pile_rv (Y := (W0.alloc (.cells zs 3))) (HZ.out _ _ rfl) ?_ ?_ hr1 ?_ ?_; (focus (first | rfl | (simp; done))); (focus ((repeat (first | exact Below.refl _ _ | apply below_alloc | apply below_drew1 | refine below_step ?_ hb1)); done)); (focus (have h1 := hb1.size; first | omega | (simp at h1 ⊢; done) | (simp at h1 ⊢; omega) | (have h2 : W0.drew.heap.size = W0.heap.size := rfl; simp [World.drew] at h1 ⊢; omega))); (focus (have h1 := hb1.size; first | omega | (simp at h1 ⊢; done) | (simp at h1 ⊢; omega) | (have h2 : W0.drew.heap.size = W0.heap.size := rfl; simp [World.drew] at h1 ⊢; omega))))
     | fail
  ·refine ⟨rfl, ?gp_2, ?bv_2, ?bf_2, ?cv_2, ?Av_2, ?u16_2, ?u17_2, ?u18_2, ?u19_2, ?u20_2, ?u21_2, ?u22_2, ?u23_2, ?u24_2, ?u25_2, ?u26_2, ?eq_2, ?gt_2, ?pile_2, ?rd_2, ?rv_2, by (go_split_ands; assumption), by (go_split_ands; assumption)⟩
   case eq_2 => rfl
   case pile_2 => (refine heapnew_at ?_; first | rfl | (simp; done))
   case gt_2 => (have h1 := hb1.size; first | omega | (simp at h1 ⊢; done) | (simp at h1 ⊢; omega) | (have h2 : W0.drew.heap.size = W0.heap.size := rfl; simp [World.drew] at h1 ⊢; omega))
   case rd_2 =>
    refine pile_rd hr1 ?_ ?_ ?_
    ·(have h1 := hb1.size; first | omega | (simp at h1 ⊢; done) | (simp at h1 ⊢; omega) | (have h2 : W0.drew.heap.size = W0.heap.size := rfl; simp [World.drew] at h1 ⊢; omega))
    ·(first | exact fun h => h | exact fun h => Kd.R_alloc h _ | exact fun h => Kd.R_alloc (Kd.R_alloc h _) _ | exact fun h => Kd.R_alloc (Kd.R_alloc (Kd.R_alloc h _) _) _)
    ·(have h1 := hb1.size; first | omega | (simp at h1 ⊢; done) | (simp at h1 ⊢; omega) | (have h2 : W0.drew.heap.size = W0.heap.size := rfl; simp [World.drew] at h1 ⊢; omega))
   case rv_2 =>
    first
     | (refine pile_rv (Y := w1) (HZ.out _ _ rfl) ?_ ?_ hr1 ?_ ?_; (focus (first | rfl | (simp; done))); (focus ((repeat (first | exact Below.refl _ _ | apply below_alloc | apply below_drew1 | refine below_step ?_ hb1)); done)); (focus (have h1 := hb1.size; first | omega | (simp at h1 ⊢; done) | (simp at h1 ⊢; omega) | (have h2 : W0.drew.heap.size = W0.heap.size := rfl; simp [World.drew] at h1 ⊢; omega))); (focus (have h1 := hb1.size; first | omega | (simp at h1 ⊢; done) | (simp at h1 ⊢; omega) | (have h2 : W0.drew.heap.size = W0.heap.size := rfl; simp [World.drew] at h1 ⊢; omega))))
     | (refine pile_rv (Y := (w1.alloc (.cells zs 3))) (HZ.out _ _ rfl) ?_ ?_ hr1 ?_ ?_; (focus (first | rfl | (simp; done))); (focus ((repeat (first | exact Below.refl _ _ | apply below_alloc | apply below_drew1 | refine below_step ?_ hb1)); done)); (focus (have h1 := hb1.size; first | omega | (simp at h1 ⊢; done) | (simp at h1 ⊢; omega) | (have h2 : W0.drew.heap.size = W0.heap.size := rfl; simp [World.drew] at h1 ⊢; omega))); (focus (have h1 := hb1.size; first | omega | (simp at h1 ⊢; done) | (simp at h1 ⊢; omega) | (have h2 : W0.drew.heap.size = W0.heap.size := rfl; simp [World.drew] at h1 ⊢; omega))))
     | (refine pile_rv (Y := W0) (HZ.out _ _ rfl) ?_ ?_ hr1 ?_ ?_; (focus (first | rfl | (simp; done))); (focus ((repeat (first | exact Below.refl _ _ | apply below_alloc | apply below_drew1 | refine below_step ?_ hb1)); done)); (focus (have h1 := hb1.size; first | omega | (simp at h1 ⊢; done) | (simp at h1 ⊢; omega) | (have h2 : W0.drew.heap.size = W0.heap.size := rfl; simp [World.drew] at h1 ⊢; omega))); (focus (have h1 := hb1.size; first | omega | (simp at h1 ⊢; done) | (simp at h1 ⊢; omega) | (have h2 : W0.drew.heap.size = W0.heap.size := rfl; simp [World.drew] at h1 ⊢; omega))))
     | (refine pile_rv (Y := (W0.alloc (.cells zs 3))) (HZ.out _ _ rfl) ?_ ?_ hr1 ?_ ?_; (focus (first | rfl | (simp; done))); (focus ((repeat (first | exact Below.refl _ _ | apply below_alloc | apply below_drew1 | refine below_step ?_ hb1)); done)); (focus (have h1 := hb1.size; first | omega | (simp at h1 ⊢; done) | (simp at h1 ⊢; omega) | (have h2 : W0.drew.heap.size = W0.heap.size := rfl; simp [World.drew] at h1 ⊢; omega))); (focus (have h1 := hb1.size; first | omega | (simp at h1 ⊢; done) | (simp at h1 ⊢; omega) | (have h2 : W0.drew.heap.size = W0.heap.size := rfl; simp [World.drew] at h1 ⊢; omega))))
     | fail
  ·refine ⟨rfl, ?gp_3, ?bv_3, ?bf_3, ?cv_3, ?Av_3, ?u16_3, ?u17_3, ?u18_3, ?u19_3, ?u20_3, ?u21_3, ?u22_3, ?u23_3, ?u24_3, ?u25_3, ?u26_3, ?eq_3, ?gt_3, ?pile_3, ?rd_3, ?rv_3, by (go_split_ands; assumption), by (go_split_ands; assumption)⟩
   case eq_3 => rfl
   case pile_3 => (refine heapnew_at ?_; first | rfl | (simp; done))
   case gt_3 => (have h1 := hb1.size; first | omega | (simp at h1 ⊢; done) | (simp at h1 ⊢; omega) | (have h2 : W0.drew.heap.size = W0.heap.size := rfl; simp [World.drew] at h1 ⊢; omega))
   case rd_3 =>
    refine pile_rd hr1 ?_ ?_ ?_
    ·(have h1 := hb1.size; first | omega | (simp at h1 ⊢; done) | (simp at h1 ⊢; omega) | (have h2 : W0.drew.heap.size = W0.heap.size := rfl; simp [World.drew] at h1 ⊢; omega))
    ·(first | exact fun h => h | exact fun h => Kd.R_alloc h _ | exact fun h => Kd.R_alloc (Kd.R_alloc h _) _ | exact fun h => Kd.R_alloc (Kd.R_alloc (Kd.R_alloc h _) _) _)
    ·(have h1 := hb1.size; first | omega | (simp at h1 ⊢; done) | (simp at h1 ⊢; omega) | (have h2 : W0.drew.heap.size = W0.heap.size := rfl; simp [World.drew] at h1 ⊢; omega))
   case rv_3 =>
    first
     | (refine pile_rv (Y := w1) (HZ.out _ _ rfl) ?_ ?_ hr1 ?_ ?_; (focus (first | rfl | (simp; done))); (focus ((repeat (first | exact Below.refl _ _ | apply below_alloc | apply below_drew1 | refine below_step ?_ hb1)); done)); (focus (have h1 := hb1.size; first | omega | (simp at h1 ⊢; done) | (simp at h1 ⊢; omega) | (have h2 : W0.drew.heap.size = W0.heap.size := rfl; simp [World.drew] at h1 ⊢; omega))); (focus (have h1 := hb1.size; first | omega | (simp at h1 ⊢; done) | (simp at h1 ⊢; omega) | (have h2 : W0.drew.heap.size = W0.heap.size := rfl; simp [World.drew] at h1 ⊢; omega))))
     | (refine pile_rv (Y := (w1.alloc (.cells zs 3))) (HZ.out _ _ rfl) ?_ ?_ hr1 ?_ ?_; (focus (first | rfl | (simp; done))); (focus ((repeat (first | exact Below.refl _ _ | apply below_alloc | apply below_drew1 | refine below_step ?_ hb1)); done)); (focus (have h1 := hb1.size; first | omega | (simp at h1 ⊢; done) | (simp at h1 ⊢; omega) | (have h2 : W0.drew.heap.size = W0.heap.size := rfl; simp [World.drew] at h1 ⊢; omega))); (focus (have h1 := hb1.size; first | omega | (simp at h1 ⊢; done) | (simp at h1 ⊢; omega) | (have h2 : W0.drew.heap.size = W0.heap.size := rfl; simp [World.drew] at h1 ⊢; omega))))
     | (refine pile_rv (Y := W0) (HZ.out _ _ rfl) ?_ ?_ hr1 ?_ ?_; (focus (first | rfl | (simp; done))); (focus ((repeat (first | exact Below.refl _ _ | apply below_alloc | apply below_drew1 | refine below_step ?_ hb1)); done)); (focus (have h1 := hb1.size; first | omega | (simp at h1 ⊢; done) | (simp at h1 ⊢; omega) | (have h2 : W0.drew.heap.size = W0.heap.size := rfl; simp [World.drew] at h1 ⊢; omega))); (focus (have h1 := hb1.size; first | omega | (simp at h1 ⊢; done) | (simp at h1 ⊢; omega) | (have h2 : W0.drew.heap.size = W0.heap.size := rfl; simp [World.drew] at h1 ⊢; omega))))
     | (refine pile_rv (Y := (W0.alloc (.cells zs 3))) (HZ.out _ _ rfl) ?_ ?_ hr1 ?_ ?_; (focus (first | rfl | (simp; done))); (focus ((repeat (first | exact Below.refl _ _ | apply below_alloc | apply below_drew1 | refine below_step ?_ hb1)); done)); (focus (have h1 := hb1.size; first | omega | (simp at h1 ⊢; done) | (simp at h1 ⊢; omega) | (have h2 : W0.drew.heap.size = W0.heap.size := rfl; simp [World.drew] at h1 ⊢; omega))); (focus (have h1 := hb1.size; first | omega | (simp at h1 ⊢; done) | (simp at h1 ⊢; omega) | (have h2 : W0.drew.heap.size = W0.heap.size := rfl; simp [World.drew] at h1 ⊢; omega))))
     | fail
  ·refine ⟨rfl, ?gp_4, ?bv_4, ?bf_4, ?cv_4, ?Av_4, ?u16_4, ?u17_4, ?u18_4, ?u19_4, ?u20_4, ?u21_4, ?u22_4, ?u23_4, ?u24_4, ?u25_4, ?u26_4, ?eq_4, ?gt_4, ?pile_4, ?rd_4, ?rv_4, by (go_split_ands; assumption), by (go_split_ands; assumption)⟩
   case eq_4 => rfl
   case pile_4 => (refine heapnew_at ?_; first | rfl | (simp; done))
   case gt_4 => (have h1 := hb1.size; first | omega | (simp at h1 ⊢; done) | (simp at h1 ⊢; omega) | (have h2 : W0.drew.heap.size = W0.heap.size := rfl; simp [World.drew] at h1 ⊢; omega))
   case rd_4 =>
    refine pile_rd hr1 ?_ ?_ ?_
    ·(have h1 := hb1.size; first | omega | (simp at h1 ⊢; done) | (simp at h1 ⊢; omega) | (have h2 : W0.drew.heap.size = W0.heap.size := rfl; simp [World.drew] at h1 ⊢; omega))
    ·(first | exact fun h => h | exact fun h => Kd.R_alloc h _ | exact fun h => Kd.R_alloc (Kd.R_alloc h _) _ | exact fun h => Kd.R_alloc (Kd.R_alloc (Kd.R_alloc h _) _) _)
    ·(have h1 := hb1.size; first | omega | (simp at h1 ⊢; done) | (simp at h1 ⊢; omega) | (have h2 : W0.drew.heap.size = W0.heap.size := rfl; simp [World.drew] at h1 ⊢; omega))
   case rv_4 =>
    first
     | (refine pile_rv (Y := w1) (HZ.out _ _ rfl) ?_ ?_ hr1 ?_ ?_; (focus (first | rfl | (simp; done))); (focus ((repeat (first | exact Below.refl _ _ | apply below_alloc | apply below_drew1 | refine below_step ?_ hb1)); done)); (focus (have h1 := hb1.size; first | omega | (simp at h1 ⊢; done) | (simp at h1 ⊢; omega) | (have h2 : W0.drew.heap.size = W0.heap.size := rfl; simp [World.drew] at h1 ⊢; omega))); (focus (have h1 := hb1.size; first | omega | (simp at h1 ⊢; done) | (simp at h1 ⊢; omega) | (have h2 : W0.drew.heap.size = W0.heap.size := rfl; simp [World.drew] at h1 ⊢; omega))))
     | (refine pile_rv (Y := (w1.alloc (.cells zs 3))) (HZ.out _ _ rfl) ?_ ?_ hr1 ?_ ?_; (focus (first | rfl | (simp; done))); (focus ((repeat (first | exact Below.refl _ _ | apply below_alloc | apply below_drew1 | refine below_step ?_ hb1)); done)); (focus (have h1 := hb1.size; first | omega | (simp at h1 ⊢; done) | (simp at h1 ⊢; omega) | (have h2 : W0.drew.heap.size = W0.heap.size := rfl; simp [World.drew] at h1 ⊢; omega))); (focus (have h1 := hb1.size; first | omega | (simp at h1 ⊢; done) | (simp at h1 ⊢; omega) | (have h2 : W0.drew.heap.size = W0.heap.size := rfl; simp [World.drew] at h1 ⊢; omega))))
     | (refine pile_rv (Y := W0) (HZ.out _ _ rfl) ?_ ?_ hr1 ?_ ?_; (focus (first | rfl | (simp; done))); (focus ((repeat (first | exact Below.refl _ _ | apply below_alloc | apply below_drew1 | refine below_step ?_ hb1)); done)); (focus (have h1 := hb1.size; first | omega | (simp at h1 ⊢; done) | (simp at h1 ⊢; omega) | (have h2 : W0.drew.heap.size = W0.heap.size := rfl; simp [World.drew] at h1 ⊢; omega))); (focus (have h1 := hb1.size; first | omega | (simp at h1 ⊢; done) | (simp at h1 ⊢; omega) | (have h2 : W0.drew.heap.size = W0.heap.size := rfl; simp [World.drew] at h1 ⊢; omega))))
     | (refine pile_rv (Y := (W0.alloc (.cells zs 3))) (HZ.out _ _ rfl) ?_ ?_ hr1 ?_ ?_; (focus (first | rfl | (simp; done))); (focus ((repeat (first | exact Below.refl _ _ | apply below_alloc | apply below_drew1 | refine below_step ?_ hb1)); done)); (focus (have h1 := hb1.size; first | omega | (simp at h1 ⊢; done) | (simp at h1 ⊢; omega) | (have h2 : W0.drew.heap.size = W0.heap.size := rfl; simp [World.drew] at h1 ⊢; omega))); (focus (have h1 := hb1.size; first | omega | (simp at h1 ⊢; done) | (simp at h1 ⊢; omega) | (have h2 : W0.drew.heap.size = W0.heap.size := rfl; simp [World.drew] at h1 ⊢; omega))))
     | fail
  ·refine ⟨rfl, ?gp_5, ?bv_5, ?bf_5, ?cv_5, ?Av_5, ?u16_5, ?u17_5, ?u18_5, ?u19_5, ?u20_5, ?u21_5, ?u22_5, ?u23_5, ?u24_5, ?u25_5, ?u26_5, ?eq_5, ?gt_5, ?pile_5, ?rd_5, ?rv_5, by (go_split_ands; assumption), by (go_split_ands; assumption)⟩
   case eq_5 => rfl
   case pile_5 => (refine heapnew_at ?_; first | rfl | (simp; done))
   case gt_5 => (have h1 := hb1.size; first | omega | (simp at h1 ⊢; done) | (simp at h1 ⊢; omega) | (have h2 : W0.drew.heap.size = W0.heap.size := rfl; simp [World.drew] at h1 ⊢; omega))
   case rd_5 =>
    refine pile_rd hr1 ?_ ?_ ?_
    ·(have h1 := hb1.size; first | omega | (simp at h1 ⊢; done) | (simp at h1 ⊢; omega) | (have h2 : W0.drew.heap.size = W0.heap.size := rfl; simp [World.drew] at h1 ⊢; omega))
    ·(first | exact fun h => h | exact fun h => Kd.R_alloc h _ | exact fun h => Kd.R_alloc (Kd.R_alloc h _) _ | exact fun h => Kd.R_alloc (Kd.R_alloc (Kd.R_alloc h _) _) _)
    ·(have h1 := hb1.size; first | omega | (simp at h1 ⊢; done) | (simp at h1 ⊢; omega) | (have h2 : W0.drew.heap.size = W0.heap.size := rfl; simp [World.drew] at h1 ⊢; omega))
   case rv_5 =>
    first
     | (refine pile_rv (Y := w1) (HZ.out _ _ rfl) ?_ ?_ hr1 ?_ ?_; (focus (first | rfl | (simp; done))); (focus ((repeat (first | exact Below.refl _ _ | apply below_alloc | apply below_drew1 | refine below_step ?_ hb1)); done)); (focus (have h1 := hb1.size; first | omega | (simp at h1 ⊢; done) | (simp at h1 ⊢; omega) | (have h2 : W0.drew.heap.size = W0.heap.size := rfl; simp [World.drew] at h1 ⊢; omega))); (focus (have h1 := hb1.size; first | omega | (simp at h1 ⊢; done) | (simp at h1 ⊢; omega) | (have h2 : W0.drew.heap.size = W0.heap.size := rfl; simp [World.drew] at h1 ⊢; omega))))
     | (refine pile_rv (Y := (w1.alloc (.cells zs 3))) (HZ.out _ _ rfl) ?_ ?_ hr1 ?_ ?_; (focus (first | rfl | (simp; done))); (focus ((repeat (first | exact Below.refl _ _ | apply below_alloc | apply below_drew1 | refine below_step ?_ hb1)); done)); (focus (have h1 := hb1.size; first | omega | (simp at h1 ⊢; done) | (simp at h1 ⊢; omega) | (have h2 : W0.drew.heap.size = W0.heap.size := rfl; simp [World.drew] at h1 ⊢; omega))); (focus (have h1 := hb1.size; first | omega | (simp at h1 ⊢; done) | (simp at h1 ⊢; omega) | (have h2 : W0.drew.heap.size = W0.heap.size := rfl; simp [World.drew] at h1 ⊢; omega))))
     | (refine pile_rv (Y := W0) (HZ.out _ _ rfl) ?_ ?_ hr1 ?_ ?_; (focus (first | rfl | (simp; done))); (focus ((repeat (first | exact Below.refl _ _ | apply below_alloc | apply below_drew1 | refine below_step ?_ hb1)); done)); (focus (have h1 := hb1.size; first | omega | (simp at h1 ⊢; done) | (simp at h1 ⊢; omega) | (have h2 : W0.drew.heap.size = W0.heap.size := rfl; simp [World.drew] at h1 ⊢; omega))); (focus (have h1 := hb1.size; first | omega | (simp at h1 ⊢; done) | (simp at h1 ⊢; omega) | (have h2 : W0.drew.heap.size = W0.heap.size := rfl; simp [World.drew] at h1 ⊢; omega))))
     | (refine pile_rv (Y := (W0.alloc (.cells zs 3))) (HZ.out _ _ rfl) ?_ ?_ hr1 ?_ ?_; (focus (first | rfl | (simp; done))); (focus ((repeat (first | exact Below.refl _ _ | apply below_alloc | apply below_drew1 | refine below_step ?_ hb1)); done)); (focus (have h1 := hb1.size; first | omega | (simp at h1 ⊢; done) | (simp at h1 ⊢; omega) | (have h2 : W0.drew.heap.size = W0.heap.size := rfl; simp [World.drew] at h1 ⊢; omega))); (focus (have h1 := hb1.size; first | omega | (simp at h1 ⊢; done) | (simp at h1 ⊢; omega) | (have h2 : W0.drew.heap.size = W0.heap.size := rfl; simp [World.drew] at h1 ⊢; omega))))
     | fail
section
attribute [local go_sem] Oper.semAt_some
theorem conf1_seq {w0 : World} {B K n : Nat} {A0 : Option Addr} {c0 : Nat} {E : List S66} {q gx qx : Nat} {calm : List Int → Bool} (W : World) (S0 : Nat) (hS : W.heap.size = S0) (hn : n ≤ 12) (hr0 : Kd.C k66 w0 A0 E.length E) (hc0 : E.length ≤ c0)
  (hcalm : ∀ c, OkC n q c → superstable_calm.f K n E q c = some (calm c)) (hsmall : ∀ (p : List Int) (x kk : Nat), calm (p ++ (x : Int) :: List.replicate kk 0) = true → p.length + 1 + kk = n → p.length ≠ q → x + 1 < B) (hB : B ≤ 1000) (hB0 : 0 < B)
  (htot : (outB q B calm n []).length ≤ 16384)
  (hg : W.heap[gx]? = some (.cells #[.int .i64 n, .slice A0 E.length c0] 24 (0, 0))) (hq : W.heap[qx]? = some (.cells #[.int .i64 q] 3 (0, 0))) (hw : Below w0.heap.size w0 W) :
  SeqSt (σ := Unit) Fence.wide 9 Try.prog 70 #[.pointer (some ⟨gx, 0, none⟩), .pointer (some ⟨qx, 0, none⟩)] (fun x : List Int × Value => #[x.2]) (fun _ W W1 => W1 = W) (fun _ A C => A.grownBy C (some (S0 + 1))) (fun _ x A C => ArC S0 x A C)
   (fun _ X Y => KeepC w0 gx qx S0 X Y) (fun _ xs W' => xs.map Prod.fst = outB q B calm n []) (fun _ _ _ => True) (fun pre => pre.length < 16384) W := by
 intro lp J Jx hJs0 hJxs0 hJ00 hY0
 subst hS
 have hJ0 := hJ00 () W rfl
 have HREC := Aside0.mk (fun W' h1 h2 h3 => conf11_calls (w0 := w0) (B := B) (K := K) (s := W.heap.size) (l := lp) (J := J ()) (Jx := Jx ()) hn hr0 hc0 (blk_lt hg) (blk_lt hq) hw.size hcalm hsmall hB hB0 (fun pre A C h hA => hJs0 _ _ _ _ h hA) (fun pre x A C h1 h2 h3 => hY0 _ _ _ _ _ h1 h2 h3) n 0 [] [] W' rfl (by omega) h1 h2 h3 (by simpa using htot))
 have HJS := Aside0.mk hJs0
 have HJ0 := Aside0.mk hJ0
 obtain ⟨zs, hmk, hzr⟩ := made_ints 42 Try.underlying42 n (by omega)
 have HZ := Aside0.mk hzr
 have HG := Aside0.mk hg
 have HQ := Aside0.mk hq
 have HW := Aside0.mk hw
 have hg1 : (W.alloc (.cells #[.func (.yield lp) #[] #[]] 54)).cell? ⟨gx, 0, none⟩ = some (.int .i64 n) := (blk_cell (blk_alloc hg _) 0).trans rfl
 have HOK := Aside0.mk (show OkC n q (List.replicate n 0) from ⟨by simp, fun i => by simp [rd, List.getD_eq_getElem?_getD, List.getElem?_replicate]; split <;> simp, by simp [rd, List.getD_eq_getElem?_getD, List.getElem?_replicate]; split <;> simp⟩)
 have hgw := blk_lt HG.out
 have hqw := blk_lt HQ.out
 have hws := HW.out.size
 obtain ⟨oy, hoy⟩ : ∃ o : Obj, o = .cells #[.func (.yield lp) #[] #[]] 54 := ⟨_, rfl⟩
 obtain ⟨oz, hoz⟩ : ∃ o : Obj, o = .cells zs 3 := ⟨_, rfl⟩
 obtain ⟨oc, hoc⟩ : ∃ o : Obj, o = .cells #[.slice (some ⟨W.heap.size + 1, 0, none⟩) n n] 42 := ⟨_, rfl⟩
 obtain ⟨fo, hfo⟩ : ∃ o : Obj, o = .cells #[.func (.func 71) #[] #[.pointer (some ⟨gx, 0, none⟩), .pointer (some ⟨W.heap.size, 0, none⟩), .pointer (some ⟨W.heap.size + 1 + 1, 0, none⟩), .pointer (some ⟨qx, 0, none⟩), .pointer (some ⟨W.heap.size + 1 + 1 + 1, 0, none⟩)]] 86 := ⟨_, rfl⟩
 have HB4 := Aside0.mk (below_alloc (below_alloc (below_alloc (below_alloc (Below.refl W.heap.size W) oy) oz) oc) fo)
 have E0 := Aside0.mk (show ((((W.alloc oy).alloc oz).alloc oc).alloc fo).heap[W.heap.size]? = some oy from by rw [Below.heap_alloc _ _ _ (by simp; omega), Below.heap_alloc _ _ _ (by simp; omega), Below.heap_alloc _ _ _ (by simp)]; exact heap_alloc_new W oy)
 have hz1 := HZ.out (W.alloc oy) (fun k => k = W.heap.size + 1) (by simp)
 rw [World.size_alloc, ← hoz] at hz1
 have E1 := Aside0.mk (Kd.R_alloc (Kd.R_alloc (Kd.R_lower hz1 (show w0.heap.size ≤ W.heap.size + 1 by omega)) oc) fo)
 have E2 := Aside0.mk (show ((((W.alloc oy).alloc oz).alloc oc).alloc fo).heap[W.heap.size + 2]? = some oc from by rw [Below.heap_alloc _ _ _ (by simp)]; have h := heap_alloc_new ((W.alloc oy).alloc oz) oc; simpa using h)
 have E3 := Aside0.mk (show ((((W.alloc oy).alloc oz).alloc oc).alloc fo).heap[W.heap.size + 3]? = some fo from by have h := heap_alloc_new (((W.alloc oy).alloc oz).alloc oc) fo; simpa using h)
 have HCS : Aside0 (CS w0 n A0 c0 E q gx qx W.heap.size lp ((((W.alloc oy).alloc oz).alloc oc).alloc fo) (List.replicate n 0)) :=
  ⟨⟨(HB4.out.block gx hgw).trans HG.out, (HB4.out.block qx hqw).trans HQ.out, E0.out.trans (by rw [hoy]), E1.out, E2.out.trans (by rw [hoc]), E3.out.trans (by rw [hfo]), HW.out.trans (HB4.out.mono hws)⟩⟩
 have HJ4 : Aside0 (J () [] ((((W.alloc oy).alloc oz).alloc oc).alloc fo)) := ⟨HJS.out _ _ _ _ HJ0.out (grown_of_below HB4.out _)⟩
 have HCALL := Aside0.mk ((callsIn_wide (n := 8)).2 (callsIn_wide.1 (HREC.out _ (by simpa using HCS.out) (by simpa using HOK.out) HJ4.out)))
 subst hoy hoz hoc hfo
 clear hJs0 hJxs0 hJ00 hY0 hJ0 hcalm hsmall htot hzr hg hq hw hz1
 refine callsIn_of_wp Try.func70 rfl trivial ?_ rfl
 simp only [Try.ntmps70, List.size_toArray, List.length_cons, List.length_nil, Nat.reduceAdd, Nat.reduceSub, Array.replicate_succ, Array.replicate_zero, List.push_toArray, List.append_toArray, List.nil_append, List.cons_append]
 gi_wp2
 refine ⟨trivial, ?_⟩
 refine HCALL.out.mono ?_
 rintro e w3 (⟨vs, rfl, h3, h4, h5⟩ | ⟨rfl, pre', h3⟩)
 ·have H3 := Aside0.mk h3
  have H4 := Aside0.mk h4
  clear h3 h4 h5 hmk
  gi_wp2
  go_end0
  exact ⟨⟨_, rfl⟩, .inl ⟨_, vs, H4.out, H3.out⟩⟩
 ·have H3 := Aside0.mk h3
  clear h3 hmk
  gi_wp2
  go_end0
  exact ⟨⟨_, rfl⟩, .inr ⟨_, pre', trivial, H3.out⟩⟩
end
section
theorem burnAll_mono {b : Nat → Bool} {u : Nat} : ∀ (l : List Nat), b u = true → burnAll b l u = true := by
 intro l
 induction l generalizing b with
 | nil => exact id
 | cons v l ih => intro h; exact ih (b := burn1 b v) (by unfold burn1; split <;> simp_all)
theorem burnAll_cons (b : Nat → Bool) (v : Nat) (l : List Nat) : burnAll b (v :: l) = burnAll (burn1 b v) l := rfl
section
variable {n : Nat} {c : (Nat → Bool) → Nat → Bool}
theorem fire_fix (hc : ∀ b v, c b v = true → b v = false) : ∀ (f : Nat) (b : Nat → Bool), unb n b ≤ f → ∀ v, v < n → c (burnAll b (fireRun n c f b)) v = false := by
 intro f
 induction f with
 | zero =>
  intro b h v hv
  show c b v = false
  cases hcv : c b v with
  | false => rfl
  | true =>
   have := unb_burn1 hv (hc b v hcv)
   omega
 | succ f ih =>
  intro b h v hv
  cases hfc : firstCatch n c b with
  | none =>
   simp only [fireRun, hfc]
   unfold firstCatch at hfc
   rw [List.find?_eq_none] at hfc
   have := hfc v (List.mem_range.2 hv)
   simpa [burnAll] using this
  | some v0 =>
   have h1 := List.find?_some hfc
   have h2 := List.mem_of_find?_eq_some hfc
   have h3 := unb_burn1 (List.mem_range.1 h2) (hc b v0 (by simpa using h1))
   simp only [fireRun, hfc, burnAll_cons]
   exact ih (burn1 b v0) (by omega) v hv
theorem fire_hits (hm : ∀ (b b' : Nat → Bool) v, (∀ u, b u = true → b' u = true) → b' v = false → c b v = true → c b' v = true) (S : Nat → Bool) :
  ∀ (f : Nat) (b : Nat → Bool), (∀ v, S v = true → b v = false) → (∃ v, v < n ∧ S v = true ∧ burnAll b (fireRun n c f b) v = true) → ∃ v, v < n ∧ S v = true ∧ c (fun u => !S u) v = true := by
 intro f
 induction f with
 | zero =>
  rintro b hb ⟨v, hv, hs, h⟩
  have := hb v hs
  simp [fireRun, burnAll, this] at h
 | succ f ih =>
  rintro b hb ⟨v, hv, hs, h⟩
  cases hfc : firstCatch n c b with
  | none =>
   simp only [fireRun, hfc] at h
   have := hb v hs
   simp [burnAll, this] at h
  | some v0 =>
   have h1 := List.find?_some hfc
   have h2 := List.mem_of_find?_eq_some hfc
   simp only [fireRun, hfc, burnAll_cons] at h
   cases hs0 : S v0 with
   | true =>
    refine ⟨v0, List.mem_range.1 h2, hs0, hm b _ v0 (fun u hu => ?_) (by simp [hs0]) (by simpa using h1)⟩
    cases hsu : S u with
    | true => exact absurd hu (by simp [hb u hsu])
    | false => rfl
   | false =>
    refine ih (burn1 b v0) (fun u hu => ?_) ⟨v, hv, hs, h⟩
    unfold burn1
    rw [if_neg (fun e => by subst e; rw [hs0] at hu; cases hu)]
    exact hb u hu
theorem dhar (hc : ∀ b v, c b v = true → b v = false) (hm : ∀ (b b' : Nat → Bool) v, (∀ u, b u = true → b' u = true) → b' v = false → c b v = true → c b' v = true) (b : Nat → Bool) :
  (∀ v, v < n → burnAll b (fireList n c b) v = true) ↔ ∀ S : Nat → Bool, (∃ v, v < n ∧ S v = true) → (∀ v, S v = true → b v = false) → ∃ v, v < n ∧ S v = true ∧ c (fun u => !S u) v = true := by
 constructor
 ·rintro h S ⟨v, hv, hs⟩ hb
  exact fire_hits hm S (unb n b) b hb ⟨v, hv, hs, h v hv⟩
 ·intro h v hv
  cases hbv : burnAll b (fireList n c b) v with
  | true => rfl
  | false =>
   obtain ⟨u, hu, hsu, hcu⟩ := h (fun u => !burnAll b (fireList n c b) u) ⟨v, hv, by simp [hbv]⟩ (fun u hu => by
    cases hbu : b u with
    | false => rfl
    | true => simp [burnAll_mono _ hbu] at hu)
   have := fire_fix (n := n) hc (unb n b) b (Nat.le_refl _) u hu
   simp only [Bool.not_not] at hcu
   rw [show fireList n c b = fireRun n c (unb n b) b from rfl] at hcu
   rw [this] at hcu
   cases hcu
end
theorem flamesTo_mono {t : Nat → Nat → Int} (ht : ∀ i j, 0 ≤ t i j) {b b' : Nat → Bool} (h : ∀ u, b u = true → b' u = true) (v : Nat) : ∀ u, flamesTo t b v u ≤ flamesTo t b' v u
 | 0 => Int.le_refl _
 | u + 1 => by
  have h1 := flamesTo_mono ht h v u
  have h2 := h u
  have h3 := ht v u
  simp only [flamesTo]
  by_cases hb : b u = true
  ·rw [if_pos hb, if_pos (h2 hb)]; omega
  ·rw [if_neg hb]
   split <;> omega
theorem flamesTo_congr {t : Nat → Nat → Int} {b b' : Nat → Bool} (v : Nat) : ∀ n, (∀ u, u < n → b u = b' u) → flamesTo t b v n = flamesTo t b' v n
 | 0, _ => rfl
 | n + 1, h => by
  simp only [flamesTo]
  rw [flamesTo_congr v n (fun u hu => h u (by omega)), h n (by omega)]
def NoBlock (n : Nat) (t : Nat → Nat → Int) (q : Nat) (c : Nat → Int) : Prop := ∀ S : Nat → Bool, (∃ v, v < n ∧ S v = true) → S q = false → ∃ v, v < n ∧ S v = true ∧ c v < flamesTo t (fun u => !S u) v n
def superB (n : Nat) (t : Nat → Nat → Int) (q : Nat) (l : List Int) : Bool := (List.range n).all (burnAll (sinkOnly q) (fireList n (catchB n t l) (sinkOnly q)))
theorem superB_iff {n : Nat} {t : Nat → Nat → Int} (ht : ∀ i j, 0 ≤ t i j) (q : Nat) (l : List Int) : superB n t q l = true ↔ NoBlock n t q (fun v => rd l v) := by
 have h := dhar (n := n) (c := catchB n t l) (fun b v h => catchB_unb b v h) (fun b b' v hb hv hcv => by
  unfold catchB at hcv ⊢
  simp only [Bool.and_eq_true, decide_eq_true_eq] at hcv ⊢
  exact ⟨by simp [hv], Int.lt_of_lt_of_le hcv.2 (flamesTo_mono ht hb v n)⟩) (sinkOnly q)
 unfold superB NoBlock
 rw [List.all_eq_true]
 constructor
 ·intro h1 S hS hq
  obtain ⟨v, hv, hs, hcv⟩ := h.1 (fun v hv => h1 v (List.mem_range.2 hv)) S hS (fun v hv => by
   unfold sinkOnly
   rw [if_neg (fun e => by subst e; rw [hq] at hv; cases hv)])
  unfold catchB at hcv
  simp only [Bool.and_eq_true, decide_eq_true_eq] at hcv
  exact ⟨v, hv, hs, hcv.2⟩
 ·intro h1 v hv
  refine h.2 (fun S hS hb => ?_) v (List.mem_range.1 hv)
  obtain ⟨v, hv, hs, hcv⟩ := h1 S hS (by
   cases hSq : S q with
   | false => rfl
   | true => have := hb q hSq; simp [sinkOnly] at this)
  refine ⟨v, hv, hs, ?_⟩
  unfold catchB
  simp [hs, hcv]
theorem NoBlock.down {n : Nat} {t : Nat → Nat → Int} {q : Nat} {c c' : Nat → Int} (h : NoBlock n t q c) (hc : ∀ v, v < n → c' v ≤ c v) : NoBlock n t q c' := by
 intro S hS hq
 obtain ⟨v, hv, hs, hcv⟩ := h S hS hq
 exact ⟨v, hv, hs, Int.lt_of_le_of_lt (hc v hv) hcv⟩
def valOf (n : Nat) (t : Nat → Nat → Int) (v : Nat) : Int := flamesTo t (fun u => !decide (u = v)) v n
theorem NoBlock.lt {n : Nat} {t : Nat → Nat → Int} {q : Nat} {c : Nat → Int} (h : NoBlock n t q c) {v : Nat} (hv : v < n) (hq : v ≠ q) : c v < valOf n t v := by
 obtain ⟨u, hu, hs, hcu⟩ := h (fun u => decide (u = v)) ⟨v, hv, by simp⟩ (by simpa using fun e => hq e.symm)
 have : u = v := by simpa using hs
 subst this
 exact hcu
end
end Go.Proofs.Ytffdiakgjakngaa.P
