/- SuperstableLists answers true whatever the input (text 4 of 15): own walks and plain laws; no conditions. -/
import Derived.Below
import Derived.LoopIn
import Derived.LoopNIn
import Derived.OwnWalkIn
import Derived.RangeFuncBound
import Derived.RangeFuncCalls
import Derived.RangeFuncLeaves
import Derived.RangeFuncNested
import Derived.RegionIn
import Derived.Shelf.RegionOpen
import Derived.Sort.LoopGhostIn
import Derived.TacticsInMore
import Derived.WalkKit
import Derived.Test.YtffdiakgjakngaaLists3
namespace Go.Proofs.Ytffdiakgjakngaa.P
open Go Go.RowKit
set_option linter.unusedVariables false
set_option linter.unusedSimpArgs false
section
def Bk (l : Nat) (A B : World) : Prop := ∃ o o', A.heap[l]? = some o ∧ o.isCells = false ∧ B = A.putObj l o'
theorem Bk.cells {l : Nat} {A B : World} (h : Bk l A B) {k : Nat} {cs : Array Value} {t : TypeId} {fr : Nat × Nat} (hk : A.heap[k]? = some (.cells cs t fr)) : B.heap[k]? = some (.cells cs t fr) := by
  obtain ⟨o, o', hl, ho, rfl⟩ := h
  rw [World.putObj_heap_other]; · exact hk
  rintro rfl; rw [hl] at hk; injection hk with hk; subst hk; simp [Obj.isCells] at ho
theorem Bk.size {l : Nat} {A B : World} (h : Bk l A B) : B.heap.size = A.heap.size := by
  obtain ⟨o, o', hl, ho, rfl⟩ := h; simp [World.putObj]
theorem Bk.heap {l : Nat} {A B : World} (h : Bk l A B) (k : Nat) (hk : k ≠ l) : B.heap[k]? = A.heap[k]? := by
  obtain ⟨o, o', hl, ho, rfl⟩ := h; exact World.putObj_heap_other hk
theorem Bk.below {l : Nat} {A B : World} (h : Bk l A B) (n : Nat) (hn : n ≤ l) : Below n A B := by
  obtain ⟨o, o', hl, ho, rfl⟩ := h
  exact (Below.refl n A).grown (grownBy_putObj' A l o') (by have := (Array.getElem?_eq_some_iff.1 hl).1; omega) (fun k e => by cases e; omega)
def KeepLD (n : Nat) (A B : World) : Prop := ∀ k o, n ≤ k → k < n + 2 → A.heap[k]? = some o → o.isCells = false → B.heap[k]? = some o
theorem KeepLD.refl (n : Nat) (A : World) : KeepLD n A A := fun _ _ _ _ h _ => h
theorem KeepLD.trans {n : Nat} {A B C : World} (h : KeepLD n A B) (k : KeepLD n B C) : KeepLD n A C := fun j o h1 h2 h3 h4 => k j o h1 h2 (h j o h1 h2 h3 h4) h4
def postSt {σ α : Type} (nw : Nat) (Kp : World → World → Prop) (I : List α → World → Prop) (Ix : Code → List α → World → Prop) (xs : List α) (W : World) : Exit → Act → World → Prop
  | .normal, _, W' => KeepLD nw W W' ∧ Kp W W' ∧ I xs W'
  | .ret, _, W' => KeepLD nw W W' ∧ Ix .ret xs W'
  | _, _, _ => False
variable {F : Fence} {n : Nat} {P : Program}
def SeqSt {σ α : Type} (F : Fence) (n : Nat) (P : Program) (gf : Nat) (lb : Array Value) (encs : α → Array Value) (Start : σ → World → World → Prop) (St : σ → World → World → Prop) (Ar : σ → α → World → World → Prop) (Kp : σ → World → World → Prop) (S : σ → List α → World → Prop) (Sp : σ → List α → World → Prop) (Bd : List α → Prop) (W : World) : Prop :=
  ∀ (l : Nat) (J Jx : σ → List α → World → Prop), (∀ s pre A B, J s pre A → St s A B → J s pre B) → (∀ s pre A B, Jx s pre A → St s A B → Jx s pre B) →
    (∀ s W1, Start s W W1 → J s [] W1) →
    (∀ s pre x Wb W1, J s pre Wb → Ar s x Wb W1 → Bd pre → YieldAt F (n - 1) P l (encs x) W1 fun e W' =>
      (e = .returned (.bool true) ∧ J s (pre ++ [x]) W' ∧ Kp s W1 W') ∨ (e = .returned (.bool false) ∧ Jx s (pre ++ [x]) W')) →
    CallsIn F n P gf (#[.func (.yield l) #[] #[]] ++ lb) W fun e W' => (∃ v, e = .returned v) ∧ ((∃ s xs, S s xs W' ∧ J s xs W') ∨ (∃ s pre, Sp s pre W' ∧ Jx s pre W'))
theorem wpIn_rangeFunc_st {σ α : Type} {g : Operand} {ps : Array Tmp} {assign body : Code} {Q : Exit → Act → World → Prop} {a : Act} {w : World}
    (hro : F.round = none) (h1 : 1 ≤ n) {gf : Nat} {lb : Array Value} (hg : a.eval g = .func (.func gf) #[] lb) (hFg : F.fn gf) (eg : ∀ args w, (callFunc gf args).run P w = .ok (.enter gf args) w)
    {encs : α → Array Value} {Start : σ → World → World → Prop} {St : σ → World → World → Prop} {Ar : σ → α → World → World → Prop} {Kp : σ → World → World → Prop} {S Sp : σ → List α → World → Prop} {Bd : List α → Prop}
    (hseq : ∀ o, SeqSt F (n - 1) P gf lb encs Start St Ar Kp S Sp Bd ((w.alloc (.deferred (some []))).alloc (.loop o))) (hps : ∀ x, (encs x).size = ps.size)
    (Adm : σ → Prop) (hAdm : ∀ o s W1, Start s ((w.alloc (.deferred (some []))).alloc (.loop o)) W1 → Adm s ∧ KeepLD w.heap.size ((w.alloc (.deferred (some []))).alloc (.loop o)) W1)
    (hSt : ∀ s A B, Adm s → St s A B → KeepLD w.heap.size A B) (hAr : ∀ s x A B, Adm s → Ar s x A B → KeepLD w.heap.size A B)
    (I : σ → List α → World → Prop) (Ix : Code → σ → List α → World → Prop)
    (hIs : ∀ s pre A B, Adm s → I s pre A → St s A B → I s pre B) (hIxs : ∀ c s pre A B, Adm s → Ix c s pre A → St s A B → Ix c s pre B)
    (hIb : ∀ s pre A B, I s pre A → Bk (w.heap.size + 1) A B → I s pre B) (hIxb : ∀ c s pre A B, Ix c s pre A → Bk (w.heap.size + 1) A B → Ix c s pre B)
    (hKt : ∀ s A B C D, Bk (w.heap.size + 1) A B → Kp s B C → Bk (w.heap.size + 1) C D → Kp s A D)
    (h0 : ∀ o s W1, Start s ((w.alloc (.deferred (some []))).alloc (.loop o)) W1 → I s [] W1) (a₁ : α → Act)
    (hassign : ∀ (l : Nat) (x : α) (W : World) (K : Act → World → Prop), K (a₁ x) W →
      assign.wpIn (F.inRound l) (n - 1 - 1) P (Exit.then K (fun _ _ _ => False)) { tmps := (ps.zip (encs x)).foldl (fun t (p, v) => t.setIfInBounds p v) a.tmps, defers := [] } W)
    (hbody : ∀ (l : Nat) (s : σ) (pre : List α) (x : α) (Wb W1 W : World), Adm s → I s pre Wb → Ar s x Wb W1 → Bd pre → Bk (w.heap.size + 1) W1 W → body.wpIn (F.inRound l) (n - 1 - 1) P (postSt (σ := σ) w.heap.size (Kp s) (I s) (fun c => Ix c s) (pre ++ [x]) W) (a₁ x) W)
    (hdone : ∀ (s : σ) (xs : List α) (W W' : World), Adm s → S s xs W → I s xs W → Bk (w.heap.size + 1) W W' → W'.heap[w.heap.size]? = some (.deferred (some [])) → Q .normal { a with defers := { target := .collected w.heap.size, args := #[] } :: a.defers } W')
    (hstop : ∀ (c : Code) (s : σ) (pre : List α) (W W' : World), Adm s → Sp s pre W → Ix c s pre W → Bk (w.heap.size + 1) W W' → W'.heap[w.heap.size]? = some (.deferred (some [])) → c.wpIn F n P Q { a with defers := { target := .collected w.heap.size, args := #[] } :: a.defers } W') :
    (Code.rangeFunc g ps assign body).wpIn F n P Q a w := by
  refine wpIn_rangeFunc ?_
  intro fn hfn
  rw [hro]
  obtain ⟨rec, hrec⟩ : ∃ rec : LoopState → Option Code → Loop, rec = fun st pe => { state := st, pending := pe, fn, tmps := a.tmps, params := ps, assign, body, defers := w.heap.size } := ⟨_, rfl⟩
  obtain ⟨W1, hW1⟩ : ∃ W1, (w.alloc (.deferred (some []))).alloc (.loop (rec .ready none)) = W1 := ⟨_, rfl⟩
  have hL1 : W1.heap[w.heap.size + 1]? = some (.loop (rec .ready none)) := by
    rw [← hW1]; have := World.alloc_heap_new (w.alloc (.deferred (some []))) (.loop (rec .ready none)); rwa [World.size_alloc] at this
  have hK1 : W1.heap[w.heap.size]? = some (.deferred (some [])) := by
    rw [← hW1]; exact (Below.heap_alloc _ _ _ (by simp)).trans (World.alloc_heap_new w _)
  refine ⟨w.heap.size + 1, [{ target := .collected w.heap.size, args := #[] }], W1, { target := .fn (.func gf) lb, args := #[.func (.yield (w.heap.size + 1)) #[] #[]] }, W1, gf,
    #[.func (.yield (w.heap.size + 1)) #[] #[]] ++ lb, W1, ?_, ?_, ?_, ?_, fun _ => h1, ?_⟩
  · rw [← hW1, hrec]; exact run_enterLoop_outer _ _ _ _ _
  · simp only [resolve, hg]
    simp [go_sem]
  · intro f' hf'; simp [Target.leads] at hf'; subst hf'; exact hFg
  · simp [invoke, go_sem, eg]
  · have hs := hseq (rec .ready none)
    rw [hW1] at hs
    have ld : ∀ {A B : World} {r : Loop}, KeepLD w.heap.size A B → A.heap[w.heap.size + 1]? = some (.loop r) → B.heap[w.heap.size + 1]? = some (.loop r) := fun h ho => h _ _ (by omega) (by omega) ho rfl
    have ldd : ∀ {A B : World}, KeepLD w.heap.size A B → A.heap[w.heap.size]? = some (.deferred (some [])) → B.heap[w.heap.size]? = some (.deferred (some [])) := fun h ho => h _ _ (by omega) (by omega) ho rfl
    refine (hs (w.heap.size + 1)
      (fun s pre W => Adm s ∧ I s pre W ∧ W.heap[w.heap.size + 1]? = some (.loop (rec .ready none)) ∧ W.heap[w.heap.size]? = some (.deferred (some [])))
      (fun s pre W => Adm s ∧ ∃ c, Ix c s pre W ∧ W.heap[w.heap.size + 1]? = some (.loop (rec .done (some c))) ∧ W.heap[w.heap.size]? = some (.deferred (some [])))
      (fun s pre A B h hst => ⟨h.1, hIs s pre A B h.1 h.2.1 hst, ld (hSt s A B h.1 hst) h.2.2.1, ldd (hSt s A B h.1 hst) h.2.2.2⟩)
      (fun s pre A B h hst => by
        obtain ⟨ha, c, hc, hl, hk⟩ := h
        exact ⟨ha, c, hIxs c s pre A B ha hc hst, ld (hSt s A B ha hst) hl, ldd (hSt s A B ha hst) hk⟩)
      (fun s W2 hst => by
        rw [← hW1] at hst
        have hk := hAdm (rec .ready none) s W2 hst
        have hkk := hk.2
        rw [hW1] at hkk
        exact ⟨hk.1, h0 _ s W2 hst, ld hkk hL1, ldd hkk hK1⟩)
      ?_).mono ?_
    · rintro s pre x Wb W ⟨ha, hi, hl0, hk0⟩ har hbd
      have hkk := hAr s x Wb W ha har
      have hl := ld hkk hl0
      have hk := ldd hkk hk0
      have hlt : w.heap.size + 1 < W.heap.size := (Array.getElem?_eq_some_iff.1 hl).1
      have hy := run_yield (P := P) (args := encs x) hl (by rw [hrec]; exact hps x)
      rw [hrec] at hy
      have hbk : Bk (w.heap.size + 1) W (W.putObj (w.heap.size + 1) (.loop { rec .ready none with state := .busy })) := ⟨_, _, hl, rfl, rfl⟩
      refine ⟨fn, _, assign, body, hy, roundIn_of_wpIn hfn (hassign _ x W _ ⟨_, run_beginRound hl (by rw [hrec]), ?_⟩)⟩
      have hl2 : (W.putObj (w.heap.size + 1) (.loop { rec .ready none with state := .busy })).heap[w.heap.size + 1]? = some (.loop { rec .ready none with state := .busy }) := World.putObj_heap_same hlt
      have hk2 : (W.putObj (w.heap.size + 1) (.loop { rec .ready none with state := .busy })).heap[w.heap.size]? = some (.deferred (some [])) := (World.putObj_heap_other (by omega)).trans hk
      refine wpIn_mono (hbody _ s pre x Wb W _ ha hi har hbd hbk) ?_
      have fin : ∀ (jump : Option Code) (W3 : World), KeepLD w.heap.size (W.putObj (w.heap.size + 1) (.loop { rec .ready none with state := .busy })) W3 →
          (Instr.endRound (w.heap.size + 1) jump).run P W3 = .ok (.bool jump.isNone) (W3.putObj (w.heap.size + 1) (.loop (rec (if jump.isNone then .ready else .done) jump))) ∧
          Bk (w.heap.size + 1) W3 (W3.putObj (w.heap.size + 1) (.loop (rec (if jump.isNone then .ready else .done) jump))) ∧
          (W3.putObj (w.heap.size + 1) (.loop (rec (if jump.isNone then .ready else .done) jump))).heap[w.heap.size + 1]? = some (.loop (rec (if jump.isNone then .ready else .done) jump)) ∧
          (W3.putObj (w.heap.size + 1) (.loop (rec (if jump.isNone then .ready else .done) jump))).heap[w.heap.size]? = some (.deferred (some [])) := fun jump W3 hk3 => by
        have hl3 := ld hk3 hl2
        have := run_endRound (P := P) jump hl3
        rw [hrec] at this ⊢
        exact ⟨this, ⟨_, _, hl3, rfl, rfl⟩, World.putObj_heap_same (Array.getElem?_eq_some_iff.1 hl3).1, (World.putObj_heap_other (by omega)).trans (ldd hk3 hk2)⟩
      rintro e a3 W3 hp
      cases e with
      | normal =>
        obtain ⟨hk3, hkp3, hi3⟩ := hp
        obtain ⟨hr, hb4, hl4, hk4⟩ := fin none W3 hk3
        exact ⟨_, _, hr, .inl ⟨rfl, ⟨ha, hIb s _ _ _ hi3 hb4, hl4, hk4⟩, hKt s _ _ _ _ hbk hkp3 hb4⟩⟩
      | ret =>
        obtain ⟨hk3, hi3⟩ := hp
        obtain ⟨hr, hb4, hl4, hk4⟩ := fin (some .ret) W3 hk3
        exact ⟨_, _, hr, .inr ⟨rfl, ha, .ret, hIxb _ s _ _ _ hi3 hb4, hl4, hk4⟩⟩
      | exit id => exact hp.elim
      | goto t => exact hp.elim
      | panic ch => exact hp.elim
      | outgrown => exact hp.elim
    · rintro e W2 ⟨⟨v, rfl⟩, (⟨s, xs, hS, ha, hi, hl, hk⟩ | ⟨s, pre, hSp, ha, c, hi, hl, hk⟩)⟩
      · exact ⟨none, _, by have := run_endLoop (P := P) hl (by rw [hrec]; simp); rw [hrec] at this; exact this, hdone s xs W2 _ ha hS hi ⟨_, _, hl, rfl, rfl⟩ ((World.putObj_heap_other (by omega)).trans hk)⟩
      · exact ⟨some c, _, by have := run_endLoop (P := P) hl (by rw [hrec]; simp); rw [hrec] at this; exact this, hstop c s pre W2 _ ha hSp hi ⟨_, _, hl, rfl, rfl⟩ ((World.putObj_heap_other (by omega)).trans hk)⟩
end
end Go.Proofs.Ytffdiakgjakngaa.P
namespace Go.Proofs.Ytffdiakgjakngaa.P
open Go.RowKit Go.Proofs.YtffdiakgjakngaaW.PrintWords Go.Proofs.YtffdiakgjakngaaW.PrintLast Go.Proofs.YtffdiakgjakngaaW.PrintMore
set_option linter.unusedVariables false
set_option linter.unusedSimpArgs false
section
def firstCatch (n : Nat) (c : (Nat → Bool) → Nat → Bool) (b : Nat → Bool) : Option Nat := (List.range n).find? (fun v => c b v)
def burn1 (b : Nat → Bool) (v : Nat) : Nat → Bool := fun u => if u = v then true else b u
def unb (n : Nat) (b : Nat → Bool) : Nat := (List.range n).countP (fun v => !b v)
def fireRun (n : Nat) (c : (Nat → Bool) → Nat → Bool) : Nat → (Nat → Bool) → List Nat
  | 0, _ => []
  | f + 1, b => match firstCatch n c b with
    | none => []
    | some v => v :: fireRun n c f (burn1 b v)
def fireList (n : Nat) (c : (Nat → Bool) → Nat → Bool) (b : Nat → Bool) : List Nat := fireRun n c (unb n b) b
def burnAll (b : Nat → Bool) (l : List Nat) : Nat → Bool := l.foldl burn1 b
theorem burnAll_snoc (b : Nat → Bool) (l : List Nat) (v : Nat) : burnAll b (l ++ [v]) = burn1 (burnAll b l) v := by simp [burnAll]
theorem unb_burn1 {n : Nat} {b : Nat → Bool} {v : Nat} (hv : v < n) (hb : b v = false) : unb n b = unb n (burn1 b v) + 1 := by
  unfold unb
  induction n with
  | zero => omega
  | succ n ih =>
    rw [List.range_succ, List.countP_append, List.countP_append]
    by_cases e : v = n
    · subst e
      have h1 : (List.range v).countP (fun u => !b u) = (List.range v).countP (fun u => !burn1 b v u) := List.countP_congr (fun u hu => by have := List.mem_range.1 hu; simp [burn1, show u ≠ v from by omega])
      rw [h1]; simp [burn1, hb]
    · have := ih (by omega)
      rw [this]; simp [burn1, show n ≠ v from by omega]; omega
theorem unb_le (n : Nat) (b : Nat → Bool) : unb n b ≤ n := by
  unfold unb
  exact Nat.le_trans List.countP_le_length (by simp)
theorem fireList_none {n : Nat} {c : (Nat → Bool) → Nat → Bool} {b : Nat → Bool} (h : ∀ v, v < n → c b v = false) : fireList n c b = [] := by
  have : firstCatch n c b = none := by
    unfold firstCatch
    rw [List.find?_eq_none]
    intro v hv
    simp [h v (List.mem_range.1 hv)]
  unfold fireList
  cases unb n b <;> simp [fireRun, this]
theorem fireList_some {n : Nat} {c : (Nat → Bool) → Nat → Bool} (hc : ∀ b v, c b v = true → b v = false) {b : Nat → Bool} {v : Nat} (hv : v < n) (hcv : c b v = true) (hl : ∀ u, u < v → c b u = false) : fireList n c b = v :: fireList n c (burn1 b v) := by
  have hfc : firstCatch n c b = some v := by
    unfold firstCatch
    rw [List.find?_eq_some_iff_append]
    refine ⟨hcv, (List.range n).take v, (List.range n).drop (v + 1), ?_, ?_⟩
    · have h1 : (List.range n)[v]'(by simpa using hv) = v := by simp
      conv => lhs; rw [← List.take_append_drop v (List.range n)]
      rw [List.drop_eq_getElem_cons (by simpa using hv), h1]
    · intro u hu
      have hu2 : u < v := by
        rw [List.mem_take_iff_getElem] at hu
        obtain ⟨j, hj, rfl⟩ := hu
        simp at hj ⊢; omega
      simp [hl u hu2]
  have h3 := unb_burn1 hv (hc b v hcv)
  unfold fireList
  rw [h3]
  simp only [fireRun, hfc]
def catchB (n : Nat) (times : Nat → Nat → Int) (l : List Int) (b : Nat → Bool) (v : Nat) : Bool := !b v && decide (rd l v < flamesTo times b v n)
theorem catchB_unb {n : Nat} {times : Nat → Nat → Int} {l : List Int} (b : Nat → Bool) (v : Nat) (h : catchB n times l b v = true) : b v = false := by
  unfold catchB at h
  cases hb : b v <;> simp_all
set_option maxHeartbeats 4000000 in
theorem catches_calls (g : Nat) (n v : Nat) (times : Nat → Nat → Int) (A : Option Addr) (c : Nat) (l : List Int) (burnt : Nat → Bool) (w : World) (hn : n ≤ 12) (hv : v < 12) (hvl : v < l.length) (ht : ∀ i j, 0 ≤ times i j ∧ times i j ≤ 50) (hw : WoodAt w g n times (.slice A l.length c) burnt) (hr : Kd.C (Kd.int .i64) w A l.length l) :
    Calls Try.prog 99 #[.pointer (some ⟨g, 0, none⟩), .int .i64 v] w fun e w' => e = .returned (.bool (catchB n times l burnt v)) ∧ Drawn0 w w' := by
  unfold catchB
  cases hb : burnt v with
  | true => simpa using catches_burnt g n v times _ burnt w hv hw hb
  | false => simpa using catches_not g n v times A c l burnt w hn hv hvl ht hw hr hb
attribute [local go_sem] Oper.semAt_some
theorem grown_drawn {w w1 : World} (h : Drawn0 w w1) (r : Option Nat) : w.grownBy w1 r := grown_of_below h.below r
theorem grown_set {w w1 : World} {g j : Nat} {v : Value} (h : w.grownBy w1 (some g)) : w.grownBy (w1.setCell ⟨g, j, none⟩ v) (some g) :=
  have hb := (Below.refl 0 w1).setCell (p := ⟨g, j, none⟩) (Nat.zero_le _) v
  h.trans ⟨hb.os, hb.tape, hb.output, hb.size, fun k _ hk => Below.heap_setCell _ _ _ _ (fun e => hk (by rw [e]))⟩
theorem WoodAt.of_heap {w w' : World} {g : Nat} {n : Int} {times : Nat → Nat → Int} {chips : Value} {burnt : Nat → Bool} (h : WoodAt w g n times chips burnt) (e : w'.heap[g]? = w.heap[g]?) : WoodAt w' g n times chips burnt := by
  obtain ⟨cs, hb, hc⟩ := h
  exact ⟨cs, e.trans hb, hc⟩
theorem keeps_box {w : World} {b : Nat} {v : Value} {t : TypeId} (h : w.heap[b]? = some (.cells #[v] t (0, 0))) : w.cell? ⟨b, 0, none⟩ = some v := (blk_cell h 0).trans rfl
set_option maxHeartbeats 8000000 in
set_option maxRecDepth 100000 in
theorem fire1_seq (g bw n : Nat) (times : Nat → Nat → Int) (A : Option Addr) (c : Nat) (l : List Int) (b0 : Nat → Bool) (W : World) (base : Nat) (hn : n ≤ 12) (hl : n ≤ l.length) (ht : ∀ i j, 0 ≤ times i j ∧ times i j ≤ 50) (hbg : bw ≠ g)
    (hW : WoodAt W g n times (.slice A l.length c) b0) (hbox : W.heap[bw]? = some (.cells #[.pointer (some ⟨g, 0, none⟩)] 99 (0, 0))) (hr : Kd.R (Kd.int .i64) 3 W base (fun k => some k = (Value.slice A l.length c).ownBlock) (.slice A l.length c) l) :
    SeqSt (σ := Unit) Fence.wide 9 Try.prog 98 #[.pointer (some ⟨bw, 0, none⟩)] (fun v : Nat => #[.int .i64 v]) (fun _ W W1 => W1 = W) (fun _ A B => A.grownBy B (some g)) (fun _ _ A B => A.grownBy B (some g))
      (fun _ X Y => ∀ k, (k = g ∨ k = bw ∨ some k = (Value.slice A l.length c).ownBlock) → Y.heap[k]? = X.heap[k]?)
      (fun _ xs W' => xs = fireList n (catchB n times l) b0 ∧ WoodAt W' g n times (.slice A l.length c) (burnAll b0 xs)) (fun _ _ _ => True) (fun pre => pre.length < n) W := by
  intro lp J Jx hJs0 hJxs0 hJ00 hY0
  have hJs := Aside0.mk hJs0
  have hJxs := Aside0.mk hJxs0
  have hY := Aside0.mk hY0
  have hJ0 := hJ00 () W rfl
  clear hJs0 hJxs0 hJ00 hY0
  refine callsIn_of_wp Try.func98 rfl trivial ?_ rfl
  simp only [Try.ntmps98, List.size_toArray, List.length_cons, List.length_nil, Nat.reduceAdd, Nat.reduceSub, Array.replicate_succ, Array.replicate_zero, List.push_toArray, List.append_toArray, List.nil_append, List.cons_append]
  gi_wp2
  gi_loopg [3] (13 * unb n b0 + n) (fun kq v wr => ∃ (pre : List Nat) (u : Nat), v = .int .i64 u ∧ u ≤ n ∧ Aside0 (J () pre wr) ∧ Aside0 (WoodAt wr g n times (.slice A l.length c) (burnAll b0 pre)) ∧ Aside0 (wr.heap[bw]? = some (.cells #[.pointer (some ⟨g, 0, none⟩)] 99 (0, 0))) ∧ Aside0 (Kd.R (Kd.int .i64) 3 wr base (fun k => some k = (Value.slice A l.length c).ownBlock) (.slice A l.length c) l) ∧ Aside0 (∀ x, x < u → catchB n times l (burnAll b0 pre) x = false) ∧ Aside0 (fireList n (catchB n times l) b0 = pre ++ fireList n (catchB n times l) (burnAll b0 pre)) ∧ Aside0 (kq = 13 * unb n (burnAll b0 pre) + (n - u)) ∧ Aside0 (pre.length + unb n (burnAll b0 pre) = unb n b0))
  case atStart => exact ⟨[], 0, rfl, Nat.zero_le _, ⟨hJ0⟩, ⟨hW⟩, ⟨hbox⟩, ⟨hr⟩, ⟨fun x hx => by omega⟩, ⟨by simp [burnAll]⟩, ⟨by simp [burnAll]⟩, ⟨by simp [burnAll]⟩⟩
  case round =>
    obtain ⟨pre, u, rfl, hu, HJ, HW, HBX, HR, HN, HF, HK, HL⟩ := hrel
    have hcx := keeps_box HBX.out
    have hcn := HW.out.cell_n
    by_cases hlt : u < n
    · have hCr : Kd.C (Kd.int .i64) wr A l.length l := by
        obtain ⟨A', c', e, _, hC⟩ := Kd.R_reads HR.out
        injection e with e1 e2 e3
        rw [e1]; exact hC
      have HC := Aside0.mk (catches_calls g n u times A c l (burnAll b0 pre) wr hn (by omega) (by omega) ht HW.out hCr)
      clear hCr
      cases hcb : catchB n times l (burnAll b0 pre) u with
      | false =>
        rw [hcb] at HC
        have Hcb := Lib.hid hcb
        clear hcb
        gi_wp2_with (refine ⟨trivial, ?_⟩; gi_at_call 99; refine (callsIn_wide.2 HC.out).mono ?_; rintro e w1 ⟨rfl, hD⟩; have HD := Aside0.mk hD; clear hD)
        gi_roundg (13 * unb n (burnAll b0 pre) + (n - (u + 1)))
        case measure => rw [HK.out]; omega
        case rel =>
          obtain ⟨m, rfl⟩ := HD.out.out
          refine ⟨pre, u + 1, by go_num, by omega, ⟨hJs.out () pre wr _ HJ.out (grown_drawn HD.out _)⟩, HW, HBX, HR, ⟨fun x hx => ?_⟩, HF, ⟨rfl⟩, HL⟩
          by_cases e : x = u
          · rw [e]; exact Hcb.out
          · exact HN.out x (by omega)
      | true =>
        rw [hcb] at HC
        have hbu := catchB_unb _ _ hcb
        have hun := unb_burn1 hlt hbu
        have hfl := fireList_some catchB_unb hlt hcb HN.out
        have Hun := Lib.hid hun
        have Hfl := Lib.hid hfl
        have Hcb := Lib.hid hcb
        clear hcb hbu hun hfl
        have HG : Aside0 (∀ w1, Drawn0 wr w1 → w1.cell? ⟨bw, 0, none⟩ = some (.pointer (some ⟨g, 0, none⟩)) ∧ w1.cell? ⟨g, 146 + u, none⟩ = some (.bool (burnAll b0 pre u)) ∧ w1.frozen? ⟨g, 146 + u, none⟩ = false ∧
            WoodAt (w1.setCell ⟨g, 146 + u, none⟩ (.bool true)) g n times (.slice A l.length c) (burnAll b0 (pre ++ [u])) ∧ (w1.setCell ⟨g, 146 + u, none⟩ (.bool true)).heap[bw]? = some (.cells #[.pointer (some ⟨g, 0, none⟩)] 99 (0, 0)) ∧
            Kd.R (Kd.int .i64) 3 (w1.setCell ⟨g, 146 + u, none⟩ (.bool true)) base (fun k => some k = (Value.slice A l.length c).ownBlock) (.slice A l.length c) l ∧ wr.grownBy (w1.setCell ⟨g, 146 + u, none⟩ (.bool true)) (some g)) := by
          refine ⟨fun w1 hD => ?_⟩
          obtain ⟨m, rfl⟩ := hD.out
          refine ⟨hcx, HW.out.cell_burnt u (by omega), HW.out.frozen _, ?_, ?_, ?_, grown_set (grown_drawn hD _)⟩
          · rw [burnAll_snoc]; exact (HW.out.drewN m).set_burnt u (by omega) true
          · exact blk_far (w := wr.drewN m) HBX.out hbg _
          · exact (HW.out.drewN m).R_set (Kd.R_drewN HR.out m) (by decide) (146 + u) (.bool true)
        gi_wp2_with (refine ⟨trivial, ?_⟩; gi_at_call 99; refine (callsIn_wide.2 HC.out).mono ?_; rintro e w1 ⟨rfl, hD⟩; obtain ⟨q1, q2, q3, hW2, hB2, hR2, hG2⟩ := HG.out w1 hD; have HW2 := Aside0.mk hW2; have HB2 := Aside0.mk hB2; have HR2 := Aside0.mk hR2; have HG2 := Aside0.mk hG2; obtain ⟨fn, tmps, asg, bdy, hy, hRo⟩ := hY.out () pre u wr _ HJ.out hG2 (by have := HL.out; have := Hun.out; have := unb_le n b0; omega); have HRo := Aside0.mk hRo; clear hD hW2 hB2 hR2 hG2 hRo)
        refine HRo.out.mono ?_
        rintro e W3 (⟨rfl, hJ3, hk3⟩ | ⟨rfl, hJx3⟩)
        · have HW3 := Aside0.mk (HW2.out.of_heap (hk3 g (.inl rfl)))
          have HB3 := Aside0.mk ((hk3 bw (.inr (.inl rfl))).trans HB2.out)
          have HR3 := Aside0.mk (Kd.R_move HR2.out (fun k hk => hk3 k (.inr (.inr hk))))
          have HJ3 := Aside0.mk hJ3
          clear hJ3 hk3 hy q1 q2 q3
          gi_wp2
          gi_roundg (13 * unb n (burnAll b0 (pre ++ [u])) + n)
          case measure => rw [HK.out, Hun.out, burnAll_snoc]; omega
          case rel =>
            refine ⟨pre ++ [u], 0, rfl, by omega, HJ3, HW3, HB3, HR3, ⟨fun x hx => by omega⟩, ⟨?_⟩, ⟨rfl⟩, ⟨by have := HL.out; have := Hun.out; rw [burnAll_snoc]; simp; omega⟩⟩
            rw [HF.out, Hfl.out, burnAll_snoc]; simp
        · clear hy q1 q2 q3
          have HJx3 := Aside0.mk hJx3
          clear hJx3
          gi_wp2
          refine bodyPost_ret (results_none rfl _ _ _) rfl ?_
          exact ⟨⟨_, rfl⟩, .inr ⟨(), pre ++ [u], trivial, HJx3.out⟩⟩
    · have hun : u = n := by omega
      subst hun
      gi_wp2
      go_end0
      exact ⟨⟨_, rfl⟩, .inl ⟨(), pre, ⟨by rw [HF.out, fireList_none HN.out]; simp, HW.out⟩, HJ.out⟩⟩
end
section
section
variable {F : Fence} {n : Nat} {P : Program} {ops : Array Oper} {rest : List Oper} {o : Oper} {a : Act} {Q : Exit → Act → World → Prop} {α : Type}
theorem R_append_in (d : Kd α) {w0 W : World} (base : Nat) (hgd : o.guard = none) (s x : Operand) (t e : TypeId) (z : Value) (bytes : Nat)
    (ho : o.op = .call { callee := .builtin .append, args := #[s, x], argTypes := #[t, t] })
    (ht : P.underlying t = some (.slice e)) (hinfo : (P.info? e).map (fun i => (i.zero, i.size, i.bytes)) = some (some z, d.sz, bytes)) (hz : z.cells.size = d.sz) (hs0 : 0 < d.sz) (hb0 : 0 < bytes)
    (v : Value) (xs : List α) (p : α) (cs : List Value) (ok okp : Nat → Prop) (hs : a.eval s = v) (hx : a.eval x = .slice (some ⟨W.heap.size, 0, none⟩) 1 1) (hp : d.M W base okp p cs) (hokp : ∀ k, okp k → ok k ∧ some k ≠ v.ownBlock) (hfresh : ∀ k, W.heap.size ≤ k → ok k)
    (HO : d.R e W base ok v xs) (HB : Below base w0 W) (hbase : base ≤ W.heap.size) (hl : (xs.length + 1) * bytes ≤ 140737488355328)
    (h : ∀ v1 w1, d.R e w1 base ok v1 (xs ++ [p]) → Below base w0 w1 → W.grownBy w1 v.ownBlock → (v1.ownBlock = v.ownBlock ∨ ∃ b, v1.ownBlock = some b ∧ W.heap.size ≤ b) → wpListIn F n P ops Q rest (a.put o.dst v1) w1) :
    wpListIn F n P ops Q (o :: rest) a (W.alloc (.cells cs.toArray e)) := by
  obtain ⟨h0, inner, hown, hr⟩ := HO
  have hys : cs.length = d.sz := d.K_len (d.K_of_M hp)
  have h1 := d.K_one (d.K_of_M hp)
  obtain ⟨i0, hi, hzz⟩ := Option.map_eq_some_iff.1 hinfo
  simp only [Prod.mk.injEq] at hzz
  obtain ⟨hz0, hz1, hz2⟩ := hzz
  have hlen : xs.length + 1 ≤ 140737488355328 := Nat.le_trans (Nat.le_mul_of_pos_right _ hb0) hl
  refine wpListIn_plain hgd fun K hK' => ?_
  obtain ⟨v1, w1, hrun, hown1, hg, _, hat⟩ := run_append_own_at (P := P) (W.alloc (.cells cs.toArray e)) base t o.type e i0 z d.sz bytes ht hi hz0 hz1 hz2 hz hs0 v xs.length inner (hown.alloc _) ⟨W.heap.size, 0, none⟩ 1 1 cs (by rw [hys]; simp)
    (by simpa using World.news_of_block (cs := cs.toArray) (t := e) (fr := (0, 0)) (heap_alloc_new W (.cells cs.toArray e))) h1 (by simp only [maxLen]; omega) hl (by simp; omega)
  have hgg : W.grownBy w1 v.ownBlock := World.grownBy.trans (World.grownBy_alloc W _ _) hg
  have hat' : v1.ownBlock = v.ownBlock ∨ ∃ b, v1.ownBlock = some b ∧ W.heap.size ≤ b := by
    rcases hat with hat | hat
    · exact .inl hat
    · exact .inr ⟨_, hat, by simp⟩
  unfold Oper.wpIn
  refine ⟨?_, ?_⟩
  · simp [Oper.about, ho, resolve, Target.leads, Sem.run_pure]
  · rw [Oper.semAt_plain F _ _ (by rw [ho]; intro c hc'; cases hc')]
    simp [execOp, ho, resolve, invoke, builtin, hs, hx, hrun, Result.andThen]
    exact hK' _ _ (h v1 w1 (Kd.R_appended h0 hr hp hokp hfresh hown1 hgg hat') ((HB.alloc hbase _).grown hg (by simp; omega) (own_base hown)) hgg hat')
end
theorem keepLD_append {α : Type} {d : Kd α} {e base nw : Nat} {ok : Nat → Prop} {v : Value} {xs : List α} {W w1 : World} (hR : d.R e W base ok v xs) (hg : W.grownBy w1 v.ownBlock) : KeepLD nw W w1 := fun k o h1 h2 h3 h4 => by
  refine (hg.block k (Array.getElem?_eq_some_iff.1 h3).1 (fun e => ?_)).trans h3
  obtain ⟨cells, hc⟩ := Kd.R_typed hR k e.symm
  rw [h3] at hc; injection hc with hc; subst hc; simp [Obj.isCells] at h4
theorem keepLD_set {nw bo j : Nat} (W : World) (v : Value) (h : bo < nw) : KeepLD nw W (W.setCell ⟨bo, j, none⟩ v) := fun k o h1 h2 h3 h4 => by
  rw [Below.heap_setCell _ _ _ _ (by simp; omega)]; exact h3
theorem R_bk {α : Type} {d : Kd α} {e base l : Nat} {ok : Nat → Prop} {v : Value} {xs : List α} {A B : World} (h : d.R e A base ok v xs) (hb : Bk l A B) : d.R e B base ok v xs :=
  Kd.R_mono (Kd.R_move (Kd.R_bound h) (fun k hk => by obtain ⟨_, _, _, q, _, cells, hc⟩ := hk; exact (hb.cells hc).trans hc.symm)) (fun k hk => hk.1)
theorem own_len (A : Option Addr) (m m' c : Nat) : (Value.slice A m c).ownBlock = (Value.slice A m' c).ownBlock := by cases A <;> rfl
theorem bodyPostM_one {F : Fence} {n : Nat} {P : Program} {fn : Func} {R : Ending → World → Prop} {a : Act} {w : World} {D : Nat} {v : Value} (hd : a.defers = [{ target := .collected D, args := #[] }]) (hdf : w.heap[D]? = some (.deferred (some [])))
    (hres : (results fn a.tmps).run P (w.putObj D (.deferred none)) = .ok v (w.putObj D (.deferred none))) (hR : R (.returned v) (w.putObj D (.deferred none))) : bodyPostM F n P fn R .ret a w := by
  show LeavesInM F n P fn a.tmps R a.defers .returning w
  rw [hd]
  exact ⟨by simp, .inl ⟨_, _, rfl, run_takeDeferred hdf, ⟨_, hres, hR⟩⟩⟩
theorem no_exits {F : Fence} {n : Nat} {P : Program} {c : Code} {K : Act → World → Prop} {Q : Exit → Act → World → Prop} {a : Act} {w : World} (h : c.wpIn F n P (Exit.then K (fun _ _ _ => False)) a w) : c.wpIn F n P (Exit.then K Q) a w :=
  wpIn_mono h (fun e a w h => by cases e <;> first | exact h | exact h.elim)
end
section
attribute [local go_sem] Oper.semAt_some
theorem singles_calls (N : Int) (A0 : Option Addr) (c0 : Nat) (E : List S66) (w : World) : Calls Try.prog 114 #[.agg #[.int .i64 N, .slice A0 E.length c0]] w fun e w' => e = .returned (.func (.func 121) #[] #[.pointer (some ⟨w.heap.size, 0, none⟩)]) ∧ w' = w.alloc (.cells #[.int .i64 N, .slice A0 E.length c0] 24) := by
  go_enter Try.func114, Try.ntmps114
  go_wp2
  go_ret
  exact ⟨rfl, rfl⟩
def someOf (s : Nat) (a b : Int) : Nat → List (Nat × Int × Int)
  | 0 => []
  | j + 1 => someOf s a b j ++ [(s + j, a, b)]
def singlesTo (E : List S66) : Nat → List (Nat × Int × Int)
  | 0 => []
  | k + 1 => singlesTo E k ++ someOf (sizeTo E k) (rd_T66 E k).f0 (rd_T66 E k).f1 (rd_T66 E k).f2.toNat
theorem someOf_length (s : Nat) (a b : Int) : ∀ j, (someOf s a b j).length = j
  | 0 => rfl
  | j + 1 => by simp [someOf, someOf_length s a b j]
theorem singlesTo_length (E : List S66) : ∀ k, (singlesTo E k).length = sizeTo E k
  | 0 => rfl
  | k + 1 => by simp [singlesTo, sizeTo, singlesTo_length E k, someOf_length]
def KeepG (base : Nat) (X Y : World) : Prop := (base ≤ X.heap.size → Below base X Y) ∧ ∀ (k : Nat) (cs : Array Value) (t : TypeId), (t = 24 ∨ t = 66) → X.heap[k]? = some (Obj.cells cs t (0, 0)) → Y.heap[k]? = some (Obj.cells cs t (0, 0))
set_option maxHeartbeats 8000000 in
set_option maxRecDepth 100000 in
theorem singles1_seq (bx : Nat) (N : Int) (A0 : Option Addr) (c0 : Nat) (E : List S66) (w0 W : World) (hr0 : Kd.C k66 w0 A0 E.length E) (hE : multsOk E = true) (hB : Below w0.heap.size w0 W)
    (hbox : W.heap[bx]? = some (.cells #[.int .i64 N, .slice A0 E.length c0] 24 (0, 0))) :
    SeqSt (σ := Unit) Fence.wide 9 Try.prog 121 #[.pointer (some ⟨bx, 0, none⟩)] (fun x : Nat × Int × Int => #[.int .i64 x.1, .agg #[.int .i64 x.2.1, .int .i64 x.2.2]]) (fun _ W W1 => W1 = W) (fun _ A B => Below A.heap.size A B) (fun _ _ A B => Below A.heap.size A B)
      (fun _ X Y => KeepG w0.heap.size X Y)
      (fun _ xs W' => xs = singlesTo E E.length) (fun _ _ _ => True) (fun pre => pre.length < 2000) W := by
  intro lp J Jx hJs0 hJxs0 hJ00 hY0
  have hJs := Aside0.mk hJs0
  have hJxs := Aside0.mk hJxs0
  have hY := Aside0.mk hY0
  have hJ0 := hJ00 () W rfl
  clear hJs0 hJxs0 hJ00 hY0
  have hu := Try.underlying24
  have hue := Try.underlying66
  obtain ⟨hlen, hm⟩ := multsOk_get hE
  have hsz := fun i hi => sizeTo_le hm i hi
  have HM := Aside0.mk hm
  have HS := Aside0.mk hsz
  clear hm hsz hE
  refine callsIn_of_wp Try.func121 rfl trivial ?_ rfl
  simp only [Try.ntmps121, List.size_toArray, List.length_cons, List.length_nil, Nat.reduceAdd, Nat.reduceSub, Array.replicate_succ, Array.replicate_zero, List.push_toArray, List.append_toArray, List.nil_append, List.cons_append]
  have hb1 : W.cell? ⟨bx, 1, none⟩ = some (.slice A0 E.length c0) := (blk_cell hbox 1).trans rfl
  have HBX := Aside0.mk hbox
  clear hbox
  gi_wp2
  gi_loopg [3, 9] (E.length) (fun kq s i wr => ∃ k : Nat, i = .int .i64 k ∧ s = .int .i64 (sizeTo E k : Nat) ∧ k ≤ E.length ∧ Aside0 (J () (singlesTo E k) wr) ∧ Aside0 (wr.heap[bx]? = some (.cells #[.int .i64 N, .slice A0 E.length c0] 24 (0, 0))) ∧ Aside0 (Below w0.heap.size w0 wr) ∧ Aside0 (kq = E.length - k))
  case atStart => exact ⟨0, rfl, rfl, Nat.zero_le _, ⟨hJ0⟩, HBX, ⟨hB⟩, ⟨rfl⟩⟩
  case round =>
    obtain ⟨k, rfl, rfl, hk, HJ, HX, HB, HK⟩ := hrel
    by_cases hlt : k < E.length
    · have hmk := HM.out k hlt
      have Hss := Lib.hid (show sizeTo E (k + 1) = sizeTo E k + (rd_T66 E k).f2.toNat from rfl)
      have Hst := Lib.hid (show singlesTo E (k + 1) = singlesTo E k ++ someOf (sizeTo E k) (rd_T66 E k).f0 (rd_T66 E k).f1 (rd_T66 E k).f2.toNat from rfl)
      have hsk := HS.out (k + 1) (by omega)
      have hss := Hss.out
      obtain ⟨ad, rfl, hx0, hx1, hx2⟩ := at_T66 hr0 k (by omega) (by omega)
      rw [Int.toNat_natCast] at hx0 hx1 hx2
      generalize rd_T66 E k = x at hmk hx0 hx1 hx2 Hss Hst hss
      obtain ⟨a, b, m⟩ := x
      simp only at hmk hx0 hx1 hx2
      obtain ⟨m, rfl⟩ := Int.eq_ofNat_of_zero_le (show 0 ≤ m by omega)
      simp only [Int.toNat_natCast] at hss
      have hbig : sizeTo E k + m ≤ 2000 := by omega
      have hm50 : m ≤ 50 := by omega
      have hk0 : (0 : Int) ≤ (k : Int) := by omega
      have hk1 : (k : Int) < (E.length : Int) := by omega
      have hx0 := pw_cell_below HB.out hx0
      have hx1 := pw_cell_below HB.out hx1
      have hx2 := pw_cell_below HB.out hx2
      have HJ1 := Aside0.mk (hJs.out () _ _ _ HJ.out (below_alloc (Below.refl wr.heap.size wr) (.cells #[.int .i64 a, .int .i64 b, .int .i64 m] 66)))
      have HX1 := Aside0.mk (blk_alloc HX.out (.cells #[.int .i64 a, .int .i64 b, .int .i64 m] 66))
      have HB1 := Aside0.mk (below_alloc HB.out (.cells #[.int .i64 a, .int .i64 b, .int .i64 m] 66))
      have HE1 := Aside0.mk (show (wr.alloc (.cells #[.int .i64 a, .int .i64 b, .int .i64 m] 66)).heap[wr.heap.size]? = some (.cells #[.int .i64 a, .int .i64 b, .int .i64 m] 66 (0, 0)) from heap_alloc_new _ _)
      clear hss hsk hmk
      gi_wp2
      clear hx0 hx1 hx2
      generalize (wr.alloc (.cells #[.int .i64 a, .int .i64 b, .int .i64 m] 66)) = W1 at HJ1 HX1 HB1 HE1 ⊢
      generalize wr.heap.size = eb at HE1 ⊢
      gi_loopg [3, 15] (m) (fun kq s i wi => ∃ j : Nat, i = .int .i64 j ∧ s = .int .i64 (sizeTo E k + j : Nat) ∧ j ≤ m ∧ Aside0 (J () (singlesTo E k ++ someOf (sizeTo E k) a b j) wi) ∧ Aside0 (wi.heap[bx]? = some (.cells #[.int .i64 N, .slice (some ad) E.length c0] 24 (0, 0))) ∧ Aside0 (wi.heap[eb]? = some (.cells #[.int .i64 a, .int .i64 b, .int .i64 m] 66 (0, 0))) ∧ Aside0 (Below w0.heap.size w0 wi) ∧ Aside0 (kq = m - j))
      case atStart => exact ⟨0, rfl, rfl, Nat.zero_le _, ⟨by simpa [someOf] using HJ1.out⟩, HX1, HE1, HB1, ⟨rfl⟩⟩
      case round =>
        clear HJ1 HX1 HB1 HE1
        obtain ⟨j, rfl, rfl, hj, HJ2, HX2, HE2, HB2, HK2⟩ := hrel
        by_cases hjm : j < m
        · have hlp := singlesTo_length E k
          have hlj := someOf_length (sizeTo E k) a b j
          obtain ⟨fn, tmps, asg, bdy, hy, hRo⟩ := hY.out () (singlesTo E k ++ someOf (sizeTo E k) a b j) (sizeTo E k + j, a, b) wr wr HJ2.out (Below.refl _ _) (by rw [List.length_append]; omega)
          have HRo := Aside0.mk hRo
          simp only [Int.natCast_add] at hy
          have hc0 : wr.cell? ⟨eb, 0, none⟩ = some (.int .i64 a) := (blk_cell HE2.out 0).trans rfl
          have hc1 : wr.cell? ⟨eb, 1, none⟩ = some (.int .i64 b) := (blk_cell HE2.out 1).trans rfl
          clear hRo hlp hlj
          gi_wp2
          refine HRo.out.mono ?_
          rintro e W3 (⟨rfl, hJ3, hk3⟩ | ⟨rfl, hJx3⟩)
          · have HJ3 := Aside0.mk hJ3
            have HX3 := Aside0.mk (hk3.2 bx _ _ (.inl rfl) HX2.out)
            have HE3 := Aside0.mk (hk3.2 eb _ _ (.inr rfl) HE2.out)
            have HB3 := Aside0.mk (HB2.out.trans (hk3.1 HB2.out.size))
            clear hJ3 hk3 hy hc0 hc1
            gi_wp2
            gi_roundg (m - (j + 1))
            case measure => rw [HK2.out]; omega
            case rel => exact ⟨j + 1, by go_num, by go_num, by omega, ⟨by simpa [someOf] using HJ3.out⟩, HX3, HE3, HB3, ⟨rfl⟩⟩
          · have HJx3 := Aside0.mk hJx3
            clear hJx3 hy hc0 hc1
            gi_wp2
            refine bodyPost_ret (results_none rfl _ _ _) rfl ?_
            exact ⟨⟨_, rfl⟩, .inr ⟨(), _, trivial, HJx3.out⟩⟩
        · obtain rfl : j = m := by omega
          gi_wp2
          gi_roundg (E.length - (k + 1))
          case measure => rw [HK.out]; omega
          case rel => exact ⟨k + 1, by go_num, by rw [Hss.out, Int.toNat_natCast], by omega, ⟨by rw [Hst.out, Int.toNat_natCast]; exact HJ2.out⟩, HX2, HB2, ⟨rfl⟩⟩
    · obtain rfl : k = E.length := by omega
      gi_wp2
      go_end0
      exact ⟨⟨_, rfl⟩, .inl ⟨(), _, rfl, HJ.out⟩⟩
end
end Go.Proofs.Ytffdiakgjakngaa.P
namespace Go.Proofs.Ytffdiakgjakngaa.P
open Go Go.RowKit
set_option linter.unusedVariables false
set_option linter.unusedSimpArgs false
section
variable {F : Fence} {n : Nat} {P : Program}
theorem wpIn_rangeFunc_sta {σ α : Type} {g : Operand} {ps : Array Tmp} {assign body : Code} {Q : Exit → Act → World → Prop} {a : Act} {w : World}
    (hro : F.round = none) (h1 : 1 ≤ n) {gf : Nat} {lb : Array Value} (hg : a.eval g = .func (.func gf) #[] lb) (hFg : F.fn gf) (eg : ∀ args w, (callFunc gf args).run P w = .ok (.enter gf args) w)
    {encs : α → Array Value} {Start : σ → World → World → Prop} {St : σ → World → World → Prop} {Ar : σ → α → World → World → Prop} {Kp : σ → World → World → Prop} {S Sp : σ → List α → World → Prop} {Bd : List α → Prop}
    (hseq : ∀ o, SeqSt F (n - 1) P gf lb encs Start St Ar Kp S Sp Bd ((w.alloc (.deferred (some []))).alloc (.loop o))) (hps : ∀ x, (encs x).size = ps.size)
    (Adm : σ → Prop) (hAdm : ∀ o s W1, Start s ((w.alloc (.deferred (some []))).alloc (.loop o)) W1 → Adm s ∧ KeepLD w.heap.size ((w.alloc (.deferred (some []))).alloc (.loop o)) W1)
    (hSt : ∀ s A B, Adm s → St s A B → KeepLD w.heap.size A B) (hAr : ∀ s x A B, Adm s → Ar s x A B → KeepLD w.heap.size A B)
    (I : σ → List α → World → Prop) (Ix : Code → σ → List α → World → Prop)
    (hIs : ∀ s pre A B, Adm s → I s pre A → St s A B → I s pre B) (hIxs : ∀ c s pre A B, Adm s → Ix c s pre A → St s A B → Ix c s pre B)
    (hIb : ∀ s pre A B, I s pre A → Bk (w.heap.size + 1) A B → I s pre B) (hIxb : ∀ c s pre A B, Ix c s pre A → Bk (w.heap.size + 1) A B → Ix c s pre B)
    (hKt : ∀ s A B C D, Bk (w.heap.size + 1) A B → Kp s B C → Bk (w.heap.size + 1) C D → Kp s A D)
    (h0 : ∀ o s W1, Start s ((w.alloc (.deferred (some []))).alloc (.loop o)) W1 → I s [] W1) (a₁ : α → World → Act) (w₁ : α → World → World)
    (hw₁ : ∀ x W, KeepLD w.heap.size W (w₁ x W)) (hKa : ∀ s x A D, Kp s (w₁ x A) D → Kp s A D)
    (hassign : ∀ (l : Nat) (x : α) (W : World) (K : Act → World → Prop), K (a₁ x W) (w₁ x W) →
      assign.wpIn (F.inRound l) (n - 1 - 1) P (Exit.then K (fun _ _ _ => False)) { tmps := (ps.zip (encs x)).foldl (fun t (p, v) => t.setIfInBounds p v) a.tmps, defers := [] } W)
    (hbody : ∀ (l : Nat) (s : σ) (pre : List α) (x : α) (Wb W1 W : World), Adm s → I s pre Wb → Ar s x Wb W1 → Bd pre → Bk (w.heap.size + 1) (w₁ x W1) W → body.wpIn (F.inRound l) (n - 1 - 1) P (postSt (σ := σ) w.heap.size (Kp s) (I s) (fun c => Ix c s) (pre ++ [x]) W) (a₁ x W1) W)
    (hdone : ∀ (s : σ) (xs : List α) (W W' : World), Adm s → S s xs W → I s xs W → Bk (w.heap.size + 1) W W' → W'.heap[w.heap.size]? = some (.deferred (some [])) → Q .normal { a with defers := { target := .collected w.heap.size, args := #[] } :: a.defers } W')
    (hstop : ∀ (c : Code) (s : σ) (pre : List α) (W W' : World), Adm s → Sp s pre W → Ix c s pre W → Bk (w.heap.size + 1) W W' → W'.heap[w.heap.size]? = some (.deferred (some [])) → c.wpIn F n P Q { a with defers := { target := .collected w.heap.size, args := #[] } :: a.defers } W') :
    (Code.rangeFunc g ps assign body).wpIn F n P Q a w := by
  refine wpIn_rangeFunc ?_
  intro fn hfn
  rw [hro]
  obtain ⟨rec, hrec⟩ : ∃ rec : LoopState → Option Code → Loop, rec = fun st pe => { state := st, pending := pe, fn, tmps := a.tmps, params := ps, assign, body, defers := w.heap.size } := ⟨_, rfl⟩
  obtain ⟨W1, hW1⟩ : ∃ W1, (w.alloc (.deferred (some []))).alloc (.loop (rec .ready none)) = W1 := ⟨_, rfl⟩
  have hL1 : W1.heap[w.heap.size + 1]? = some (.loop (rec .ready none)) := by
    rw [← hW1]; have := World.alloc_heap_new (w.alloc (.deferred (some []))) (.loop (rec .ready none)); rwa [World.size_alloc] at this
  have hK1 : W1.heap[w.heap.size]? = some (.deferred (some [])) := by
    rw [← hW1]; exact (Below.heap_alloc _ _ _ (by simp)).trans (World.alloc_heap_new w _)
  refine ⟨w.heap.size + 1, [{ target := .collected w.heap.size, args := #[] }], W1, { target := .fn (.func gf) lb, args := #[.func (.yield (w.heap.size + 1)) #[] #[]] }, W1, gf,
    #[.func (.yield (w.heap.size + 1)) #[] #[]] ++ lb, W1, ?_, ?_, ?_, ?_, fun _ => h1, ?_⟩
  · rw [← hW1, hrec]; exact run_enterLoop_outer _ _ _ _ _
  · simp only [resolve, hg]
    simp [go_sem]
  · intro f' hf'; simp [Target.leads] at hf'; subst hf'; exact hFg
  · simp [invoke, go_sem, eg]
  · have hs := hseq (rec .ready none)
    rw [hW1] at hs
    have ld : ∀ {A B : World} {r : Loop}, KeepLD w.heap.size A B → A.heap[w.heap.size + 1]? = some (.loop r) → B.heap[w.heap.size + 1]? = some (.loop r) := fun h ho => h _ _ (by omega) (by omega) ho rfl
    have ldd : ∀ {A B : World}, KeepLD w.heap.size A B → A.heap[w.heap.size]? = some (.deferred (some [])) → B.heap[w.heap.size]? = some (.deferred (some [])) := fun h ho => h _ _ (by omega) (by omega) ho rfl
    refine (hs (w.heap.size + 1)
      (fun s pre W => Adm s ∧ I s pre W ∧ W.heap[w.heap.size + 1]? = some (.loop (rec .ready none)) ∧ W.heap[w.heap.size]? = some (.deferred (some [])))
      (fun s pre W => Adm s ∧ ∃ c, Ix c s pre W ∧ W.heap[w.heap.size + 1]? = some (.loop (rec .done (some c))) ∧ W.heap[w.heap.size]? = some (.deferred (some [])))
      (fun s pre A B h hst => ⟨h.1, hIs s pre A B h.1 h.2.1 hst, ld (hSt s A B h.1 hst) h.2.2.1, ldd (hSt s A B h.1 hst) h.2.2.2⟩)
      (fun s pre A B h hst => by
        obtain ⟨ha, c, hc, hl, hk⟩ := h
        exact ⟨ha, c, hIxs c s pre A B ha hc hst, ld (hSt s A B ha hst) hl, ldd (hSt s A B ha hst) hk⟩)
      (fun s W2 hst => by
        rw [← hW1] at hst
        have hk := hAdm (rec .ready none) s W2 hst
        have hkk := hk.2
        rw [hW1] at hkk
        exact ⟨hk.1, h0 _ s W2 hst, ld hkk hL1, ldd hkk hK1⟩)
      ?_).mono ?_
    · rintro s pre x Wb W ⟨ha, hi, hl0, hk0⟩ har hbd
      have hkk := hAr s x Wb W ha har
      have hl := ld hkk hl0
      have hk := ldd hkk hk0
      have hy := run_yield (P := P) (args := encs x) hl (by rw [hrec]; exact hps x)
      rw [hrec] at hy
      obtain ⟨Wr, hWr⟩ : ∃ Wr, Wr = W := ⟨_, rfl⟩
      have hKW := hw₁ x W
      have hl := ld hKW hl
      have hk := ldd hKW hk
      have hKa' := fun D => hKa s x W D
      have hB' := hbody (w.heap.size + 1) s pre x Wb W
      have hA' := hassign (w.heap.size + 1) x W
      clear hkk hl0 hk0
      rw [← hWr] at hy hA' hKa' hB' hl hk hKW har ⊢
      generalize hw1W : w₁ x Wr = W at hl hk hKW hKa' hB' hA'
      have hlt : w.heap.size + 1 < W.heap.size := (Array.getElem?_eq_some_iff.1 hl).1
      have hbk : Bk (w.heap.size + 1) W (W.putObj (w.heap.size + 1) (.loop { rec .ready none with state := .busy })) := ⟨_, _, hl, rfl, rfl⟩
      refine ⟨fn, _, assign, body, hy, roundIn_of_wpIn hfn (hA' _ ⟨_, run_beginRound hl (by rw [hrec]), ?_⟩)⟩
      have hl2 : (W.putObj (w.heap.size + 1) (.loop { rec .ready none with state := .busy })).heap[w.heap.size + 1]? = some (.loop { rec .ready none with state := .busy }) := World.putObj_heap_same hlt
      have hk2 : (W.putObj (w.heap.size + 1) (.loop { rec .ready none with state := .busy })).heap[w.heap.size]? = some (.deferred (some [])) := (World.putObj_heap_other (by omega)).trans hk
      refine wpIn_mono (hB' _ ha hi har hbd hbk) ?_
      have fin : ∀ (jump : Option Code) (W3 : World), KeepLD w.heap.size (W.putObj (w.heap.size + 1) (.loop { rec .ready none with state := .busy })) W3 →
          (Instr.endRound (w.heap.size + 1) jump).run P W3 = .ok (.bool jump.isNone) (W3.putObj (w.heap.size + 1) (.loop (rec (if jump.isNone then .ready else .done) jump))) ∧
          Bk (w.heap.size + 1) W3 (W3.putObj (w.heap.size + 1) (.loop (rec (if jump.isNone then .ready else .done) jump))) ∧
          (W3.putObj (w.heap.size + 1) (.loop (rec (if jump.isNone then .ready else .done) jump))).heap[w.heap.size + 1]? = some (.loop (rec (if jump.isNone then .ready else .done) jump)) ∧
          (W3.putObj (w.heap.size + 1) (.loop (rec (if jump.isNone then .ready else .done) jump))).heap[w.heap.size]? = some (.deferred (some [])) := fun jump W3 hk3 => by
        have hl3 := ld hk3 hl2
        have := run_endRound (P := P) jump hl3
        rw [hrec] at this ⊢
        exact ⟨this, ⟨_, _, hl3, rfl, rfl⟩, World.putObj_heap_same (Array.getElem?_eq_some_iff.1 hl3).1, (World.putObj_heap_other (by omega)).trans (ldd hk3 hk2)⟩
      rintro e a3 W3 hp
      cases e with
      | normal =>
        obtain ⟨hk3, hkp3, hi3⟩ := hp
        obtain ⟨hr, hb4, hl4, hk4⟩ := fin none W3 hk3
        exact ⟨_, _, hr, .inl ⟨rfl, ⟨ha, hIb s _ _ _ hi3 hb4, hl4, hk4⟩, hKa' _ (hKt s _ _ _ _ hbk hkp3 hb4)⟩⟩
      | ret =>
        obtain ⟨hk3, hi3⟩ := hp
        obtain ⟨hr, hb4, hl4, hk4⟩ := fin (some .ret) W3 hk3
        exact ⟨_, _, hr, .inr ⟨rfl, ha, .ret, hIxb _ s _ _ _ hi3 hb4, hl4, hk4⟩⟩
      | exit id => exact hp.elim
      | goto t => exact hp.elim
      | panic ch => exact hp.elim
      | outgrown => exact hp.elim
    · rintro e W2 ⟨⟨v, rfl⟩, (⟨s, xs, hS, ha, hi, hl, hk⟩ | ⟨s, pre, hSp, ha, c, hi, hl, hk⟩)⟩
      · exact ⟨none, _, by have := run_endLoop (P := P) hl (by rw [hrec]; simp); rw [hrec] at this; exact this, hdone s xs W2 _ ha hS hi ⟨_, _, hl, rfl, rfl⟩ ((World.putObj_heap_other (by omega)).trans hk)⟩
      · exact ⟨some c, _, by have := run_endLoop (P := P) hl (by rw [hrec]; simp); rw [hrec] at this; exact this, hstop c s pre W2 _ ha hSp hi ⟨_, _, hl, rfl, rfl⟩ ((World.putObj_heap_other (by omega)).trans hk)⟩
end
end Go.Proofs.Ytffdiakgjakngaa.P
namespace Go.Proofs.Ytffdiakgjakngaa.P
open Go.RowKit Go.Proofs.YtffdiakgjakngaaW.PrintWords Go.Proofs.YtffdiakgjakngaaW.PrintLast Go.Proofs.YtffdiakgjakngaaW.PrintMore
set_option linter.unusedVariables false
set_option linter.unusedSimpArgs false
section
attribute [local go_sem] Oper.semAt_some
def endRows (xs : List (Nat × Int × Int)) : List (List Value) := xs.map fun x => [.int .i64 x.2.1, .int .i64 x.2.2]
set_option maxHeartbeats 800000 in
set_option maxRecDepth 100000 in
theorem ends_good (k : Nat) (N : Int) (A0 : Option Addr) (c0 : Nat) (E : List S66) (w : World) (hr0 : Kd.C k66 w A0 E.length E) (hc0 : E.length ≤ c0) (ht : graph_Check.f k N E = some 0) (hE : multsOk E = true) :
    Calls Try.prog 105 #[.agg #[.int .i64 N, .slice A0 E.length c0]] w fun e w' => ∃ v, e = .returned (.tuple #[v, .int .i64 0]) ∧ (Kd.raw 2).R 115 w' w.heap.size (fun _ => True) v (endRows (singlesTo E E.length)) ∧ Below w.heap.size w w' := by
  have hu := Try.underlying24
  have Ht := Aside0.mk ht
  have HE := Aside0.mk hE
  clear ht hE
  refine (callsIn_wide (n := 10)).1 ?_
  refine callsIn_of_wp_marks Try.func105 rfl trivial ?_ rfl
  simp only [Try.ntmps105, List.size_toArray, List.length_cons, List.length_nil, Nat.reduceAdd, Nat.reduceSub, Array.replicate_succ, Array.replicate_zero, List.push_toArray, List.append_toArray, List.nil_append, List.cons_append]
  gi_wp2_with (first | (refine ⟨trivial, ?_⟩; gi_at_call 113; refine (callsIn_wide.2 (graph_Check.calls k N A0 c0 E 0 _ (Kd.C_alloc hr0 _) hc0 Ht.out)).mono ?_; rintro e w1 ⟨rfl, hb⟩; have HBX := Aside0.mk (blk_below (heap_alloc_new w (.cells #[.int .i64 N, .slice A0 E.length c0] 24)) hb); have hx0 : w1.cell? ⟨w.heap.size, 0, none⟩ = some (.int .i64 N) := (blk_cell HBX.out 0).trans rfl; have hx1 : w1.cell? ⟨w.heap.size, 1, none⟩ = some (.slice A0 E.length c0) := (blk_cell HBX.out 1).trans rfl; have hy0 : (w1.alloc (.cells #[.slice none 0 0] 95)).cell? ⟨w.heap.size, 0, none⟩ = some (.int .i64 N) := (blk_cell (blk_alloc HBX.out _) 0).trans rfl; have hy1 : (w1.alloc (.cells #[.slice none 0 0] 95)).cell? ⟨w.heap.size, 1, none⟩ = some (.slice A0 E.length c0) := (blk_cell (blk_alloc HBX.out _) 1).trans rfl; have HB := Aside0.mk (below_step (below_alloc (Below.refl w.heap.size w) _) hb); clear hb) | (refine ⟨trivial, ?_⟩; gi_at_call 114; refine (callsIn_wide.2 (singles_calls N A0 c0 E _)).mono ?_; rintro e w3 ⟨rfl, rfl⟩))
  have hwl : w.heap.size < w1.heap.size := blk_lt HBX.out
  have HX3 := Aside0.mk (show ((w1.alloc (.cells #[.slice none 0 0] 95)).alloc (.cells #[.int .i64 N, .slice A0 E.length c0] 24)).heap[w1.heap.size]? = some (.cells #[.slice none 0 0] 95 (0, 0)) from blk_alloc (heap_alloc_new w1 _) _)
  have HG3 := Aside0.mk (show ((w1.alloc (.cells #[.slice none 0 0] 95)).alloc (.cells #[.int .i64 N, .slice A0 E.length c0] 24)).heap[w1.heap.size + 1]? = some (.cells #[.int .i64 N, .slice A0 E.length c0] 24 (0, 0)) from heap_alloc2_new w1 _ _)
  have HB3 := Aside0.mk (below_alloc (below_alloc HB.out (.cells #[.slice none 0 0] 95)) (.cells #[.int .i64 N, .slice A0 E.length c0] 24))
  clear hx0 hx1 hy0 hy1 HBX HB
  generalize ((w1.alloc (.cells #[.slice none 0 0] 95)).alloc (.cells #[.int .i64 N, .slice A0 E.length c0] 24)) = W3 at HX3 HG3 HB3 ⊢
  have hbo := blk_lt HX3.out
  have hbx := blk_lt HG3.out
  generalize hbx1 : w1.heap.size + 1 = bx at HG3 hbx ⊢
  generalize w1.heap.size = bo at HX3 hwl hbo hbx1 ⊢
  have hws := HB3.out.size
  refine wpIn_rangeFunc_sta (σ := Unit) (α := Nat × Int × Int) (F := Fence.wide) (n := 10) rfl (by decide) (gf := 121) (lb := #[.pointer (some ⟨bx, 0, none⟩)]) rfl trivial (enters_of Try.func121 (by kernel_rfl) rfl)
    (fun o => singles1_seq bx N A0 c0 E w _ hr0 HE.out (below_alloc (below_alloc HB3.out _) _) (blk_alloc (blk_alloc HG3.out _) _)) (fun _ => rfl)
    (fun _ => True) ?adm ?st ?ar
    (fun _ pre W => W3.heap.size ≤ W.heap.size ∧ ∃ v, W.heap[bo]? = some (.cells #[v] 95 (0, 0)) ∧ (Kd.raw 2).R 115 W w.heap.size (fun _ => True) v (endRows pre) ∧ Below w.heap.size w W) (fun _ _ _ _ => False)
    ?is (fun _ _ _ _ _ _ h _ => h) ?ib (fun _ _ _ _ _ h _ => h) ?kt ?h0 ?a1 (fun x W => W.alloc (.cells #[.int .i64 x.2.1, .int .i64 x.2.2] 137)) ?hw ?hka ?assign ?body ?done (fun _ _ _ _ _ _ _ h => h.elim)
  case assign =>
    intro l x W K hK
    gi_wp2
    exact hK
  case adm =>
    intro o s W1 h
    exact ⟨trivial, by rw [h]; exact KeepLD.refl _ _⟩
  case st => intro s A B _ h k o h1 h2 h3 _; exact (h.block k (Array.getElem?_eq_some_iff.1 h3).1).trans h3
  case ar => intro s x A B _ h k o h1 h2 h3 _; exact (h.block k (Array.getElem?_eq_some_iff.1 h3).1).trans h3
  case hw => intro x W k o h1 h2 h3 _; exact blk_alloc h3 _
  case hka =>
    intro s x A D h
    exact ⟨fun hsz => ((Below.refl w.heap.size A).alloc hsz _).trans (h.1 (by simp; omega)), fun k cs t ht hk => h.2 k cs t ht (blk_alloc hk _)⟩
  case is =>
    rintro s pre A B _ ⟨hs, v, h1, h2, h3⟩ hst
    exact ⟨Nat.le_trans hs hst.size, v, blk_below h1 hst, Kd.R_below h2 hst, below_step h3 hst⟩
  case ib =>
    rintro s pre A B ⟨hs, v, h1, h2, h3⟩ hb
    exact ⟨by rw [hb.size]; exact hs, v, hb.cells h1, R_bk h2 hb, h3.trans (hb.below w.heap.size (by omega))⟩
  case kt =>
    intro s A B C D hab hbc hcd
    exact ⟨fun hsz => ((hab.below w.heap.size (by omega)).trans (hbc.1 (by rw [hab.size]; exact hsz))).trans (hcd.below w.heap.size (by omega)), fun k cs t ht hk => hcd.cells (hbc.2 k cs t ht (hab.cells hk))⟩
  case h0 =>
    rintro o s W1 rfl
    exact ⟨by simp; omega, _, blk_alloc (blk_alloc HX3.out _) _, Kd.R_nil _ _ _ _ _, below_alloc (below_alloc HB3.out _) _⟩
  case body =>
    rintro l s pre ⟨i, a, b⟩ Wb W1 W _ ⟨hs, v, i1, i2, i3⟩ har hbd hbk
    have c1 := blk_below i1 har
    have c2 := Kd.R_below i2 har
    have c3 := below_step i3 har
    have hsW : W3.heap.size ≤ W1.heap.size := Nat.le_trans hs har.size
    have b1 := Aside0.mk (hbk.cells (blk_alloc c1 (.cells #[.int .i64 a, .int .i64 b] 137)))
    have b2 := Aside0.mk (R_bk (Kd.R_alloc c2 (.cells #[.int .i64 a, .int .i64 b] 137)) hbk)
    have b3 := Aside0.mk ((below_alloc c3 (.cells #[.int .i64 a, .int .i64 b] 137)).trans (hbk.below w.heap.size (by omega)))
    have b4 := Aside0.mk (hbk.cells (heap_alloc_new W1 (.cells #[.int .i64 a, .int .i64 b] 137)))
    have hsz : W.heap.size = W1.heap.size + 1 := by rw [hbk.size]; simp
    have hWb : W3.heap.size ≤ W.heap.size := by omega
    clear i1 i2 i3 har hbk c1 c2 c3 hsz hsW hs
    generalize W1.heap.size = pb at b4 ⊢
    obtain ⟨Ar, cr, rfl⟩ := Kd.R_slice b2.out
    have hep : (endRows pre).length = pre.length := by simp [endRows]
    rw [hep] at b1 b2
    have hc := keeps_box b1.out
    have hf := blk_frozen b1.out 0
    have hp0 : W.cell? ⟨pb, 0, none⟩ = some (.int .i64 a) := (blk_cell b4.out 0).trans rfl
    have hp1 : W.cell? ⟨pb, 1, none⟩ = some (.int .i64 b) := (blk_cell b4.out 1).trans rfl
    have LN : Aside0 (((endRows pre).length + 1) * 16 ≤ 140737488355328) := ⟨by rw [hep]; omega⟩
    have hup := Try.underlying137
    gi_wp2_with (gi_at_builtin; go_loud (refine R_append_in (Kd.raw 2) (w0 := w) w.heap.size rfl (.tmp 17) (.tmp 23) 95 115 (.agg #[.int .i64 0, .int .i64 0]) 16 rfl Try.underlying95 infoEnds rfl (by decide) (by omega) _ _ [.int .i64 a, .int .i64 b] [.int .i64 a, .int .i64 b] (fun _ => True) (fun _ => False) rfl rfl ⟨rfl, rfl, by simp [Value.oneCell']⟩ (fun _ hk => hk.elim) (fun _ _ => trivial) b2.out b3.out b3.out.size LN.out ?_; intro v1 w1' hown hb hgr hat; obtain ⟨A1, c1, rfl⟩ := Kd.R_slice hown; have X1 := Aside0.mk ((hgr.block bo (blk_lt b1.out) (Kd.R_ne b2.out b1.out (by decide))).trans b1.out); have hc1 := keeps_box X1.out; have hf1 := blk_frozen X1.out 0; have HO1 := Aside0.mk hown; have HB1 := Aside0.mk hb; have HG1 := Aside0.mk hgr; clear hown hb hgr hat))
    have hln : (endRows pre ++ [[Value.int .i64 a, Value.int .i64 b]]).length = pre.length + 1 := by simp [endRows]
    refine ⟨(keepLD_append b2.out HG1.out).trans (keepLD_set _ _ (blk_lt HX3.out)), ⟨fun hsz => Below.setCell ((Below.refl w.heap.size W).grown HG1.out hsz (Kd.R_base b2.out)) (by show w.heap.size ≤ bo; omega) _, fun k cs t ht hk => ?_⟩, by have := HG1.out.size; simp; omega, .slice A1 (pre.length + 1) c1, by simpa using blk_set X1.out 0 (.slice A1 (pre.length + 1) c1), ?_, below_set HB1.out (by show w.heap.size ≤ bo; omega)⟩
    · have hkb : k ≠ bo := by
        rintro rfl
        have h1 := hk.symm.trans b1.out
        injection h1 with h1
        injection h1 with _ h1 _
        rcases ht with rfl | rfl <;> exact absurd h1 (by decide)
      rw [Below.heap_setCell _ _ _ _ hkb]
      exact (HG1.out.block k (blk_lt hk) (Kd.R_ne b2.out hk (by rcases ht with rfl | rfl <;> decide))).trans hk
    · have h := Kd.R_set HO1.out X1.out (by decide) 0 (.slice A1 (pre.length + 1) c1)
      rw [hln] at h
      simpa [endRows] using h
  case done =>
    rintro s xs W W' _ rfl ⟨hs, v, i1, i2, i3⟩ hbk hdf
    have b1 := Aside0.mk (hbk.cells i1)
    have b2 := Aside0.mk (R_bk i2 hbk)
    have b3 := Aside0.mk (i3.trans (hbk.below w.heap.size (by omega)))
    have HDF := Aside0.mk hdf
    clear i1 i2 i3 hdf
    have hc := keeps_box b1.out
    gi_wp2_with fail
    have hbk5 : Bk W3.heap.size W' (W'.putObj W3.heap.size (.deferred none)) := ⟨_, _, HDF.out, rfl, rfl⟩
    exact bodyPostM_one (D := W3.heap.size) rfl HDF.out (results_tmp2 rfl _ _ _) ⟨_, rfl, R_bk b2.out hbk5, b3.out.trans (hbk5.below w.heap.size (by omega))⟩
end
section
theorem endRows_length (L : List (Nat × Int × Int)) : (endRows L).length = L.length := by simp [endRows]
theorem someOf_mem {s : Nat} {a b : Int} : ∀ {j : Nat} {x : Nat × Int × Int}, x ∈ someOf s a b j → x.2.1 = a ∧ x.2.2 = b
  | 0, x, h => absurd h (by simp [someOf])
  | j + 1, x, h => by
    simp only [someOf, List.mem_append, List.mem_singleton] at h
    rcases h with h | rfl
    · exact someOf_mem h
    · exact ⟨rfl, rfl⟩
theorem singlesTo_in {n : Nat} {E : List S66} (h : ∀ k, k < E.length → 0 ≤ (rd_T66 E k).f0 ∧ (rd_T66 E k).f0 < n ∧ 0 ≤ (rd_T66 E k).f1 ∧ (rd_T66 E k).f1 < n ∧ 1 ≤ (rd_T66 E k).f2 ∧ (rd_T66 E k).f2 ≤ 50) :
    ∀ k, k ≤ E.length → ∀ x ∈ singlesTo E k, 0 ≤ x.2.1 ∧ x.2.1 < n ∧ 0 ≤ x.2.2 ∧ x.2.2 < n
  | 0, _ => fun x hx => absurd hx (by simp [singlesTo])
  | k + 1, hk => fun x hx => by
    simp only [singlesTo, List.mem_append] at hx
    rcases hx with hx | hx
    · exact singlesTo_in h k (by omega) x hx
    · obtain ⟨h1, h2⟩ := someOf_mem hx
      have := h k (by omega)
      omega
theorem singles_in {n : Nat} {E : List S66} (h : ∀ k, k < E.length → 0 ≤ (rd_T66 E k).f0 ∧ (rd_T66 E k).f0 < n ∧ 0 ≤ (rd_T66 E k).f1 ∧ (rd_T66 E k).f1 < n ∧ 1 ≤ (rd_T66 E k).f2 ∧ (rd_T66 E k).f2 ≤ 50) :
    ∀ x ∈ singlesTo E E.length, 0 ≤ x.2.1 ∧ x.2.1 < n ∧ 0 ≤ x.2.2 ∧ x.2.2 < n := singlesTo_in h _ (Nat.le_refl _)
theorem singles_le {E : List S66} (h : multsOk E = true) : (singlesTo E E.length).length ≤ 2000 := by
  obtain ⟨h1, h2⟩ := multsOk_get h
  have := sizeTo_le h2 E.length (Nat.le_refl _)
  rw [singlesTo_length]; omega
def incr (l : List Int) (v : Nat) : List Int := l.set v (rd l v + 1)
def valStep (l : List Int) (x : Nat × Int × Int) : List Int := if x.2.1 = x.2.2 then l else incr (incr l x.2.1.toNat) x.2.2.toNat
def valTo (n : Nat) (L : List (Nat × Int × Int)) (k : Nat) : List Int := (L.take k).foldl valStep (List.replicate n 0)
theorem incr_length (l : List Int) (v : Nat) : (incr l v).length = l.length := by simp [incr]
theorem valStep_length (l : List Int) (x : Nat × Int × Int) : (valStep l x).length = l.length := by
  unfold valStep
  split <;> simp [incr_length]
theorem foldl_valStep_length : ∀ (L : List (Nat × Int × Int)) (l : List Int), (L.foldl valStep l).length = l.length
  | [], l => rfl
  | x :: L, l => by rw [List.foldl_cons, foldl_valStep_length L, valStep_length]
theorem valTo_length (n : Nat) (L : List (Nat × Int × Int)) (k : Nat) : (valTo n L k).length = n := by simp [valTo, foldl_valStep_length]
theorem valTo_succ (n : Nat) (L : List (Nat × Int × Int)) (k : Nat) (hk : k < L.length) : valTo n L (k + 1) = valStep (valTo n L k) L[k] := by
  unfold valTo
  rw [List.take_succ_eq_append_getElem hk, List.foldl_append]
  rfl
theorem rd_set_bound {l : List Int} {v : Nat} {B : Int} {x : Int} (h : ∀ i : Nat, 0 ≤ rd l i ∧ rd l i ≤ B) (hx : 0 ≤ x ∧ x ≤ B + 1) (i : Nat) : 0 ≤ rd (l.set v x) i ∧ rd (l.set v x) i ≤ B + 1 := by
  have hi := h i
  simp only [rd, Int.toNat_natCast, List.getD_eq_getElem?_getD, List.getElem?_set] at hi ⊢
  split
  · split
    · simpa using hx
    · simp; omega
  · omega
theorem incr_bound {l : List Int} {v : Nat} {B : Int} (h : ∀ i : Nat, 0 ≤ rd l i ∧ rd l i ≤ B) (i : Nat) : 0 ≤ rd (incr l v) i ∧ rd (incr l v) i ≤ B + 1 :=
  rd_set_bound h (by have := h v; omega) i
theorem valStep_bound {l : List Int} {x : Nat × Int × Int} {B : Int} (h : ∀ i : Nat, 0 ≤ rd l i ∧ rd l i ≤ B) (i : Nat) : 0 ≤ rd (valStep l x) i ∧ rd (valStep l x) i ≤ B + 2 := by
  unfold valStep
  split
  · have := h i; omega
  · have := incr_bound (v := x.2.2.toNat) (incr_bound (v := x.2.1.toNat) h) i; omega
theorem foldl_valStep_bound : ∀ (L : List (Nat × Int × Int)) (l : List Int) (B : Int), (∀ i : Nat, 0 ≤ rd l i ∧ rd l i ≤ B) → ∀ i : Nat, 0 ≤ rd (L.foldl valStep l) i ∧ rd (L.foldl valStep l) i ≤ B + 2 * L.length
  | [], l, B, h => fun i => by have := h i; simpa using this
  | x :: L, l, B, h => fun i => by
    have := foldl_valStep_bound L (valStep l x) (B + 2) (valStep_bound h) i
    simp only [List.foldl_cons, List.length_cons]
    omega
theorem valTo_bound (n : Nat) (L : List (Nat × Int × Int)) (k : Nat) (i : Nat) : 0 ≤ rd (valTo n L k) i ∧ rd (valTo n L k) i ≤ 2 * L.length := by
  have h := foldl_valStep_bound (L.take k) (List.replicate n 0) 0 (fun i => by simp [rd, List.getD_eq_getElem?_getD, List.getElem?_replicate]; split <;> simp) i
  have hl : (L.take k).length ≤ L.length := by simp; omega
  unfold valTo
  omega
theorem rows_bump {W : World} {gb n : Nat} {ok : Nat → Prop} {g0 len cap : Nat} {rows : List (List Int)} (h : Kd.S (Kd.slice 3 (Kd.int .i64)) 33 W gb ok (.slice (some ⟨g0, 0, none⟩) len cap) rows) (hl : rows.length = len) (hY : ∀ y ∈ rows, y.length = n) (a b : Nat) (ha : a < len) (hb : b < n) :
    ∃ (gi ci : Nat) (z : Int), W.cell? ⟨g0, a, none⟩ = some (.slice (some ⟨gi, 0, none⟩) n ci) ∧ W.cell? ⟨gi, b, none⟩ = some (.int .i64 z) ∧ W.frozen? ⟨gi, b, none⟩ = false ∧ ok gi ∧ gb ≤ gi ∧ (∃ cells, W.heap[gi]? = some (.cells cells 3 (0, 0))) ∧
      ∀ x : Int, ∃ rows' : List (List Int), rows'.length = len ∧ (∀ y ∈ rows', y.length = n) ∧ Kd.S (Kd.slice 3 (Kd.int .i64)) 33 (W.setCell ⟨gi, b, none⟩ (.int .i64 x)) gb ok (.slice (some ⟨g0, 0, none⟩) len cap) rows' := by
  obtain ⟨oki, c, hcl, ⟨ev, rfl, hR⟩, hcc, hoki, hback⟩ := Kd.S_borrow h [] (a : Int) (by omega) (by omega)
  rw [Int.toNat_natCast] at hR hcc hback
  have hya : (rows.getD a []).length = n := by
    rw [List.getD_eq_getElem?_getD, List.getElem?_eq_getElem (by omega)]
    exact hY _ (List.getElem_mem (by omega))
  obtain ⟨gi, ci, rfl, hgb, hlt, cells, hbk⟩ := Kd.R_form hR (by omega)
  rw [hya] at hR hback hcc
  obtain ⟨hc1, hc2⟩ := Kd.R_celln (0 : Int) hR (b : Int) (by omega) (by omega)
  rw [Int.toNat_natCast] at hc1 hc2
  have h0 := hcc 0 _ rfl
  refine ⟨gi, ci, _, ?_, hc1, hc2, (hoki gi (hR.1 gi rfl)).1, hgb, ⟨cells, hbk⟩, fun x => ⟨rows.set a ((rows.getD a []).set b x), by simp [hl], ?_, ?_⟩⟩
  · rw [show (⟨g0, 0, none⟩ : Addr).add (a * (Kd.slice 3 (Kd.int .i64)).sz + 0) = ⟨g0, a, none⟩ from by simp [Kd.slice, Addr.add]; intro e; exact e.symm] at h0
    exact h0
  · intro y hy
    rcases List.mem_or_eq_of_mem_set hy with h1 | h1
    · exact hY y h1
    · subst h1; simpa using hya
  · have hp := Kd.R_putg hR (b : Int) x
    rw [Int.toNat_natCast] at hp
    exact hback hp.2 (fun k hk => by cases hk; exact hR.1 gi rfl) ⟨_, rfl, hp.1⟩
theorem at_ends {w : World} {A : Option Addr} {n : Nat} {L : List (Nat × Int × Int)} (h : Kd.C (Kd.raw 2) w A n (endRows L)) (j : Nat) (hj : j < n) (hL : j < L.length) : ∃ ad, A = some ad ∧ w.cell? (ad.add (j * 2)) = some (.int .i64 L[j].2.1) ∧ w.cell? ⟨(ad.add (j * 2)).block, (ad.add (j * 2)).off + 1, none⟩ = some (.int .i64 L[j].2.2) := by
  obtain ⟨ad, c, e, _, hK, hc0⟩ := Kd.C_get h [] (j : Int) (by omega) (by omega)
  rw [Int.toNat_natCast] at hK hc0
  have hr : (endRows L).getD j [] = [.int .i64 L[j].2.1, .int .i64 L[j].2.2] := by
    rw [List.getD_eq_getElem?_getD, List.getElem?_eq_getElem (by simpa [endRows] using hL)]
    simp [endRows]
  rw [hr] at hK
  obtain rfl := hK.1
  have hc : ∀ k u, [Value.int .i64 L[j].2.1, .int .i64 L[j].2.2][k]? = some u → w.cell? (ad.add (j * 2 + k)) = some u := hc0
  exact ⟨ad, e, hc 0 _ rfl, by rw [← add_field _ _ 1 (by omega)]; exact hc 1 _ rfl⟩
structure PS (w : World) (gb n gp bv g0 cr : Nat) (q : Int) (dv : Value) (dl : List Int) (ev : Value) (L : List (Nat × Int × Int)) (W : World) (rows : List (List Int)) (vl : List Int) : Prop where
  len : rows.length = n
  all : ∀ y ∈ rows, y.length = n
  pile : PileAt W gp dv q (.slice (some ⟨g0, 0, none⟩) n cr) (.slice (some ⟨bv, 0, none⟩) n n) (fun _ => false)
  d : (Kd.int .i64).R 3 W gb (fun k => k ≠ bv) dv dl
  val : (Kd.int .i64).R 3 W gb (fun k => some k ≠ dv.ownBlock) (.slice (some ⟨bv, 0, none⟩) n n) vl
  rows : Kd.S (Kd.slice 3 (Kd.int .i64)) 33 W gb (fun k => some k ≠ dv.ownBlock ∧ k ≠ bv) (.slice (some ⟨g0, 0, none⟩) n cr) rows
  ends : (Kd.raw 2).R 115 W gb (fun _ => True) ev (endRows L)
  below : Below gb w W
namespace PS
variable {w : World} {gb n gp bv g0 cr : Nat} {q : Int} {dv : Value} {dl : List Int} {ev : Value} {L : List (Nat × Int × Int)} {W : World} {rows : List (List Int)} {vl : List Int}
theorem drewN (h : PS w gb n gp bv g0 cr q dv dl ev L W rows vl) (m : Nat) : PS w gb n gp bv g0 cr q dv dl ev L (W.drewN m) rows vl :=
  ⟨h.len, h.all, h.pile, Kd.R_drewN h.d m, Kd.R_drewN h.val m, Kd.S_drewN h.rows m, Kd.R_drewN h.ends m, pw_below_drewN h.below m⟩
theorem row (h : PS w gb n gp bv g0 cr q dv dl ev L W rows vl) (a b : Nat) (ha : a < n) (hb : b < n) : ∃ (gi ci : Nat) (z : Int), W.cell? ⟨g0, a, none⟩ = some (.slice (some ⟨gi, 0, none⟩) n ci) ∧ W.cell? ⟨gi, b, none⟩ = some (.int .i64 z) ∧ W.frozen? ⟨gi, b, none⟩ = false ∧
    ∀ x : Int, ∃ rows', PS w gb n gp bv g0 cr q dv dl ev L (W.setCell ⟨gi, b, none⟩ (.int .i64 x)) rows' vl := by
  obtain ⟨gi, ci, z, h1, h2, h3, ⟨h4, h5⟩, h6, ⟨cells, h7⟩, h8⟩ := rows_bump h.rows h.len h.all a b ha hb
  refine ⟨gi, ci, z, h1, h2, h3, fun x => ?_⟩
  obtain ⟨rows', l1, l2, l3⟩ := h8 x
  have hg : W.grownBy (W.setCell ⟨gi, b, none⟩ (.int .i64 x)) (some gi) := grown_set1p (Below.refl _ _)
  refine ⟨rows', l1, l2, h.pile.grown hg (fun e => ?_), Kd.R_grown1 h.d rfl hg h4, Kd.R_grown1 h.val rfl hg (fun e => h5 (by simpa [Value.ownBlock] using e)), l3, Kd.R_set h.ends h7 (by decide) _ _, Below.setCell h.below h6 _⟩
  obtain ⟨cs, hp, _⟩ := h.pile
  injection e with e
  subst e
  rw [h7] at hp
  injection hp with hp
  injection hp with _ hp _
  exact absurd hp (by decide)
theorem valb (h : PS w gb n gp bv g0 cr q dv dl ev L W rows vl) (a : Nat) (ha : a < n) : W.cell? ⟨bv, a, none⟩ = some (.int .i64 (rd vl a)) ∧ W.frozen? ⟨bv, a, none⟩ = false ∧
    ∀ x : Int, PS w gb n gp bv g0 cr q dv dl ev L (W.setCell ⟨bv, a, none⟩ (.int .i64 x)) rows (vl.set a x) := by
  obtain ⟨h1, h2⟩ := Kd.R_celln (0 : Int) h.val (a : Int) (by omega) (by omega)
  rw [Int.toNat_natCast] at h1 h2
  obtain ⟨cells, hb⟩ := Kd.R_typed h.val bv rfl
  refine ⟨h1, h2, fun x => ?_⟩
  have hp := Kd.R_putg h.val (a : Int) x
  rw [Int.toNat_natCast] at hp
  have hg := hp.2
  refine ⟨h.len, h.all, h.pile.grown hg (fun e => ?_), Kd.R_grown1 h.d rfl hg (fun e => h.d.1 bv e.symm rfl), hp.1, Kd.S_grown h.rows hg (fun k hk e => hk.2 (by injection e)), Kd.R_set h.ends hb (by decide) _ _, Below.setCell h.below (Kd.R_base h.val bv rfl) _⟩
  obtain ⟨cs, hpp, _⟩ := h.pile
  injection e with e
  subst e
  rw [hb] at hpp
  injection hpp with hpp
  injection hpp with _ hpp _
  exact absurd hpp (by decide)
end PS
def pileVal (n : Nat) (E : List S66) : List Int := valTo n (singlesTo E E.length) (singlesTo E E.length).length
theorem wait_calls2 (g v n : Nat) (q : Int) (Ad Av : Option Addr) (cd cv : Nat) (dl vl : List Int) (rows : Value) (waits : Nat → Bool) (w : World) (hv : v < 12) (hvd : v < dl.length) (hvn : vl.length = n) (hvv : v < n)
    (hw : PileAt w g (.slice Ad dl.length cd) q rows (.slice Av n cv) waits) (hd : Kd.C (Kd.int .i64) w Ad dl.length dl) (hr : Kd.C (Kd.int .i64) w Av n vl) :
    Calls Try.prog 106 #[.pointer (some ⟨g, 0, none⟩), .int .i64 v] w fun e w' => e = .returned (.tuple #[]) ∧ PileAt w' g (.slice Ad dl.length cd) q rows (.slice Av n cv) (fun j => if j = v then looseB q vl dl v else waits j) ∧ w.grownBy w' (some g) := by
  subst hvn
  exact wait_calls g v q Ad Av cd cv dl vl rows waits w hv hvd hvv hw hd hr
theorem waits_step (q : Int) (vl dl : List Int) (v : Nat) : (fun j => if j = v then looseB q vl dl v else (if j < v then looseB q vl dl j else false)) = fun j => if j < v + 1 then looseB q vl dl j else false := by
  funext j
  by_cases e : j = v
  · subst e; simp
  · by_cases h : j < v
    · rw [if_neg e, if_pos h, if_pos (by omega)]
    · rw [if_neg e, if_neg h, if_neg (by omega)]
end
end Go.Proofs.Ytffdiakgjakngaa.P
