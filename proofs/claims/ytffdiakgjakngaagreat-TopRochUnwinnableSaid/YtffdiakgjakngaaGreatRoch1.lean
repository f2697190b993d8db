/- TopRochUnwinnable answers true whatever the input (text 1 of 19): own walks and plain laws; no conditions. -/
import Derived.ArgAppend
import Derived.Below
import Derived.BigQuiet
import Derived.Deep.AppendLies
import Derived.Deep.CutBlock
import Derived.Deep.DeepCutAuto
import Derived.Deep.Draws
import Derived.Deep.LoopGhost
import Derived.Deep.OwnRows
import Derived.Deep.QuietTactic
import Derived.Deep.RegionHeld3
import Derived.KernelRfl
import Derived.Laws.BitsLemmas
import Derived.Laws.BytesArg
import Derived.Laws.IdiomCopy
import Derived.Laws.MakeOwn
import Derived.Laws.OwnMore
import Derived.Laws.Rows
import Derived.Laws.Slices
import Derived.Laws.StructEq
import Derived.Lib.AppendStr
import Derived.Lib.ConvBytes
import Derived.Maps.AppendAt
import Derived.OrdersHeld
import Derived.OwnWalk
import Derived.RowKit
import Derived.RowKit3
import Derived.Tactics
import Derived.WalkKit
import Derived.WideLaws
section
set_option linter.unusedVariables false
set_option linter.unusedSimpArgs false
namespace Go.Proofs.YtffdiakgjakngaaGreatW.PrintWords
open Go.RowKit
structure Aside0 (p:Prop):Prop where mk::(out:p)
structure ax (w w':World):Prop where mk::(out:∃n,w'=w.drewN n)
theorem ax.refl (w:World):ax w w:=⟨⟨0,rfl⟩⟩
theorem ax.step {w w':World} (h:ax w w') (n:Nat):ax w (w'.drewN n):=by
  obtain⟨m,rfl⟩:=h
  exact⟨⟨m+n,World.drewN_drewN ..⟩⟩
theorem ax.below {w w':World} (h:ax w w'):Below w.heap.size w w':=by
  obtain⟨n,rfl⟩:=h
  induction n with
  |zero=>exact Below.refl _ _
  |succ n j=>rw[<-World.drew_drewN];exact j.drew
def rd (xs:List Int) (i:Int):Int:=xs.getD i.toNat 0
theorem al {w W:World} (h:Below w.heap.size w W) (o:Obj):Below w.heap.size w (W.alloc o):=h.alloc h.size o
theorem fH {B:Nat} {w W:World} (h:Below B w W):Below B w W.drew:=⟨h.os,h.tape,h.output,h.size,h.block⟩
theorem bC {B:Nat} {w W:World} (h:Below B w W) (n:Nat):Below B w (W.drewN n):=⟨h.os,h.tape,h.output,h.size,h.block⟩
theorem kf {B:Nat} {w w1 w2:World} (h:Below B w w1) (j:B<=w1.heap.size) (k:Below w1.heap.size w1 w2):Below B w w2:=
  h.trans ⟨k.os,k.tape,k.output,k.size,fun i hi=>k.block i (Nat.lt_of_lt_of_le hi j)⟩
theorem jz {B:Nat} {w w1:World} (h:Below B w w1) (row:Option Nat) (j:B<=w1.heap.size) {w2:World} (o:w1.grownBy w2 row) (hr:∀k,row=some k->B<=k):Below B w w2:=h.grown o j hr
theorem hU {w w1:World} (h:Below w.heap.size w w1) (row:Option Nat):w.grownBy w1 row:=⟨h.os,h.tape,h.output,h.size,fun i hi _=>h.block i hi⟩
theorem fY {w w1:World} (h:Below w.heap.size w w1) {a:Addr} {v:Value} (hc:w.cell? a=some v):w1.cell? a=some v:=(h.cell (World.block_lt_of_cell? w a hc)).trans hc
theorem add_plain (g j:Nat):(⟨g,0,none⟩:Addr).add j=⟨g,j,none⟩:=by unfold Addr.add;split<;>simp_all
def Eh (w:World) (k:IntKind) (A:Option Addr) (n:Nat) (xs:List Int):Prop:=
  xs.length=n∧n<=9223372036854775807∧(0<n->∃ad,A=some ad∧∀j,j<n->w.cell? (ad.add j)=some (.int k (xs.getD j 0)))
theorem qJ (W:World) (base:Nat) (e:TypeId) (size:Nat):W.ownsRow base e size (.slice none 0 0) 0 []:=⟨by simp,.inl ⟨rfl,rfl⟩⟩
theorem iS {w:World} {base:Nat} {e:TypeId} {size n:Nat} {v:Value} {xs:List Value} (h:w.ownsRow base e size v n xs) (k:Nat) (hk:v.ownBlock=some k):base<=k:=by
  rcases h.2 with⟨rfl,_⟩|⟨g,cap,cur,rfl,hb,_⟩
  · simp[Value.ownBlock] at hk
  · have:g=k:=by simpa [Value.ownBlock] using hk
    omega
theorem qK {w:World} {base:Nat} {e:TypeId} {size n:Nat} {v:Value} {xs:List Value} (h:w.ownsRow base e size v n xs) (k:Nat) (hk:v.ownBlock=some k):k<w.heap.size:=by
  rcases h.2 with⟨rfl,_⟩|⟨g,cap,cur,rfl,hb,j,_⟩
  · simp[Value.ownBlock] at hk
  · have:g=k:=by simpa [Value.ownBlock] using hk
    subst this
    exact(Array.getElem?_eq_some_iff.1 j).1
theorem qL {w:World} {base n:Nat} {e:TypeId} {size:Nat} {v:Value} {xs:List Value} (h:w.ownsRow base e size v n xs):∃A c,v= .slice A n c:=by
  rcases h.2 with⟨rfl,rfl⟩|⟨g,cap,cur,rfl,_⟩
  · exact⟨none,0,rfl⟩
  · exact⟨_,cap,rfl⟩
def ah {α:Type} (a b:Option α):Prop:=∀r,a=some r->b=some r
theorem ah.refl {α:Type} (a:Option α):ah a a:=fun _ h=>h
theorem ah.ite {α:Type} {c:Prop} [Decidable c] {a a' b b':Option α} (h:ah a a') (k:ah b b'):ah (if c then a else b) (if c then a' else b'):=by
  split
  · exact h
  · exact k
theorem ah.bind {α β:Type} {a a':Option α} {f j:α->Option β} (h:ah a a') (k:∀x,ah (f x) (j x)):ah (a.bind f) (a'.bind j):=by
  intro r hr
  obtain⟨x,o,hf⟩:=Option.bind_eq_some_iff.1 hr
  exact Option.bind_eq_some_iff.2 ⟨x,h x o,k x r hf⟩
def aT {α:Type} (R:α->List Value->Prop) (size:Nat) (ps:List α) (cs:List Value):Prop:=
  cs.length=ps.length*size∧∀j p,ps[j]? =some p->R p ((cs.drop (j*size)).take size)
theorem aT.none {α:Type} (R:α->List Value->Prop) (size:Nat):aT R size [] []:=⟨by simp,fun j p h=>by simp at h⟩
theorem aT.snoc {α:Type} {R:α->List Value->Prop} {size:Nat} {ps:List α} {cs c:List Value} {p:α} (h:aT R size ps cs) (hp:R p c) (hc:c.length=size):aT R size (ps++[p]) (cs++c):=by
  refine⟨by rw[List.length_append,h.1,hc,List.length_append,List.length_singleton,Nat.add_mul,Nat.one_mul],fun j q hq=>?_⟩
  rcases Nat.lt_or_ge j ps.length with o|o
  · rw[List.getElem?_append_left o] at hq
    have h1:j*size+size<=cs.length:=by rw[h.1,<-Nat.succ_mul];exact Nat.mul_le_mul_right _ o
    have h2:=h.2 j q hq
    rw[List.drop_append_of_le_length (by omega),List.take_append_of_le_length (by rw[List.length_drop];omega)]
    exact h2
  · have I:j=ps.length:=by
      have:=(List.getElem?_eq_some_iff.1 hq).1
      rw[List.length_append,List.length_singleton] at this
      omega
    subst I
    have J:p=q:=by simpa using hq
    subst J
    rw[<-h.1,List.drop_left,<-hc,List.take_length]
    exact hp
theorem aT.ej {α:Type} {R R':α->List Value->Prop} {size:Nat} {ps:List α} {cs:List Value} (h:aT R size ps cs) (o:∀p c,R p c->R' p c):aT R' size ps cs:=⟨h.1,fun j p I=>o _ _ (h.2 j p I)⟩
def gQ {α:Type} (R:α->List Value->Prop) (size:Nat) (w:World) (A:Option Addr) (n:Nat) (ps:List α):Prop:=
  ps.length=n∧n<=9223372036854775807∧(0<n->∃ad,A=some ad∧∀j p,ps[j]? =some p->∃c,c.length=size∧R p c∧∀i u,c[i]? =some u->w.cell? (ad.add (j*size+i))=some u)
theorem gQ.vM {α:Type} {R:α->List Value->Prop} {size:Nat} {w:World} {A:Option Addr} {n:Nat} {ps:List α} (h:gQ R size w A n ps) (d:α) (i:Int) (h0:0<=i) (h1:i<n):
    ∃ad c,A=some ad∧c.length=size∧R (ps.getD i.toNat d) c∧∀j u,c[j]? =some u->w.cell? (ad.add (i.toNat*size+j))=some u:=by
  obtain⟨ad,e,hc⟩:=h.2.2 (by omega)
  have o:i.toNat<ps.length:=by have:=h.1;omega
  obtain⟨c,I,hr,J⟩:=hc i.toNat _ (List.getElem?_eq_getElem o)
  refine⟨ad,c,e,I,?_,J⟩
  rw[List.getD_eq_getElem?_getD,List.getElem?_eq_getElem o]
  exact hr
theorem gQ.ej {α:Type} {R R':α->List Value->Prop} {size:Nat} {w w1:World} {A:Option Addr} {n:Nat} {ps:List α} (h:gQ R size w A n ps) (hb:Below w.heap.size w w1) (o:∀p c,R p c->R' p c):gQ R' size w1 A n ps:=
  ⟨h.1,h.2.1,fun I=>by
    obtain⟨ad,e,hc⟩:=h.2.2 I
    refine⟨ad,e,fun j p J=>?_⟩
    obtain⟨c,U,hr,aa⟩:=hc j p J
    exact⟨c,U,o _ _ hr,fun i u hu=>fY hb (aa i u hu)⟩⟩
theorem vN {α:Type} {R:α->List Value->Prop} {w:World} {base n size:Nat} {e:TypeId} {v:Value} {ps:List α} {cs:List Value} (h:w.ownsRow base e size v n cs) (I:aT R size ps cs) (o:ps.length=n):
    ∃A c,v= .slice A n c∧gQ R size w A n ps:=by
  rcases Nat.eq_zero_or_pos n with h0|h0
  · rcases h.2 with⟨rfl,rfl⟩|⟨g,cap,cur,rfl,_⟩
    · exact⟨none,0,rfl,o,by omega,fun hp=>absurd hp (by omega)⟩
    · exact⟨_,cap,rfl,o,by omega,fun hp=>absurd hp (by omega)⟩
  · obtain⟨g,cap,rfl,_,_⟩:=h.form h0
    have hm:n<=9223372036854775807:=by
      rcases h.2 with⟨_,h1⟩|⟨g',ab,cur,he,_,_,h1,h2,_⟩
      · omega
      · simp only[maxLen] at h2
        omega
    refine⟨_,cap,rfl,o,hm,fun _=>⟨_,rfl,fun j p J=>⟨(cs.drop (j*size)).take size,?_,I.2 j p J,fun i u hu=>?_⟩⟩⟩
    · have U:=(List.getElem?_eq_some_iff.1 J).1
      have h1:j*size+size<=cs.length:=by rw[I.1,<-Nat.succ_mul];exact Nat.mul_le_mul_right _ U
      rw[List.length_take,List.length_drop]
      omega
    · refine h.cells (g:=g) rfl _ u ?_
      rw[List.getElem?_take] at hu
      split at hu
      · rw[List.getElem?_drop] at hu
        exact hu
      · cases hu
theorem nS (ad:Addr) (m j:Nat) (o:0<j):ad.add (m+j)=⟨(ad.add m).block,(ad.add m).off+j,none⟩:=by
  unfold Addr.add
  by_cases hm:m=0
  · subst hm
    simp[Nat.ne_of_gt o]
  · simp[hm,Nat.add_assoc]
section
variable {P:Program} {ops:Array Oper} {rest:List Oper} {o:Oper} {a:Act} {Q:Exit->Act->World->Prop}
theorem vO {w0 W:World} (base:Nat) (aa:o.guard=none) (s x:Operand) (t e:TypeId) (z:Value) (size bytes:Nat)
    (ho:o.op= .call {callee:=.builtin .append,args:=#[s,x],argTypes:=#[t,t]})
    (ht:P.underlying t=some (.slice e)) (ad:(P.info? e).map (fun i=>(i.zero,i.size,i.bytes))=some (some z,size,bytes)) (hz:z.cells.size=size) (ak:0<size) (an:0<bytes)
    (v:Value) (n:Nat) (xs ys:List Value) (hs:a.eval s=v) (hx:a.eval x= .slice (some ⟨W.heap.size,0,none⟩) 1 1) (aB:ys.length=size) (h1:∀u∈ys,u.oneCell'=true)
    (I:W.ownsRow base e size v n xs) (HB:Below base w0 W) (aL:base<=W.heap.size) (J:(n+1)*bytes<=140737488355328)
    (h:∀v1 w1,w1.ownsRow base e size v1 (n+1) (xs++ys)->Below base w0 w1->W.grownBy w1 v.ownBlock->(v1.ownBlock=v.ownBlock∨∃b,v1.ownBlock=some b∧W.heap.size<=b)->wpList P ops Q rest (a.put o.dst v1) w1):
    wpList P ops Q (o::rest) a (W.alloc (.cells ys.toArray e)):=by
  obtain⟨i0,hi,R⟩:=Option.map_eq_some_iff.1 ad
  simp only[Prod.mk.injEq] at R
  obtain⟨aO,aP,aS⟩:=R
  have hlen:n+1<=140737488355328:=Nat.le_trans (Nat.le_mul_of_pos_right _ an) J
  refine wpList_append_own_at (W.alloc (.cells ys.toArray e)) aa s x t ho base e i0 z size bytes ht hi aO aP aS hz ak v n xs hs (I.alloc _) ⟨W.heap.size,0,none⟩ 1 1 ys hx (by rw[aB];simp)
    (by simpa using World.news_of_block (cs:=ys.toArray) (t:=e) (fr:=(0,0)) (heap_alloc_new W (.cells ys.toArray e))) h1 (by simp only[maxLen];omega) J (by simp;omega) ?_
  intro v1 w1 hown U _ j
  refine h v1 w1 hown ((HB.alloc aL _).grown U (by simp;omega) (iS I)) (World.grownBy.trans (World.grownBy_alloc W _ _) U) ?_
  rcases j with j|j
  · exact .inl j
  · exact .inr ⟨_,j,by simp⟩
end
theorem qM {w:World} {base:Nat} {e t:TypeId} {size n g:Nat} {v:Value} {xs:List Value} {cs:Array Value} (h:w.ownsRow base e size v n xs) (o:w.heap[g]? =some (.cells cs t (0,0))) (I:e≠t):some g≠v.ownBlock:=by
  rcases h.2 with⟨rfl,_⟩|⟨J,cap,cur,rfl,_,j,_⟩
  · simp[Value.ownBlock]
  · intro he
    have:g=J:=by simpa [Value.ownBlock] using he
    subst this
    rw[o] at j
    injection j with j
    injection j with _ R
    exact I R.symm
theorem bt {w:World} {g:Nat} {t:TypeId} {cs:Array Value} (h:w.heap[g]? =some (.cells cs t (0,0))) (i:Nat) (u:Value):(w.setCell ⟨g,i,none⟩ u).heap[g]? =some (.cells (cs.setIfInBounds i u) t (0,0)):=by
  simp[World.setCell,Array.getElem?_modify,h]
theorem ay {w:World} {g:Nat} {t:TypeId} {cs:Array Value} (h:w.heap[g]? =some (.cells cs t (0,0))) {p:Addr} (hp:g≠p.block) (u:Value):(w.setCell p u).heap[g]? =some (.cells cs t (0,0)):=(Below.heap_setCell w p u g hp).trans h
theorem aw {w:World} {g:Nat} {o:Obj} (h:w.heap[g]? =some o):g<w.heap.size:=(Array.getElem?_eq_some_iff.1 h).1
theorem ai {w:World} {g:Nat} {t:TypeId} {cs:Array Value} (h:w.heap[g]? =some (.cells cs t (0,0))) (i:Nat):w.cell? ⟨g,i,none⟩=cs[i]? :=cell_of_row w g i cs t (0,0) h
theorem a9 {w:World} {g:Nat} {t:TypeId} {cs:Array Value} (h:w.heap[g]? =some (.cells cs t (0,0))) (i:Nat):w.frozen? ⟨g,i,none⟩=false:=by simp[World.frozen?,h]
theorem cg {w w1:World} {g:Nat} {o:Obj} {row:Option Nat} (h:w.heap[g]? =some o) (j:w.grownBy w1 row) (I:some g≠row):w1.heap[g]? =some o:=(j.block g (aw h) I).trans h
def mf (w w':World) (g:Nat) (row:Option Nat):Prop:=w.heap.size<=w'.heap.size∧∀i,i<w.heap.size->i≠g->some i≠row->w'.heap[i]? =w.heap[i]?
theorem mf.trans {w w1 w2:World} {g:Nat} {row j:Option Nat} (h:mf w w1 g row) (k:mf w1 w2 g j) (hr:j=row∨∃b,j=some b∧w.heap.size<=b):mf w w2 g row:=
  ⟨Nat.le_trans h.1 k.1,fun i hi o I=>by
    refine(k.2 i (Nat.lt_of_lt_of_le hi h.1) o ?_).trans (h.2 i hi o I)
    rcases hr with rfl|⟨b,rfl,hb⟩
    · exact I
    · intro e
      injection e with e
      omega⟩
section
variable {P:Program} {ops:Array Oper} {o:Oper} {a:Act} {Q:Exit->Act->World->Prop} {K:Act->World->Prop}
theorem vP {w0 W:World} (base:Nat) (hw:Region.wanted o (yielded ops a.tmps)=true) (s x:Operand) (t e:TypeId) (z:Value) (size bytes:Nat)
    (ho:o.op= .call {callee:=.builtin .append,args:=#[s,x],argTypes:=#[t,t]})
    (ht:P.underlying t=some (.slice e)) (ab:(P.info? e).map (fun i=>(i.zero,i.size,i.bytes))=some (some z,size,bytes)) (hz:z.cells.size=size) (ag:0<size) (ak:0<bytes)
    (v:Value) (n:Nat) (xs ys:List Value) (hs:a.eval s=v) (hx:a.eval x= .slice (some ⟨W.heap.size,0,none⟩) 1 1) (av:ys.length=size) (h1:∀u∈ys,u.oneCell'=true)
    (I:W.ownsRow base e size v n xs) (HB:Below base w0 W) (aF:base<=W.heap.size) (J:(n+1)*bytes<=140737488355328)
    (h:∀v1 w1,w1.ownsRow base e size v1 (n+1) (xs++ys)->Below base w0 w1->W.grownBy w1 v.ownBlock->(v1.ownBlock=v.ownBlock∨∃b,v1.ownBlock=some b∧W.heap.size<=b)->K (a.put o.dst v1) w1):
    if Region.wanted o (yielded ops a.tmps)=true then Oper.wp P o a (W.alloc (.cells ys.toArray e)) K Q else K (a.put o.dst undef) (W.alloc (.cells ys.toArray e)):=by
  obtain⟨i0,hi,R⟩:=Option.map_eq_some_iff.1 ab
  simp only[Prod.mk.injEq] at R
  obtain⟨aL,aO,aP⟩:=R
  have hlen:n+1<=140737488355328:=Nat.le_trans (Nat.le_mul_of_pos_right _ ak) J
  rw[if_pos hw]
  obtain⟨v1,w1,hr,hown,U,_,j⟩:=run_append_own_at (P:=P) (W.alloc (.cells ys.toArray e)) base t o.type e i0 z size bytes ht hi aL aO aP hz ag v n xs (I.alloc _) ⟨W.heap.size,0,none⟩ 1 1 ys (by rw[av];simp)
    (by simpa using World.news_of_block (cs:=ys.toArray) (t:=e) (fr:=(0,0)) (heap_alloc_new W (.cells ys.toArray e))) h1 (by simp only[maxLen];omega) J (by simp;omega)
  unfold Oper.wp execOp
  simp only[ho,resolve,invoke,builtin,Sem.run_bind,Sem.run_pure,Result.andThen_ok,List.map_toArray,List.map_cons,List.map_nil,hs,hx,hr]
  refine h v1 w1 hown ((HB.alloc aF _).grown U (by simp;omega) (iS I)) (World.grownBy.trans (World.grownBy_alloc W _ _) U) ?_
  rcases j with j|j
  · exact .inl j
  · exact .inr ⟨_,j,by simp⟩
end
theorem vQ {w:World} {base base':Nat} {e:TypeId} {size n:Nat} {v:Value} {xs:List Value} (h:w.ownsRow base e size v n xs) (hb:base'<=base):w.ownsRow base' e size v n xs:=by
  obtain⟨h1,h2⟩:=h
  refine⟨h1,?_⟩
  rcases h2 with h2|⟨g,cap,cur,rfl,j,r⟩
  · exact .inl h2
  · exact .inr ⟨g,cap,cur,rfl,Nat.le_trans hb j,r⟩
section
variable {α:Type} {enc:α->Value} {d:α}
def bj (enc:α->Value) (xs:List α):List Value:=xs.map enc
def bl (d:α) (xs:List α) (i:Int):α:=xs.getD i.toNat d
theorem qN (xs:List α):(bj enc xs).length=xs.length:=by simp[bj]
theorem qO (xs:List α) (j:Nat) (h:j<xs.length):(bj enc xs)[j]? =some (enc (xs.getD j d)):=by
  simp[bj,List.getElem?_eq_getElem h,List.getD_eq_getElem?_getD]
def kg (enc:α->Value) (d:α) (w:World) (A:Option Addr) (n:Nat) (xs:List α):Prop:=
  xs.length=n∧n<=9223372036854775807∧(0<n->∃ad,A=some ad∧∀j,j<n->w.cell? (ad.add j)=some (enc (xs.getD j d)))
theorem kg.at_ {w:World} {A:Option Addr} {n:Nat} {xs:List α} (h:kg enc d w A n xs) (i:Int) (h0:0<=i) (h1:i<n):∃ad,A=some ad∧w.cell? (ad.add i.toNat)=some (enc (bl d xs i)):=by
  obtain⟨ad,e,hc⟩:=h.2.2 (by omega)
  exact⟨ad,e,hc _ (by omega)⟩
theorem vR {W:World} {base g n cap:Nat} {e:TypeId} {xs:List α} (h:W.ownsRow base e 1 (.slice (some ⟨g,0,none⟩) n cap) n (bj enc xs)) (i:Int) (h0:0<=i) (h1:i<n):
    W.cell? ⟨g,i.toNat,none⟩=some (enc (bl d xs i))∧W.frozen? ⟨g,i.toNat,none⟩=false:=by
  have J:xs.length=n:=by have:=h.1;simp[bj] at this;exact this
  constructor
  · have hc:=h.cells (g:=g) rfl i.toNat _ (qO (d:=d) xs i.toNat (by omega))
    rwa [add_plain] at hc
  · rcases h.2 with⟨j,_⟩|⟨o,R,cur,j,_,I,_⟩
    · cases j
    · have:g=o:=by injection j with j;injection j with j;injection j with j
      subst this
      simp[World.frozen?,I]
theorem vS {W:World} {base g n cap:Nat} {e:TypeId} {xs:List α} (h:W.ownsRow base e 1 (.slice (some ⟨g,0,none⟩) n cap) n (bj enc xs)) (i:Int) (x:α):
    (W.setCell ⟨g,i.toNat,none⟩ (enc x)).ownsRow base e 1 (.slice (some ⟨g,0,none⟩) n cap) n (bj enc (xs.set i.toNat x))∧W.grownBy (W.setCell ⟨g,i.toNat,none⟩ (enc x)) (some g):=by
  have j:=h.stored i.toNat (enc x)
  have he:(bj enc xs).set i.toNat (enc x)=bj enc (xs.set i.toNat x):=by simp[bj,List.map_set]
  rwa [he] at j
end
section
variable {α:Type} {P:Program} {ops:Array Oper} {rest:List Oper} {o:Oper} {a:Act} {Q:Exit->Act->World->Prop}
theorem vT {w0 W:World} (enc:α->Value) (d:α) (base:Nat) (ar:o.guard=none) (s x:Operand) (t e:TypeId) (z:Value) (bytes:Nat)
    (ho:o.op= .call {callee:=.builtin .append,args:=#[s,x],argTypes:=#[t,t]})
    (R:P.underlying t=some (.slice e)) (av:(P.info? e).map (fun i=>(i.zero,i.size,i.bytes))=some (some z,1,bytes)) (hz:z.cells.size=1) (aF:0<bytes) (h1:∀x:α,(enc x).oneCell'=true)
    (v:Value) (xs ys:List α) (A:Option Addr) (m c:Nat) (hs:a.eval s=v) (hx:a.eval x= .slice A m c)
    (J:W.ownsRow base e 1 v xs.length (bj enc xs)) (U:kg enc d W A m ys) (HB:Below base w0 W) (ab:base<=W.heap.size) (hl:(xs.length+m)*bytes<=140737488355328)
    (h:∀v1 w1,w1.ownsRow base e 1 v1 (xs++ys).length (bj enc (xs++ys))->Below base w0 w1->W.grownBy w1 v.ownBlock->(v1.ownBlock=v.ownBlock∨∃b,v1.ownBlock=some b∧W.heap.size<=b)->wpList P ops Q rest (a.put o.dst v1) w1):
    wpList P ops Q (o::rest) a W:=by
  obtain⟨i0,hi,ak⟩:=Option.map_eq_some_iff.1 av
  simp only[Prod.mk.injEq] at ak
  obtain⟨aS,a0,a1⟩:=ak
  have hm:ys.length=m:=U.1
  have hlen:xs.length+m<=140737488355328:=Nat.le_trans (Nat.le_mul_of_pos_right _ aF) hl
  have a2:∃v1 w1,(Builtin.append_ #[t,t] o.type #[v,.slice A m c]).run P W= .ok v1 w1∧w1.ownsRow base e 1 v1 (xs++ys).length (bj enc (xs++ys))∧W.grownBy w1 v.ownBlock∧(v1.ownBlock=v.ownBlock∨v1.ownBlock=some W.heap.size):=by
    rcases A with _|ad
    · have h0:m=0:=by
        rcases Nat.eq_zero_or_pos m with h0|h0
        · exact h0
        · obtain⟨ad,h,_⟩:=U.2.2 h0
          cases h
      subst h0
      obtain rfl:ys=[]:=List.eq_nil_of_length_eq_zero hm
      refine⟨v,W,?_,by simpa using J,World.grownBy.refl W _,.inl rfl⟩
      rcases J.2 with⟨rfl,hn⟩|⟨g,cap,cur,rfl,_,_,a3,_⟩
      · simp[Builtin.append_,run_underlying R,sizeOf,typeInfo,hi,Builtin.lenOf,Builtin.firstCells]
      · simp[Builtin.append_,run_underlying R,sizeOf,typeInfo,hi,Builtin.lenOf,Builtin.firstCells,a3,storeCells]
    · have bf:∀j u,(bj enc ys)[j]? =some u->W.cell? (ad.add j)=some u:=by
        intro j u hu
        have hj:j<ys.length:=by
          rcases Nat.lt_or_ge j ys.length with h|h
          · exact h
          · simp[bj,List.getElem?_eq_none h] at hu
        obtain⟨bx,h',hc⟩:=U.2.2 (by omega)
        injection h' with h'
        subst h'
        rw[qO (d:=d) ys j hj] at hu
        rw[<-hu]
        exact hc j (by omega)
      obtain⟨v1,w1,hr,h2,h3,_,h5⟩:=run_append_own_at (P:=P) W base t o.type e i0 z 1 bytes R hi aS a0 a1 hz (by omega) v xs.length (bj enc xs) J ad m c (bj enc ys) (by simp[bj,hm]) bf
        (by intro u hu;simp only[bj,List.mem_map] at hu;obtain⟨q,_,rfl⟩:=hu;exact h1 q) (by simp only[maxLen];omega) hl ab
      exact⟨v1,w1,hr,by simpa [bj,hm] using h2,h3,h5⟩
  obtain⟨v1,w1,hr,hown,hg,I⟩:=a2
  refine wpList_plain ar fun K hK=>?_
  unfold Oper.wp execOp
  simp only[ho,resolve,invoke,builtin,Sem.run_bind,Sem.run_pure,Result.andThen_ok,List.map_toArray,List.map_cons,List.map_nil,hs,hx,hr]
  refine hK _ _ (h v1 w1 hown (HB.grown hg ab (iS J)) hg ?_)
  rcases I with I|I
  · exact .inl I
  · exact .inr ⟨_,I,Nat.le_refl _⟩
end
theorem aq {w:World} {g:Nat} {o:Obj} (h:w.heap[g]? =some o) (j:Obj):(w.alloc j).heap[g]? =some o:=(Below.heap_alloc w j g (aw h)).trans h
theorem eG {w:World} {g:Nat} {o:Obj} (h:w.heap[g]? =some o):w.drew.heap[g]? =some o:=h
theorem hZ {w:World} {g:Nat} {o:Obj} (h:w.heap[g]? =some o) (n:Nat):(w.drewN n).heap[g]? =some o:=h
theorem aE {w w1:World} {g:Nat} {o:Obj} (h:w.heap[g]? =some o) (hb:Below w.heap.size w w1):w1.heap[g]? =some o:=(hb.block g (aw h)).trans h
theorem vU (w:World) (o:Obj):(w.alloc o).heap[w.heap.size]? =some o:=heap_alloc_new w o
section
variable {P:Program}
theorem nT {fn:Func} {p u:Tmp} {ty:TypeId} (h:fn.results=#[.cell p ty,.tmp u]) (tmps:Array Value) (w:World) (g:Nat) (t:TypeId) (cs:Array Value) (fr:Nat×Nat) (d:TypeDesc)
    (hp:tmps.getD p undef= .pointer (some ⟨g,0,none⟩)) (j:w.heap[g]? =some (.cells cs t fr))
    (hu:P.underlying ty=some d) (hd:(match d with| .struct _| .array _ _=>true|_=>false)=true) (hi:(P.info? ty).map (·.size)=some cs.size):
    (results fn tmps).run P w= .ok (.tuple #[.agg cs,tmps.getD u undef]) w:=by
  have o:tmps[p]?.getD undef= .pointer (some ⟨g,0,none⟩):=by simpa using hp
  simp[results,h,o,asAddr,run_loadVar_row w g t ty cs fr d j hu hd hi]
end
theorem vV {w:World} {base n m c size:Nat} {e:TypeId} {A:Option Addr} {xs:List Value} (h:w.ownsRow base e size (.slice A m c) n xs):m<=c:=by
  rcases h.2 with⟨he,_⟩|⟨g,cap,cur,he,_,_,o,_⟩
  · injection he with _ h2 j
    omega
  · injection he with _ h2 j
    omega
def fj {α:Type} (R:α->List Value->Prop) (e:TypeId) (size:Nat) (w:World) (base:Nat) (v:Value) (ps:List α):Prop:=
  ∃inner,w.ownsRow base e size v ps.length inner∧aT R size ps inner
section
variable {α:Type} {R R':α->List Value->Prop} {e:TypeId} {size:Nat} {w w1:World} {base:Nat} {v:Value} {ps:List α}
theorem fj.none_ (R:α->List Value->Prop) (e:TypeId) (size:Nat) (w:World) (base:Nat):fj R e size w base (.slice none 0 0) []:=⟨[],qJ _ _ _ _,aT.none _ _⟩
theorem fj.ej (h:fj R e size w base v ps) (j:∀p c,R p c->R' p c):fj R' e size w base v ps:=by
  obtain⟨inner,ho,hr⟩:=h
  exact⟨inner,ho,hr.ej j⟩
theorem fj.reads (h:fj R e size w base v ps):∃A c,v= .slice A ps.length c∧ps.length<=c∧gQ R size w A ps.length ps:=by
  obtain⟨inner,ho,hr⟩:=h
  obtain⟨A,c,rfl,j⟩:=vN ho hr rfl
  exact⟨A,c,rfl,vV ho,j⟩
theorem fj.vW (h:fj R e size w base v ps) {g:Nat} {t:TypeId} {cells:Array Value} (hb:w.heap[g]? =some (.cells cells t (0,0))) (j:e≠t):some g≠v.ownBlock:=by
  obtain⟨inner,ho,hr⟩:=h
  exact qM ho hb j
end
structure Kd (α:Type) where
  sz:Nat
  E:List Nat
  K:World->α->List Value->Prop
  M:World->Nat->(Nat->Prop)->α->List Value->Prop
  c_:∀{w x cs},K w x cs->cs.length=sz
  di:∀{w x cs},K w x cs->∀u∈cs,u.oneCell'=true
  fk:∀{w w1:World} {x cs},Below w.heap.size w w1->K w x cs->K w1 x cs
  ct:∀{w base ok x cs},M w base ok x cs->K w x cs
  M_mono:∀{w base ok ok' x cs},(∀k,ok k->ok' k)->M w base ok x cs->M w base ok' x cs
  dx:∀{w:World} {base ok x cs},M w base ok x cs->M w base (fun k=>ok k∧base<=k∧k<w.heap.size∧∃q,q∈E∧∃cells,w.heap[k]? =some (.cells cells q (0,0))) x cs
  dI:∀{w w1:World} {base ok x cs},(∀k,ok k->w1.heap[k]? =w.heap[k]?)->M w base ok x cs->M w1 base ok x cs
  fl:∀{w base base' ok x cs},base'<=base->M w base ok x cs->M w base' ok x cs
theorem vX {w w1:World} {base:Nat} {e:TypeId} {size n:Nat} {v:Value} {xs:List Value} (h:w.ownsRow base e size v n xs) (hm:∀k,v.ownBlock=some k->w1.heap[k]? =w.heap[k]?):w1.ownsRow base e size v n xs:=by
  obtain⟨h1,h2⟩:=h
  refine⟨h1,?_⟩
  rcases h2 with h2|⟨g,cap,cur,rfl,j,o,r⟩
  · exact .inl h2
  · exact .inr ⟨g,cap,cur,rfl,j,(hm g (by simp[Value.ownBlock])).trans o,r⟩
theorem ia {w:World} {base:Nat} {e:TypeId} {size n:Nat} {v:Value} {xs:List Value} (h:w.ownsRow base e size v n xs) (k:Nat) (hk:v.ownBlock=some k):∃cells,w.heap[k]? =some (.cells cells e (0,0)):=by
  rcases h.2 with⟨rfl,_⟩|⟨g,cap,cur,rfl,o,j,r⟩
  · simp[Value.ownBlock] at hk
  · have:g=k:=by simpa [Value.ownBlock] using hk
    subst this
    exact⟨cur,j⟩
namespace Kd
def C {α:Type} (d:Kd α) (w:World) (A:Option Addr) (n:Nat) (xs:List α):Prop:=gQ (d.K w) d.sz w A n xs
def R {α:Type} (d:Kd α) (e:Nat) (w:World) (base:Nat) (ok:Nat->Prop) (v:Value) (xs:List α):Prop:=
  (∀k,v.ownBlock=some k->ok k)∧fj (d.M w base (fun k=>ok k∧some k≠v.ownBlock)) e d.sz w base v xs
section
variable {α:Type} {d:Kd α} {e:Nat} {w w1:World} {base:Nat} {ok ok':Nat->Prop} {v:Value} {xs:List α}
theorem aj {A:Option Addr} {n:Nat} (h:d.C w A n xs) (hb:Below w.heap.size w w1):d.C w1 A n xs:=gQ.ej h hb (fun _ _ hp=>d.fk hb hp)
theorem cE (d:Kd α) (e:Nat) (w:World) (base:Nat) (ok:Nat->Prop):d.R e w base ok (.slice none 0 0) []:=⟨fun k hk=>by simp[Value.ownBlock] at hk,fj.none_ _ _ _ _ _⟩
theorem aR (h:d.R e w base ok v xs) (hok:∀k,ok k->ok' k):d.R e w base ok' v xs:=⟨fun k hk=>hok k (h.1 k hk),h.2.ej (fun _ _ hp=>d.M_mono (fun k hk=>⟨hok k hk.1,hk.2⟩) hp)⟩
theorem dR (h:d.R e w base ok v xs):d.R e w base (fun k=>ok k∧base<=k∧k<w.heap.size∧∃q,q∈e::d.E∧∃cells,w.heap[k]? =some (.cells cells q (0,0))) v xs:=by
  obtain⟨h0,inner,ho,hr⟩:=h
  refine⟨fun k hk=>?_,inner,ho,hr.ej (fun _ _ hp=>d.M_mono (fun k hk=>?_) (d.dx hp))⟩
  · obtain⟨cells,hc⟩:=ia ho k hk
    exact⟨h0 k hk,iS ho k hk,qK ho k hk,e,List.mem_cons_self,cells,hc⟩
  · obtain⟨⟨h1,h2⟩,j,o,q,hq,hc⟩:=hk
    exact⟨⟨h1,j,o,q,List.mem_cons_of_mem _ hq,hc⟩,h2⟩
theorem en (h:d.R e w base ok v xs) (hm:∀k,ok k->w1.heap[k]? =w.heap[k]?):d.R e w1 base ok v xs:=by
  obtain⟨h0,inner,ho,hr⟩:=h
  exact⟨h0,inner,vX ho (fun k hk=>hm k (h0 k hk)),hr.ej (fun _ _ hp=>d.dI (fun k hk=>hm k hk.1) hp)⟩
theorem aM {base':Nat} (h:d.R e w base ok v xs) (hb:base'<=base):d.R e w base' ok v xs:=by
  obtain⟨h0,inner,ho,hr⟩:=h
  exact⟨h0,inner,vQ ho hb,hr.ej (fun _ _ hp=>d.fl hb hp)⟩
theorem kh (h:d.R e w base ok v xs) (hm:∀k,ok k->k<w.heap.size->w1.heap[k]? =w.heap[k]?):d.R e w1 base ok v xs:=
  aR (en (dR h) (fun k hk=>hm k hk.1 hk.2.2.1)) (fun _ hk=>hk.1)
theorem nU {x:α} {cs:List Value} (h:d.M w base ok x cs) (hm:∀k,ok k->k<w.heap.size->w1.heap[k]? =w.heap[k]?):d.M w1 base ok x cs:=
  d.M_mono (fun _ hk=>hk.1) (d.dI (fun k hk=>hm k hk.1 hk.2.2.1) (d.dx h))
theorem bY (h:d.R e w base ok v xs) (hb:Below w.heap.size w w1):d.R e w1 base ok v xs:=kh h (fun k _ hk=>hb.block k hk)
theorem qP {x:α} {cs:List Value} (h:d.M w base ok x cs) (hb:Below w.heap.size w w1):d.M w1 base ok x cs:=nU h (fun k _ hk=>hb.block k hk)
theorem ki (h:d.R e w base ok v xs) {row:Option Nat} (j:w.grownBy w1 row) (hok:∀k,ok k->some k≠row):d.R e w1 base ok v xs:=kh h (fun k ho hk=>j.block k hk (hok k ho))
theorem cz (h:d.R e w base ok v xs) {p:Addr} (hok:∀k,ok k->k≠p.block) (u:Value):d.R e (w.setCell p u) base ok v xs:=kh h (fun k ho _=>Below.heap_setCell w p u k (hok k ho))
theorem eM (h:d.R e w base ok v xs) {g t:Nat} {cells:Array Value} (hb:w.heap[g]? =some (.cells cells t (0,0))) (j:∀q,q∈e::d.E->q≠t):d.R e w base (fun k=>ok k∧k≠g) v xs:=
  aR (dR h) (fun k hk=>⟨hk.1,by
    obtain⟨_,_,_,q,hq,o,hc⟩:=hk
    rintro rfl
    rw[hc] at hb
    injection hb with hb
    injection hb with _ hb
    exact j q hq hb⟩)
theorem eo (h:d.R e w base ok v xs) {g t:Nat} {cells:Array Value} (hb:w.heap[g]? =some (.cells cells t (0,0))) (o:∀q,q∈e::d.E->q≠t) (j:Nat) (u:Value):d.R e (w.setCell ⟨g,j,none⟩ u) base ok v xs:=
  aR (cz (p:=⟨g,j,none⟩) (eM h hb o) (fun _ hk=>hk.2) u) (fun _ hk=>hk.1)
theorem mg (h:d.R e w base ok v xs):∃A c,v= .slice A xs.length c∧xs.length<=c∧d.C w A xs.length xs:=by
  obtain⟨A,c,he,j,hr⟩:=fj.reads h.2
  exact⟨A,c,he,j,hr.ej (Below.refl _ _) (fun _ _ hp=>d.ct hp)⟩
theorem a7 (h:d.R e w base ok v xs):∃A c,v= .slice A xs.length c:=by
  obtain⟨A,c,he,_⟩:=mg h
  exact⟨A,c,he⟩
theorem ic (h:d.R e w base ok v xs):∃inner,w.ownsRow base e d.sz v xs.length inner:=by
  obtain⟨_,inner,ho,_⟩:=h
  exact⟨inner,ho⟩
theorem dj (h:d.R e w base ok v xs) {g t:Nat} {cells:Array Value} (hb:w.heap[g]? =some (.cells cells t (0,0))) (j:e≠t):some g≠v.ownBlock:=fj.vW h.2 hb j
end
def scalar {α:Type} (enc:α->Value) (h1:∀x,(enc x).oneCell'=true):Kd α where
  sz:=1
  E:=[]
  K:=fun _ x cs=>cs=[enc x]
  M:=fun _ _ _ x cs=>cs=[enc x]
  c_:=fun h=>by rw[h];rfl
  di:=fun h u hu=>by
    rw[h] at hu
    rw[List.mem_singleton.1 hu]
    exact h1 _
  fk:=fun _ h=>h
  ct:=fun h=>h
  M_mono:=fun _ h=>h
  dx:=fun h=>h
  dI:=fun _ h=>h
  fl:=fun _ h=>h
def int (k:IntKind):Kd Int:=scalar (Value.int k) (fun _=>rfl)
def bool:Kd Bool:=scalar Value.bool (fun _=>rfl)
def slice {α:Type} (e:Nat) (d:Kd α):Kd (List α) where
  sz:=1
  E:=e::d.E
  K:=fun w xs cs=>∃A c,cs=[.slice A xs.length c]∧xs.length<=c∧d.C w A xs.length xs
  M:=fun w base ok xs cs=>∃v,cs=[v]∧d.R e w base ok v xs
  c_:=by
    rintro w x cs ⟨A,c,rfl,_⟩
    rfl
  di:=by
    rintro w x cs ⟨A,c,rfl,_⟩ u hu
    rw[List.mem_singleton.1 hu]
    rfl
  fk:=by
    rintro w w1 x cs hb ⟨A,c,rfl,j,hr⟩
    exact⟨A,c,rfl,j,aj hr hb⟩
  ct:=by
    rintro w base ok x cs ⟨v,rfl,h⟩
    obtain⟨A,c,rfl,j,hr⟩:=mg h
    exact⟨A,c,rfl,j,hr⟩
  M_mono:=by
    rintro w base ok ok' x cs hok ⟨v,rfl,h⟩
    exact⟨v,rfl,aR h hok⟩
  dx:=by
    rintro w base ok x cs ⟨v,rfl,h⟩
    exact⟨v,rfl,dR h⟩
  dI:=by
    rintro w w1 base ok x cs hm ⟨v,rfl,h⟩
    exact⟨v,rfl,en h hm⟩
  fl:=by
    rintro w base base' ok x cs hb ⟨v,rfl,h⟩
    exact⟨v,rfl,aM h hb⟩
def pair {α β:Type} (a:Kd α) (b:Kd β):Kd (α×β) where
  sz:=a.sz+b.sz
  E:=a.E++b.E
  K:=fun w x cs=>∃c0 c1,cs=c0++c1∧a.K w x.1 c0∧b.K w x.2 c1
  M:=fun w base ok x cs=>∃c0 c1,cs=c0++c1∧a.M w base ok x.1 c0∧b.M w base ok x.2 c1
  c_:=by
    rintro w x cs ⟨c0,c1,rfl,h0,h1⟩
    rw[List.length_append,a.c_ h0,b.c_ h1]
  di:=by
    rintro w x cs ⟨c0,c1,rfl,h0,h1⟩ u hu
    rcases List.mem_append.1 hu with hu|hu
    · exact a.di h0 u hu
    · exact b.di h1 u hu
  fk:=by
    rintro w w1 x cs hb ⟨c0,c1,rfl,h0,h1⟩
    exact⟨c0,c1,rfl,a.fk hb h0,b.fk hb h1⟩
  ct:=by
    rintro w base ok x cs ⟨c0,c1,rfl,h0,h1⟩
    exact⟨c0,c1,rfl,a.ct h0,b.ct h1⟩
  M_mono:=by
    rintro w base ok ok' x cs hok ⟨c0,c1,rfl,h0,h1⟩
    exact⟨c0,c1,rfl,a.M_mono hok h0,b.M_mono hok h1⟩
  dx:=by
    rintro w base ok x cs ⟨c0,c1,rfl,h0,h1⟩
    refine⟨c0,c1,rfl,a.M_mono ?_ (a.dx h0),b.M_mono ?_ (b.dx h1)⟩
    · rintro k ⟨h2,j,o,q,hq,hc⟩
      exact⟨h2,j,o,q,List.mem_append_left _ hq,hc⟩
    · rintro k ⟨h2,j,o,q,hq,hc⟩
      exact⟨h2,j,o,q,List.mem_append_right _ hq,hc⟩
  dI:=by
    rintro w w1 base ok x cs hm ⟨c0,c1,rfl,h0,h1⟩
    exact⟨c0,c1,rfl,a.dI hm h0,b.dI hm h1⟩
  fl:=by
    rintro w base base' ok x cs hb ⟨c0,c1,rfl,h0,h1⟩
    exact⟨c0,c1,rfl,a.fl hb h0,b.fl hb h1⟩
def vY {α β:Type} (d:Kd α) (f:β->α):Kd β where
  sz:=d.sz
  E:=d.E
  K:=fun w x cs=>d.K w (f x) cs
  M:=fun w base ok x cs=>d.M w base ok (f x) cs
  c_:=d.c_
  di:=d.di
  fk:=d.fk
  ct:=d.ct
  M_mono:=d.M_mono
  dx:=d.dx
  dI:=d.dI
  fl:=d.fl
theorem nV {α:Type} {d:Kd α} {w:World} {A:Option Addr} {n:Nat} {xs:List α} (h:d.C w A n xs) (z:α) (i:Int) (h0:0<=i) (h1:i<n):
    ∃ad c,A=some ad∧c.length=d.sz∧d.K w (xs.getD i.toNat z) c∧∀j u,c[j]? =some u->w.cell? (ad.add (i.toNat*d.sz+j))=some u:=gQ.vM h z i h0 h1
theorem nW {α:Type} {d:Kd α} {e base:Nat} {ok okp:Nat->Prop} {W w1:World} {v v1:Value} {xs:List α} {p:α} {inner cs:List Value} (h0:∀k,v.ownBlock=some k->ok k) (hr:aT (d.M W base (fun k=>ok k∧some k≠v.ownBlock)) d.sz xs inner) (hp:d.M W base okp p cs) (I:∀k,okp k->ok k∧some k≠v.ownBlock) (J:∀k,W.heap.size<=k->ok k)
    (hown:w1.ownsRow base e d.sz v1 (xs.length+1) (inner++cs)) (U:W.grownBy w1 v.ownBlock) (j:v1.ownBlock=v.ownBlock∨∃b,v1.ownBlock=some b∧W.heap.size<=b):d.R e w1 base ok v1 (xs++[p]):=by
  have aa:∀k,some k≠v.ownBlock->k<W.heap.size->some k≠v1.ownBlock:=by
    intro k hk ab
    rcases j with j|⟨b,hb,hle⟩
    · rw[j];exact hk
    · rw[hb]
      intro he
      injection he with he
      omega
  have step:∀{q:α} {c:List Value} {o:Nat->Prop},d.M W base o q c->(∀k,o k->ok k∧some k≠v.ownBlock)->d.M w1 base (fun k=>ok k∧some k≠v1.ownBlock) q c:=by
    intro q c o hq ho
    have h1:=d.dI (w1:=w1) (fun k hk=>U.block k hk.2.2.1 (ho k hk.1).2) (d.dx hq)
    exact d.M_mono (fun k hk=>⟨(ho k hk.1).1,aa k (ho k hk.1).2 hk.2.2.1⟩) h1
  refine⟨fun k hk=>?_,inner++cs,by rw[List.length_append,List.length_singleton];exact hown,?_⟩
  · rcases j with j|⟨b,hb,hle⟩
    · exact h0 k (j▸hk)
    · rw[hb] at hk
      injection hk with hk
      exact J k (by omega)
  · exact(hr.ej (fun _ _ hq=>step hq (fun _ hk=>hk))).snoc (step hp I) (d.c_ (d.ct hp))
section
variable {P:Program} {ops:Array Oper} {rest:List Oper} {o:Oper} {a:Act} {Q:Exit->Act->World->Prop} {α:Type}
theorem kX (d:Kd α) {w0 W:World} (base:Nat) (J:o.guard=none) (s x:Operand) (t e:TypeId) (z:Value) (bytes:Nat)
    (ho:o.op= .call {callee:=.builtin .append,args:=#[s,x],argTypes:=#[t,t]})
    (U:P.underlying t=some (.slice e)) (aa:(P.info? e).map (fun i=>(i.zero,i.size,i.bytes))=some (some z,d.sz,bytes)) (hz:z.cells.size=d.sz) (ad:0<d.sz) (ag:0<bytes)
    (v:Value) (xs:List α) (p:α) (cs:List Value) (ok okp:Nat->Prop) (hs:a.eval s=v) (hx:a.eval x= .slice (some ⟨W.heap.size,0,none⟩) 1 1) (hp:d.M W base okp p cs) (ar:∀k,okp k->ok k∧some k≠v.ownBlock) (av:∀k,W.heap.size<=k->ok k)
    (HO:d.R e W base ok v xs) (HB:Below base w0 W) (aL:base<=W.heap.size) (hl:(xs.length+1)*bytes<=140737488355328)
    (h:∀v1 w1,d.R e w1 base ok v1 (xs++[p])->Below base w0 w1->W.grownBy w1 v.ownBlock->(v1.ownBlock=v.ownBlock∨∃b,v1.ownBlock=some b∧W.heap.size<=b)->wpList P ops Q rest (a.put o.dst v1) w1):
    wpList P ops Q (o::rest) a (W.alloc (.cells cs.toArray e)):=by
  obtain⟨h0,inner,hown,hr⟩:=HO
  refine vO base J s x t e z d.sz bytes ho U aa hz ad ag v xs.length inner cs hs hx (d.c_ (d.ct hp)) (d.di (d.ct hp)) hown HB aL hl ?_
  intro v1 w1 aP aS j I
  exact h v1 w1 (nW h0 hr hp ar av aP j I) aS j I
end
section
variable {P:Program} {ops:Array Oper} {o:Oper} {a:Act} {Q:Exit->Act->World->Prop} {Kc:Act->World->Prop} {α:Type}
theorem nX (d:Kd α) {w0 W:World} (base:Nat) (hw:Region.wanted o (yielded ops a.tmps)=true) (s x:Operand) (t e:TypeId) (z:Value) (bytes:Nat)
    (ho:o.op= .call {callee:=.builtin .append,args:=#[s,x],argTypes:=#[t,t]})
    (J:P.underlying t=some (.slice e)) (U:(P.info? e).map (fun i=>(i.zero,i.size,i.bytes))=some (some z,d.sz,bytes)) (hz:z.cells.size=d.sz) (ab:0<d.sz) (ad:0<bytes)
    (v:Value) (xs:List α) (p:α) (cs:List Value) (ok okp:Nat->Prop) (hs:a.eval s=v) (hx:a.eval x= .slice (some ⟨W.heap.size,0,none⟩) 1 1) (hp:d.M W base okp p cs) (an:∀k,okp k->ok k∧some k≠v.ownBlock) (ar:∀k,W.heap.size<=k->ok k)
    (HO:d.R e W base ok v xs) (HB:Below base w0 W) (aF:base<=W.heap.size) (hl:(xs.length+1)*bytes<=140737488355328)
    (h:∀v1 w1,d.R e w1 base ok v1 (xs++[p])->Below base w0 w1->W.grownBy w1 v.ownBlock->(v1.ownBlock=v.ownBlock∨∃b,v1.ownBlock=some b∧W.heap.size<=b)->Kc (a.put o.dst v1) w1):
    if Region.wanted o (yielded ops a.tmps)=true then Oper.wp P o a (W.alloc (.cells cs.toArray e)) Kc Q else Kc (a.put o.dst undef) (W.alloc (.cells cs.toArray e)):=by
  obtain⟨h0,inner,hown,hr⟩:=HO
  refine vP base hw s x t e z d.sz bytes ho J U hz ab ad v xs.length inner cs hs hx (d.c_ (d.ct hp)) (d.di (d.ct hp)) hown HB aF hl ?_
  intro v1 w1 aO aP j I
  exact h v1 w1 (nW h0 hr hp an ar aO j I) aP j I
end
theorem vZ {α:Type} {enc:α->Value} (xs:List α):aT (fun (x:α) (cs:List Value)=>cs=[enc x]) 1 xs (bj enc xs):=by
  refine⟨by simp[bj],fun j p o=>?_⟩
  obtain⟨I,hp⟩:=List.getElem?_eq_some_iff.1 o
  have J:j<(bj enc xs).length:=by rw[qN];exact I
  rw[Nat.mul_one,List.drop_eq_getElem_cons J]
  simp[bj,hp]
theorem kY {α:Type} {enc:α->Value} {h1:∀x,(enc x).oneCell'=true} {e:Nat} {w:World} {base:Nat} {ok:Nat->Prop} {v:Value} {xs:List α} (ho:w.ownsRow base e 1 v xs.length (bj enc xs)) (hok:∀k,v.ownBlock=some k->ok k):(scalar enc h1).R e w base ok v xs:=⟨hok,bj enc xs,ho,vZ xs⟩
theorem mh {α:Type} {enc:α->Value} {h1:∀x,(enc x).oneCell'=true} {e:Nat} {w:World} {base:Nat} {ok:Nat->Prop} {v:Value} {xs:List α} (h:(scalar enc h1).R e w base ok v xs):w.ownsRow base e 1 v xs.length (bj enc xs):=by
  obtain⟨_,inner,ho,hr⟩:=h
  have:inner=bj enc xs:=by
    apply List.ext_getElem?
    intro j
    rcases Nat.lt_or_ge j xs.length with o|o
    · have h2:=hr.2 j _ (List.getElem?_eq_getElem o)
      have J:j<inner.length:=by have:=hr.1;simp[scalar] at this;omega
      have I:(inner.drop (j*1)).take 1=[enc xs[j]]:=h2
      rw[Nat.mul_one,List.drop_eq_getElem_cons J] at I
      have h4:inner[j]=enc xs[j]:=by
        have U:=congrArg List.head? I
        rw[List.take_succ_cons] at U
        exact Option.some.inj U
      rw[List.getElem?_eq_getElem J,h4]
      simp[bj,List.getElem?_eq_getElem o]
    · have I:inner.length=xs.length:=by have:=hr.1;simp[scalar] at this;omega
      rw[List.getElem?_eq_none (by omega),List.getElem?_eq_none (by rw[qN];omega)]
  rw[<-this]
  exact ho
theorem nY {α:Type} {enc:α->Value} {d:α} {h1:∀x,(enc x).oneCell'=true} {w:World} {A:Option Addr} {n:Nat} {xs:List α} (h:(scalar enc h1).C w A n xs):kg enc d w A n xs:=by
  refine⟨h.1,h.2.1,fun I=>?_⟩
  obtain⟨ad,e,hc⟩:=h.2.2 I
  refine⟨ad,e,fun j hj=>?_⟩
  have o:j<xs.length:=by have:=h.1;omega
  obtain⟨c,_,J,R⟩:=hc j _ (List.getElem?_eq_getElem o)
  have U:c=[enc xs[j]]:=J
  subst U
  have:=R 0 _ rfl
  simpa [scalar,List.getD_eq_getElem?_getD,List.getElem?_eq_getElem o] using this
end Kd
namespace Kd
theorem qQ {α:Type} {d:Kd α} {e base:Nat} {ok:Nat->Prop} {W w1:World} {u v v1:Value} {xs:List α} (h:d.R e W base (fun k=>ok k∧some k≠v.ownBlock) u xs) (o:W.grownBy w1 v.ownBlock) (j:v1.ownBlock=v.ownBlock∨∃b,v1.ownBlock=some b∧W.heap.size<=b):d.R e w1 base (fun k=>ok k∧some k≠v1.ownBlock) u xs:=by
  refine aR (en (dR h) (fun k hk=>o.block k hk.2.2.1 hk.1.2)) (fun k hk=>⟨hk.1.1,?_⟩)
  rcases j with j|⟨b,hb,hle⟩
  · rw[j];exact hk.1.2
  · rw[hb]
    intro he
    injection he with he
    have:=hk.2.2.1
    omega
theorem mi {α:Type} {d:Kd α} {e base:Nat} {ok:Nat->Prop} {w:World} {v:Value} {xs:List α} (h:d.R e w base ok v xs):(slice e d).M w base ok xs [v]:=⟨v,rfl,h⟩
end Kd
namespace Kd
section
variable {α β:Type} {d:Kd α} {d':Kd β} {e e':Nat} {w w1 W:World} {base b b':Nat} {ok ok' okv oku:Nat->Prop} {v u:Value} {xs:List α} {ys:List β}
theorem aD (h:d.R e w base ok v xs) (o:Obj):d.R e (w.alloc o) base ok v xs:=bY h (al (Below.refl _ _) o)
theorem a8 (h:d.R e w base ok v xs):d.R e w.drew base ok v xs:=bY h (fH (Below.refl _ _))
theorem bd (h:d.R e w base ok v xs) (m:Nat):d.R e (w.drewN m) base ok v xs:=bY h (bC (Below.refl _ _) m)
theorem aY {A:Option Addr} {n:Nat} (h:d.C w A n xs) (o:Obj):d.C (w.alloc o) A n xs:=aj h (al (Below.refl _ _) o)
theorem cK {A:Option Addr} {n:Nat} (h:d.C w A n xs):d.C w.drew A n xs:=aj h (fH (Below.refl _ _))
theorem cX {A:Option Addr} {n:Nat} (h:d.C w A n xs) (m:Nat):d.C (w.drewN m) A n xs:=aj h (bC (Below.refl _ _) m)
theorem nZ (d:Kd α) (w:World):d.C w none ([]:List α).length []:=⟨rfl,by simp,fun h=>absurd h (Nat.lt_irrefl 0)⟩
theorem kZ {A:Option Addr} {n:Nat} (h:d.C w A n xs):n<=9223372036854775807:=h.2.1
theorem aC {A:Option Addr} {n c:Nat} (h:d.R e w base ok (.slice A n c) xs):n=xs.length∧n<=c∧d.C w A xs.length xs:=by
  obtain⟨A',j,he,o,hr⟩:=mg h
  injection he with h1 h2 I
  subst h1
  exact⟨h2,by omega,hr⟩
theorem bq (h:d.R e w base ok v xs):∀k,v.ownBlock=some k->k<w.heap.size:=by
  obtain⟨inner,ho⟩:=ic h
  exact qK ho
theorem br (h:d.R e w base ok v xs):∀k,v.ownBlock=some k->base<=k:=by
  obtain⟨inner,ho⟩:=ic h
  exact iS ho
theorem v_ (h:d.R e w base ok v xs) {g:Nat} (hok:∀k,ok k->k≠g):some g≠v.ownBlock:=fun e=>hok g (h.1 g e.symm) rfl
theorem eH (h:d.R e w base ok v xs) (hp:0<xs.length):∃g cap,v= .slice (some ⟨g,0,none⟩) xs.length cap∧base<=g∧g<w.heap.size∧∃cells,w.heap[g]? =some (.cells cells e (0,0)):=by
  obtain⟨inner,ho⟩:=ic h
  obtain⟨g,cap,he,hb,j⟩:=ho.form hp
  obtain⟨cells,hc⟩:=ia ho g (by rw[he];simp[Value.ownBlock])
  exact⟨g,cap,he,hb,j,cells,hc⟩
end
section
variable {w W:World} {A:Option Addr} {n:Nat}
theorem bD {k:IntKind} {xs:List Int} (h:(Kd.int k).C w A n xs) (i:Int) (h0:0<=i) (h1:i<n):∃ad,A=some ad∧w.cell? (ad.add i.toNat)=some (.int k (rd xs i)):=
  kg.at_ (nY (enc:=Value.int k) (d:=(0:Int)) (h1:=fun _=>rfl) h) i h0 h1
theorem iT {xs:List Bool} (h:Kd.bool.C w A n xs) (i:Int) (h0:0<=i) (h1:i<n):∃ad,A=some ad∧w.cell? (ad.add i.toNat)=some (.bool (bl false xs i)):=
  kg.at_ (nY (enc:=Value.bool) (d:=false) (h1:=fun _=>rfl) h) i h0 h1
variable {α:Type} {enc:α->Value} {h1:∀x,(enc x).oneCell'=true} {e base g cap:Nat} {ok:Nat->Prop} {xs:List α}
theorem wa (d:α) (h:(scalar enc h1).R e W base ok (.slice (some ⟨g,0,none⟩) xs.length cap) xs) (i:Int) (h0:0<=i) (hi:i<xs.length):W.cell? ⟨g,i.toNat,none⟩=some (enc (bl d xs i))∧W.frozen? ⟨g,i.toNat,none⟩=false:=vR (mh h) i h0 hi
theorem qR (h:(scalar enc h1).R e W base ok (.slice (some ⟨g,0,none⟩) xs.length cap) xs) (i:Int) (x:α):(scalar enc h1).R e (W.setCell ⟨g,i.toNat,none⟩ (enc x)) base ok (.slice (some ⟨g,0,none⟩) xs.length cap) (xs.set i.toNat x)∧W.grownBy (W.setCell ⟨g,i.toNat,none⟩ (enc x)) (some g):=by
  obtain⟨ho,j⟩:=vS (mh h) i x
  exact⟨kY (by rw[List.length_set];exact ho) h.1,j⟩
end
section
variable {P:Program} {ops:Array Oper} {rest:List Oper} {o:Oper} {a:Act} {Q:Exit->Act->World->Prop}
theorem qS {W w1:World} {v:Value} (j:o.guard=none) (I:(execOp a.eval o).run P W= .ok (.value v) w1) (h:wpList P ops Q rest (a.put o.dst v) w1):wpList P ops Q (o::rest) a W:=by
  refine wpList_plain j fun K J=>?_
  unfold Oper.wp
  rw[I]
  exact J _ _ h
variable {α:Type}
theorem eY (d:Kd α) {w0 W:World} (base e:Nat) (J:o.guard=none) {N:Tmp} (_hd:o.dst=some N) {xs:List α} {inner:List Value} {ok okp:Nat->Prop}
    (U:(execOp a.eval o).run P W= .ok (.value (.slice (some ⟨W.heap.size,0,none⟩) xs.length xs.length)) (W.alloc (.cells inner.toArray e)))
    (j:aT (d.M W base okp) d.sz xs inner) (hok:∀k,okp k->ok k) (aa:ok W.heap.size) (HB:Below base w0 W) (I:base<=W.heap.size) (hm:xs.length<=9223372036854775807)
    (h:∀v1 w1,d.R e w1 base ok v1 xs->Below base w0 w1->W.grownBy w1 none->(∃b,v1.ownBlock=some b∧W.heap.size<=b)->wpList P ops Q rest (a.put o.dst v1) w1):wpList P ops Q (o::rest) a W:=by
  refine qS J U (h _ _ ⟨fun k hk=>?_,inner,?_,?_⟩ (HB.alloc I _) (World.grownBy_alloc W _ none) ⟨W.heap.size,by simp[Value.ownBlock],Nat.le_refl _⟩)
  · have:W.heap.size=k:=by simpa [Value.ownBlock] using hk
    subst this
    exact aa
  · have h2:=World.ownsRow_lit (base:=base) (e:=e) (size:=d.sz) W inner.toArray xs.length I (by simpa [maxLen] using hm) (by simpa using j.1)
    simpa using h2
  · refine j.ej (fun p c hp=>d.M_mono (fun k hk=>⟨hok k hk.1,fun he=>?_⟩) (qP (d.dx hp) (al (Below.refl _ _) _)))
    have h3:k=W.heap.size:=by simpa [Value.ownBlock] using he
    have:=hk.2.2.1
    omega
theorem qT {α:Type} {R:α->List Value->Prop} {z:Value} {size:Nat} {z0:α} (o:z.cells.size=size) (hs:0<size) (h0:R z0 z.cells.toList) (m:Nat):aT R size (List.replicate m z0) (madeCells z.cells (m*size)).toList:=by
  refine⟨by simp[size_madeCells],fun j p I=>?_⟩
  obtain⟨J,hp⟩:=List.getElem?_eq_some_iff.1 I
  have U:j<m:=by simpa using J
  have aa:z0=p:=by simpa using hp
  subst aa
  have hle:j*size+size<=m*size:=by rw[<-Nat.succ_mul];exact Nat.mul_le_mul_right _ U
  have:((madeCells z.cells (m*size)).toList.drop (j*size)).take size=z.cells.toList:=by
    apply List.ext_getElem
    · simp[size_madeCells,o]
      omega
    · intro i h1 h2
      have hi:i<size:=by rw[Array.length_toList,o] at h2;exact h2
      have ab:(j*size+i)%size=i:=by
        rw[Nat.mul_comm,Nat.mul_add_mod]
        exact Nat.mod_eq_of_lt hi
      simp[madeCells,o,ab]
      rw[getElem!_pos z.cells i (by omega)]
  rw[this]
  exact h0
theorem iU (d:Kd α) {w0 W:World} (base e:Nat) (J:o.guard=none) {N:Tmp} (hd:o.dst=some N) (t:TypeId) (x y:Operand) (ho:o.op= .makeSlice t x y) (n:Int) (U:a.eval x= .int .i64 n) (hy:a.eval y= .int .i64 n)
    (ht:P.underlying t=some (.slice e)) (z:Value) (bytes:Nat) (ad:(P.info? e).map (fun i=>(i.zero,i.size,i.bytes))=some (some z,d.sz,bytes)) (hz:z.cells.size=d.sz) (ak:0<d.sz) (an:0<bytes)
    (z0:α) {ok okp:Nat->Prop} (hzero:d.M W base okp z0 z.cells.toList) (hok:∀k,okp k->ok k) (ar:ok W.heap.size) (h0:0<=n) (j:n.toNat*bytes<=281474976710656) (HB:Below base w0 W) (aB:base<=W.heap.size)
    (h:∀v1 w1,d.R e w1 base ok v1 (List.replicate n.toNat z0)->Below base w0 w1->W.grownBy w1 none->(∃b,v1.ownBlock=some b∧W.heap.size<=b)->wpList P ops Q rest (a.put o.dst v1) w1):wpList P ops Q (o::rest) a W:=by
  obtain⟨m,rfl⟩:=Int.eq_ofNat_of_zero_le h0
  simp only[Int.toNat_natCast] at j h
  obtain⟨i0,hi,I⟩:=Option.map_eq_some_iff.1 ad
  simp only[Prod.mk.injEq] at I
  obtain⟨aF,aL,aO⟩:=I
  have hm:m<=281474976710656:=Nat.le_trans (Nat.le_mul_of_pos_right _ an) j
  have hr:=run_make (P:=P) W t e i0 z ht hi aF .i64 .i64 (m:Int) (m:Int) (by omega) (by omega)
    (by
      have h3:((i0.bytes*m:Nat):Int)<=281474976710656:=by rw[aO,Nat.mul_comm];omega
      rwa [Int.natCast_mul] at h3) (by omega)
  simp only[Int.toNat_natCast] at hr
  rw[aL] at hr
  refine eY d base e J hd (xs:=List.replicate m z0) (inner:=(madeCells z.cells (m*d.sz)).toList) (okp:=okp) (ok:=ok) ?_ (qT hz ak hzero m) hok ar HB aB (by simp;omega) h
  simp[execOp,ho,U,hy,hr]
end
end Kd
theorem we {w:World} {base n m c size:Nat} {e:TypeId} {A:Option Addr} {xs:List Value} (h:w.ownsRow base e size (.slice A n c) n xs) (hm:m<=n):w.ownsRow base e size (.slice A m c) m (xs.take (m*size)):=by
  obtain⟨h1,h2⟩:=h
  refine⟨by rw[List.length_take,h1];exact Nat.min_eq_left (Nat.mul_le_mul_right _ hm),?_⟩
  rcases h2 with⟨he,h0⟩|⟨g,cap,cur,he,hb,o,U,I,J,R⟩
  · injection he with j _ hc
    subst j;subst hc
    exact .inl ⟨by rw[show m=0 by omega],by omega⟩
  · injection he with j _ hc
    subst j;subst hc
    refine .inr ⟨g,c,cur,rfl,hb,o,by omega,I,J,?_⟩
    rw[<-R,List.take_take,Nat.min_eq_left (Nat.mul_le_mul_right _ hm)]
def dV (w:World) (base:Nat) (e:TypeId) (size:Nat) (v:Value) (n:Nat) (xs:List Value):Prop:=
  xs.length=n*size∧
  ((n=0∧∃A,v= .slice A 0 0∧∀a,A=some a->base<=a.block∧∃cur,w.heap[a.block]? =some (.cells cur e (0,0)))∨
   ∃g off cap cur,v= .slice (some ⟨g,off*size,none⟩) n cap∧base<=g∧w.heap[g]? =some (.cells cur e (0,0))∧n<=cap∧off+cap<=maxLen∧cur.size=(off+cap)*size∧(cur.toList.drop (off*size)).take (n*size)=xs)
section
variable {w w1:World} {base n size:Nat} {e:TypeId} {v:Value} {xs:List Value}
theorem n6 (h:w.ownsRow base e size v n xs):dV w base e size v n xs:=by
  obtain⟨h1,h2⟩:=h
  refine⟨h1,?_⟩
  rcases h2 with⟨rfl,h0⟩|⟨g,cap,cur,rfl,hb,j,o,I,J,R⟩
  · exact .inl ⟨h0,none,rfl,fun a U=>by cases U⟩
  · exact .inr ⟨g,0,cap,cur,by rw[Nat.zero_mul],hb,j,o,by rw[Nat.zero_add];exact I,by rw[Nat.zero_add];exact J,by rw[Nat.zero_mul,List.drop_zero];exact R⟩
theorem qU (h:dV w base e size v n xs) (hm:∀k,v.ownBlock=some k->w1.heap[k]? =w.heap[k]?):dV w1 base e size v n xs:=by
  obtain⟨h1,h2⟩:=h
  refine⟨h1,?_⟩
  rcases h2 with⟨h0,A,rfl,o⟩|⟨g,off,cap,cur,rfl,I,J,r⟩
  · refine .inl ⟨h0,A,rfl,fun a j=>?_⟩
    obtain⟨hb,cur,hc⟩:=o a j
    subst j
    exact⟨hb,cur,(hm a.block (by simp[Value.ownBlock])).trans hc⟩
  · exact .inr ⟨g,off,cap,cur,rfl,I,(hm g (by simp[Value.ownBlock])).trans J,r⟩
theorem jA (h:dV w base e size v n xs) (k:Nat) (hk:v.ownBlock=some k):base<=k∧∃cells,w.heap[k]? =some (.cells cells e (0,0)):=by
  rcases h.2 with⟨_,A,rfl,j⟩|⟨g,off,cap,cur,rfl,o,I,r⟩
  · cases A with
    |none=>simp[Value.ownBlock] at hk
    |some a=>
      have:a.block=k:=by simpa [Value.ownBlock] using hk
      subst this
      exact j a rfl
  · have:g=k:=by simpa [Value.ownBlock] using hk
    subst this
    exact⟨o,cur,I⟩
theorem qV (h:dV w base e size v n xs) (k:Nat) (hk:v.ownBlock=some k):k<w.heap.size:=by
  obtain⟨_,cells,hc⟩:=jA h k hk
  exact(Array.getElem?_eq_some_iff.1 hc).1
theorem wg {base':Nat} (h:dV w base e size v n xs) (hb:base'<=base):dV w base' e size v n xs:=by
  obtain⟨h1,h2⟩:=h
  refine⟨h1,?_⟩
  rcases h2 with⟨h0,A,rfl,j⟩|⟨g,off,cap,cur,rfl,I,r⟩
  · exact .inl ⟨h0,A,rfl,fun a o=>⟨Nat.le_trans hb (j a o).1,(j a o).2⟩⟩
  · exact .inr ⟨g,off,cap,cur,rfl,Nat.le_trans hb I,r⟩
theorem qW (h:dV w base e size v n xs):∃A c,v= .slice A n c∧n<=c:=by
  rcases h.2 with⟨h0,A,rfl,_⟩|⟨g,off,cap,cur,rfl,o,I,j,r⟩
  · exact⟨A,0,by rw[h0],by omega⟩
  · exact⟨_,cap,rfl,j⟩
theorem wh (h:dV w base e size v n xs):n<=9223372036854775807:=by
  rcases h.2 with⟨h0,_⟩|⟨g,off,cap,cur,rfl,j,o,I,hm,r⟩
  · omega
  · simp only[maxLen] at hm
    omega
theorem fZ (g o j:Nat):(⟨g,o,none⟩:Addr).add j=⟨g,o+j,none⟩:=by unfold Addr.add;split<;>simp_all
theorem qX {A:Option Addr} {c:Nat} (h:dV w base e size (.slice A n c) n xs) (R:0<n):∃ad,A=some ad∧∀j u,xs[j]? =some u->w.cell? (ad.add j)=some u:=by
  rcases h.2 with⟨h0,_⟩|⟨g,off,cap,cur,he,U,o,aa,hm,ab,I⟩
  · omega
  · injection he with J _ hc
    subst J
    refine⟨_,rfl,fun j u hu=>?_⟩
    rw[fZ,cell_of_row w g _ cur e (0,0) o]
    rw[<-I,List.getElem?_take] at hu
    split at hu
    · rw[List.getElem?_drop] at hu
      rw[<-Array.getElem?_toList]
      exact hu
    · cases hu
theorem wj {A:Option Addr} {c k:Nat} (h:dV w base e size (.slice A n c) n xs) (hk:k<=n):dV w base e size (.slice (if c=k then A else A.map (·.add (k*size))) (n-k) (c-k)) (n-k) (xs.drop (k*size)):=by
  obtain⟨h1,h2⟩:=h
  refine⟨by rw[List.length_drop,h1,Nat.sub_mul],?_⟩
  rcases h2 with⟨h0,A',he,J⟩|⟨g,off,cap,cur,he,hb,o,ab,ad,R,U⟩
  · injection he with j hb hc
    subst j;subst hc
    have aa:k=0:=by omega
    subst aa
    exact .inl ⟨by omega,A,by rw[if_pos rfl,h0],J⟩
  · injection he with j _ hc
    subst j;subst hc
    by_cases I:c=k
    · rw[if_pos I]
      refine .inl ⟨by omega,some ⟨g,off*size,none⟩,?_,fun a j=>?_⟩
      · rw[show n-k=0 by omega,show c-k=0 by omega]
      · injection j with j
        subst j
        exact⟨hb,cur,o⟩
    · rw[if_neg I]
      refine .inr ⟨g,off+k,c-k,cur,?_,hb,o,by omega,by omega,by rw[R];congr 1;omega,?_⟩
      · rw[Option.map_some,fZ,Nat.add_mul]
      · rw[<-U,List.drop_take,List.drop_drop,Nat.add_mul,Nat.sub_mul]
theorem n7 {g:Nat}:∀(j:List Value) (o:Nat) {w:World} (k:Nat),k≠g->(w.setCells g o j).heap[k]? =w.heap[k]?
  |[],_,_,_,_=>rfl
  |v::r,o,w,k,hk=>by
    rw[World.setCells,n7 r (o+1) k hk]
    exact Below.heap_setCell w ⟨g,o,none⟩ v k hk
theorem n8 (g:Nat):∀(j:List Value) (o:Nat) (w:World),(w.setCells g o j).os=w.os∧(w.setCells g o j).tape=w.tape∧(w.setCells g o j).output=w.output∧(w.setCells g o j).heap.size=w.heap.size
  |[],_,_=>⟨rfl,rfl,rfl,rfl⟩
  |v::r,o,w=>by
    obtain⟨h1,h2,I,J⟩:=n8 g r (o+1) (w.setCell ⟨g,o,none⟩ v)
    rw[World.setCells]
    exact⟨h1,h2,I,by rw[J];simp[World.setCell]⟩
theorem n9 {g:Nat} {e:TypeId}:∀(I:List Value) (o:Nat) (w:World) (cur:Array Value),w.heap[g]? =some (.cells cur e (0,0))->o+I.length<=cur.size->
    ∃j,(w.setCells g o I).heap[g]? =some (.cells j e (0,0))∧j.size=cur.size∧j.toList=cur.toList.take o++I++cur.toList.drop (o+I.length)
  |[],o,w,cur,h,_=>⟨cur,h,rfl,by simp⟩
  |v::r,o,w,cur,h,J=>by
    have h2:=bt h o v
    simp only[List.length_cons] at J
    obtain⟨j,R,U,h5⟩:=n9 r (o+1) (w.setCell ⟨g,o,none⟩ v) _ h2 (by simp;omega)
    refine⟨j,R,by rw[U];simp,?_⟩
    rw[h5,Array.toList_setIfInBounds]
    have ho:o<cur.toList.length:=by rw[Array.length_toList];omega
    rw[List.take_set,List.drop_set_of_lt (by omega)]
    simp only[List.length_cons]
    rw[show o+1+r.length=o+(r.length+1) by omega]
    congr 1
    rw[List.take_succ_eq_append_getElem ho,List.set_append_right _ _ (by rw[List.length_take];omega)]
    have ab:o<cur.size:=by omega
    simp[Nat.min_eq_left (Nat.le_of_lt ab)]
end
section
variable {P:Program}
theorem wk (w:World) (base:Nat) (t ty e:TypeId) (i:TypeInfo) (z:Value) (size bytes:Nat) (ht:P.underlying t=some (.slice e)) (hi:P.info? e=some i) (hz:i.zero=some z)
    (ab:i.size=size) (ak:i.bytes=bytes) (an:z.cells.size=size) (aK:0<size)
    (v:Value) (n:Nat) (xs:List Value) (hown:dV w base e size v n xs)
    (a:Addr) (m c:Nat) (news:List Value) (R:news.length=m*size) (ad:∀j u,news[j]? =some u->w.cell? (a.add j)=some u) (h1:∀u∈news,u.oneCell'=true) (hm:0<m)
    (ar:n+m<=maxLen) (av:(n+m)*bytes<=140737488355328) (aB:base<=w.heap.size):
    ∃o w',(Builtin.append_ #[t,t] ty #[v,.slice (some a) m c]).run P w= .ok o w'∧dV w' base e size o (n+m) (xs++news)∧w.grownBy w' v.ownBlock∧(o.ownBlock=v.ownBlock∨∃b,o.ownBlock=some b∧w.heap.size<=b):=by
  have aF:∀(b:Addr) (cap:Nat),cap<n+m->(∀j u,xs[j]? =some u->w.cell? (b.add j)=some u)->v= .slice (some b) n cap->
      ∃o w',(Builtin.append_ #[t,t] ty #[v,.slice (some a) m c]).run P w= .ok o w'∧dV w' base e size o (n+m) (xs++news)∧w.grownBy w' v.ownBlock∧(o.ownBlock=v.ownBlock∨∃b,o.ownBlock=some b∧w.heap.size<=b):=by
    intro b cap aS a0 J
    obtain⟨o,w',hr,ho,I⟩:=run_append_arg_grows (P:=P) (w:=w) t ty e i z size bytes ht hi hz ab ak an aK b n cap xs hown.1 a0 a m c news R ad aS ar av
    refine⟨o,w',by rw[J];exact hr,wg (n6 ho) aB,⟨I.os,I.tape,I.output,I.size,fun k hk _=>I.block k hk (by simp)⟩,?_⟩
    obtain⟨g',b2,he,hb,_⟩:=ho.form (by omega)
    exact .inr ⟨g',by rw[he];simp[Value.ownBlock],hb⟩
  rcases hown.2 with⟨h0,A,J,hA⟩|⟨g,off,cap,cur,J,a2,I,b4,a3,aL,aO⟩
  · cases A with
    |none=>
      subst h0
      have ho:w.ownsRow base e size v 0 xs:=⟨hown.1,.inl ⟨J,rfl⟩⟩
      obtain⟨o,w',hr,bf,I,_,U⟩:=run_append_own_at (P:=P) w base t ty e i z size bytes ht hi hz ab ak an aK v 0 xs ho a m c news R ad h1 ar av aB
      refine⟨o,w',hr,n6 bf,I,?_⟩
      rcases U with U|U
      · exact .inl U
      · exact .inr ⟨_,U,Nat.le_refl _⟩
    |some b=>
      have hx:xs=[]:=List.eq_nil_of_length_eq_zero (by rw[hown.1,h0,Nat.zero_mul])
      exact aF b 0 (by omega) (fun j u hu=>by rw[hx] at hu;simp at hu) (by rw[J,h0])
  · by_cases aP:n+m<=cap
    · have bk:off*size+n*size+news.length<=cur.size:=by
        rw[R,aL,<-Nat.add_mul,<-Nat.add_mul]
        exact Nat.mul_le_mul_right _ (by omega)
      subst ab
      have hr:=run_append_room_cells (P:=P) (w:=w) t ty e i ht hi g (off*i.size) n cap a m c news R ad h1 aP
        (fun j hj=>by rw[cell_of_row w g _ cur e (0,0) I];simp;omega) (fun j _=>a9 I _)
      obtain⟨bn,h3,h4,h5⟩:=n9 news (off*i.size+n*i.size) w cur I bk
      obtain⟨s1,s2,s3,s4⟩:=n8 g news (off*i.size+n*i.size) w
      refine⟨_,_,by rw[J];exact hr,⟨by rw[List.length_append,hown.1,R,Nat.add_mul],.inr ⟨g,off,cap,bn,rfl,a2,h3,aP,a3,by rw[h4,aL],?_⟩⟩,
        ⟨s1,s2,s3,by rw[s4];exact Nat.le_refl _,fun k _ hk=>n7 news _ k (fun he=>hk (by rw[J,he];simp[Value.ownBlock]))⟩,.inl (by rw[J];rfl)⟩
      rw[h5,List.append_assoc,List.drop_append_of_le_length (by rw[List.length_take,Array.length_toList];omega),List.drop_take]
      rw[show off*i.size+n*i.size-off*i.size=n*i.size by omega,aO]
      rw[<-List.append_assoc]
      exact List.take_left' (by rw[List.length_append,hown.1,R,Nat.add_mul])
    · refine aF ⟨g,off*size,none⟩ cap (by omega) (fun j u hu=>?_) J
      rw[fZ,cell_of_row w g _ cur e (0,0) I]
      rw[<-aO,List.getElem?_take] at hu
      split at hu
      · rw[List.getElem?_drop] at hu
        rw[<-Array.getElem?_toList]
        exact hu
      · cases hu
end
namespace Kd
theorem wm {α:Type} {R:α->List Value->Prop} {size m:Nat} {ps:List α} {cs:List Value} (h:aT R size ps cs) (hm:m<=ps.length):aT R size (ps.take m) (cs.take (m*size)):=by
  refine⟨by rw[List.length_take,List.length_take,h.1,Nat.min_eq_left hm,Nat.min_eq_left (Nat.mul_le_mul_right _ hm)],fun j p o=>?_⟩
  rw[List.getElem?_take] at o
  split at o
  · rename_i I
    have:=h.2 j p o
    have hle:j*size+size<=m*size:=by rw[<-Nat.succ_mul];exact Nat.mul_le_mul_right _ I
    rw[List.drop_take,List.take_take,Nat.min_eq_left (by omega)]
    exact this
  · cases o
theorem wu {α:Type} {R:α->List Value->Prop} {size m:Nat} {ps:List α} {cs:List Value} (h:aT R size ps cs):aT R size (ps.drop m) (cs.drop (m*size)):=by
  refine⟨by rw[List.length_drop,List.length_drop,h.1,Nat.sub_mul],fun j p o=>?_⟩
  rw[List.getElem?_drop] at o
  have:=h.2 (m+j) p o
  rw[List.drop_drop,<-Nat.add_mul]
  exact this
theorem wv {α:Type} {d:Kd α} {e m n c:Nat} {w:World} {base:Nat} {ok:Nat->Prop} {A:Option Addr} {xs:List α} (h:d.R e w base ok (.slice A n c) xs) (hm:m<=xs.length):d.R e w base ok (.slice A m c) (xs.take m):=by
  obtain⟨h0,inner,ho,hr⟩:=h
  have j:n=xs.length:=by
    obtain⟨A',o,he⟩:=qL ho
    injection he
  subst j
  have hb:∀x y:Nat,(Value.slice A x c).ownBlock=(Value.slice A y c).ownBlock:=by
    intro x y
    cases A<;>rfl
  refine⟨fun k hk=>h0 k (by rw[hb _ m];exact hk),inner.take (m*d.sz),?_,?_⟩
  · rw[List.length_take,Nat.min_eq_left hm]
    exact we ho hm
  · rw[hb m xs.length]
    exact wm hr hm
def Q {α:Type} (d:Kd α) (e:Nat) (w:World) (base:Nat) (ok:Nat->Prop) (v:Value) (xs:List α):Prop:=
  (∀k,v.ownBlock=some k->ok k)∧∃inner,dV w base e d.sz v xs.length inner∧aT (d.M w base (fun k=>ok k∧some k≠v.ownBlock)) d.sz xs inner
section
variable {α:Type} {d:Kd α} {e:Nat} {w w1 W:World} {base:Nat} {ok ok':Nat->Prop} {v:Value} {xs:List α}
theorem wx (h:d.R e w base ok v xs):d.Q e w base ok v xs:=by
  obtain⟨h0,inner,ho,hr⟩:=h
  exact⟨h0,inner,n6 ho,hr⟩
theorem kj (h:d.Q e w base ok v xs) (hok:∀k,ok k->ok' k):d.Q e w base ok' v xs:=by
  obtain⟨h0,inner,ho,hr⟩:=h
  exact⟨fun k hk=>hok k (h0 k hk),inner,ho,hr.ej (fun _ _ hp=>d.M_mono (fun k hk=>⟨hok k hk.1,hk.2⟩) hp)⟩
theorem mj (h:d.Q e w base ok v xs):d.Q e w base (fun k=>ok k∧base<=k∧k<w.heap.size∧∃q,q∈e::d.E∧∃cells,w.heap[k]? =some (.cells cells q (0,0))) v xs:=by
  obtain⟨h0,inner,ho,hr⟩:=h
  refine⟨fun k hk=>?_,inner,ho,hr.ej (fun _ _ hp=>d.M_mono (fun k hk=>?_) (d.dx hp))⟩
  · obtain⟨hb,cells,hc⟩:=jA ho k hk
    exact⟨h0 k hk,hb,qV ho k hk,e,List.mem_cons_self,cells,hc⟩
  · obtain⟨⟨h1,h2⟩,j,o,q,hq,hc⟩:=hk
    exact⟨⟨h1,j,o,q,List.mem_cons_of_mem _ hq,hc⟩,h2⟩
theorem qY (h:d.Q e w base ok v xs) (hm:∀k,ok k->w1.heap[k]? =w.heap[k]?):d.Q e w1 base ok v xs:=by
  obtain⟨h0,inner,ho,hr⟩:=h
  exact⟨h0,inner,qU ho (fun k hk=>hm k (h0 k hk)),hr.ej (fun _ _ hp=>d.dI (fun k hk=>hm k hk.1) hp)⟩
theorem oa (h:d.Q e w base ok v xs) (hm:∀k,ok k->k<w.heap.size->w1.heap[k]? =w.heap[k]?):d.Q e w1 base ok v xs:=kj (qY (mj h) (fun k hk=>hm k hk.1 hk.2.2.1)) (fun _ hk=>hk.1)
theorem qZ (h:d.Q e w base ok v xs) (hb:Below w.heap.size w w1):d.Q e w1 base ok v xs:=oa h (fun k _ hk=>hb.block k hk)
theorem wy (h:d.Q e w base ok v xs) (o:Obj):d.Q e (w.alloc o) base ok v xs:=qZ h (al (Below.refl _ _) o)
theorem wz (h:d.Q e w base ok v xs) {row:Option Nat} (j:w.grownBy w1 row) (hok:∀k,ok k->some k≠row):d.Q e w1 base ok v xs:=oa h (fun k ho hk=>j.block k hk (hok k ho))
theorem wA (h:d.Q e w base ok v xs) {p:Addr} (hok:∀k,ok k->k≠p.block) (u:Value):d.Q e (w.setCell p u) base ok v xs:=oa h (fun k ho _=>Below.heap_setCell w p u k (hok k ho))
theorem wB (h:d.Q e w base ok v xs) {g t:Nat} {cells:Array Value} (hb:w.heap[g]? =some (.cells cells t (0,0))) (j:∀q,q∈e::d.E->q≠t):d.Q e w base (fun k=>ok k∧k≠g) v xs:=
  kj (mj h) (fun k hk=>⟨hk.1,by
    obtain⟨_,_,_,q,hq,o,hc⟩:=hk
    rintro rfl
    rw[hc] at hb
    injection hb with hb
    injection hb with _ hb
    exact j q hq hb⟩)
theorem q6 (h:d.Q e w base ok v xs) {g t:Nat} {cells:Array Value} (hb:w.heap[g]? =some (.cells cells t (0,0))) (o:∀q,q∈e::d.E->q≠t) (j:Nat) (u:Value):d.Q e (w.setCell ⟨g,j,none⟩ u) base ok v xs:=
  kj (wA (p:=⟨g,j,none⟩) (wB h hb o) (fun _ hk=>hk.2) u) (fun _ hk=>hk.1)
theorem wC (h:d.Q e w base ok v xs):∀k,v.ownBlock=some k->base<=k:=by
  obtain⟨_,inner,ho,_⟩:=h
  exact fun k hk=>(jA ho k hk).1
theorem q9 (h:d.Q e w base ok v xs) {g t:Nat} {cells:Array Value} (hb:w.heap[g]? =some (.cells cells t (0,0))) (j:e≠t):some g≠v.ownBlock:=by
  obtain⟨_,inner,ho,_⟩:=h
  intro he
  obtain⟨_,o,hc⟩:=jA ho g he.symm
  rw[hc] at hb
  injection hb with hb
  injection hb with _ hb
  exact j hb
theorem mm (h:d.Q e w base ok v xs):∃A c,v= .slice A xs.length c∧xs.length<=c:=by
  obtain⟨_,inner,ho,_⟩:=h
  exact qW ho
theorem q_ {A:Option Addr} {n c:Nat} (h:d.Q e w base ok (.slice A n c) xs):n=xs.length∧n<=c∧d.C w A xs.length xs:=by
  obtain⟨_,inner,ho,hr⟩:=h
  obtain⟨A',c',he,I⟩:=qW ho
  injection he with h1 h2 J
  subst h1;subst h2;subst J
  refine⟨rfl,I,rfl,wh ho,fun hp=>?_⟩
  obtain⟨ad,R,hc⟩:=qX ho hp
  refine⟨ad,R,fun j p o=>⟨(inner.drop (j*d.sz)).take d.sz,?_,d.ct (hr.2 j p o),fun i u hu=>?_⟩⟩
  · have U:=(List.getElem?_eq_some_iff.1 o).1
    have h1:j*d.sz+d.sz<=inner.length:=by rw[hr.1,<-Nat.succ_mul];exact Nat.mul_le_mul_right _ U
    rw[List.length_take,List.length_drop]
    omega
  · refine hc _ u ?_
    rw[List.getElem?_take] at hu
    split at hu
    · rw[List.getElem?_drop] at hu
      exact hu
    · cases hu
theorem wD {A:Option Addr} {k n c:Nat} (h:d.Q e w base ok (.slice A n c) xs) (hk:k<=xs.length):d.Q e w base ok (.slice (if c=k then A else A.map (·.add (k*d.sz))) (n-k) (c-k)) (xs.drop k):=by
  have o:n=xs.length:=(q_ h).1
  subst o
  obtain⟨h0,inner,ho,hr⟩:=h
  have hb:(Value.slice (if c=k then A else A.map (·.add (k*d.sz))) (xs.length-k) (c-k)).ownBlock=(Value.slice A xs.length c).ownBlock:=by
    split
    · cases A<;>rfl
    · cases A with
      |none=>rfl
      |some a=>simp[Value.ownBlock];unfold Addr.add;split<;>rfl
  refine⟨fun j I=>h0 j (by rw[<-hb];exact I),inner.drop (k*d.sz),?_,?_⟩
  · rw[List.length_drop]
    exact wj ho hk
  · rw[hb]
    exact wu hr
theorem wE {okp:Nat->Prop} {v1:Value} {p:α} {inner cs:List Value} (h0:∀k,v.ownBlock=some k->ok k) (hr:aT (d.M W base (fun k=>ok k∧some k≠v.ownBlock)) d.sz xs inner) (hp:d.M W base okp p cs) (I:∀k,okp k->ok k∧some k≠v.ownBlock) (J:∀k,W.heap.size<=k->ok k)
    (hown:dV w1 base e d.sz v1 (xs.length+1) (inner++cs)) (R:W.grownBy w1 v.ownBlock) (j:v1.ownBlock=v.ownBlock∨∃b,v1.ownBlock=some b∧W.heap.size<=b):d.Q e w1 base ok v1 (xs++[p]):=by
  have U:∀k,some k≠v.ownBlock->k<W.heap.size->some k≠v1.ownBlock:=by
    intro k hk aa
    rcases j with j|⟨b,hb,hle⟩
    · rw[j];exact hk
    · rw[hb]
      intro he
      injection he with he
      omega
  have step:∀{q:α} {c:List Value} {o:Nat->Prop},d.M W base o q c->(∀k,o k->ok k∧some k≠v.ownBlock)->d.M w1 base (fun k=>ok k∧some k≠v1.ownBlock) q c:=by
    intro q c o hq ho
    have h1:=d.dI (w1:=w1) (fun k hk=>R.block k hk.2.2.1 (ho k hk.1).2) (d.dx hq)
    exact d.M_mono (fun k hk=>⟨(ho k hk.1).1,U k (ho k hk.1).2 hk.2.2.1⟩) h1
  refine⟨fun k hk=>?_,inner++cs,by rw[List.length_append,List.length_singleton];exact hown,?_⟩
  · rcases j with j|⟨b,hb,hle⟩
    · exact h0 k (j▸hk)
    · rw[hb] at hk
      injection hk with hk
      exact J k (by omega)
  · exact(hr.ej (fun _ _ hq=>step hq (fun _ hk=>hk))).snoc (step hp I) (d.c_ (d.ct hp))
end
section
variable {P:Program} {ops:Array Oper} {rest:List Oper} {o:Oper} {a:Act} {Q':Exit->Act->World->Prop} {Kc:Act->World->Prop} {α:Type}
theorem wF (d:Kd α) {w0 W:World} (base:Nat) (t ty e:TypeId) (z:Value) (bytes:Nat)
    (U:P.underlying t=some (.slice e)) (aa:(P.info? e).map (fun i=>(i.zero,i.size,i.bytes))=some (some z,d.sz,bytes)) (hz:z.cells.size=d.sz) (ad:0<d.sz) (ag:0<bytes)
    (v:Value) (xs:List α) (p:α) (cs:List Value) (ok okp:Nat->Prop) (hp:d.M W base okp p cs) (ak:∀k,okp k->ok k∧some k≠v.ownBlock) (an:∀k,W.heap.size<=k->ok k)
    (HO:d.Q e W base ok v xs) (HB:Below base w0 W) (aB:base<=W.heap.size) (I:(xs.length+1)*bytes<=140737488355328):
    ∃v1 w1,(Builtin.append_ #[t,t] ty #[v,.slice (some ⟨W.heap.size,0,none⟩) 1 1]).run P (W.alloc (.cells cs.toArray e))= .ok v1 w1∧d.Q e w1 base ok v1 (xs++[p])∧Below base w0 w1∧W.grownBy w1 v.ownBlock∧(v1.ownBlock=v.ownBlock∨∃b,v1.ownBlock=some b∧W.heap.size<=b):=by
  obtain⟨h0,inner,hown,hr⟩:=HO
  obtain⟨i0,hi,J⟩:=Option.map_eq_some_iff.1 aa
  simp only[Prod.mk.injEq] at J
  obtain⟨aF,aL,aO⟩:=J
  have hlen:xs.length+1<=140737488355328:=Nat.le_trans (Nat.le_mul_of_pos_right _ ag) I
  have aP:=d.c_ (d.ct hp)
  have hq:dV (W.alloc (.cells cs.toArray e)) base e d.sz v xs.length inner:=qU hown (fun k hk=>Below.heap_alloc W _ k (qV hown k hk))
  obtain⟨v1,w1,aS,a0,a1,j⟩:=wk (P:=P) (W.alloc (.cells cs.toArray e)) base t ty e i0 z d.sz bytes U hi aF aL aO hz ad v xs.length inner hq ⟨W.heap.size,0,none⟩ 1 1 cs (by rw[aP,Nat.one_mul])
    (by simpa using World.news_of_block (cs:=cs.toArray) (t:=e) (fr:=(0,0)) (heap_alloc_new W (.cells cs.toArray e))) (d.di (d.ct hp)) (by omega) (by simp only[maxLen];omega) I (by simp;omega)
  have o:W.grownBy w1 v.ownBlock:=World.grownBy.trans (World.grownBy_alloc W _ _) a1
  have R:v1.ownBlock=v.ownBlock∨∃b,v1.ownBlock=some b∧W.heap.size<=b:=by
    rcases j with j|⟨b,hb,hle⟩
    · exact .inl j
    · exact .inr ⟨b,hb,by rw[World.size_alloc] at hle;omega⟩
  exact⟨v1,w1,aS,wE h0 hr hp ak an a0 o R,HB.grown o aB (fun k hk=>(jA hown k hk).1),o,R⟩
end
end Kd
namespace Kd
section
variable {α:Type} {d:Kd α} {e e':Nat} {w w1 W:World} {base:Nat} {ok:Nat->Prop} {u v:Value} {xs:List α}
theorem fI (h:d.R e w base ok v xs):∀k,v.ownBlock=some k->∃cells,w.heap[k]? =some (.cells cells e (0,0)):=by
  obtain⟨inner,ho⟩:=ic h
  exact fun k hk=>ia ho k hk
theorem re (h:d.R e W base ok u xs) (o:∀k,v.ownBlock=some k->∃cells,W.heap[k]? =some (.cells cells e' (0,0))) (I:∀q,q∈e::d.E->q≠e') (J:W.grownBy w1 v.ownBlock):d.R e w1 base ok u xs:=by
  refine aR (en (dR h) (fun k hk=>J.block k hk.2.2.1 (fun he=>?_))) (fun _ hk=>hk.1)
  obtain⟨_,_,_,q,hq,cells,hc⟩:=hk
  obtain⟨U,j⟩:=o k he.symm
  rw[hc] at j
  injection j with j
  injection j with _ j
  exact I q hq j
theorem mo (h:d.R e W base ok u xs) (o:∀k,v.ownBlock=some k->∃cells,W.heap[k]? =some (.cells cells e' (0,0))) (I:∀q,q∈e::d.E->q≠e'):d.R e W base (fun k=>ok k∧some k≠v.ownBlock) u xs:=by
  refine aR (dR h) (fun k hk=>⟨hk.1,fun he=>?_⟩)
  obtain⟨_,_,_,q,hq,cells,hc⟩:=hk
  obtain⟨J,j⟩:=o k he.symm
  rw[hc] at j
  injection j with j
  injection j with _ j
  exact I q hq j
theorem wG (hu:d.R e W base ok u xs) (j:∀k,v.ownBlock=some k->W.heap.size<=k) (hb:Below W.heap.size W w1):d.R e w1 base (fun k=>ok k∧some k≠v.ownBlock) u xs:=
  aR (en (dR hu) (fun k hk=>hb.block k hk.2.2.1)) (fun k hk=>⟨hk.1,fun he=>by have:=j k he.symm;have:=hk.2.2.1;omega⟩)
theorem dy (h:d.R e w1 W.heap.size ok v xs) (j:∀k,u.ownBlock=some k->k<W.heap.size):d.R e w1 W.heap.size (fun k=>ok k∧some k≠u.ownBlock) v xs:=
  aR (dR h) (fun k hk=>⟨hk.1,fun he=>by have:=j k he.symm;have:=hk.2.1;omega⟩)
theorem rf (h:d.Q e w base ok v xs):∀k,v.ownBlock=some k->∃cells,w.heap[k]? =some (.cells cells e (0,0)):=by
  obtain⟨_,inner,ho,_⟩:=h
  exact fun k hk=>(jA ho k hk).2
theorem od (j:∀k,u.ownBlock=some k->k<W.heap.size):∀k,W.heap.size<=k->some k≠u.ownBlock:=fun k hk he=>by have:=j k he.symm;omega
end
end Kd
theorem lf {α:Type} (a seg:List α) (o:Nat) (h:o+seg.length<=a.length) (q:Nat):
    (a.take o++seg++a.drop (o+seg.length))[q]? =if q<o then a[q]? else if q<o+seg.length then seg[q-o]? else a[q]? :=by
  have j:(a.take o).length=o:=by rw[List.length_take];omega
  rw[List.append_assoc]
  by_cases h1:q<o
  · rw[if_pos h1,List.getElem?_append_left (by omega),List.getElem?_take,if_pos h1]
  · rw[if_neg h1,List.getElem?_append_right (by omega),j]
    by_cases h2:q<o+seg.length
    · rw[if_pos h2,List.getElem?_append_left (by omega)]
    · rw[if_neg h2,List.getElem?_append_right (by omega),List.getElem?_drop]
      congr 1
      omega
namespace Kd
section
variable {α:Type} {d:Kd α} {e base g n cap:Nat} {ok okp:Nat->Prop} {W:World} {xs:List α}
theorem rh (h:d.R e W base ok (.slice (some ⟨g,0,none⟩) n cap) xs) (z:α) (i:Int) (h0:0<=i) (h1:i<n):
    ∃c,c.length=d.sz∧d.M W base (fun k=>ok k∧k≠g) (xs.getD i.toNat z) c∧(∀j u,c[j]? =some u->W.cell? ⟨g,i.toNat*d.sz+j,none⟩=some u)∧∀j,W.frozen? ⟨g,i.toNat*d.sz+j,none⟩=false:=by
  obtain⟨I,J,hC⟩:=aC h
  obtain⟨_,inner,ho,hr⟩:=h
  have o:i.toNat<xs.length:=by omega
  have U:i.toNat*d.sz+d.sz<=inner.length:=by rw[hr.1,<-Nat.succ_mul];exact Nat.mul_le_mul_right _ o
  have hM:=hr.2 i.toNat _ (List.getElem?_eq_getElem o)
  refine⟨(inner.drop (i.toNat*d.sz)).take d.sz,by rw[List.length_take,List.length_drop];omega,?_,fun j u hu=>?_,fun j=>?_⟩
  · rw[List.getD_eq_getElem?_getD,List.getElem?_eq_getElem o]
    exact d.M_mono (fun k hk=>⟨hk.1,fun he=>hk.2 (by rw[he];simp[Value.ownBlock])⟩) hM
  · rw[List.getElem?_take] at hu
    split at hu
    · rw[List.getElem?_drop] at hu
      have:=ho.cells (g:=g) (by simp[Value.ownBlock]) _ u hu
      rwa [add_plain] at this
    · cases hu
  · obtain⟨cells,hc⟩:=ia ho g (by simp[Value.ownBlock])
    exact a9 hc _
theorem ri (h:d.R e W base ok (.slice (some ⟨g,0,none⟩) n cap) xs) (i:Int) (h0:0<=i) (h1:i<n) {c seg:List Value} {j:Nat} (b3:c.length=d.sz) (aO:∀j u,c[j]? =some u->W.cell? ⟨g,i.toNat*d.sz+j,none⟩=some u)
    (hj:j+seg.length<=d.sz) {x':α} (hM:d.M W base okp x' (c.take j++seg++c.drop (j+seg.length))) (I:∀k,okp k->ok k∧k≠g):
    d.R e (W.setCells g (i.toNat*d.sz+j) seg) base ok (.slice (some ⟨g,0,none⟩) n cap) (xs.set i.toNat x')∧W.grownBy (W.setCells g (i.toNat*d.sz+j) seg) (some g):=by
  obtain⟨o,ad,_⟩:=aC h
  obtain⟨hok,inner,ho,hr⟩:=h
  have aP:i.toNat<xs.length:=by omega
  have ag:i.toNat*d.sz+d.sz<=inner.length:=by rw[hr.1,<-Nat.succ_mul];exact Nat.mul_le_mul_right _ aP
  have b5:inner.length=n*d.sz:=by rw[hr.1,o]
  obtain⟨b_,aS⟩:=ho
  rcases aS with⟨J,_⟩|⟨g',ca,cur,J,hb,hh,cb,a0,a1,ht⟩
  · cases J
  injection J with U _ hc
  injection U with U
  injection U with hg
  subst hg;subst hc
  have a3:i.toNat*d.sz+j+seg.length<=cur.size:=by
    have:n*d.sz<=cap*d.sz:=Nat.mul_le_mul_right _ ad
    omega
  obtain⟨bf,h3,h4,h5⟩:=n9 seg (i.toNat*d.sz+j) W cur hh a3
  obtain⟨s1,s2,s3,s4⟩:=n8 g seg (i.toNat*d.sz+j) W
  have aa:∀k,k≠g->(W.setCells g (i.toNat*d.sz+j) seg).heap[k]? =W.heap[k]? :=fun k hk=>n7 seg _ k hk
  have bx:∀q,q<d.sz->c[q]? =inner[i.toNat*d.sz+q]? :=by
    intro q hq
    have ar:q<c.length:=by omega
    have h6:=aO q _ (List.getElem?_eq_getElem ar)
    rw[cell_of_row W g _ cur e (0,0) hh] at h6
    rw[List.getElem?_eq_getElem ar,<-h6,<-ht,List.getElem?_take,if_pos (by rw[<-o];omega),Array.getElem?_toList]
  refine⟨⟨hok,inner.take (i.toNat*d.sz+j)++seg++inner.drop (i.toNat*d.sz+j+seg.length),⟨?_,.inr ⟨g,cap,bf,by rw[List.length_set,o],hb,h3,by rw[List.length_set,<-o];exact ad,a0,by rw[h4,a1],?_⟩⟩,?_⟩,
    ⟨s1,s2,s3,by rw[s4];exact Nat.le_refl _,fun k _ hk=>aa k (fun he=>hk (by rw[he]))⟩⟩
  · rw[List.length_set]
    simp only[List.length_append,List.length_take,List.length_drop]
    rw[hr.1] at ag⊢
    omega
  · rw[List.length_set,<-o]
    apply List.ext_getElem?
    intro q
    rw[List.getElem?_take,h5]
    rw[lf cur.toList seg (i.toNat*d.sz+j) (by rw[Array.length_toList];omega) q,lf inner seg (i.toNat*d.sz+j) (by omega) q]
    have b0:∀q,q<n*d.sz->cur.toList[q]? =inner[q]? :=by
      intro q hq
      rw[<-ht,List.getElem?_take,if_pos (by rw[<-o];exact hq)]
    by_cases hq:q<n*d.sz
    · rw[if_pos hq,b0 q hq]
    · rw[if_neg hq,if_neg (by omega),if_neg (by omega),List.getElem?_eq_none (by omega)]
  · refine⟨?_,fun m p hm=>?_⟩
    · rw[List.length_set]
      simp only[List.length_append,List.length_take,List.length_drop]
      rw[hr.1] at ag⊢
      omega
    · have hml:m<xs.length:=by
        have:=(List.getElem?_eq_some_iff.1 hm).1
        rwa [List.length_set] at this
      have cc:m*d.sz+d.sz<=inner.length:=by rw[hr.1,<-Nat.succ_mul];exact Nat.mul_le_mul_right _ hml
      have aB:some g=(Value.slice (some ⟨g,0,none⟩) n cap).ownBlock:=by simp[Value.ownBlock]
      by_cases hmi:m=i.toNat
      · subst hmi
        rw[List.getElem?_set_self (by omega)] at hm
        injection hm with hm
        subst hm
        have ab:((inner.take (i.toNat*d.sz+j)++seg++inner.drop (i.toNat*d.sz+j+seg.length)).drop (i.toNat*d.sz)).take d.sz=c.take j++seg++c.drop (j+seg.length):=by
          apply List.ext_getElem?
          intro q
          rw[List.getElem?_take,List.getElem?_drop,lf inner seg _ (by omega),lf c seg j (by omega) q]
          by_cases hq:q<d.sz
          · rw[if_pos hq,bx q hq]
            by_cases aF:q<j
            · rw[if_pos (by omega),if_pos aF]
            · rw[if_neg (by omega),if_neg aF]
              by_cases aL:q<j+seg.length
              · rw[if_pos (by omega),if_pos aL]
                congr 1
                omega
              · rw[if_neg (by omega),if_neg aL]
          · rw[if_neg hq,if_neg (by omega),if_neg (by omega),List.getElem?_eq_none (by omega)]
        rw[ab]
        refine d.M_mono (fun k hk=>?_) (d.dI (w1:=W.setCells g (i.toNat*d.sz+j) seg) (fun k hk=>aa k (I k hk).2) hM)
        exact⟨(I k hk).1,fun he=>(I k hk).2 (by rw[<-aB] at he;injection he)⟩
      · rw[List.getElem?_set_ne (by omega)] at hm
        have hold:=hr.2 m p hm
        have ab:((inner.take (i.toNat*d.sz+j)++seg++inner.drop (i.toNat*d.sz+j+seg.length)).drop (m*d.sz)).take d.sz=(inner.drop (m*d.sz)).take d.sz:=by
          apply List.ext_getElem?
          intro q
          rw[List.getElem?_take,List.getElem?_take,List.getElem?_drop,List.getElem?_drop,lf inner seg _ (by omega)]
          by_cases hq:q<d.sz
          · rw[if_pos hq,if_pos hq]
            rcases Nat.lt_or_gt_of_ne hmi with b1|b2
            · have:m*d.sz+d.sz<=i.toNat*d.sz:=by rw[<-Nat.succ_mul];exact Nat.mul_le_mul_right _ b1
              rw[if_pos (by omega)]
            · have:i.toNat*d.sz+d.sz<=m*d.sz:=by rw[<-Nat.succ_mul];exact Nat.mul_le_mul_right _ b2
              rw[if_neg (by omega),if_neg (by omega)]
          · rw[if_neg hq,if_neg hq]
        rw[ab]
        refine d.dI (fun k hk=>aa k (fun he=>hk.2 (by rw[he];exact aB))) hold
end
end Kd
theorem aU {w W:World} (h:Below w.heap.size w W):w.heap.size<=W.heap.size:=h.size
theorem aN {w W w2:World} (h:Below w.heap.size w W) (k:Below W.heap.size W w2):Below w.heap.size w w2:=kf h h.size k
theorem dJ {w W:World} {g j:Nat} {v:Value} (h:Below w.heap.size w W) (o:w.heap.size<=g):Below w.heap.size w (W.setCell ⟨g,j,none⟩ v):=h.setCell o _
theorem aZ {w:World} {g:Nat} {t:TypeId} {cs j:Array Value} (h:w.heap[g]? =some (.cells cs t (0,0))) (i:Nat) (u:Value) (e:cs.setIfInBounds i u=j):(w.setCell ⟨g,i,none⟩ u).heap[g]? =some (.cells j t (0,0)):=e▸bt h i u
theorem bu {base:Nat} {w W:World} (h:Below base w W):Below base w W.drew:=h.drew
namespace Kd
section
variable {α:Type} {d:Kd α} {e base g:Nat} {ok:Nat->Prop} {w w1:World} {v:Value} {xs:List α} {o:Obj}
theorem rj (h:d.R e w base ok v xs) (a:Nat) (j:w.heap.size<=a):d.R e w base (fun k=>ok k∧k≠a) v xs:=aR (dR h) (fun k hk=>⟨hk.1,by have:=hk.2.2.1;omega⟩)
theorem lh (hb:w.heap[g]? =some o):∀k,w.heap.size<=k->k≠g:=fun k hk=>by have:=aw hb;omega
end
end Kd
section
variable {P:Program} {ops:Array Oper} {rest:List Oper} {o:Oper} {a:Act} {Q:Exit->Act->World->Prop}
theorem wH {W:World} (j:o.guard=none) {N:Tmp} (_hd:o.dst=some N) {cs:Array Value} {t:TypeId}
    (I:(execOp a.eval o).run P W= .ok (.value (.pointer (some ⟨W.heap.size,0,none⟩))) (W.alloc (.cells cs t (0,0))))
    (h:∀g,g=W.heap.size->∀w1,w1.heap[g]? =some (.cells cs t (0,0))->Below W.heap.size W w1->wpList P ops Q rest (a.put o.dst (.pointer (some ⟨g,0,none⟩))) w1):wpList P ops Q (o::rest) a W:=
  Kd.qS j I (h _ rfl _ (vU W _) (al (Below.refl _ _) _))
theorem Kd.rk {α:Type} (enc:α->Value) (d:α) {h1:∀x:α,(enc x).oneCell'=true} {w0 W:World} (base:Nat) (U:o.guard=none) (s x:Operand) (t e:TypeId) (z:Value) (bytes:Nat)
    (ho:o.op= .call {callee:=.builtin .append,args:=#[s,x],argTypes:=#[t,t]})
    (ht:P.underlying t=some (.slice e)) (ab:(P.info? e).map (fun i=>(i.zero,i.size,i.bytes))=some (some z,1,bytes)) (hz:z.cells.size=1) (ag:0<bytes)
    (v:Value) (xs ys:List α) (A:Option Addr) (m c:Nat) (ok:Nat->Prop) (hs:a.eval s=v) (hx:a.eval x= .slice A m c) (ar:∀k,W.heap.size<=k->ok k)
    (I:(Kd.scalar enc h1).R e W base ok v xs) (HR:(Kd.scalar enc h1).C W A m ys) (HB:Below base w0 W) (aF:base<=W.heap.size) (hl:(xs.length+m)*bytes<=140737488355328)
    (h:∀v1 w1,(Kd.scalar enc h1).R e w1 base ok v1 (xs++ys)->Below base w0 w1->W.grownBy w1 v.ownBlock->(v1.ownBlock=v.ownBlock∨∃b,v1.ownBlock=some b∧W.heap.size<=b)->wpList P ops Q rest (a.put o.dst v1) w1):
    wpList P ops Q (o::rest) a W:=by
  refine vT (w0:=w0) enc d base U s x t e z bytes ho ht ab hz ag h1 v xs ys A m c hs hx (Kd.mh I) (Kd.nY (d:=d) HR) HB aF hl ?_
  intro v1 w1 hown hb hg J
  refine h v1 w1 (Kd.kY hown (fun k hk=>?_)) hb hg J
  rcases J with j|⟨b,j,aP⟩
  · exact I.1 k (by rw[<-j];exact hk)
  · rw[j] at hk
    injection hk with hk
    subst hk
    exact ar _ aP
end
namespace Kd
section
variable {α:Type} {enc:α->Value} {h1:∀x,(enc x).oneCell'=true} {e base g n cap:Nat} {ok:Nat->Prop} {W:World} {xs:List α}
theorem bB (d:α) (h:(scalar enc h1).R e W base ok (.slice (some ⟨g,0,none⟩) n cap) xs) (i:Int) (h0:0<=i) (hi:i<n):W.cell? ⟨g,i.toNat,none⟩=some (enc (bl d xs i))∧W.frozen? ⟨g,i.toNat,none⟩=false:=by
  obtain⟨rfl,_⟩:=aC h
  exact wa d h i h0 hi
theorem wI (h:(scalar enc h1).R e W base ok (.slice (some ⟨g,0,none⟩) n cap) xs) (i:Int) (x:α):(scalar enc h1).R e (W.setCell ⟨g,i.toNat,none⟩ (enc x)) base ok (.slice (some ⟨g,0,none⟩) n cap) (xs.set i.toNat x):=by
  obtain⟨rfl,_⟩:=aC h
  exact(qR h i x).1
end
end Kd
section
variable {P:Program} {ops:Array Oper} {rest:List Oper} {o:Oper} {a:Act} {Q:Exit->Act->World->Prop}
theorem iV {W w1:World} (j:o.guard=none) {t:TypeId} {p:Tmp} {v:Operand} (_ho:o.op= .store t (.tmp p) v) (I:o.dst=none)
    (J:(execOp a.eval o).run P W= .ok .skip w1) (h:∀w',w'=w1->wpList P ops Q rest a w'):wpList P ops Q (o::rest) a W:=by
  refine wpList_plain j fun K R=>?_
  unfold Oper.wp
  rw[J]
  show K (a.put o.dst undef) w1
  rw[I]
  exact R _ _ (h _ rfl)
end
namespace Kd
section
variable {α:Type} {enc:α->Value} {h1:∀x,(enc x).oneCell'=true} {e base g n cap:Nat} {ok:Nat->Prop} {W:World} {xs:List α}
theorem cL (h:(scalar enc h1).R e W base ok (.slice (some ⟨g,0,none⟩) n cap) xs) (i:Int) (x:α):(scalar enc h1).R e (W.setCell ⟨g,i.toNat,none⟩ (enc x)) base ok (.slice (some ⟨g,0,none⟩) n cap) (xs.set i.toNat x)∧W.grownBy (W.setCell ⟨g,i.toNat,none⟩ (enc x)) (some g):=by
  obtain⟨rfl,_⟩:=aC h
  exact qR h i x
end
end Kd
section
variable {P:Program} {ops:Array Oper} {rest:List Oper} {o:Oper} {a:Act} {Q:Exit->Act->World->Prop} {W:World}
theorem aA {N:Tmp} (_hN:o.dst=some N) (h:wpList P ops Q (o::rest) a W):wpList P ops Q (o::rest) a W:=h
theorem iW {t:TypeId} {p:Tmp} {v:Operand} (_ho:o.op= .store t (.tmp p) v) (h:wpList P ops Q (o::rest) a W):wpList P ops Q (o::rest) a W:=h
end
section
variable {P:Program} {ops:Array Oper} {o:Oper} {a:Act} {Q:Exit->Act->World->Prop} {Kc:Act->World->Prop}
theorem wJ {W w1:World} {v:Value} (hw:Region.wanted o (yielded ops a.tmps)=true) (j:(execOp a.eval o).run P W= .ok (.value v) w1) (h:Kc (a.put o.dst v) w1):if Region.wanted o (yielded ops a.tmps)=true then Oper.wp P o a W Kc Q else Kc (a.put o.dst undef) W:=by
  rw[if_pos hw]
  unfold Oper.wp
  rw[j]
  exact h
namespace Kd
variable {α:Type}
theorem wK (d:Kd α) {w0 W:World} (base e:Nat) (hw:Region.wanted o (yielded ops a.tmps)=true) {N:Tmp} (_hd:o.dst=some N) {xs:List α} {inner:List Value} {ok okp:Nat->Prop}
    (J:(execOp a.eval o).run P W= .ok (.value (.slice (some ⟨W.heap.size,0,none⟩) xs.length xs.length)) (W.alloc (.cells inner.toArray e)))
    (j:aT (d.M W base okp) d.sz xs inner) (hok:∀k,okp k->ok k) (U:ok W.heap.size) (HB:Below base w0 W) (I:base<=W.heap.size) (hm:xs.length<=9223372036854775807)
    (h:∀v1 w1,d.R e w1 base ok v1 xs->Below base w0 w1->W.grownBy w1 none->(∃b,v1.ownBlock=some b∧W.heap.size<=b)->Kc (a.put o.dst v1) w1):if Region.wanted o (yielded ops a.tmps)=true then Oper.wp P o a W Kc Q else Kc (a.put o.dst undef) W:=by
  refine wJ hw J (h _ _ ⟨fun k hk=>?_,inner,?_,?_⟩ (HB.alloc I _) (World.grownBy_alloc W _ none) ⟨W.heap.size,by simp[Value.ownBlock],Nat.le_refl _⟩)
  · have:W.heap.size=k:=by simpa [Value.ownBlock] using hk
    subst this
    exact U
  · have h2:=World.ownsRow_lit (base:=base) (e:=e) (size:=d.sz) W inner.toArray xs.length I (by simpa [maxLen] using hm) (by simpa using j.1)
    simpa using h2
  · refine j.ej (fun p c hp=>d.M_mono (fun k hk=>⟨hok k hk.1,fun he=>?_⟩) (qP (d.dx hp) (al (Below.refl _ _) _)))
    have h3:k=W.heap.size:=by simpa [Value.ownBlock] using he
    have:=hk.2.2.1
    omega
end Kd
end
inductive jB (P:Program) (tmps:Array Value) (w:World):List ResultVar->List Value->Prop where
  |nil:jB P tmps w [] []
  |tmp {u:Tmp} {rs:List ResultVar} {j:List Value} (h:jB P tmps w rs j):jB P tmps w (.tmp u::rs) (tmps.getD u undef::j)
  |cell {p:Tmp} {ty:TypeId} {rs:List ResultVar} {j:List Value} (g:Nat) (t:TypeId) (cs:Array Value) (fr:Nat×Nat) (d:TypeDesc)
      (hp:tmps.getD p undef= .pointer (some ⟨g,0,none⟩)) (o:w.heap[g]? =some (.cells cs t fr))
      (hu:P.underlying ty=some d) (hd:(match d with| .struct _| .array _ _=>true|_=>false)=true) (hi:(P.info? ty).map (·.size)=some cs.size)
      (h:jB P tmps w rs j):jB P tmps w (.cell p ty::rs) (.agg cs::j)
section
variable {P:Program} {tmps:Array Value} {w:World}
theorem wL {rs:List ResultVar} {o:List Value} (I:jB P tmps w rs o) (f:ResultVar->Sem Value) (hf:∀u,f (.tmp u)=pure (tmps.getD u undef)) (hc:∀a t,f (.cell a t)=(do loadVar t (<-asAddr (tmps.getD a undef)))):
    (rs.mapM f).run P w= .ok o w:=by
  induction I with
  |nil=>simp
  |tmp h j=>simp[List.mapM_cons,hf,j]
  |cell g t cs fr d hp J hu hd hi h j=>
    rw[List.mapM_cons,hc,hp]
    simp[asAddr,run_loadVar_row w g t _ cs fr d J hu hd hi,j]
theorem rl {fn:Func} {rs:List ResultVar} {j:List Value} (h:fn.results=rs.toArray) (o:j.length≠1) (I:jB P tmps w rs j):(results fn tmps).run P w= .ok (.tuple j.toArray) w:=by
  unfold results
  rw[h,List.mapM_toArray]
  simp only[Sem.run_bind,Sem.run_map]
  rw[wL I]
  · simp[o]
  · intro u
    rfl
  · intro a t
    rfl
end
end Go.Proofs.YtffdiakgjakngaaGreatW.PrintWords
end
section
namespace Go.Proofs.YtffdiakgjakngaaGreatW.PrintLast
section
variable {P:Program} {ops:Array Oper} {Q:Exit->Act->World->Prop} {md:Region.Mode} {S:World->Prop} {ds:List Nat}
def Region.fJ (md:Region.Mode) (ops:Array Oper) (i:Nat):Nat->Nat->Bool
  |0,_=>false
  |fuel+1,d=>match ops[d]? with
    |some o=>o.after.any fun e=>Region.binds md e&&(e.on==i||Region.fJ md ops i fuel e.on)
    |none=>false
def Region.ll (md:Region.Mode) (ops:Array Oper) (I:Array Bool):Bool:=
  (List.range ops.size).all fun j=> !I.getD j false||match ops[j]? with
    |some o=>o.after.all fun e=> !Region.binds md e||I.getD e.on false
    |none=>true
def Region.mq (md:Region.Mode) (ops:Array Oper) (j:Array Bool) (ds:List Nat) (i:Nat):Bool:=
  ds.all fun d=>j.getD d true||Region.fJ md ops i ops.size d
def jC (md:Region.Mode) (ops:Array Oper) (o:Array Bool):Prop:=
  ∀j I,ops[j]? =some I->o.getD j false=true->∀e∈I.after,Region.binds md e=true->o.getD e.on false=true
theorem Region.wM {o:Array Bool} (h:Region.ll md ops o=true):jC md ops o:=by
  intro j U I J e he hb
  have R:j<ops.size:=(Array.getElem?_eq_some_iff.1 I).1
  have h1:=List.all_eq_true.1 h j (List.mem_range.2 R)
  simp only[J,I,Bool.not_true,Bool.false_or] at h1
  have h2:=Array.all_eq_true_iff_forall_mem.1 h1 e he
  simpa [hb] using h2
theorem jC.set {o:Array Bool} {i:Nat} (h:jC md ops o) (hi:i∈Region.ready md ops o):jC md ops (o.setIfInBounds i true):=by
  obtain⟨_,oi,ab,ad⟩:=mem_ready.1 hi
  intro j I J R e he hb
  by_cases U:i=j
  · subst U
    have:I=oi:=Option.some.inj (J.symm.trans ab)
    subst this
    exact getD_set_true (ad e he hb)
  · rw[getD_set_ne false U] at R
    exact getD_set_true (h j I J R e he hb)
theorem Region.rp {j:Array Bool} {i:Nat} (hc:jC md ops j):∀(fuel d:Nat),Region.fJ md ops i fuel d=true->j.getD d false=true->j.getD i false=true
  |0,_,h,_=>by simp[Region.fJ] at h
  |fuel+1,d,h,I=>by
    unfold Region.fJ at h
    cases ho:ops[d]? with
    |none=>rw[ho] at h;simp at h
    |some o=>
      rw[ho] at h
      obtain⟨e,he,h1⟩:=Array.any_eq_true'.1 h
      simp only[Bool.and_eq_true,Bool.or_eq_true,beq_iff_eq] at h1
      have hle:=hc d o ho I e he h1.1
      rcases h1.2 with h2|h2
      · rw[<-h2];exact hle
      · exact Region.rp hc fuel e.on h2 hle
theorem Region.wN {j:Array Bool} {i d fuel:Nat} (hc:jC md ops j) (hr:Region.fJ md ops i fuel d=true) (I:j.getD i true=false):d∉Region.ready md ops j:=by
  intro hd
  obtain⟨_,o,ho,R⟩:=mem_ready.1 hd
  have hi:j.getD i false=true:=by
    cases fuel with
    |zero=>simp[Region.fJ] at hr
    |succ n=>
      unfold Region.fJ at hr
      rw[ho] at hr
      obtain⟨e,he,h1⟩:=Array.any_eq_true'.1 hr
      simp only[Bool.and_eq_true,Bool.or_eq_true,beq_iff_eq] at h1
      have hle:=R e he h1.1
      rcases h1.2 with h2|h2
      · rw[<-h2];exact hle
      · exact Region.rp hc n e.on h2 hle
  rcases Nat.lt_or_ge i j.size with J|J
  · simp[J] at I hi
    rw[I] at hi
    cases hi
  · simp[Array.getElem?_eq_none J] at I
def cy (P:Program) (md:Region.Mode) (ops:Array Oper) (Q:Exit->Act->World->Prop) (S:World->Prop) (ds:List Nat):Nat->Array Bool->Act->World->Prop
  |0,j,a,w=>Region.ready md ops j=[]∧Q .normal a w
  |fuel+1,j,a,w=>
    (Region.ready md ops j=[]->Q .normal a w)∧
    ∀i∈Region.ready md ops j,wpOp P ops Q i (fun a' w'=>(i∉ds->S w->S w')∧cy P md ops Q S ds fuel (j.setIfInBounds i true) a' w') a w
theorem rr:∀(fuel:Nat) (j:Array Bool) (a:Act) (w:World),cy P md ops Q S ds fuel j a w->wpAny P md ops Q fuel j a w
  |0,_,_,_,h=>h
  |fuel+1,_,_,_,h=>⟨h.1,fun i hi=>wpOp_mono (fun a' w' o=>rr fuel _ a' w' o.2) (h.2 i hi)⟩
theorem wO {i:Nat} {R:Oper} {v:Value} (hi:ops[i]? =some R) (aF:∀(j:Nat) (o:Oper) cs b,ops[j]? =some o->o.op≠ .select cs b)
    (hQ:∀c a w,Q (.panic c) (a.put R.dst v) w->Q (.panic c) a w) (n:Nat):
    ∀(fuel:Nat) (I:Array Bool) (a:Act) (w:World),
      (∀j U,ops[j]? =some U->j≠i->I.getD j true=false->(∀e∈U.after,Region.binds md e=true->e.on≠i)->R.apart ops U=true)->
      jC md ops I->(∀d∈ds,I.getD d true=false->Region.fJ md ops i n d=true)->
      i∈Region.ready md ops I->YieldsIf P ops S R v a->S w->
      cy P md ops Q S ds fuel (I.setIfInBounds i true) (a.put R.dst v) w->cy P md ops Q S ds (fuel+1) I a w:=by
  intro fuel
  induction fuel with
  |zero=>
    intro I a w _ _ _ hr hy hS H
    refine⟨fun h=>(by rw[h] at hr;cases hr),fun j hj=>?_⟩
    by_cases J:j=i
    · subst J;exact hy.wpOp hi hS ⟨fun _ h=>h,H⟩
    · have:=ready_mono hj J
      rw[H.1] at this
      cases this
  |succ fuel ih=>
    intro I a w aL hc hd hr hy hS H
    refine⟨fun h=>(by rw[h] at hr;cases hr),fun j hj=>?_⟩
    by_cases J:j=i
    · subst J;exact hy.wpOp hi hS ⟨fun _ h=>h,H⟩
    · have h1:=H.2 j (ready_mono hj J)
      obtain⟨ak,U,ar,aS⟩:=mem_ready.1 hj
      have av:=(mem_ready.1 hr).1
      have a0:∀e∈U.after,Region.binds md e=true->e.on≠i:=fun e he hb heq=>by
        have h1:=aS e he hb
        rw[heq] at h1
        rcases Nat.lt_or_ge i I.size with h'|h'
        · simp[h'] at av h1;rw[av] at h1;cases h1
        · simp[Array.getElem?_eq_none h'] at h1
      have a1:j∉ds:=fun hm=>Region.wN hc (hd j hm ak) av hj
      have h2:=wpOp_putIf ar (aL j U ar J ak a0) (fun cs b=>aF i R cs b hi) (fun cs b=>aF j U cs b ar) hQ hy h1
      have a2:∀k ok,ops[k]? =some ok->k≠i->(I.setIfInBounds j true).getD k true=false->
          (∀e∈ok.after,Region.binds md e=true->e.on≠i)->R.apart ops ok=true:=fun k ok hk a3 ab bf=>by
        refine aL k ok hk a3 ?_ bf
        by_cases ad:j=k
        · subst ad;exact ak
        · rw[getD_set_ne true ad] at ab;exact ab
      have bg:∀d∈ds,(I.setIfInBounds j true).getD d true=false->Region.fJ md ops i n d=true:=fun d hm ab=>by
        refine hd d hm ?_
        by_cases ad:j=d
        · subst ad;exact ak
        · rw[getD_set_ne true ad] at ab;exact ab
      refine wpOp_mono (fun a' w' h3=>⟨h3.2.1,ih (I.setIfInBounds j true) a' w' a2 (hc.set hj) bg (ready_mono hr (Ne.symm J)) h3.1 (h3.2.1 a1 hS) ?_⟩) h2
      rw[Array.setIfInBounds_comm _ _ J]
      exact h3.2.2
theorem wP {i:Nat} {R:Oper} {v:Value} (hi:ops[i]? =some R) (an:∀(j:Nat) (o:Oper) cs b,ops[j]? =some o->o.op≠ .select cs b)
    (hQ:∀c a w,Q (.panic c) (a.put R.dst v) w->Q (.panic c) a w):
    ∀(fuel:Nat) (I:Array Bool) (a:Act) (w:World),
      (∀j U,ops[j]? =some U->j≠i->I.getD j true=false->(∀e∈U.after,Region.binds md e=true->e.on≠i)->R.apart ops U=true)->
      i∈Region.ready md ops I->Yields P ops R v a->
      cy P md ops Q S ds fuel (I.setIfInBounds i true) (a.put R.dst v) w->cy P md ops Q S ds (fuel+1) I a w:=by
  intro fuel
  induction fuel with
  |zero=>
    intro I a w _ hr hy H
    refine⟨fun h=>(by rw[h] at hr;cases hr),fun j hj=>?_⟩
    by_cases J:j=i
    · subst J;exact(hy.yieldsIf (S:=fun _=>True)).wpOp hi trivial ⟨fun _ h=>h,H⟩
    · have:=ready_mono hj J
      rw[H.1] at this
      cases this
  |succ fuel ih=>
    intro I a w ar hr hy H
    refine⟨fun h=>(by rw[h] at hr;cases hr),fun j hj=>?_⟩
    by_cases J:j=i
    · subst J;exact(hy.yieldsIf (S:=fun _=>True)).wpOp hi trivial ⟨fun _ h=>h,H⟩
    · have h1:=H.2 j (ready_mono hj J)
      obtain⟨av,U,ad,aS⟩:=mem_ready.1 hj
      have aB:=(mem_ready.1 hr).1
      have a0:∀e∈U.after,Region.binds md e=true->e.on≠i:=fun e he hb heq=>by
        have h1:=aS e he hb
        rw[heq] at h1
        rcases Nat.lt_or_ge i I.size with h'|h'
        · simp[h'] at aB h1;rw[aB] at h1;cases h1
        · simp[Array.getElem?_eq_none h'] at h1
      have h2:=wpOp_put ad (ar j U ad J av a0) (fun cs b=>an i R cs b hi) (fun cs b=>an j U cs b ad) hQ hy h1
      have a1:∀k ok,ops[k]? =some ok->k≠i->(I.setIfInBounds j true).getD k true=false->
          (∀e∈ok.after,Region.binds md e=true->e.on≠i)->R.apart ops ok=true:=fun k ok hk a2 aF a3=>by
        refine ar k ok hk a2 ?_ a3
        by_cases aL:j=k
        · subst aL;exact av
        · rw[getD_set_ne true aL] at aF;exact aF
      refine wpOp_mono (fun a' w' h3=>⟨h3.2.1,ih (I.setIfInBounds j true) a' w' a1 (ready_mono hr (Ne.symm J)) h3.1 ?_⟩) h2
      rw[Array.setIfInBounds_comm _ _ J]
      exact h3.2.2
theorem wQ {i:Nat} {o:Oper} {v:Value} {fuel:Nat} {j:Array Bool} {a:Act} {w:World} (hi:ops[i]? =some o)
    (I:Region.noSelect ops=true) (hf:Region.free md ops j i=true) (hr:(Region.ready md ops j).contains i=true)
    (hc:Region.ll md ops j=true) (J:Region.mq md ops j ds i=true)
    (R:∀c a w,Q (.panic c) (a.put o.dst v) w->Q (.panic c) a w) (U:YieldsIf P ops S o v a) (hS:S w)
    (h:cy P md ops Q S ds fuel (j.setIfInBounds i true) (a.put o.dst v) w):cy P md ops Q S ds (fuel+1) j a w:=
  wO hi (Region.noSelect_spec I) R ops.size fuel j a w (Region.free_spec hi hf) (Region.wM hc)
    (fun d hm aa=>by have:=List.all_eq_true.1 J d hm;rw[aa] at this;simpa using this) (by simpa using hr) U hS h
theorem wR {rs:List Nat} {fuel:Nat} {j:Array Bool} {a:Act} {w:World} (hr:Region.ready md ops j=rs) (o:rs≠[])
    (h:∀i∈rs,wpOp P ops Q i (fun a' w'=>(i∉ds->S w->S w')∧cy P md ops Q S ds fuel (j.setIfInBounds i true) a' w') a w):cy P md ops Q S ds (fuel+1) j a w:=
  ⟨fun h0=>absurd (hr▸h0) o,hr▸h⟩
theorem wS {j:Array Bool} {a:Act} {w:World} (hr:Region.ready md ops j=[]) (h:Q .normal a w):
    ∀fuel,cy P md ops Q S ds fuel j a w
  |0=>⟨hr,h⟩
  |_+1=>⟨fun _=>h,by rw[hr];simp⟩
theorem wT {id:Nat} {a:Act} {w:World} (hm:P.follows .mixedOrders=true)
    (h:cy P .any ops Q S ds ops.size (Array.replicate ops.size false) a {w with drawn:=w.drawn+1}):(Code.region id ops true).wp P Q a w:=
  wp_region_any hm (rr _ _ _ _ h)
end
section
variable {P:Program} {ops:Array Oper} {Q:Exit->Act->World->Prop} {md:Region.Mode} {S:World->Prop} {ds:List Nat}
def fm (P:Program) (md:Region.Mode) (ops:Array Oper) (Q:Exit->Act->World->Prop) (S:World->Prop) (ds:List Nat) (fuel:Nat) (j:Array Bool) (a:Act) (w:World) (rs:List Nat):Prop:=
  ∀i∈rs,wpOp P ops Q i (fun a' w'=>(i∉ds->S w->S w')∧cy P md ops Q S ds fuel (j.setIfInBounds i true) a' w') a w
theorem fm.nil {fuel:Nat} {j:Array Bool} {a:Act} {w:World}:fm P md ops Q S ds fuel j a w []:=fun _ h=>by cases h
theorem fm.cons {fuel:Nat} {J:Array Bool} {a:Act} {w:World} {i:Nat} {o:Oper} {rs:List Nat} (ho:ops[i]? =some o) (hd:i∉ds)
    (h:∀I:Act->World->Prop,Shut (∀a w,S w->(S w->cy P md ops Q S ds fuel (J.setIfInBounds i true) a w)->I a w)->if Region.wanted o (yielded ops a.tmps)=true then Oper.wp P o a w I Q else I (a.put o.dst undef) w)
    (U:fm P md ops Q S ds fuel J a w rs):fm P md ops Q S ds fuel J a w (i::rs):=fun j R=>by
  rcases List.mem_cons.1 R with rfl|R
  · exact wpOp_step ho (fun I hK=>h I (fun a w hS hW=>hK a w ⟨fun _ _=>hS,hW hS⟩))
  · exact U j R
theorem fm.wU {fuel:Nat} {J:Array Bool} {a:Act} {w:World} {i:Nat} {o:Oper} {rs:List Nat} (ho:ops[i]? =some o) (hd:i∈ds)
    (h:∀I:Act->World->Prop,Shut (∀a w,cy P md ops Q S ds fuel (J.setIfInBounds i true) a w->I a w)->if Region.wanted o (yielded ops a.tmps)=true then Oper.wp P o a w I Q else I (a.put o.dst undef) w)
    (U:fm P md ops Q S ds fuel J a w rs):fm P md ops Q S ds fuel J a w (i::rs):=fun j R=>by
  rcases List.mem_cons.1 R with rfl|R
  · exact wpOp_step ho (fun I hK=>h I (fun a w hW=>hK a w ⟨fun hn=>absurd hd hn,hW⟩))
  · exact U j R
theorem ru {rs:List Nat} {fuel:Nat} {j:Array Bool} {a:Act} {w:World} (hr:Region.ready md ops j=rs) (o:rs≠[])
    (h:fm P md ops Q S ds fuel j a w rs):cy P md ops Q S ds (fuel+1) j a w:=wR hr o h
theorem mr {id n:Nat} {a:Act} {w:World} (l:Array Bool) (hm:P.follows .mixedOrders=true) (j:ops.size=n) (o:Array.replicate n false=l) (hS:S w.drew)
    (h:S w.drew->cy P .any ops Q S ds n l a w.drew):(Code.region id ops true).wp P Q a w:=by
  subst j
  subst o
  exact wT hm (h hS)
def ln (md:Region.Mode) (ops:Array Oper) (ds:List Nat) (l l':Array Bool) (i:Nat):Bool:=
  Region.noSelect ops&&Region.free md ops l i&&(Region.ready md ops l).contains i&&Region.ll md ops l&&Region.mq md ops l ds i&&(l.setIfInBounds i true==l')
theorem gR {i:Nat} {N:Option Tmp} {j:Oper} {v:Value} {fuel:Nat} {l:Array Bool} {a:Act} {w:World} (l':Array Bool) (hi:ops[i]? =some j) (o:j.dst=N) (hc:ln md ops ds l l' i=true)
    (I:∀c a w,Q (.panic c) (a.put j.dst v) w->Q (.panic c) a w) (J:YieldsIf P ops S j v a) (hS:S w) {a':Act} (R:a.put N v=a')
    (h:cy P md ops Q S ds fuel l' a' w):cy P md ops Q S ds (fuel+1) l a w:=by
  subst R
  subst o
  simp only[ln,Bool.and_eq_true,beq_iff_eq] at hc
  obtain⟨⟨⟨⟨⟨h1,h2⟩,U⟩,h4⟩,h5⟩,h6⟩:=hc
  subst h6
  exact wQ hi h1 h2 U h4 h5 I J hS h
def mu (md:Region.Mode) (ops:Array Oper) (l l':Array Bool) (i:Nat):Bool:=
  Region.noSelect ops&&Region.free md ops l i&&(Region.ready md ops l).contains i&&(l.setIfInBounds i true==l')
theorem bR {i:Nat} {N:Option Tmp} {j:Oper} {v:Value} {fuel:Nat} {l:Array Bool} {a:Act} {w:World} (l':Array Bool) (hi:ops[i]? =some j) (o:j.dst=N) (hc:mu md ops l l' i=true)
    (I:∀c a w,Q (.panic c) (a.put j.dst v) w->Q (.panic c) a w) (J:Yields P ops j v a) {a':Act} (R:a.put N v=a')
    (h:cy P md ops Q S ds fuel l' a' w):cy P md ops Q S ds (fuel+1) l a w:=by
  subst R
  subst o
  simp only[mu,Bool.and_eq_true,beq_iff_eq] at hc
  obtain⟨⟨⟨h1,h2⟩,U⟩,h6⟩:=hc
  subst h6
  exact wP hi (Region.noSelect_spec h1) I fuel l a w (Region.free_spec hi h2) (by simpa using U) J h
def kl (md:Region.Mode) (ops:Array Oper) (l l':Array Bool) (i:Nat):Bool:=(Region.ready md ops l==[i])&&(l.setIfInBounds i true==l')
theorem iX {i:Nat} {N:Option Tmp} {j:Oper} {fuel:Nat} {l:Array Bool} {a:Act} {w:World} (l':Array Bool) (hi:ops[i]? =some j) (o:j.dst=N) (hc:kl md ops l l' i=true) (hd:i∉ds)
    (h:∀K:Act->World->Prop,Shut (∀a' w',S w'->(S w'->cy P md ops Q S ds fuel l' a' w')->K a' w')->if Region.wanted j (yielded ops a.tmps)=true then Oper.wp P j a w K Q else K (a.put N undef) w):
    cy P md ops Q S ds (fuel+1) l a w:=by
  subst o
  simp only[kl,Bool.and_eq_true,beq_iff_eq] at hc
  obtain⟨h1,h2⟩:=hc
  subst h2
  exact ru h1 (by simp) (fm.cons hi hd (fun K I=>h K I) fm.nil)
theorem wV {i:Nat} {N:Option Tmp} {j:Oper} {fuel:Nat} {l:Array Bool} {a:Act} {w:World} (l':Array Bool) (hi:ops[i]? =some j) (o:j.dst=N) (hc:kl md ops l l' i=true) (hd:i∈ds)
    (h:∀K:Act->World->Prop,Shut (∀a' w',cy P md ops Q S ds fuel l' a' w'->K a' w')->if Region.wanted j (yielded ops a.tmps)=true then Oper.wp P j a w K Q else K (a.put N undef) w):
    cy P md ops Q S ds (fuel+1) l a w:=by
  subst o
  simp only[kl,Bool.and_eq_true,beq_iff_eq] at hc
  obtain⟨h1,h2⟩:=hc
  subst h2
  exact ru h1 (by simp) (fm.wU hi hd (fun K I=>h K I) fm.nil)
theorem mw {l:Array Bool} {a:Act} {w:World} {n:Nat} (hr:(Region.ready md ops l==[])=true) (h:Q .normal a w):cy P md ops Q S ds n l a w:=wS (by simpa using hr) h n
theorem iY {fuel:Nat} {l:Array Bool} {a a':Act} {w:World} (j:a=a') (h:cy P md ops Q S ds fuel l a' w):cy P md ops Q S ds fuel l a w:=by
  subst j
  exact h
theorem wW {j:Oper} {N:Option Tmp} {a:Act} {w:World} {K:Act->World->Prop} (f:FuncId) (args:Array Value) (hw:Region.wanted j (yielded ops a.tmps)=true) (o:j.dst=N) (I:(execOp a.eval j).run P w= .ok (.enter f args) w)
    (h:Calls P f args w fun e w'=>∃v,e= .returned v∧K (a.put N v) w'):if Region.wanted j (yielded ops a.tmps)=true then Oper.wp P j a w K Q else K (a.put N undef) w:=by
  rw[if_pos hw]
  subst o
  unfold Oper.wp
  rw[I,Oper.upon_enter]
  refine h.mono fun e R J=>?_
  obtain⟨v,rfl,hk⟩:=J
  exact hk
theorem ry {f:FuncId} {fn:Func} (hf:P.funcs[f]? =some fn) (j:(fn.name== "runtime.NumGoroutine")=false) (hb:fn.body.isSome=true) (args:Array Value) (w:World):(callFunc f args).run P w= .ok (.enter f args) w:=by
  have h1:fn.name≠ "runtime.NumGoroutine":=by simpa using j
  obtain⟨c,hc⟩:=Option.isSome_iff_exists.1 hb
  simp[callFunc,hf,h1,hc]
theorem jD {j:Oper} {N:Option Tmp} {a:Act} {w:World} {K:Act->World->Prop} {f:FuncId} {fn:Func} {as:Array Operand} {o:Array TypeId} (hf:P.funcs[f]? =some fn) (I:(fn.name== "runtime.NumGoroutine")=false) (hb:fn.body.isSome=true) (args:Array Value)
    (hw:Region.wanted j (yielded ops a.tmps)=true) (J:j.dst=N) (R:j.op= .call {callee:=.value (.func f),args:=as,argTypes:=o}) (U:as.map a.eval=args)
    (h:Calls P f args w fun e w'=>∃v,e= .returned v∧K (a.put N v) w'):if Region.wanted j (yielded ops a.tmps)=true then Oper.wp P j a w K Q else K (a.put N undef) w:=by
  refine wW f args hw J ?_ h
  have he:=ry hf I hb args w
  unfold execOp
  simp[R,resolve,Deferred.ofValue,invoke,Act.eval,U,he]
theorem rz {rest:List Oper} {j:Oper} {a:Act} {w:World} (N:Option Tmp) (hd:j.dst=N) (o:j.guard=none) {f:FuncId} {fn:Func} {as:Array Operand} {I:Array TypeId} (hf:P.funcs[f]? =some fn) (J:(fn.name== "runtime.NumGoroutine")=false) (hb:fn.body.isSome=true) (args:Array Value)
    (R:j.op= .call {callee:=.value (.func f),args:=as,argTypes:=I}) (U:as.map a.eval=args)
    (h:Calls P f args w fun e w'=>∃v,e= .returned v∧wpList P ops Q rest (a.put N v) w'):wpList P ops Q (j::rest) a w:=by
  refine wpList_plain o fun K hK=>?_
  have he:=ry hf J hb args w
  have ab:(execOp a.eval j).run P w= .ok (.enter f args) w:=by
    unfold execOp
    simp[R,resolve,Deferred.ofValue,invoke,Act.eval,U,he]
  unfold Oper.wp
  rw[ab,Oper.upon_enter]
  refine h.mono fun e ag hh=>?_
  obtain⟨v,rfl,hk⟩:=hh
  subst hd
  exact hK _ _ hk
theorem wX {j:Oper} {a:Act} {w w1:World} {K:Act->World->Prop} (hw:Region.wanted j (yielded ops a.tmps)=true) (o:j.dst=none) (I:(execOp a.eval j).run P w= .ok .skip w1)
    (h:K a w1):if Region.wanted j (yielded ops a.tmps)=true then Oper.wp P j a w K Q else K (a.put none undef) w:=by
  rw[if_pos hw]
  unfold Oper.wp
  rw[I]
  show K (a.put j.dst undef) w1
  rw[o]
  exact h
theorem aV (n:Int):IntKind.i64.wrap n=Go.RowKit.wrap64 n:=by unfold Go.RowKit.wrap64;exact IntKind.wrap_i64 n
theorem aX (n:Int):IntKind.i32.wrap n=Go.RowKit.wrap32 n:=by unfold Go.RowKit.wrap32;exact IntKind.wrap_i32 n
end
end Go.Proofs.YtffdiakgjakngaaGreatW.PrintLast
end
section
namespace Go.Proofs.YtffdiakgjakngaaGreatW.PrintWords
open Go.RowKit
namespace Kd
section
variable {α:Type} {d:Kd α} {e base g o n cap:Nat} {ok okp:Nat->Prop} {w W:World} {v:Value} {xs:List α}
theorem wY (h:d.Q e w base ok v xs) (hp:0<xs.length):∃g o cap,v= .slice (some ⟨g,o,none⟩) xs.length cap∧base<=g∧g<w.heap.size∧∃cells,w.heap[g]? =some (.cells cells e (0,0)):=by
  obtain⟨h0,inner,hq,hr⟩:=h
  rcases hq.2 with⟨h1,_⟩|⟨g,off,cap,cur,rfl,hb,j,r⟩
  · omega
  · exact⟨g,off*d.sz,cap,rfl,hb,aw j,cur,j⟩
theorem wZ (h:d.Q e W base ok (.slice (some ⟨g,o,none⟩) n cap) xs) (z:α) (i:Int) (h0:0<=i) (h1:i<n):
    ∃c,c.length=d.sz∧d.M W base (fun k=>ok k∧k≠g) (xs.getD i.toNat z) c∧(∀j u,c[j]? =some u->W.cell? ⟨g,o+i.toNat*d.sz+j,none⟩=some u)∧∀j,W.frozen? ⟨g,o+i.toNat*d.sz+j,none⟩=false:=by
  obtain⟨J,R,hC⟩:=q_ h
  obtain⟨_,inner,ho,hr⟩:=h
  have I:i.toNat<xs.length:=by omega
  have U:i.toNat*d.sz+d.sz<=inner.length:=by rw[hr.1,<-Nat.succ_mul];exact Nat.mul_le_mul_right _ I
  have hM:=hr.2 i.toNat _ (List.getElem?_eq_getElem I)
  refine⟨(inner.drop (i.toNat*d.sz)).take d.sz,by rw[List.length_take,List.length_drop];omega,?_,fun j u hu=>?_,fun j=>?_⟩
  · rw[List.getD_eq_getElem?_getD,List.getElem?_eq_getElem I]
    exact d.M_mono (fun k hk=>⟨hk.1,fun he=>hk.2 (by rw[he];simp[Value.ownBlock])⟩) hM
  · rw[List.getElem?_take] at hu
    split at hu
    · rw[List.getElem?_drop] at hu
      subst J
      obtain⟨ad,he,hc⟩:=qX ho (by omega)
      injection he with he
      subst he
      have:=hc _ u hu
      rwa [fZ,<-Nat.add_assoc] at this
    · cases hu
  · obtain⟨_,cells,hc⟩:=jA ho g (by simp[Value.ownBlock])
    exact a9 hc _
end
section
variable {α:Type} {enc:α->Value} {h1:∀x,(enc x).oneCell'=true} {e base g o n cap:Nat} {ok:Nat->Prop} {W:World} {xs:List α}
theorem w_ (d:α) (h:(scalar enc h1).Q e W base ok (.slice (some ⟨g,o,none⟩) n cap) xs) (i:Int) (h0:0<=i) (hi:i<n):W.cell? ⟨g,o+i.toNat,none⟩=some (enc (bl d xs i))∧W.frozen? ⟨g,o+i.toNat,none⟩=false:=by
  obtain⟨c,_,hM,I,hf⟩:=wZ h d i h0 hi
  have J:c=[enc (xs.getD i.toNat d)]:=hM
  subst J
  have h2:=I 0 _ rfl
  have j:=hf 0
  rw[show (scalar enc h1).sz=1 from rfl,Nat.mul_one,Nat.add_zero] at h2 j
  exact⟨h2,j⟩
end
end Kd
end Go.Proofs.YtffdiakgjakngaaGreatW.PrintWords
end
section
namespace Go.Proofs.YtffdiakgjakngaaGreatW.PrintWords
open Go.RowKit
namespace Kd
def tag {α:Type} (f:Nat->Nat) (d:Kd α):Kd (α×Nat) where
  sz:=d.sz
  E:=d.E
  K:=fun w x cs=>d.K w x.1 cs
  M:=fun w base ok x cs=>d.M w base (fun k=>ok k∧f k=x.2) x.1 cs
  c_:=fun h=>d.c_ h
  di:=fun h=>d.di h
  fk:=fun hb h=>d.fk hb h
  ct:=fun h=>d.ct h
  M_mono:=fun hok h=>d.M_mono (fun k hk=>⟨hok k hk.1,hk.2⟩) h
  dx:=fun h=>d.M_mono (fun _ hk=>⟨⟨hk.1.1,hk.2⟩,hk.1.2⟩) (d.dx h)
  dI:=fun hm h=>d.dI (fun k hk=>hm k hk.1) h
  fl:=fun hb h=>d.fl hb h
def raw (sz:Nat):Kd (List Value) where
  sz:=sz
  E:=[]
  K:=fun _ x cs=>cs=x∧cs.length=sz∧∀u∈cs,u.oneCell'=true
  M:=fun _ _ _ x cs=>cs=x∧cs.length=sz∧∀u∈cs,u.oneCell'=true
  c_:=fun h=>h.2.1
  di:=fun h=>h.2.2
  fk:=fun _ h=>h
  ct:=fun h=>h
  M_mono:=fun _ h=>h
  dx:=fun h=>h
  dI:=fun _ h=>h
  fl:=fun _ h=>h
def S {α:Type} (d:Kd α) (e:Nat) (w:World) (base:Nat) (ok:Nat->Prop) (v:Value) (xs:List α):Prop:=∃f,(tag f d).R e w base ok v xs.zipIdx
section
variable {α β:Type} {d:Kd α} {d':Kd β} {e e':Nat} {w w1 W:World} {base b:Nat} {ok ok' okv oku:Nat->Prop} {u v:Value} {xs:List α} {ys:List β}
theorem zip_at {xs:List α} {j:Nat} {p:α} (h:xs[j]? =some p):xs.zipIdx[j]? =some (p,j):=by rw[List.getElem?_zipIdx,h,Nat.zero_add];rfl
theorem jE (h:S d e w base ok v xs):d.R e w base ok v xs:=by
  obtain⟨f,h0,inner,ho,hr⟩:=h
  rw[List.length_zipIdx] at ho
  exact⟨h0,inner,ho,by have:=hr.1;rw[List.length_zipIdx] at this;exact this,fun j p o=>d.M_mono (fun _ hk=>hk.1) (hr.2 j (p,j) (zip_at o))⟩
theorem oe {ad:Addr} {n cap:Nat} (h:d.R e w base ok (.slice (some ad) n cap) xs):∃g,ad=⟨g,0,none⟩:=by
  obtain⟨_,inner,ho,hr⟩:=h
  rcases ho.2 with⟨j,_⟩|⟨g,I,cur,j,_⟩
  · cases j
  · injection j with o _ _
    injection o with o
    exact⟨g,o⟩
theorem fp (j:d.E=[]) (h:d.R e w base ok v xs):d.R e w base (fun k=>some k=v.ownBlock) v xs:=by
  obtain⟨h0,inner,ho,hr⟩:=h
  refine⟨fun k hk=>hk.symm,inner,ho,hr.ej (fun p c hp=>d.M_mono (fun k hk=>?_) (d.dx hp))⟩
  obtain⟨_,_,_,q,hq,_⟩:=hk
  rw[j] at hq
  cases hq
theorem eZ (d:Kd α) (e:Nat) (w:World) (base:Nat) (ok:Nat->Prop):S d e w base ok (.slice none 0 0) []:=⟨fun _=>0,cE _ _ _ _ _⟩
theorem jF (h:S d e w base ok v xs) (hok:∀k,ok k->ok' k):S d e w base ok' v xs:=by
  obtain⟨f,h⟩:=h
  exact⟨f,aR h hok⟩
theorem lq (h:S d e w base ok v xs):S d e w base (fun k=>ok k∧base<=k∧k<w.heap.size∧∃q,q∈e::d.E∧∃cells,w.heap[k]? =some (.cells cells q (0,0))) v xs:=by
  obtain⟨f,h⟩:=h
  exact⟨f,dR h⟩
theorem xc (h:S d e w base ok v xs) (hm:∀k,ok k->w1.heap[k]? =w.heap[k]?):S d e w1 base ok v xs:=by
  obtain⟨f,h⟩:=h
  exact⟨f,en h hm⟩
theorem oh (h:S d e w base ok v xs) (hm:∀k,ok k->k<w.heap.size->w1.heap[k]? =w.heap[k]?):S d e w1 base ok v xs:=
  jF (xc (lq h) (fun k hk=>hm k hk.1 hk.2.2.1)) (fun _ hk=>hk.1)
theorem my (h:S d e w base ok v xs) (hb:Below w.heap.size w w1):S d e w1 base ok v xs:=oh h (fun k _ hk=>hb.block k hk)
theorem om (h:S d e w base ok v xs) (o:Obj):S d e (w.alloc o) base ok v xs:=my h (al (Below.refl _ _) o)
theorem rA (h:S d e w base ok v xs):S d e w.drew base ok v xs:=my h (fH (Below.refl _ _))
theorem xd (h:S d e w base ok v xs) (m:Nat):S d e (w.drewN m) base ok v xs:=my h (bC (Below.refl _ _) m)
theorem rB (h:S d e w base ok v xs) {row:Option Nat} (j:w.grownBy w1 row) (hok:∀k,ok k->some k≠row):S d e w1 base ok v xs:=oh h (fun k ho hk=>j.block k hk (hok k ho))
theorem xe (h:S d e w base ok v xs) {p:Addr} (hok:∀k,ok k->k≠p.block) (u:Value):S d e (w.setCell p u) base ok v xs:=oh h (fun k ho _=>Below.heap_setCell w p u k (hok k ho))
theorem xf (h:S d e w base ok v xs) {g t:Nat} {cells:Array Value} (hb:w.heap[g]? =some (.cells cells t (0,0))) (j:∀q,q∈e::d.E->q≠t):S d e w base (fun k=>ok k∧k≠g) v xs:=by
  obtain⟨f,h⟩:=h
  exact⟨f,eM h hb j⟩
theorem ot (h:S d e w base ok v xs) {g t:Nat} {cells:Array Value} (hb:w.heap[g]? =some (.cells cells t (0,0))) (o:∀q,q∈e::d.E->q≠t) (j:Nat) (u:Value):S d e (w.setCell ⟨g,j,none⟩ u) base ok v xs:=
  jF (xe (p:=⟨g,j,none⟩) (xf h hb o) (fun _ hk=>hk.2) u) (fun _ hk=>hk.1)
theorem mz (h:S d e w base ok v xs):∀k,v.ownBlock=some k->∃cells,w.heap[k]? =some (.cells cells e (0,0)):=fI (jE h)
theorem xg (h:S d e w base ok v xs):∀k,v.ownBlock=some k->k<w.heap.size:=bq (jE h)
theorem R_tag {f o:Nat->Nat} {I:List (α×Nat)} (h:(tag f d).R e w base ok v I) (hf:∀k,ok k->k<w.heap.size->o k=f k):(tag o d).R e w base ok v I:=by
  obtain⟨h0,inner,ho,hr⟩:=dR h
  exact⟨fun k hk=>(h0 k hk).1,inner,ho,hr.1,fun j p J=>d.M_mono (fun k hk=>⟨⟨hk.1.1.1,hk.1.2⟩,(hf k hk.1.1.1 hk.1.1.2.2.1).trans hk.2⟩) (hr.2 j p J)⟩
end
section
variable {α β:Type} {d:Kd α} {d':Kd β} {e e' g:Nat} {w w1 W:World} {base b:Nat} {ok ok' okv oku:Nat->Prop} {u v:Value} {xs:List α} {ys:List β}
theorem xh (h:S d e w base ok v xs) {t:Nat} {cells:Array Value} (hb:w.heap[g]? =some (.cells cells t (0,0))) (j:e≠t):some g≠v.ownBlock:=dj (jE h) hb j
theorem ou (h:S d e w base ok v xs) (hp:0<xs.length):∃g cap,v= .slice (some ⟨g,0,none⟩) xs.length cap∧base<=g∧g<w.heap.size∧∃cells,w.heap[g]? =some (.cells cells e (0,0)):=eH (jE h) hp
theorem kn (h:S d e w base ok v xs):∃A c,v= .slice A xs.length c:=a7 (jE h)
theorem rC (xs:List α) (p:α):(xs++[p]).zipIdx=xs.zipIdx++[(p,xs.length)]:=by rw[List.zipIdx_append];simp
end
section
open Classical in
theorem S_tag {α:Type} {d:Kd α} {e base:Nat} {okv:Nat->Prop} {w:World} {v:Value} {xs:List α} (h:S d e w base okv v xs) (m:Nat) (okp:Nat->Prop) (hap:∀k,okp k->¬okv k):∃f,(∀k,okp k->f k=m)∧(tag f d).R e w base okv v xs.zipIdx:=by
  obtain⟨f,h⟩:=h
  exact⟨fun k=>if okp k then m else f k,fun k hk=>if_pos hk,R_tag h (fun k hk _=>if_neg (fun h2=>hap k h2 hk))⟩
variable {P:Program} {ops:Array Oper} {rest:List Oper} {o:Oper} {a:Act} {Q:Exit->Act->World->Prop} {Kc:Act->World->Prop} {α:Type}
theorem xi (d:Kd α) {w0 W:World} (base:Nat) (j:o.guard=none) (s x:Operand) (t e:TypeId) (z:Value) (bytes:Nat)
    (ho:o.op= .call {callee:=.builtin .append,args:=#[s,x],argTypes:=#[t,t]})
    (I:P.underlying t=some (.slice e)) (J:(P.info? e).map (fun i=>(i.zero,i.size,i.bytes))=some (some z,d.sz,bytes)) (R:z.cells.size=d.sz) (U:0<d.sz) (aa:0<bytes)
    (v:Value) (xs:List α) (p:α) (cs:List Value) (ok okp:Nat->Prop) (hs:a.eval s=v) (hx:a.eval x= .slice (some ⟨W.heap.size,0,none⟩) 1 1) (hp:d.M W base okp p cs) (ag:∀k,okp k->ok k∧some k≠v.ownBlock) (ak:∀k,W.heap.size<=k->ok k)
    (HO:S d e W base (fun k=>ok k∧¬okp k) v xs) (HB:Below base w0 W) (av:base<=W.heap.size) (hl:(xs.length+1)*bytes<=140737488355328)
    (h:∀v1 w1,S d e w1 base ok v1 (xs++[p])->Below base w0 w1->W.grownBy w1 v.ownBlock->(v1.ownBlock=v.ownBlock∨∃b,v1.ownBlock=some b∧W.heap.size<=b)->wpList P ops Q rest (a.put o.dst v1) w1):
    wpList P ops Q (o::rest) a (W.alloc (.cells cs.toArray e)):=by
  obtain⟨f,hf,hR⟩:=S_tag HO xs.length okp (fun _ hk h2=>h2.2 hk)
  refine kX (tag f d) base j s x t e z bytes ho I J R U aa v xs.zipIdx (p,xs.length) cs ok okp hs hx (d.M_mono (fun k hk=>⟨hk,hf k hk⟩) hp) ag ak (aR hR (fun _ hk=>hk.1)) HB av (by rw[List.length_zipIdx];exact hl) ?_
  intro v1 w1 hr
  rw[<-rC] at hr
  exact h v1 w1 ⟨f,hr⟩
theorem xj (d:Kd α) {w0 W:World} (base:Nat) (hw:Region.wanted o (yielded ops a.tmps)=true) (s x:Operand) (t e:TypeId) (z:Value) (bytes:Nat)
    (ho:o.op= .call {callee:=.builtin .append,args:=#[s,x],argTypes:=#[t,t]})
    (j:P.underlying t=some (.slice e)) (I:(P.info? e).map (fun i=>(i.zero,i.size,i.bytes))=some (some z,d.sz,bytes)) (J:z.cells.size=d.sz) (R:0<d.sz) (U:0<bytes)
    (v:Value) (xs:List α) (p:α) (cs:List Value) (ok okp:Nat->Prop) (hs:a.eval s=v) (hx:a.eval x= .slice (some ⟨W.heap.size,0,none⟩) 1 1) (hp:d.M W base okp p cs) (ad:∀k,okp k->ok k∧some k≠v.ownBlock) (ag:∀k,W.heap.size<=k->ok k)
    (HO:S d e W base (fun k=>ok k∧¬okp k) v xs) (HB:Below base w0 W) (ar:base<=W.heap.size) (hl:(xs.length+1)*bytes<=140737488355328)
    (h:∀v1 w1,S d e w1 base ok v1 (xs++[p])->Below base w0 w1->W.grownBy w1 v.ownBlock->(v1.ownBlock=v.ownBlock∨∃b,v1.ownBlock=some b∧W.heap.size<=b)->Kc (a.put o.dst v1) w1):
    if Region.wanted o (yielded ops a.tmps)=true then Oper.wp P o a (W.alloc (.cells cs.toArray e)) Kc Q else Kc (a.put o.dst undef) (W.alloc (.cells cs.toArray e)):=by
  obtain⟨f,hf,hR⟩:=S_tag HO xs.length okp (fun _ hk h2=>h2.2 hk)
  refine nX (tag f d) base hw s x t e z bytes ho j I J R U v xs.zipIdx (p,xs.length) cs ok okp hs hx (d.M_mono (fun k hk=>⟨hk,hf k hk⟩) hp) ad ag (aR hR (fun _ hk=>hk.1)) HB ar (by rw[List.length_zipIdx];exact hl) ?_
  intro v1 w1 hr
  rw[<-rC] at hr
  exact h v1 w1 ⟨f,hr⟩
end
def iZ {α:Type} (f:Nat->Nat) (d:Kd α) (i:Nat) (c:List Value):Kd (α×Nat) where
  sz:=d.sz
  E:=d.E
  K:=fun w x cs=>(x.2=i->cs=c∧cs.length=d.sz∧∀u∈cs,u.oneCell'=true)∧(x.2≠i->d.K w x.1 cs)
  M:=fun w base ok x cs=>(x.2=i->cs=c∧cs.length=d.sz∧∀u∈cs,u.oneCell'=true)∧(x.2≠i->d.M w base (fun k=>ok k∧f k=x.2) x.1 cs)
  c_:=fun {w x cs} h=>by
    by_cases j:x.2=i
    · exact(h.1 j).2.1
    · exact d.c_ (h.2 j)
  di:=fun {w x cs} h=>by
    by_cases j:x.2=i
    · exact(h.1 j).2.2
    · exact d.di (h.2 j)
  fk:=fun hb h=>⟨h.1,fun j=>d.fk hb (h.2 j)⟩
  ct:=fun h=>⟨h.1,fun j=>d.ct (h.2 j)⟩
  M_mono:=fun hok h=>⟨h.1,fun j=>d.M_mono (fun k hk=>⟨hok k hk.1,hk.2⟩) (h.2 j)⟩
  dx:=fun h=>⟨h.1,fun j=>d.M_mono (fun _ hk=>⟨⟨hk.1.1,hk.2⟩,hk.1.2⟩) (d.dx (h.2 j))⟩
  dI:=fun hm h=>⟨h.1,fun j=>d.dI (fun k hk=>hm k hk.1) (h.2 j)⟩
  fl:=fun hb h=>⟨h.1,fun j=>d.fl hb (h.2 j)⟩
def H {α:Type} (d:Kd α) (e:Nat) (w:World) (base:Nat) (ok:Nat->Prop) (v:Value) (xs:List α) (i:Int) (oki:Nat->Prop) (c:List Value):Prop:=
  (∀k,oki k->ok k)∧∃f,(iZ f d i.toNat c).R e w base (fun k=>ok k∧¬oki k) v xs.zipIdx
section
variable {α β:Type} {d:Kd α} {e e' g n cap:Nat} {w w1 W:World} {base:Nat} {ok ok' oki okp:Nat->Prop} {u v:Value} {xs:List α} {i:Int} {c:List Value}
theorem rD (h:S d e W base ok (.slice (some ⟨g,0,none⟩) n cap) xs) (z:α) (i:Int) (h0:0<=i) (h1:i<n):
    ∃(oki:Nat->Prop) (c:List Value),c.length=d.sz∧d.M W base oki (xs.getD i.toNat z) c∧(∀j u,c[j]? =some u->W.cell? ⟨g,i.toNat*d.sz+j,none⟩=some u)∧(∀k,oki k->ok k∧k≠g)∧H d e W base ok (.slice (some ⟨g,0,none⟩) n cap) xs i oki c:=by
  obtain⟨f,J⟩:=h
  have U:=(aC J).1
  rw[List.length_zipIdx] at U
  have o:some g=(Value.slice (some ⟨g,0,none⟩) n cap).ownBlock:=by simp[Value.ownBlock]
  obtain⟨aa,inner,ho,hr⟩:=J
  have I:i.toNat<xs.length:=by omega
  have hlen:inner.length=xs.length*d.sz:=by have:=hr.1;rw[List.length_zipIdx] at this;exact this
  have ad:i.toNat*d.sz+d.sz<=inner.length:=by rw[hlen,<-Nat.succ_mul];exact Nat.mul_le_mul_right _ I
  have hM:=hr.2 i.toNat _ (zip_at (List.getElem?_eq_getElem I))
  have ab:∀k,some k≠(Value.slice (some ⟨g,0,none⟩) n cap).ownBlock->k≠g:=fun k hk he=>hk (by rw[he];exact o)
  refine⟨fun k=>(ok k∧k≠g)∧f k=i.toNat,(inner.drop (i.toNat*d.sz)).take d.sz,by rw[List.length_take,List.length_drop];omega,?_,fun j u hu=>?_,fun k hk=>hk.1,fun k hk=>hk.1.1,f,fun k hk=>⟨aa k hk,fun h2=>h2.1.2 ?_⟩,inner,ho,hr.1,fun m p hm=>?_⟩
  · rw[List.getD_eq_getElem?_getD,List.getElem?_eq_getElem I]
    exact d.M_mono (fun k hk=>⟨⟨hk.1.1,ab k hk.1.2⟩,hk.2⟩) hM
  · rw[List.getElem?_take] at hu
    split at hu
    · rw[List.getElem?_drop] at hu
      have:=ho.cells (g:=g) o.symm _ u hu
      rwa [add_plain] at this
    · cases hu
  · rw[<-o] at hk;injection hk with hk;exact hk.symm
  · have hold:=hr.2 m p hm
    have ag:p.2=m:=by
      rw[List.getElem?_zipIdx,Nat.zero_add] at hm
      obtain⟨q,_,rfl⟩:=Option.map_eq_some_iff.1 hm
      rfl
    refine⟨fun R=>?_,fun R=>d.M_mono (fun k hk=>⟨⟨⟨hk.1.1,fun h2=>R ?_⟩,hk.1.2⟩,hk.2⟩) hold⟩
    · have hmi:m=i.toNat:=by omega
      subst hmi
      exact⟨rfl,d.c_ (d.ct hM),d.di (d.ct hM)⟩
    · rw[<-hk.2];exact h2.2
open Classical in
theorem H_back (h:H d e w base ok v xs i oki c) {x':α} (hM:d.M w base okp x' c) (hok:∀k,okp k->oki k):S d e w base ok v (xs.set i.toNat x'):=by
  obtain⟨ho,f,h0,inner,hown,hr⟩:=h
  refine⟨fun k=>if oki k then i.toNat else f k,fun k hk=>(h0 k hk).1,inner,by rw[List.length_zipIdx,List.length_set];rw[List.length_zipIdx] at hown;exact hown,by have:=hr.1;rw[List.length_zipIdx] at this;rw[List.length_zipIdx,List.length_set];exact this,fun m p hm=>?_⟩
  rw[List.getElem?_zipIdx,Nat.zero_add] at hm
  obtain⟨q,hq,rfl⟩:=Option.map_eq_some_iff.1 hm
  have hml:m<xs.length:=by
    have:=(List.getElem?_eq_some_iff.1 hq).1
    rwa [List.length_set] at this
  by_cases hmi:m=i.toNat
  · subst hmi
    rw[List.getElem?_set_self hml] at hq
    injection hq with hq
    subst hq
    have hc:=((hr.2 i.toNat _ (zip_at (List.getElem?_eq_getElem hml))).1 rfl).1
    show d.M w base _ x' ((inner.drop (i.toNat*d.sz)).take d.sz)
    rw[show (inner.drop (i.toNat*d.sz)).take d.sz=c from hc]
    exact d.M_mono (fun k hk=>⟨⟨ho k (hok k hk),fun he=>(h0 k he.symm).2 (hok k hk)⟩,if_pos (hok k hk)⟩) hM
  · rw[List.getElem?_set_ne (Ne.symm hmi)] at hq
    exact d.M_mono (fun k hk=>⟨⟨hk.1.1.1,hk.1.2⟩,(if_neg hk.1.1.2).trans hk.2⟩) ((hr.2 m (q,m) (zip_at hq)).2 hmi)
theorem rE (h:H d e w base ok v xs i oki c) (hm:∀k,ok k->¬oki k->k<w.heap.size->w1.heap[k]? =w.heap[k]?):H d e w1 base ok v xs i oki c:=by
  obtain⟨ho,f,h⟩:=h
  exact⟨ho,f,kh h (fun k hk j=>hm k hk.1 hk.2 j)⟩
theorem rF (h:H d e w base ok v xs i oki c) {row:Option Nat} (j:w.grownBy w1 row) (o:∀k,row=some k->oki k):H d e w1 base ok v xs i oki c:=
  rE h (fun k _ I J=>j.block k J (fun he=>I (o k he.symm)))
theorem xk (h:H d e w base ok v xs i oki c) (hb:Below w.heap.size w w1):H d e w1 base ok v xs i oki c:=rE h (fun k _ _ j=>hb.block k j)
theorem xm (h:H d e w base ok v xs i oki c):H d e w.drew base ok v xs i oki c:=xk h (fH (Below.refl _ _))
theorem xn {okg:Nat->Prop} (h:H d e w base (fun k=>ok k∧¬okg k) v xs i oki c) (j:∀k,okg k->ok k):H d e w base ok v xs i (fun k=>oki k∨okg k) c:=by
  obtain⟨ho,f,h⟩:=h
  exact⟨fun k hk=>hk.elim (fun h2=>(ho k h2).1) (j k),f,aR h (fun k hk=>⟨hk.1.1,fun h2=>h2.elim hk.2 hk.1.2⟩)⟩
theorem xo {ad:Addr} (h:S d e W base ok (.slice (some ad) n cap) xs) (z:α) (i:Int) (h0:0<=i) (h1:i<n):
    ∃(oki:Nat->Prop) (c:List Value),c.length=d.sz∧d.M W base oki (xs.getD i.toNat z) c∧(∀j u,c[j]? =some u->W.cell? (ad.add (i.toNat*d.sz+j))=some u)∧(∀k,oki k->ok k∧some k≠(Value.slice (some ad) n cap).ownBlock)∧
      ∀{w1:World} {row:Option Nat} {x':α},W.grownBy w1 row->(∀k,row=some k->oki k)->d.M w1 base oki x' c->S d e w1 base ok (.slice (some ad) n cap) (xs.set i.toNat x'):=by
  obtain⟨g,rfl⟩:=oe (jE h)
  obtain⟨oki,c,I,hM,J,o,R⟩:=rD h z i h0 h1
  refine⟨oki,c,I,hM,fun j u hu=>?_,fun k hk=>⟨(o k hk).1,fun he=>(o k hk).2 ?_⟩,fun U aa ab=>H_back (rF R U aa) ab (fun _ hk=>hk)⟩
  · rw[fZ,Nat.zero_add]
    exact J j u hu
  · simpa [Value.ownBlock] using he
theorem rG (h:S d e W base ok (.slice (some ⟨g,0,none⟩) n cap) xs) (z:α) (i:Int) (h0:0<=i) (h1:i<n):
    ∃(oki:Nat->Prop) (c:List Value),c.length=d.sz∧d.M W base oki (xs.getD i.toNat z) c∧(∀j u,c[j]? =some u->W.cell? ⟨g,i.toNat*d.sz+j,none⟩=some u)∧(∀j,W.frozen? ⟨g,i.toNat*d.sz+j,none⟩=false)∧(∀k,oki k->ok k∧k≠g)∧H d e W base ok (.slice (some ⟨g,0,none⟩) n cap) xs i oki c:=by
  obtain⟨_,_,_,_,o⟩:=rh (jE h) z i h0 h1
  obtain⟨oki,c,I,hM,J,R,U⟩:=rD h z i h0 h1
  exact⟨oki,c,I,hM,J,o,R,U⟩
theorem xp (h:H d e W base ok (.slice (some ⟨g,0,none⟩) n cap) xs i oki c) (h0:0<=i) (h1:i<n):
    ∃rows:List (List Value),rows.length=xs.length∧(raw d.sz).R e W base (fun _=>True) (.slice (some ⟨g,0,none⟩) n cap) rows∧c.length=d.sz∧(∀u∈c,u.oneCell'=true)∧(∀j u,c[j]? =some u->W.cell? ⟨g,i.toNat*d.sz+j,none⟩=some u)∧
      ∀w1 o,W.grownBy w1 (some g)->(raw d.sz).R e w1 base (fun _=>True) (.slice (some ⟨g,0,none⟩) n cap) (rows.set i.toNat o)->H d e w1 base ok (.slice (some ⟨g,0,none⟩) n cap) xs i oki o:=by
  obtain⟨aB,f,hR⟩:=h
  have hn:=(aC hR).1
  rw[List.length_zipIdx] at hn
  have ag:some g=(Value.slice (some ⟨g,0,none⟩) n cap).ownBlock:=by simp[Value.ownBlock]
  obtain⟨aL,inner,ho,hr⟩:=hR
  have ak:i.toNat<xs.length:=by omega
  have hlen:inner.length=xs.length*d.sz:=by have:=hr.1;rw[List.length_zipIdx] at this;exact this
  have aO:∀k,some k≠(Value.slice (some ⟨g,0,none⟩) n cap).ownBlock->k≠g:=fun k hk he=>hk (by rw[he];exact ag)
  have I:=(hr.2 i.toNat _ (zip_at (List.getElem?_eq_getElem ak))).1 rfl
  rw[I.1] at I
  have hc:=((hr.2 i.toNat _ (zip_at (List.getElem?_eq_getElem ak))).1 rfl).1
  refine⟨(List.range xs.length).map fun j=>(inner.drop (j*d.sz)).take d.sz,by rw[List.length_map,List.length_range],⟨fun _ _=>trivial,inner,?_,?_,fun j p hj=>?_⟩,I.2.1,I.2.2,fun j u hu=>?_,fun w1 o hg aS=>?_⟩
  · rw[List.length_map,List.length_range];rw[List.length_zipIdx] at ho;exact ho
  · rw[List.length_map,List.length_range];exact hlen
  · rw[List.getElem?_map] at hj
    obtain⟨j',a0,rfl⟩:=Option.map_eq_some_iff.1 hj
    obtain⟨hl,he⟩:=List.getElem?_eq_some_iff.1 a0
    rw[List.getElem_range] at he
    subst he
    rw[List.length_range] at hl
    have hm:=(iZ f d i.toNat c).ct (hr.2 j _ (zip_at (List.getElem?_eq_getElem hl)))
    exact⟨rfl,(iZ f d i.toNat c).c_ hm,(iZ f d i.toNat c).di hm⟩
  · rw[<-hc,List.getElem?_take] at hu
    split at hu
    · rw[List.getElem?_drop] at hu
      have:=ho.cells (g:=g) ag.symm _ u hu
      rwa [add_plain] at this
    · cases hu
  · obtain⟨_,J,av,aa⟩:=aS
    have a1:J.length=xs.length*d.sz:=by have:=aa.1;rw[List.length_set,List.length_map,List.length_range] at this;exact this
    rw[List.length_set,List.length_map,List.length_range] at av
    refine⟨aB,f,aL,J,by rw[List.length_zipIdx];exact av,by rw[List.length_zipIdx];exact a1,fun m p hm=>?_⟩
    rw[List.getElem?_zipIdx,Nat.zero_add] at hm
    obtain⟨q,hq,rfl⟩:=Option.map_eq_some_iff.1 hm
    have hml:m<xs.length:=(List.getElem?_eq_some_iff.1 hq).1
    have hold:=hr.2 m (q,m) (zip_at hq)
    refine⟨fun U=>?_,fun U=>?_⟩
    · have ab:m=i.toNat:=U
      subst ab
      exact aa.2 i.toNat o (List.getElem?_set_self (by rw[List.length_map,List.length_range];exact hml))
    · have ab:m≠i.toNat:=U
      have a2:=(aa.2 m ((inner.drop (m*d.sz)).take d.sz) (by
        rw[List.getElem?_set_ne (Ne.symm ab),List.getElem?_map,List.getElem?_eq_getElem (by rw[List.length_range];exact hml),List.getElem_range]
        rfl)).1
      show d.M w1 base _ q ((J.drop (m*d.sz)).take d.sz)
      rw[show (J.drop (m*d.sz)).take d.sz=_ from a2]
      exact d.M_mono (fun k hk=>hk.1) (d.dI (w1:=w1) (fun k hk=>hg.block k hk.2.2.1 (fun he=>aO k hk.1.1.2 (by injection he))) (d.dx (hold.2 U)))
theorem xr (h:H d e W base ok (.slice (some ⟨g,0,none⟩) n cap) xs i oki c) (h0:0<=i) (h1:i<n) {seg:List Value} {j:Nat} (J:j+seg.length<=d.sz) (R:∀q∈seg,q.oneCell'=true):
    H d e (W.setCells g (i.toNat*d.sz+j) seg) base ok (.slice (some ⟨g,0,none⟩) n cap) xs i oki (c.take j++seg++c.drop (j+seg.length))∧W.grownBy (W.setCells g (i.toNat*d.sz+j) seg) (some g):=by
  obtain⟨rows,_,U,aa,o,ab,ad⟩:=xp h h0 h1
  obtain⟨h2,I⟩:=ri U i h0 h1 (c:=c) (seg:=seg) (j:=j) (x':=c.take j++seg++c.drop (j+seg.length)) (okp:=fun _=>False) aa ab J
    ⟨rfl,by
      show (c.take j++seg++c.drop (j+seg.length)).length=d.sz
      simp only[List.length_append,List.length_take,List.length_drop];omega,fun u hu=>by
      rcases List.mem_append.1 hu with hu|hu
      · rcases List.mem_append.1 hu with hu|hu
        · exact o u (List.mem_of_mem_take hu)
        · exact R u hu
      · exact o u (List.mem_of_mem_drop hu)⟩ (fun _ hk=>hk.elim)
  exact⟨ad _ _ I h2,I⟩
theorem xt {okg:Nat->Prop} (o:H d e W base (fun k=>ok k∧¬okg k) (.slice (some ⟨g,0,none⟩) n cap) xs i oki c) (h0:0<=i) (h1:i<n) {seg:List Value} {j:Nat} (U:j+seg.length<=d.sz)
    {x':α} (hM:d.M W base okp x' (c.take j++seg++c.drop (j+seg.length))) (I:∀k,okp k->oki k∨okg k) (J:∀k,okg k->ok k∧k≠g):
    S d e (W.setCells g (i.toNat*d.sz+j) seg) base ok (.slice (some ⟨g,0,none⟩) n cap) (xs.set i.toNat x')∧W.grownBy (W.setCells g (i.toNat*d.sz+j) seg) (some g):=by
  have aa:∀k,oki k∨okg k->k≠g:=by
    intro k hk he
    subst he
    rcases hk with hk|hk
    · obtain⟨_,f,hR⟩:=o
      exact(hR.1 k (by simp[Value.ownBlock])).2 hk
    · exact(J k hk).2 rfl
  obtain⟨h2,R⟩:=xr (xn o (fun k hk=>(J k hk).1)) h0 h1 U (fun q hq=>d.di (d.ct hM) q (List.mem_append_left _ (List.mem_append_right _ hq)))
  exact⟨H_back h2 (nU hM (fun k hk ad=>R.block k ad (fun he=>aa k (I k hk) (by injection he)))) I,R⟩
end
end Kd
end Go.Proofs.YtffdiakgjakngaaGreatW.PrintWords
end
section
namespace Go.Proofs.YtffdiakgjakngaaGreatW.PrintWords
open Go.RowKit
end Go.Proofs.YtffdiakgjakngaaGreatW.PrintWords
end
section
namespace Go.Proofs.YtffdiakgjakngaaGreatW.PrintWords
open Go.RowKit
end Go.Proofs.YtffdiakgjakngaaGreatW.PrintWords
end
section
namespace Go.Proofs.YtffdiakgjakngaaGreatW.PrintWords
open Go.RowKit
end Go.Proofs.YtffdiakgjakngaaGreatW.PrintWords
end
section
namespace Go.Proofs.YtffdiakgjakngaaGreatW.PrintWords
open Go.RowKit
end Go.Proofs.YtffdiakgjakngaaGreatW.PrintWords
end
section
namespace Go.Proofs.YtffdiakgjakngaaGreatW.PrintWords
open Go.RowKit
def Foot (P:World->Prop) (W:World) (ok:Nat->Prop):Prop:=∀W':World,(∀k,ok k->k<W.heap.size->W'.heap[k]? =W.heap[k]?)->P W'
theorem xu {W W1:World} {k:Nat} (h:W1.heap[k]? =W.heap[k]?) (j:k<W.heap.size):k<W1.heap.size:=by
  rw[Array.getElem?_eq_getElem j] at h
  exact(Array.getElem?_eq_some_iff.1 h).1
namespace Foot
variable {P Q:World->Prop} {W W1:World} {ok ok':Nat->Prop}
theorem now (h:Foot P W ok):P W:=h W (fun _ _ _=>rfl)
theorem mono (h:Foot P W ok) (hok:∀k,ok k->ok' k):Foot P W ok':=fun W' j=>h W' (fun k hk o=>j k (hok k hk) o)
theorem bound (h:Foot P W ok):Foot P W (fun k=>ok k∧k<W.heap.size):=fun W' o=>h W' (fun k hk j=>o k ⟨hk,j⟩ j)
theorem step (h:Foot P W ok) (hm:∀k,ok k->k<W.heap.size->W1.heap[k]? =W.heap[k]?):Foot P W1 ok:=fun W' o=>h W' (fun k hk j=>(o k hk (xu (hm k hk j) j)).trans (hm k hk j))
theorem rH (h:Foot P W ok) (hb:Below W.heap.size W W1):Foot P W1 (fun k=>ok k∧k<W.heap.size):=(h.bound).step (fun k _ j=>hb.block k j)
end Foot
namespace Kd
def F {α:Type} (d:Kd α) (W:World) (ok:Nat->Prop) (A:Option Addr) (n:Nat) (xs:List α):Prop:=Foot (fun W=>d.C W A n xs) W ok
def FK {α:Type} (d:Kd α) (W:World) (ok:Nat->Prop) (x:α) (c:List Value):Prop:=Foot (fun W=>d.K W x c) W ok
section
variable {α β:Type} {d:Kd α} {e base n n' cc g N:Nat} {ok ok' okp S:Nat->Prop} {w w0 w1 W W1:World} {A A':Option Addr} {u v v1:Value} {xs:List α} {xs':List β} {d':Kd β} {x:α} {c:List Value}
theorem xw (h:F d W ok A n xs):d.C W A n xs:=Foot.now h
theorem mA (h:F d W ok A n xs) (hok:∀k,ok k->ok' k):F d W ok' A n xs:=Foot.mono h hok
theorem xx (h:F d W ok A n xs):F d W (fun k=>ok k∧k<W.heap.size) A n xs:=Foot.bound h
theorem xz (h:F d W ok A n xs) (j:∀k,v.ownBlock=some k->W.heap.size<=k) (hb:Below W.heap.size W W1):F d W1 (fun k=>ok k∧some k≠v.ownBlock) A n xs:=
  mA (Foot.rH h hb) (fun k hk=>⟨hk.1,fun he=>by have:=j k he.symm;have:=hk.2;omega⟩)
theorem xA (h:F d W (fun k=>ok k∧some k≠v.ownBlock) A n xs) (o:W.grownBy W1 v.ownBlock) (j:v1.ownBlock=v.ownBlock∨∃b,v1.ownBlock=some b∧W.heap.size<=b):F d W1 (fun k=>ok k∧some k≠v1.ownBlock) A n xs:=by
  refine mA (Foot.step (xx h) (fun k hk I=>o.block k I hk.1.2)) (fun k hk=>⟨hk.1.1,?_⟩)
  rcases j with j|⟨b,hb,hle⟩
  · rw[j];exact hk.1.2
  · rw[hb]
    intro he
    injection he with he
    have:=hk.2
    omega
theorem xB (h:F d W ok A n xs) (hb:Below W.heap.size W W1):F d W1 (fun k=>ok k∧k<W.heap.size) A n xs:=Foot.rH h hb
theorem xC (h:F d W1 (fun k=>ok k∧k<N) A n xs) (j:∀k,v.ownBlock=some k->N<=k):F d W1 (fun k=>(ok k∧some k≠v.ownBlock)∧k<N) A n xs:=
  mA h (fun k hk=>⟨⟨hk.1,fun he=>Nat.lt_irrefl _ (Nat.lt_of_lt_of_le hk.2 (j k he.symm))⟩,hk.2⟩)
theorem xD (h:d.R e W base ok (.slice A n cc) xs):F d W ok A n xs:=fun W' j=>by
  have h2:=aC (kh h j)
  rw[h2.1]
  exact h2.2.2
theorem ko (h:FK d W ok x c):d.K W x c:=Foot.now h
theorem kp (h:FK d W ok x c) (hok:∀k,ok k->ok' k):FK d W ok' x c:=Foot.mono h hok
theorem rI (h:FK d W ok x c):FK d W (fun k=>ok k∧k<W.heap.size) x c:=Foot.bound h
theorem lr (h:FK d W ok x c) (hm:∀k,ok k->k<W.heap.size->W1.heap[k]? =W.heap[k]?):FK d W1 ok x c:=Foot.step h hm
theorem xE (h:FK d W ok x c) (hb:Below W.heap.size W W1):FK d W1 ok x c:=lr h (fun k _ j=>hb.block k j)
theorem xF (h:d.M W base ok x c):FK d W ok x c:=fun _ j=>d.ct (nU h j)
end
end Kd
end Go.Proofs.YtffdiakgjakngaaGreatW.PrintWords
end
section
namespace Go.Proofs.YtffdiakgjakngaaGreatW.PrintWords
open Go.RowKit
namespace Kd
def chunks (sz:Nat) (n:Nat) (inner:List Value):List (List Value):=(List.range n).map fun j=>(inner.drop (j*sz)).take sz
theorem lu (sz n:Nat) (inner:List Value):(chunks sz n inner).length=n:=by simp[chunks]
theorem xG {sz n:Nat} {inner:List Value} {j:Nat} (o:j<n):(chunks sz n inner)[j]? =some ((inner.drop (j*sz)).take sz):=by simp[chunks,o]
theorem rJ {sz n:Nat} {inner:List Value} {j:Nat} {c:List Value} (h:(chunks sz n inner)[j]? =some c):c=(inner.drop (j*sz)).take sz:=by
  have o:j<n:=by have:=(List.getElem?_eq_some_iff.1 h).1;rwa [lu] at this
  rw[xG o] at h
  injection h with h
  exact h.symm
theorem xH {α:Type} {o:α->List Value->Prop} {sz:Nat} {xs:List α} {inner:List Value} (h:aT o sz xs inner) (J:∀x c,o x c->c.length=sz∧∀u∈c,u.oneCell'=true):aT (fun x cs=>cs=x∧cs.length=sz∧∀u∈cs,u.oneCell'=true) sz (chunks sz xs.length inner) inner:=by
  refine⟨by rw[lu];exact h.1,fun j p I=>?_⟩
  have R:j<xs.length:=by have:=(List.getElem?_eq_some_iff.1 I).1;rwa [lu] at this
  have hp:=rJ I
  exact⟨hp.symm,J _ _ (h.2 j _ (List.getElem?_eq_getElem R))⟩
section
variable {α:Type} {d:Kd α} {e base n cc g:Nat} {ok ok' okp S:Nat->Prop} {w w1 W W1:World} {A:Option Addr} {u v v1:Value} {xs:List α} {x:α} {c:List Value}
def N {α:Type} (d:Kd α) (e:Nat) (w:World) (base:Nat) (ok:Nat->Prop) (v:Value) (xs:List α):Prop:=
  (∀k,v.ownBlock=some k->ok k)∧∃rows:List (List Value),rows.length=xs.length∧(raw d.sz).R e w base (fun k=>some k=v.ownBlock) v rows∧∀(j:Nat) (x:α) (c:List Value),xs[j]? =some x->rows[j]? =some c->FK d w (fun k=>ok k∧some k≠v.ownBlock) x c
theorem ow {sz:Nat} {rows:List (List Value)} (h:(raw sz).R e w base ok v rows):(raw sz).R e w base (fun k=>some k=v.ownBlock) v rows:=fp rfl h
theorem mB {sz:Nat} {rows:List (List Value)} (h:(raw sz).R e w base ok v rows):(raw sz).R e w base (fun _=>True) v rows:=aR h (fun _ _=>trivial)
theorem oA (h:d.R e w base ok v xs):N d e w base ok v xs:=by
  obtain⟨h0,inner,ho,hr⟩:=h
  refine⟨h0,chunks d.sz xs.length inner,lu _ _ _,⟨fun k hk=>hk.symm,inner,by rw[lu];exact ho,xH hr (fun x c hp=>⟨d.c_ (d.ct hp),d.di (d.ct hp)⟩)⟩,fun j x c o hc=>?_⟩
  rw[rJ hc]
  exact xF (hr.2 j x o)
theorem fs (d:Kd α) (e:Nat) (w:World) (base:Nat) (ok:Nat->Prop):N d e w base ok (.slice none 0 0) []:=oA (cE _ _ _ _ _)
theorem dz (h:N d e w base ok v xs) (hok:∀k,ok k->ok' k):N d e w base ok' v xs:=by
  obtain⟨h0,rows,o,I,hf⟩:=h
  exact⟨fun k hk=>hok k (h0 k hk),rows,o,I,fun j x c J hc=>kp (hf j x c J hc) (fun k hk=>⟨hok k hk.1,hk.2⟩)⟩
theorem rK (h:N d e w base ok v xs):∀k,v.ownBlock=some k->k<w.heap.size:=by
  obtain⟨_,rows,_,j,_⟩:=h
  exact bq j
theorem mC (h:N d e w base ok v xs):∀k,v.ownBlock=some k->∃cells,w.heap[k]? =some (.cells cells e (0,0)):=by
  obtain⟨_,rows,_,j,_⟩:=h
  exact fI j
theorem xI (h:N d e w base ok v xs) {t:Nat} {cells:Array Value} (hb:w.heap[g]? =some (.cells cells t (0,0))) (j:e≠t):some g≠v.ownBlock:=by
  obtain⟨_,rows,_,o,_⟩:=h
  exact dj o hb j
theorem oB (h:N d e w base ok v xs):N d e w base (fun k=>ok k∧k<w.heap.size) v xs:=by
  have o:=rK h
  obtain⟨h0,rows,I,J,hf⟩:=h
  exact⟨fun k hk=>⟨h0 k hk,o k hk⟩,rows,I,J,fun j x c R hc=>kp (rI (hf j x c R hc)) (fun k hk=>⟨⟨hk.1.1,hk.2⟩,hk.1.2⟩)⟩
theorem lx {base':Nat} (h:N d e w base ok v xs) (hb:base'<=base):N d e w base' ok v xs:=by
  obtain⟨h0,rows,j,o,hf⟩:=h
  exact⟨h0,rows,j,aM o hb,hf⟩
theorem rL (h:N d e w base ok v xs) (hm:∀k,ok k->k<w.heap.size->w1.heap[k]? =w.heap[k]?):N d e w1 base ok v xs:=by
  obtain⟨h0,rows,I,J,hf⟩:=h
  exact⟨h0,rows,I,kh J (fun k hk o=>hm k (h0 k hk.symm) o),fun j x c R hc=>lr (hf j x c R hc) (fun k hk o=>hm k hk.1 o)⟩
theorem f_ (h:N d e w base ok v xs) (hb:Below w.heap.size w w1):N d e w1 base ok v xs:=rL h (fun k _ hk=>hb.block k hk)
theorem fK (h:N d e w base ok v xs) (o:Obj):N d e (w.alloc o) base ok v xs:=f_ h (al (Below.refl _ _) o)
theorem fL (h:N d e w base ok v xs):N d e w.drew base ok v xs:=f_ h (fH (Below.refl _ _))
theorem fM (h:N d e w base ok v xs) (m:Nat):N d e (w.drewN m) base ok v xs:=f_ h (bC (Below.refl _ _) m)
theorem xJ (h:N d e W base ok v xs) (j:∀k,u.ownBlock=some k->W.heap.size<=k) (hb:Below W.heap.size W w1):N d e w1 base (fun k=>ok k∧some k≠u.ownBlock) v xs:=
  dz (f_ (oB h) hb) (fun k hk=>⟨hk.1,fun he=>by have:=j k he.symm;have:=hk.2;omega⟩)
theorem xK (h:N d e W base (fun k=>ok k∧some k≠u.ownBlock) v xs) {j:Value} (I:W.grownBy w1 u.ownBlock) (o:j.ownBlock=u.ownBlock∨∃b,j.ownBlock=some b∧W.heap.size<=b):N d e w1 base (fun k=>ok k∧some k≠j.ownBlock) v xs:=by
  refine dz (rL (oB h) (fun k hk J=>I.block k J hk.1.2)) (fun k hk=>⟨hk.1.1,?_⟩)
  rcases o with o|⟨b,hb,hle⟩
  · rw[o];exact hk.1.2
  · rw[hb]
    intro he
    injection he with he
    have:=hk.2
    omega
theorem mD (h:N d e W base ok v xs) (hb:Below W.heap.size W w1):N d e w1 base (fun k=>ok k∧k<W.heap.size) v xs:=f_ (oB h) hb
theorem i_ {b:Nat} (h:N d e w1 base (fun k=>ok k∧k<b) v xs) (j:∀k,u.ownBlock=some k->b<=k):N d e w1 base (fun k=>(ok k∧some k≠u.ownBlock)∧k<b) v xs:=
  dz h (fun k hk=>⟨⟨hk.1,fun e=>Nat.lt_irrefl _ (Nat.lt_of_lt_of_le hk.2 (j k e.symm))⟩,hk.2⟩)
theorem oC (h:N d e w base ok v xs):∃A c,v= .slice A xs.length c:=by
  obtain⟨_,rows,j,o,_⟩:=h
  obtain⟨A,c,he⟩:=a7 o
  exact⟨A,c,by rw[he,j]⟩
theorem xL (h:N d e w base ok v xs) (hp:0<xs.length):∃g cap,v= .slice (some ⟨g,0,none⟩) xs.length cap∧base<=g∧g<w.heap.size∧∃cells,w.heap[g]? =some (.cells cells e (0,0)):=by
  obtain⟨_,rows,j,o,_⟩:=h
  rw[<-j] at hp⊢
  exact eH o hp
theorem fN {n c:Nat} (h:N d e w base ok (.slice A n c) xs):n=xs.length∧n<=c∧d.C w A xs.length xs:=by
  obtain⟨_,rows,R,U,hf⟩:=h
  obtain⟨hn,hc,hC⟩:=aC U
  refine⟨by omega,hc,?_⟩
  rw[R] at hC
  refine⟨rfl,hC.2.1,fun hp=>?_⟩
  obtain⟨ad,he,aa⟩:=hC.2.2 hp
  refine⟨ad,he,fun j p o=>?_⟩
  have I:j<rows.length:=by have:=(List.getElem?_eq_some_iff.1 o).1;omega
  obtain⟨J,ab,hK,ak⟩:=aa j _ (List.getElem?_eq_getElem I)
  have hk:=ko (hf j p _ o (List.getElem?_eq_getElem I))
  refine⟨J,ab,?_,ak⟩
  rw[show J=rows[j] from hK.1]
  exact hk
theorem oD {n cap:Nat} (h:N d e W base ok (.slice (some ⟨g,0,none⟩) n cap) xs) (z:α) (i:Int) (h0:0<=i) (h1:i<n):
    ∃c,c.length=d.sz∧FK d W (fun k=>ok k∧k≠g) (xs.getD i.toNat z) c∧(∀j u,c[j]? =some u->W.cell? ⟨g,i.toNat*d.sz+j,none⟩=some u)∧∀j,W.frozen? ⟨g,i.toNat*d.sz+j,none⟩=false:=by
  obtain⟨_,rows,hl,o,hf⟩:=h
  have hn:=(aC o).1
  obtain⟨c,R,hM,U,aa⟩:=rh o [] i h0 h1
  have I:i.toNat<rows.length:=by omega
  have J:i.toNat<xs.length:=by omega
  have hc:c=rows[i.toNat]:=by
    have h2:=hM.1
    rwa [List.getD_eq_getElem?_getD,List.getElem?_eq_getElem I] at h2
  refine⟨c,R,?_,U,aa⟩
  rw[List.getD_eq_getElem?_getD,List.getElem?_eq_getElem J]
  exact kp (hf _ _ _ (List.getElem?_eq_getElem J) (by rw[hc];exact List.getElem?_eq_getElem I)) (fun k hk=>⟨hk.1,fun he=>hk.2 (by rw[he];simp[Value.ownBlock])⟩)
theorem ly {ad:Addr} {n cap:Nat} (h:N d e W base ok (.slice (some ad) n cap) xs) (z:α) (i:Int) (h0:0<=i) (h1:i<n):
    ∃c,c.length=d.sz∧FK d W (fun k=>ok k∧some k≠(Value.slice (some ad) n cap).ownBlock) (xs.getD i.toNat z) c∧∀j u,c[j]? =some u->W.cell? (ad.add (i.toNat*d.sz+j))=some u:=by
  obtain⟨g,rfl⟩:∃g,ad=⟨g,0,none⟩:=by
    obtain⟨_,rows,_,o,_⟩:=h
    exact oe o
  obtain⟨c,I,hM,J,_⟩:=oD h z i h0 h1
  refine⟨c,I,kp hM (fun k hk=>⟨hk.1,fun he=>hk.2 (by simpa [Value.ownBlock] using he)⟩),fun j u hu=>?_⟩
  rw[fZ,Nat.zero_add]
  exact J j u hu
end
end Kd
end Go.Proofs.YtffdiakgjakngaaGreatW.PrintWords
end
section
namespace Go.Proofs.YtffdiakgjakngaaGreatW.PrintWords
open Go.RowKit
namespace Kd
section
variable {α:Type} {d:Kd α} {e base n cap g:Nat} {ok ok' okp:Nat->Prop} {w w1 W:World} {v v1:Value} {xs ys:List α}
theorem xM {rows news:List (List Value)} (h0:∀k,v.ownBlock=some k->ok k) (hl:rows.length=xs.length) (hf:∀(j:Nat) (x:α) (c:List Value),xs[j]? =some x->rows[j]? =some c->FK d W (fun k=>ok k∧some k≠v.ownBlock) x c)
    (ab:news.length=ys.length) (ad:∀(j:Nat) (x:α) (c:List Value),ys[j]? =some x->news[j]? =some c->FK d W okp x c) (ag:∀k,okp k->ok k∧some k≠v.ownBlock) (ak:∀k,W.heap.size<=k->ok k)
    (hR:(raw d.sz).R e w1 base (fun _=>True) v1 (rows++news)) (hg:W.grownBy w1 v.ownBlock) (I:v1.ownBlock=v.ownBlock∨∃b,v1.ownBlock=some b∧W.heap.size<=b):N d e w1 base ok v1 (xs++ys):=by
  have av:∀k,some k≠v.ownBlock->k<W.heap.size->some k≠v1.ownBlock:=by
    intro k hk J
    rcases I with I|⟨b,hb,hle⟩
    · rw[I];exact hk
    · rw[hb]
      intro he
      injection he with he
      omega
  have step:∀{x:α} {c:List Value} {o:Nat->Prop},FK d W o x c->(∀k,o k->ok k∧some k≠v.ownBlock)->FK d w1 (fun k=>ok k∧some k≠v1.ownBlock) x c:=by
    intro x c o hq ho
    exact kp (lr (rI hq) (fun k hk J=>hg.block k J (ho k hk.1).2)) (fun k hk=>⟨(ho k hk.1).1,av k (ho k hk.1).2 hk.2⟩)
  refine⟨fun k hk=>?_,rows++news,by rw[List.length_append,List.length_append,hl,ab],ow hR,fun j x c U hc=>?_⟩
  · rcases I with I|⟨b,hb,hle⟩
    · exact h0 k (I▸hk)
    · rw[hb] at hk
      injection hk with hk
      exact ak k (by omega)
  · rcases Nat.lt_or_ge j xs.length with J|aB
    · rw[List.getElem?_append_left J] at U
      rw[List.getElem?_append_left (by omega)] at hc
      exact step (hf j x c U hc) (fun _ hk=>hk)
    · rw[List.getElem?_append_right aB] at U
      rw[List.getElem?_append_right (by omega),hl] at hc
      exact step (ad _ x c U hc) ag
theorem xN {x:α} {c:List Value} (h:FK d W ok x c):c=c∧c.length=d.sz∧∀u∈c,u.oneCell'=true:=⟨rfl,d.c_ (ko h),d.di (ko h)⟩
theorem xO {rows:List (List Value)} {i:Int} {x':α} {I:List Value} (h0:∀k,(Value.slice (some ⟨g,0,none⟩) n cap).ownBlock=some k->ok k) (hl:rows.length=xs.length) (hf:∀(j:Nat) (x:α) (c:List Value),xs[j]? =some x->rows[j]? =some c->FK d W (fun k=>ok k∧some k≠(Value.slice (some ⟨g,0,none⟩) n cap).ownBlock) x c)
    (hR:(raw d.sz).R e w1 base (fun _=>True) (.slice (some ⟨g,0,none⟩) n cap) (rows.set i.toNat I)) (hg:W.grownBy w1 (some g)) (hM:FK d W okp x' I) (J:∀k,okp k->ok k∧k≠g):N d e w1 base ok (.slice (some ⟨g,0,none⟩) n cap) (xs.set i.toNat x'):=by
  have ab:some g=(Value.slice (some ⟨g,0,none⟩) n cap).ownBlock:=by simp[Value.ownBlock]
  refine⟨h0,rows.set i.toNat I,by rw[List.length_set,List.length_set,hl],ow hR,fun j x c o hc=>?_⟩
  have an:j<xs.length:=by have:=(List.getElem?_eq_some_iff.1 o).1;rwa [List.length_set] at this
  by_cases ad:j=i.toNat
  · subst ad
    rw[List.getElem?_set_self an] at o
    rw[List.getElem?_set_self (by omega)] at hc
    injection o with o
    injection hc with hc
    rw[<-o,<-hc]
    exact kp (lr hM (fun k hk U=>hg.block k U (fun he=>(J k hk).2 (by injection he)))) (fun k hk=>⟨(J k hk).1,fun he=>(J k hk).2 (by rw[<-ab] at he;injection he)⟩)
  · rw[List.getElem?_set_ne (Ne.symm ad)] at o hc
    exact lr (hf j x c o hc) (fun k hk U=>hg.block k U (by rw[ab];exact hk.2))
theorem xP {A:Option Addr} {m c:Nat} (h:N d e w base ok (.slice A n c) xs) (hm:m<=xs.length):N d e w base ok (.slice A m c) (xs.take m):=by
  obtain⟨h0,rows,I,J,hf⟩:=h
  have hb:∀x y:Nat,(Value.slice A x c).ownBlock=(Value.slice A y c).ownBlock:=by
    intro x y
    cases A<;>rfl
  refine⟨fun k hk=>h0 k (by rw[hb _ m];exact hk),rows.take m,by rw[List.length_take,List.length_take,I],ow (wv (mB J) (by omega)),fun j x R o hc=>?_⟩
  rw[List.getElem?_take] at o hc
  split at o
  · rename_i U
    rw[if_pos U] at hc
    rw[hb m n]
    exact hf j x R o hc
  · cases o
theorem xQ (h:N d e W base ok (.slice (some ⟨g,0,none⟩) n cap) xs) (i:Int) (h0:0<=i) (h1:i<n) {c seg:List Value} {j:Nat} (I:c.length=d.sz) (J:∀j u,c[j]? =some u->W.cell? ⟨g,i.toNat*d.sz+j,none⟩=some u)
    (R:j+seg.length<=d.sz) {x':α} (hM:FK d W okp x' (c.take j++seg++c.drop (j+seg.length))) (U:∀k,okp k->ok k∧k≠g):
    N d e (W.setCells g (i.toNat*d.sz+j) seg) base ok (.slice (some ⟨g,0,none⟩) n cap) (xs.set i.toNat x')∧W.grownBy (W.setCells g (i.toNat*d.sz+j) seg) (some g):=by
  obtain⟨hown,rows,hl,hR,hf⟩:=h
  obtain⟨h2,o⟩:=ri (mB hR) i h0 h1 (c:=c) (seg:=seg) (j:=j) (x':=c.take j++seg++c.drop (j+seg.length)) (okp:=fun _=>False) I J R ⟨rfl,d.c_ (ko hM),d.di (ko hM)⟩ (fun _ hk=>hk.elim)
  exact⟨xO hown hl hf h2 o hM U,o⟩
end
section
variable {P:Program} {ops:Array Oper} {rest:List Oper} {o:Oper} {a:Act} {Q:Exit->Act->World->Prop} {Kc:Act->World->Prop} {α:Type}
theorem xR (d:Kd α) {w0 W:World} (base:Nat) (aa:o.guard=none) (s x:Operand) (t e:TypeId) (z:Value) (bytes:Nat)
    (ho:o.op= .call {callee:=.builtin .append,args:=#[s,x],argTypes:=#[t,t]})
    (ht:P.underlying t=some (.slice e)) (ad:(P.info? e).map (fun i=>(i.zero,i.size,i.bytes))=some (some z,d.sz,bytes)) (hz:z.cells.size=d.sz) (ak:0<d.sz) (an:0<bytes)
    (v:Value) (xs:List α) (p:α) (cs:List Value) (ok okp:Nat->Prop) (hs:a.eval s=v) (hx:a.eval x= .slice (some ⟨W.heap.size,0,none⟩) 1 1) (hp:FK d W okp p cs) (aB:∀k,okp k->ok k∧some k≠v.ownBlock) (aF:∀k,W.heap.size<=k->ok k)
    (HO:N d e W base ok v xs) (HB:Below base w0 W) (aP:base<=W.heap.size) (hl:(xs.length+1)*bytes<=140737488355328)
    (h:∀v1 w1,N d e w1 base ok v1 (xs++[p])->Below base w0 w1->W.grownBy w1 v.ownBlock->(v1.ownBlock=v.ownBlock∨∃b,v1.ownBlock=some b∧W.heap.size<=b)->wpList P ops Q rest (a.put o.dst v1) w1):
    wpList P ops Q (o::rest) a (W.alloc (.cells cs.toArray e)):=by
  obtain⟨h0,rows,J,hR,hf⟩:=HO
  refine kX (raw d.sz) base aa s x t e z bytes ho ht ad hz ak an v rows cs cs (fun _=>True) (fun _=>False) hs hx (xN hp) (fun _ hk=>hk.elim) (fun _ _=>trivial) (mB hR) HB aP (by rw[J];exact hl) ?_
  intro v1 w1 hr hb R U
  exact h v1 w1 (xM h0 J hf (ys:=[p]) (news:=[cs]) rfl (fun j y c I hc=>by
    rcases j with _|j
    · simp only[List.getElem?_cons_zero,Option.some.injEq] at I hc
      rw[<-I,<-hc];exact hp
    · simp at I) aB aF hr R U) hb R U
end
end Kd
end Go.Proofs.YtffdiakgjakngaaGreatW.PrintWords
end
section
namespace Go.Proofs.YtffdiakgjakngaaGreatW.PrintMore
open Go.RowKit Go.Proofs.YtffdiakgjakngaaGreatW.PrintWords
namespace Kd
open Go.Proofs.YtffdiakgjakngaaGreatW.PrintWords.Kd
end Kd
namespace Kd
open Go.Proofs.YtffdiakgjakngaaGreatW.PrintWords.Kd
section
variable {α:Type} {d:Kd α} {e base g N:Nat} {ok:Nat->Prop} {W w1:World} {u v:Value} {xs:List α}
theorem mE (hu:d.R e W base ok u xs) (hb:Below W.heap.size W w1):d.R e w1 base (fun k=>ok k∧k<W.heap.size) u xs:=
  aR (bY (dR hu) hb) (fun _ h=>⟨h.1,h.2.2.1⟩)
theorem i' (h:d.R e w1 base (fun k=>ok k∧k<N) u xs) (j:∀k,v.ownBlock=some k->N<=k):d.R e w1 base (fun k=>(ok k∧some k≠v.ownBlock)∧k<N) u xs:=
  aR h (fun k hk=>⟨⟨hk.1,fun e=>Nat.lt_irrefl _ (Nat.lt_of_lt_of_le hk.2 (j k e.symm))⟩,hk.2⟩)
end
end Kd
theorem jG (k k':IntKind) (x y:Int):Builtin.max2 (.int k x) (.int k' y)=pure (.int k (if x<y then y else x)):=by simp only[Builtin.max2,gt_iff_lt]
theorem jH (k k':IntKind) (x y:Int):Builtin.min2 (.int k x) (.int k' y)=pure (.int k (if y<x then y else x)):=by simp only[Builtin.min2]
theorem jI (j:Array TypeId) (ty:TypeId) (a b:Value):Builtin.max_ j ty #[a,b]=(Builtin.max2 a b>>=fun s=>pure s):=by simp only[Builtin.max_,List.foldlM_cons,List.foldlM_nil]
theorem jJ (j:Array TypeId) (ty:TypeId) (a b:Value):Builtin.min_ j ty #[a,b]=(Builtin.min2 a b>>=fun s=>pure s):=by simp only[Builtin.min_,List.foldlM_cons,List.foldlM_nil]
theorem mF (j:Array TypeId) (ty:TypeId) (a b c:Value):Builtin.max_ j ty #[a,b,c]=(Builtin.max2 a b>>=fun s=>Builtin.max2 s c>>=fun s=>pure s):=by simp only[Builtin.max_,List.foldlM_cons,List.foldlM_nil]
theorem mG (j:Array TypeId) (ty:TypeId) (a b c:Value):Builtin.min_ j ty #[a,b,c]=(Builtin.min2 a b>>=fun s=>Builtin.min2 s c>>=fun s=>pure s):=by simp only[Builtin.min_,List.foldlM_cons,List.foldlM_nil]
theorem mH (j:Array TypeId) (ty:TypeId) (a b c d:Value):Builtin.max_ j ty #[a,b,c,d]=(Builtin.max2 a b>>=fun s=>Builtin.max2 s c>>=fun s=>Builtin.max2 s d>>=fun s=>pure s):=by simp only[Builtin.max_,List.foldlM_cons,List.foldlM_nil]
theorem mI (j:Array TypeId) (ty:TypeId) (a b c d:Value):Builtin.min_ j ty #[a,b,c,d]=(Builtin.min2 a b>>=fun s=>Builtin.min2 s c>>=fun s=>Builtin.min2 s d>>=fun s=>pure s):=by simp only[Builtin.min_,List.foldlM_cons,List.foldlM_nil]
end Go.Proofs.YtffdiakgjakngaaGreatW.PrintMore
namespace Go.Proofs.YtffdiakgjakngaaGreatW.PrintWords
open Go.RowKit
section
variable {P:Program} {ops:Array Oper} {rest:List Oper} {o:Oper} {a:Act} {Q:Exit->Act->World->Prop} {W:World}
theorem au {f:FuncId} {as:Array Operand} {j:Array TypeId} (_ho:o.op= .call {callee:=.value (.func f),args:=as,argTypes:=j}) (h:wpList P ops Q (o::rest) a W):wpList P ops Q (o::rest) a W:=h
theorem oE {b:Builtin} {xs:Array Operand} {j:Array TypeId} (_ho:o.op= .call {callee:=.builtin b,args:=xs,argTypes:=j}) (h:wpList P ops Q (o::rest) a W):wpList P ops Q (o::rest) a W:=h
end
def mx (a b:Int):Int:=if a<b then b else a
def mn (a b:Int):Int:=if b<a then b else a
namespace Kd
section
variable {α:Type} {d:Kd α} {e base:Nat} {ok:Nat->Prop} {W w1:World} {v:Value} {xs:List α}
theorem ga (h:d.R e W base ok v xs) (j:d.E=[]) {row:Option Nat} (o:W.grownBy w1 row) (I:row≠v.ownBlock):d.R e w1 base ok v xs:=
  aR (ki (fp j h) o (fun _ hk J=>I (J.symm.trans hk))) (fun k hk=>h.1 k hk.symm)
end
section
variable {α:Type} {d:Kd α} {e base b b' g N:Nat} {ok ok1:Nat->Prop} {W W2 w1:World} {u v:Value} {xs ys:List α} {S:Nat->Prop}
theorem rM (j:d.E=[]) (h:d.R e W base ok1 v xs) (hok:∀k,v.ownBlock=some k->ok k):d.R e W base ok v xs:=aR (fp j h) (fun k hk=>hok k hk.symm)
end
end Kd
end Go.Proofs.YtffdiakgjakngaaGreatW.PrintWords
namespace Go.Proofs.YtffdiakgjakngaaGreatW.PrintWords
open Go.RowKit
namespace Kd
def V {α:Type} (d:Kd α) (_e:Nat) (W:World) (_base:Nat) (ok:Nat->Prop) (v:Value) (xs:List α):Prop:=∃A c,v= .slice A xs.length c∧xs.length<=c∧F d W ok A xs.length xs
section
variable {α β:Type} {d:Kd α} {e base base' n m c g N' lo hi:Nat} {ok ok' S:Nat->Prop} {w W w1:World} {A:Option Addr} {ad:Addr} {u v v1:Value} {xs:List α}
theorem lz (h:V d e W base ok v xs) (hF:∀A,F d W ok A xs.length xs->F d w1 ok' A xs.length xs):V d e w1 base' ok' v xs:=by
  obtain⟨A,c,j,o,hf⟩:=h
  exact⟨A,c,j,o,hF A hf⟩
theorem lA (j:xs.length<=c) (hf:F d W ok A xs.length xs):V d e W base ok (.slice A xs.length c) xs:=⟨A,c,rfl,j,hf⟩
theorem kr (h:V d e W base ok v xs) (hok:∀k,ok k->ok' k):V d e W base ok' v xs:=lz h (fun _ hf=>mA hf hok)
theorem xS (h:V d e W base (fun k=>ok k∧some k≠u.ownBlock) v xs) (j:W.grownBy w1 u.ownBlock) (o:v1.ownBlock=u.ownBlock∨∃b,v1.ownBlock=some b∧W.heap.size<=b):V d e w1 base (fun k=>ok k∧some k≠v1.ownBlock) v xs:=lz h (fun _ hf=>xA hf j o)
theorem rN (h:V d e W base (fun k=>ok k∧some k≠v.ownBlock) u xs) (j:W.grownBy w1 v.ownBlock) (o:v1.ownBlock=v.ownBlock∨∃b,v1.ownBlock=some b∧W.heap.size<=b):V d e w1 base (fun k=>ok k∧some k≠v1.ownBlock) u xs:=xS h j o
theorem oF (h:N d e W base (fun k=>ok k∧some k≠v.ownBlock) u xs) (j:W.grownBy w1 v.ownBlock) (o:v1.ownBlock=v.ownBlock∨∃b,v1.ownBlock=some b∧W.heap.size<=b):N d e w1 base (fun k=>ok k∧some k≠v1.ownBlock) u xs:=xK h j o
theorem lB (h:V d e W base ok v xs) (j:∀k,u.ownBlock=some k->W.heap.size<=k) (hb:Below W.heap.size W w1):V d e w1 base (fun k=>ok k∧some k≠u.ownBlock) v xs:=lz h (fun _ hf=>xz hf j hb)
theorem mJ (h:V d e W base ok v xs) (hb:Below W.heap.size W w1):V d e w1 base (fun k=>ok k∧k<W.heap.size) v xs:=lz h (fun _ hf=>xB hf hb)
theorem ja (h:V d e w1 base (fun k=>ok k∧k<N') v xs) (j:∀k,u.ownBlock=some k->N'<=k):V d e w1 base (fun k=>(ok k∧some k≠u.ownBlock)∧k<N') v xs:=lz h (fun _ hf=>xC hf j)
theorem ku {l:List α} {cs:List Value} (h:FK (Kd.slice e d) W ok l cs):∃A c,cs=[.slice A l.length c]∧l.length<=c∧F d W ok A l.length l:=by
  obtain⟨A,c,rfl,j,_⟩:=ko h
  refine⟨A,c,rfl,j,fun W' o=>?_⟩
  obtain⟨A',R,he,_,I⟩:=h W' o
  injection he with he _
  injection he with J _ _
  rw[J]
  exact I
theorem xT {l:List α} (j:l.length<=c) (hf:F d W ok A l.length l):FK (Kd.slice e d) W ok l [.slice A l.length c]:=fun W' o=>⟨A,c,rfl,j,hf W' o⟩
theorem xU {M:Nat->Prop} (h:d.R e w1 W.heap.size ok v xs) (hle:w.heap.size<=W.heap.size) (hM:∀k,w.heap.size<=k->M k):d.R e w1 W.heap.size (fun k=>M k∧ok k) v xs:=aR (dR h) (fun k hk=>⟨hM k (Nat.le_trans hle hk.2.1),hk.1⟩)
end
end Kd
end Go.Proofs.YtffdiakgjakngaaGreatW.PrintWords
end
section
namespace Go.Proofs.YtffdiakgjakngaaGreatW.PrintLast
open Go.Proofs.YtffdiakgjakngaaGreatW.PrintWords (Aside0)
def kx (md:Region.Mode) (o:Oper):List Nat:=(o.after.toList.filter (fun e=>Region.binds md e)).map (fun e=>e.on)
def oG (md:Region.Mode) (ops:Array Oper) (i:Nat) (I:Oper):List Nat:=(List.range ops.size).filter fun j=> !(j==i)&&match ops[j]? with
  |some o=> !(o.after.any (fun e=>Region.binds md e&&e.on==i)||I.apart ops o)
  |none=>false
def da (md:Region.Mode) (ops:Array Oper):Bool×List (List Nat×List Nat):=(Region.noSelect ops,(List.range ops.size).map fun i=>match ops[i]? with
  |some o=>(kx md o,oG md ops i o)
  |none=>([],[]))
def jb (T:List (List Nat×List Nat)) (l:List Bool) (i:Nat):Bool:= !l.getD i true&&match T[i]? with
  |some r=>r.1.all (fun j=>l.getD j false)
  |none=>false
def lC (T:List (List Nat×List Nat)) (l:List Bool):List Nat:=(List.range T.length).filter (jb T l)
def lD (T:List (List Nat×List Nat)) (l:List Bool) (i:Nat):Bool:=match T[i]? with
  |some r=>r.2.all (fun j=>l.getD j true)
  |none=>false
def mK (T:List (List Nat×List Nat)) (l:List Bool):Bool:=(List.range T.length).all fun j=> !l.getD j false||match T[j]? with
  |some r=>r.1.all (fun k=>l.getD k false)
  |none=>true
def ky (T:List (List Nat×List Nat)) (i:Nat):Nat->Nat->Bool
  |0,_=>false
  |fuel+1,d=>match T[d]? with
    |some r=>r.1.any fun j=>j==i||ky T i fuel j
    |none=>false
def mL (T:List (List Nat×List Nat)) (l:List Bool) (ds:List Nat) (i:Nat):Bool:=ds.all fun d=>l.getD d true||ky T i T.length d
section
variable {md:Region.Mode} {ops:Array Oper} {T:Bool×List (List Nat×List Nat)} {l l' li lj lk:Array Bool} {ds:List Nat} {i j k:Nat}
theorem gd (l:Array Bool) (j:Nat) (b:Bool):l.getD j b=l.toList.getD j b:=by simp[Array.getD_eq_getD_getElem?,List.getD_eq_getElem?_getD]
theorem rO (o:Oper) (p:Nat->Bool):o.after.all (fun e=> !Region.binds md e||p e.on)=(kx md o).all p:=by
  unfold kx
  rw[<-Array.all_toList]
  induction o.after.toList with
  |nil=>rfl
  |cons e r j=>
    rw[List.all_cons,j,List.filter_cons]
    cases h:Region.binds md e<;>simp
theorem xV (o:Oper) (p:Nat->Bool):o.after.any (fun e=>Region.binds md e&&p e.on)=(kx md o).any p:=by
  unfold kx
  rw[<-Array.any_toList]
  induction o.after.toList with
  |nil=>rfl
  |cons e r j=>
    rw[List.any_cons,j,List.filter_cons]
    cases h:Region.binds md e<;>simp
theorem mM:(da md ops).2.length=ops.size:=by simp[da]
theorem mN {o:Oper} (h:ops[i]? =some o):(da md ops).2[i]? =some (kx md o,oG md ops i o):=by
  have hi:=(Array.getElem?_eq_some_iff.1 h).1
  unfold da
  rw[List.getElem?_map,List.getElem?_range hi,Option.map_some,h]
theorem mO (h:ops[i]? =none):(da md ops).2[i]? =none:=by
  have hi:ops.size<=i:=Array.getElem?_eq_none_iff.1 h
  exact List.getElem?_eq_none (by rw[mM];exact hi)
theorem xW:jb (da md ops).2 l.toList i=(!l.getD i true&&((ops[i]?).map (·.after.all fun e=> !Region.binds md e||l.getD e.on false)).getD false):=by
  unfold jb
  rw[gd]
  cases h:ops[i]? with
  |none=>rw[mO h];rfl
  |some o=>
    rw[mN h]
    simp only[Option.map_some,Option.getD_some]
    rw[<-rO]
    simp only[gd]
theorem oH:Region.ready md ops l=lC (da md ops).2 l.toList:=by
  unfold Region.ready lC
  rw[mM]
  refine List.filter_congr (fun i _=>?_)
  rw[xW]
theorem rP:Region.free md ops l i=lD (da md ops).2 l.toList i:=by
  unfold Region.free lD
  cases h:ops[i]? with
  |none=>rw[mO h]
  |some I=>
    rw[mN h]
    simp only[oG]
    rw[List.all_filter]
    congr 1
    funext j
    rw[gd]
    cases J:ops[j]? with
    |none=>cases (j==i)<;>cases (l.toList.getD j true)<;>simp
    |some o=>
      cases (j==i)<;>cases (l.toList.getD j true)<;>cases (o.after.any (fun e=>Region.binds md e&&e.on==i)||I.apart ops o)<;>simp_all
theorem xX:Region.ll md ops l=mK (da md ops).2 l.toList:=by
  unfold Region.ll mK
  rw[mM]
  congr 1
  funext j
  rw[gd]
  cases h:ops[j]? with
  |none=>rw[mO h]
  |some o=>
    rw[mN h]
    simp only
    rw[<-rO]
    simp only[gd]
theorem rQ:∀(fuel d:Nat),Region.fJ md ops i fuel d=ky (da md ops).2 i fuel d
  |0,_=>rfl
  |fuel+1,d=>by
    unfold Region.fJ ky
    cases h:ops[d]? with
    |none=>rw[mO h]
    |some o=>
      rw[mN h]
      simp only
      rw[<-xV]
      congr 1
      funext e
      rw[rQ fuel]
theorem xY:Region.mq md ops l ds i=mL (da md ops).2 l.toList ds i:=by
  unfold Region.mq mL
  rw[mM]
  congr 1
  funext d
  rw[gd,rQ]
theorem rR (h:jb T.2 l.toList i=true) (j:da md ops=T):(Region.ready md ops l).contains i=true:=by
  subst j
  rw[oH]
  unfold lC
  rw[List.contains_iff_mem,List.mem_filter,List.mem_range]
  refine⟨?_,h⟩
  unfold jb at h
  rw[Bool.and_eq_true] at h
  cases hq:(da md ops).2[i]? with
  |none=>rw[hq] at h;simp at h
  |some r=>exact(List.getElem?_eq_some_iff.1 hq).1
theorem oI (h:(l.toList.set i true==l'.toList)=true):(l.setIfInBounds i true==l')=true:=by
  rw[beq_iff_eq] at h⊢
  apply Array.ext'
  rw[Array.toList_setIfInBounds]
  exact h
def rS (T:Bool×List (List Nat×List Nat)) (l l':List Bool) (i:Nat):Bool:=T.1&&lD T.2 l i&&jb T.2 l i&&(l.set i true==l')
theorem bS (j:da md ops=T) (h:rS T l.toList l'.toList i=true):mu md ops l l' i=true:=by
  simp only[rS,Bool.and_eq_true] at h
  obtain⟨⟨⟨h1,h2⟩,o⟩,I⟩:=h
  have J:=rR o j
  have R:=oI I
  subst j
  simp only[mu,Bool.and_eq_true]
  exact⟨⟨⟨h1,by rw[rP];exact h2⟩,J⟩,R⟩
def oJ (T:Bool×List (List Nat×List Nat)) (ds:List Nat) (l l':List Bool) (i:Nat):Bool:=T.1&&lD T.2 l i&&jb T.2 l i&&mK T.2 l&&mL T.2 l ds i&&(l.set i true==l')
theorem xZ (j:da md ops=T) (h:oJ T ds l.toList l'.toList i=true):ln md ops ds l l' i=true:=by
  simp only[oJ,Bool.and_eq_true] at h
  obtain⟨⟨⟨⟨⟨h1,h2⟩,o⟩,I⟩,J⟩,R⟩:=h
  have U:=rR o j
  have h8:=oI R
  subst j
  simp only[ln,Bool.and_eq_true]
  exact⟨⟨⟨⟨⟨h1,by rw[rP];exact h2⟩,U⟩,by rw[xX];exact I⟩,by rw[xY];exact J⟩,h8⟩
theorem ie (j:da md ops=T) (h:(lC T.2 l.toList==[i]&&l.toList.set i true==l'.toList)=true):kl md ops l l' i=true:=by
  simp only[Bool.and_eq_true] at h
  obtain⟨h1,h2⟩:=h
  subst j
  simp only[kl,Bool.and_eq_true]
  exact⟨by rw[oH];exact h1,oI h2⟩
theorem mP (j:da md ops=T) (h:(lC T.2 l.toList==[])=true):(Region.ready md ops l==[])=true:=by
  subst j
  rw[oH]
  exact h
def jK (B:List Nat) (d:Nat):List Nat->Nat
  |[]=>0
  |n::r=>(2 ^ n|||(if n<d then B.getD n 0 else 0))|||jK B d r
def jL (T:List (List Nat×List Nat)) (B:List Nat):Bool:=(List.range T.length).all fun d=>match T[d]? with
  |some r=>(B.getD d 0|||jK B d r.1)==jK B d r.1
  |none=>false
theorem rT {B:List Nat} {d i:Nat}:∀{ns:List Nat},(jK B d ns).testBit i=true->∃n∈ns,n=i∨(n<d∧(B.getD n 0).testBit i=true)
  |[],h=>by simp[jK] at h
  |n::r,h=>by
    unfold jK at h
    rw[Nat.testBit_or,Nat.testBit_or,Bool.or_eq_true,Bool.or_eq_true] at h
    rcases h with (h|h)|h
    · rw[Nat.testBit_two_pow] at h
      exact⟨n,List.mem_cons_self,.inl (by simpa using h)⟩
    · by_cases j:n<d
      · rw[if_pos j] at h
        exact⟨n,List.mem_cons_self,.inr ⟨j,h⟩⟩
      · rw[if_neg j] at h
        simp at h
    · obtain⟨m,hm,h2⟩:=rT h
      exact⟨m,List.mem_cons_of_mem _ hm,h2⟩
theorem rU {T:List (List Nat×List Nat)} {B:List Nat} (j:jL T B=true):∀(fuel d:Nat),d<fuel->d<T.length->(B.getD d 0).testBit i=true->ky T i fuel d=true
  |0,d,h,_,_=>by omega
  |fuel+1,d,h,hd,hb=>by
    have h1:=List.all_eq_true.1 j d (List.mem_range.2 hd)
    cases hr:T[d]? with
    |none=>rw[hr] at h1;simp at h1
    |some r=>
      rw[hr] at h1
      simp only[beq_iff_eq] at h1
      have h2:(jK B d r.1).testBit i=true:=by rw[<-h1,Nat.testBit_or,hb,Bool.true_or]
      obtain⟨n,o,I⟩:=rT h2
      unfold ky
      rw[hr]
      simp only
      rw[List.any_eq_true]
      refine⟨n,o,?_⟩
      rcases I with rfl|⟨R,J⟩
      · simp
      · rw[rU j fuel n (by omega) (by omega) J,Bool.or_true]
def rV (T:List (List Nat×List Nat)) (B:List Nat) (l:List Bool) (ds:List Nat) (i:Nat):Bool:=ds.all fun d=>l.getD d true||(decide (d<T.length)&&(B.getD d 0).testBit i)
def rW (T:Bool×List (List Nat×List Nat)) (B:List Nat) (ds:List Nat) (l l':List Bool) (i:Nat):Bool:=T.1&&lD T.2 l i&&jb T.2 l i&&mK T.2 l&&rV T.2 B l ds i&&(l.set i true==l')
theorem gS {B:List Nat} (J:da md ops=T) (R:jL T.2 B=true) (h:rW T B ds l.toList l'.toList i=true):ln md ops ds l l' i=true:=by
  refine xZ J ?_
  simp only[rW,oJ,Bool.and_eq_true] at h⊢
  obtain⟨⟨⟨⟨⟨h1,h2⟩,U⟩,h4⟩,o⟩,h6⟩:=h
  refine⟨⟨⟨⟨⟨h1,h2⟩,U⟩,h4⟩,?_⟩,h6⟩
  unfold rV at o
  unfold mL
  rw[List.all_eq_true] at o⊢
  intro d hd
  have j:=o d hd
  rw[Bool.or_eq_true,Bool.and_eq_true,decide_eq_true_eq] at j
  rcases j with j|⟨I,h9⟩
  · rw[j,Bool.true_or]
  · rw[rU R _ d I I h9,Bool.or_true]
theorem mQ {P:Program} {Q:Exit->Act->World->Prop} {S:World->Prop} {n:Nat} {a:Act} {w:World} {B:List Nat} (j:da md ops=T) (o:jL T.2 B=true) (h:Aside0 (da md ops=T)->Aside0 (jL T.2 B=true)->cy P md ops Q S ds n l a w):cy P md ops Q S ds n l a w:=h ⟨j⟩ ⟨o⟩
end
def gT:Code->Nat->Option (Array Oper)
  | .region id ops _,k=>if id==k then some ops else none
  | .seq a b,k=>match gT a k with
    |some o=>some o
    |none=>gT b k
  | .cond _ a b,k=>match gT a k with
    |some o=>some o
    |none=>gT b k
  | .block _ c,k=>gT c k
  | .loop c,k=>gT c k
  | .scope c,k=>gT c k
  | .rangeFunc _ _ a b,k=>match gT a k with
    |some o=>some o
    |none=>gT b k
  |_,_=>none
def opsOf (f:Func) (k:Nat):Array Oper:=((f.body.bind fun c=>gT c k)).getD #[]
end Go.Proofs.YtffdiakgjakngaaGreatW.PrintLast
end
section
end
section
namespace Go.Proofs.YtffdiakgjakngaaGreatW.PrintWords
open Go.RowKit
end Go.Proofs.YtffdiakgjakngaaGreatW.PrintWords
end
section
namespace Go.Proofs.YtffdiakgjakngaaGreatW.PrintWords
open Go.RowKit
end Go.Proofs.YtffdiakgjakngaaGreatW.PrintWords
end
section
namespace Go.Proofs.YtffdiakgjakngaaGreatW.PrintWords
open Go.RowKit
end Go.Proofs.YtffdiakgjakngaaGreatW.PrintWords
end
section
namespace Go.Proofs.YtffdiakgjakngaaGreatW.PrintWords
theorem aT.one {α:Type} {R:α->List Value->Prop} {ps:List α} {cs:List Value} {p:α} {v:Value} (hp:R p [v]) (h:aT R 1 ps cs):aT R 1 (p::ps) (v::cs):=by
  refine⟨by simp[h.1],fun j q hq=>?_⟩
  cases j with
  |zero=>
    simp only[List.getElem?_cons_zero,Option.some.injEq] at hq
    subst hq
    simpa using hp
  |succ j=>
    simp only[List.getElem?_cons_succ] at hq
    have h1:=h.2 j q hq
    simpa [Nat.mul_one] using h1
theorem aT.front {α:Type} {R:α->List Value->Prop} {size:Nat} {ps:List α} {cs c all:List Value} {p:α} (hp:R p c) (hc:c.length=size) (h:aT R size ps cs) (o:c++cs=all):aT R size (p::ps) all:=by
  subst o
  refine⟨by rw[List.length_append,hc,h.1,List.length_cons,Nat.succ_mul,Nat.add_comm],fun j q hq=>?_⟩
  cases j with
  |zero=>
    simp only[List.getElem?_cons_zero,Option.some.injEq] at hq
    subst hq
    rw[Nat.zero_mul,List.drop_zero,List.take_append_of_le_length (by omega),List.take_of_length_le (by omega)]
    exact hp
  |succ j=>
    simp only[List.getElem?_cons_succ] at hq
    have h1:=h.2 j q hq
    rw[Nat.succ_mul,List.drop_append,List.drop_of_length_le (by rw[hc];exact Nat.le_add_left _ _),List.nil_append,hc,Nat.add_sub_cancel]
    exact h1
theorem aT.c3 {α:Type} {R:α->List Value->Prop} {ps:List α} {cs:List Value} {p:α} {j o I:Value} (hp:R p [j,o,I]) (h:aT R 3 ps cs):aT R 3 (p::ps) (j::o::I::cs):=aT.front hp rfl h rfl
end Go.Proofs.YtffdiakgjakngaaGreatW.PrintWords
end
section
end
section
namespace Go.Proofs.YtffdiakgjakngaaGreatW.PrintWords
open Go.RowKit
end Go.Proofs.YtffdiakgjakngaaGreatW.PrintWords
end
section
namespace Go.Proofs.YtffdiakgjakngaaGreatW.PrintWords
open Go.RowKit
section
variable {P:Program} {ops:Array Oper} {rest:List Oper} {o:Oper} {a:Act} {Q:Exit->Act->World->Prop} {W:World}
theorem dk (hw:Region.wanted o (yielded ops a.tmps)=true) (h:wpList P ops Q ({o with guard:=none}::rest) a W):wpList P ops Q (o::rest) a W:=by
  have h1:Region.wanted {o with guard:=none} (yielded ops a.tmps)=true:=rfl
  unfold wpList at h⊢
  rw[if_pos h1] at h
  rw[if_pos hw]
  exact h
end
end Go.Proofs.YtffdiakgjakngaaGreatW.PrintWords
end

