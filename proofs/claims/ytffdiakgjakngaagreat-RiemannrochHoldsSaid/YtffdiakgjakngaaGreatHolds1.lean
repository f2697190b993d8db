/- RiemannrochHolds answers true whatever the input (text 1 of 20): own walks and plain laws; no conditions. -/
import Derived.ArgAppend
import Derived.Below
import Derived.BigQuiet
import Derived.Deep.AppendLies
import Derived.Deep.CutBlock
import Derived.Deep.DeepCutAuto
import Derived.Deep.Draws
import Derived.Deep.LoopGhost
import Derived.Deep.OwnRows
import Derived.Deep.QuietTactic
import Derived.Deep.RegionHeld3
import Derived.KernelRfl
import Derived.Laws.BitsLemmas
import Derived.Laws.BytesArg
import Derived.Laws.IdiomCopy
import Derived.Laws.MakeOwn
import Derived.Laws.OwnMore
import Derived.Laws.Rows
import Derived.Laws.Slices
import Derived.Laws.StructEq
import Derived.Lib.AppendStr
import Derived.Lib.ConvBytes
import Derived.Maps.AppendAt
import Derived.OrdersHeld
import Derived.OwnWalk
import Derived.RowKit
import Derived.RowKit3
import Derived.Tactics
import Derived.WalkKit
import Derived.WideLaws
section
set_option linter.unusedVariables false
set_option linter.unusedSimpArgs false
namespace Go.Proofs.YtffdiakgjakngaaGreatW.PrintWords
open Go.RowKit
structure Aside0 (p:Prop):Prop where mk::(out:p)
structure az (w w':World):Prop where mk::(out:∃n,w'=w.drewN n)
theorem az.refl (w:World):az w w:=⟨⟨0,rfl⟩⟩
theorem az.step {w w':World} (h:az w w') (n:Nat):az w (w'.drewN n):=by
  obtain⟨m,rfl⟩:=h;exact⟨⟨m+n,World.drewN_drewN ..⟩⟩
theorem az.below {w w':World} (h:az w w'):Below w.heap.size w w':=by
  obtain⟨n,rfl⟩:=h;induction n with
  |zero=>exact Below.refl _ _
  |succ n a=>rw[<-World.drew_drewN];exact a.drew
def rd (xs:List Int) (i:Int):Int:=xs.getD i.toNat 0
theorem aq {w W:World} (h:Below w.heap.size w W) (o:Obj):Below w.heap.size w (W.alloc o):=h.alloc h.size o
theorem gF {B:Nat} {w W:World} (h:Below B w W):Below B w W.drew:=⟨h.os,h.tape,h.output,h.size,h.block⟩
theorem bP {B:Nat} {w W:World} (h:Below B w W) (n:Nat):Below B w (W.drewN n):=⟨h.os,h.tape,h.output,h.size,h.block⟩
theorem kA {B:Nat} {w w1 w2:World} (h:Below B w w1) (a:B<=w1.heap.size) (k:Below w1.heap.size w1 w2):Below B w w2:=
  h.trans ⟨k.os,k.tape,k.output,k.size,fun i hi=>k.block i (Nat.lt_of_lt_of_le hi a)⟩
theorem ju {B:Nat} {w w1:World} (h:Below B w w1) (row:Option Nat) (a:B<=w1.heap.size) {w2:World} (b:w1.grownBy w2 row) (e:∀k,row=some k->B<=k):Below B w w2:=h.grown b a e
theorem iR {w w1:World} (h:Below w.heap.size w w1) (row:Option Nat):w.grownBy w1 row:=⟨h.os,h.tape,h.output,h.size,fun i hi _=>h.block i hi⟩
theorem gU {w w1:World} (h:Below w.heap.size w w1) {a:Addr} {v:Value} (b:w.cell? a=some v):w1.cell? a=some v:=(h.cell (World.block_lt_of_cell? w a b)).trans b
theorem add_plain (g j:Nat):(⟨g,0,none⟩:Addr).add j=⟨g,j,none⟩:=by unfold Addr.add;split<;>simp_all
def Gl (w:World) (k:IntKind) (A:Option Addr) (n:Nat) (xs:List Int):Prop:=
  xs.length=n∧n<=9223372036854775807∧(0<n->∃ad,A=some ad∧∀j,j<n->w.cell? (ad.add j)=some (.int k (xs.getD j 0)))
theorem qU (W:World) (base:Nat) (e:TypeId) (size:Nat):W.ownsRow base e size (.slice none 0 0) 0 []:=⟨by simp,.inl ⟨rfl,rfl⟩⟩
theorem jv {w:World} {base:Nat} {e:TypeId} {size n:Nat} {v:Value} {xs:List Value} (h:w.ownsRow base e size v n xs) (k:Nat) (hk:v.ownBlock=some k):base<=k:=by
  rcases h.2 with⟨rfl,_⟩|⟨g,cap,cur,rfl,hb,_⟩
  · simp[Value.ownBlock] at hk
  · have:g=k:=by simpa [Value.ownBlock] using hk
    omega
theorem qV {w:World} {base:Nat} {e:TypeId} {size n:Nat} {v:Value} {xs:List Value} (h:w.ownsRow base e size v n xs) (k:Nat) (hk:v.ownBlock=some k):k<w.heap.size:=by
  rcases h.2 with⟨rfl,_⟩|⟨g,cap,cur,rfl,hb,a,_⟩
  · simp[Value.ownBlock] at hk
  · have:g=k:=by simpa [Value.ownBlock] using hk
    subst this;exact(Array.getElem?_eq_some_iff.1 a).1
theorem qW {w:World} {base n:Nat} {e:TypeId} {size:Nat} {v:Value} {xs:List Value} (h:w.ownsRow base e size v n xs):∃A c,v= .slice A n c:=by
  rcases h.2 with⟨rfl,rfl⟩|⟨g,cap,cur,rfl,_⟩
  · exact⟨none,0,rfl⟩
  · exact⟨_,cap,rfl⟩
def ae {α:Type} (a b:Option α):Prop:=∀r,a=some r->b=some r
theorem ae.refl {α:Type} (a:Option α):ae a a:=fun _ h=>h
theorem ae.trans {α:Type} {a b c:Option α} (h:ae a b) (k:ae b c):ae a c:=fun r e=>k r (h r e)
theorem ae.ite {α:Type} {c:Prop} [Decidable c] {a a' b b':Option α} (h:ae a a') (k:ae b b'):ae (if c then a else b) (if c then a' else b'):=by
  split
  · exact h
  · exact k
theorem ae.bind {α β:Type} {a a':Option α} {f b:α->Option β} (h:ae a a') (k:∀x,ae (f x) (b x)):ae (a.bind f) (a'.bind b):=by
  intro r e;obtain⟨x,g,hf⟩:=Option.bind_eq_some_iff.1 e;exact Option.bind_eq_some_iff.2 ⟨x,h x g,k x r hf⟩
theorem qX {α:Type} {g:Nat->Option α} (h:∀k,ae (g k) (g (k+1))) (k:Nat):∀j,ae (g k) (g (k+j))
  |0=>ae.refl _
  |j+1=>(qX h k j).trans (h (k+j))
theorem kB {α:Type} {g:Nat->Option α} (h:∀k,ae (g k) (g (k+1))) {k k':Nat} (hk:k<=k') {r:α} (a:g k=some r):g k'=some r:=by
  have:=qX h k (k'-k) r a;rwa [Nat.add_sub_cancel' hk] at this
def aM {α:Type} (R:α->List Value->Prop) (size:Nat) (ps:List α) (cs:List Value):Prop:=
  cs.length=ps.length*size∧∀j p,ps[j]? =some p->R p ((cs.drop (j*size)).take size)
theorem aM.none {α:Type} (R:α->List Value->Prop) (size:Nat):aM R size [] []:=⟨by simp,fun j p h=>by simp at h⟩
theorem aM.snoc {α:Type} {R:α->List Value->Prop} {size:Nat} {ps:List α} {cs c:List Value} {p:α} (h:aM R size ps cs) (hp:R p c) (e:c.length=size):aM R size (ps++[p]) (cs++c):=by
  refine⟨by rw[List.length_append,h.1,e,List.length_append,List.length_singleton,Nat.add_mul,Nat.one_mul],fun j q a=>?_⟩;rcases Nat.lt_or_ge j ps.length with b|b
  · rw[List.getElem?_append_left b] at a
    have h1:j*size+size<=cs.length:=by rw[h.1,<-Nat.succ_mul];exact Nat.mul_le_mul_right _ b
    have g:=h.2 j q a;rw[List.drop_append_of_le_length (by omega),List.take_append_of_le_length (by rw[List.length_drop];omega)];exact g
  · have i:j=ps.length:=by
      have:=(List.getElem?_eq_some_iff.1 a).1;rw[List.length_append,List.length_singleton] at this;omega
    subst i;have k:p=q:=by simpa using a
    subst k;rw[<-h.1,List.drop_left,<-e,List.take_length];exact hp
theorem aM.eT {α:Type} {R R':α->List Value->Prop} {size:Nat} {ps:List α} {cs:List Value} (h:aM R size ps cs) (a:∀p c,R p c->R' p c):aM R' size ps cs:=⟨h.1,fun j p b=>a _ _ (h.2 j p b)⟩
def iB {α:Type} (R:α->List Value->Prop) (size:Nat) (w:World) (A:Option Addr) (n:Nat) (ps:List α):Prop:=
  ps.length=n∧n<=9223372036854775807∧(0<n->∃ad,A=some ad∧∀j p,ps[j]? =some p->∃c,c.length=size∧R p c∧∀i u,c[i]? =some u->w.cell? (ad.add (j*size+i))=some u)
theorem iB.wE {α:Type} {R:α->List Value->Prop} {size:Nat} {w:World} {A:Option Addr} {n:Nat} {ps:List α} (h:iB R size w A n ps) (d:α) (i:Int) (m:0<=i) (h1:i<n):
    ∃ad c,A=some ad∧c.length=size∧R (ps.getD i.toNat d) c∧∀j u,c[j]? =some u->w.cell? (ad.add (i.toNat*size+j))=some u:=by
  obtain⟨ad,e,b⟩:=h.2.2 (by omega);have a:i.toNat<ps.length:=by have:=h.1;omega
  obtain⟨c,g,k,l⟩:=b i.toNat _ (List.getElem?_eq_getElem a);refine⟨ad,c,e,g,?_,l⟩;rw[List.getD_eq_getElem?_getD,List.getElem?_eq_getElem a];exact k
theorem iB.eT {α:Type} {R R':α->List Value->Prop} {size:Nat} {w w1:World} {A:Option Addr} {n:Nat} {ps:List α} (h:iB R size w A n ps) (hb:Below w.heap.size w w1) (a:∀p c,R p c->R' p c):iB R' size w1 A n ps:=
  ⟨h.1,h.2.1,fun hn=>by
    obtain⟨ad,e,b⟩:=h.2.2 hn;refine⟨ad,e,fun j p g=>?_⟩;obtain⟨c,k,l,m⟩:=b j p g;exact⟨c,k,a _ _ l,fun i u hu=>gU hb (m i u hu)⟩⟩
theorem wF {α:Type} {R:α->List Value->Prop} {w:World} {base n size:Nat} {e:TypeId} {v:Value} {ps:List α} {cs:List Value} (h:w.ownsRow base e size v n cs) (a:aM R size ps cs) (hn:ps.length=n):
    ∃A c,v= .slice A n c∧iB R size w A n ps:=by
  rcases Nat.eq_zero_or_pos n with b|b
  · rcases h.2 with⟨rfl,rfl⟩|⟨g,cap,cur,rfl,_⟩
    · exact⟨none,0,rfl,hn,by omega,fun hp=>absurd hp (by omega)⟩
    · exact⟨_,cap,rfl,hn,by omega,fun hp=>absurd hp (by omega)⟩
  · obtain⟨g,cap,rfl,_,_⟩:=h.form b
    have hm:n<=9223372036854775807:=by
      rcases h.2 with⟨_,h1⟩|⟨o,q,cur,he,_,_,h1,l,_⟩
      · omega
      · simp only[maxLen] at l
        omega
    refine⟨_,cap,rfl,hn,hm,fun _=>⟨_,rfl,fun j p k=>⟨(cs.drop (j*size)).take size,?_,a.2 j p k,fun i u hu=>?_⟩⟩⟩
    · have m:=(List.getElem?_eq_some_iff.1 k).1
      have h1:j*size+size<=cs.length:=by rw[a.1,<-Nat.succ_mul];exact Nat.mul_le_mul_right _ m
      rw[List.length_take,List.length_drop];omega
    · refine h.cells (g:=g) rfl _ u ?_
      rw[List.getElem?_take] at hu;split at hu
      · rw[List.getElem?_drop] at hu
        exact hu
      · cases hu
theorem oJ (ad:Addr) (m j:Nat) (a:0<j):ad.add (m+j)=⟨(ad.add m).block,(ad.add m).off+j,none⟩:=by
  unfold Addr.add;by_cases hm:m=0
  · subst hm
    simp[Nat.ne_of_gt a]
  · simp[hm,Nat.add_assoc]
section
variable {P:Program} {ops:Array Oper} {rest:List Oper} {o:Oper} {a:Act} {Q:Exit->Act->World->Prop}
theorem wG {w0 W:World} (base:Nat) (p:o.guard=none) (s x:Operand) (t e:TypeId) (z:Value) (size bytes:Nat)
    (q:o.op= .call {callee:=.builtin .append,args:=#[s,x],argTypes:=#[t,t]})
    (r:P.underlying t=some (.slice e)) (w:(P.info? e).map (fun i=>(i.zero,i.size,i.bytes))=some (some z,size,bytes)) (y:z.cells.size=size) (B:0<size) (C:0<bytes)
    (v:Value) (n:Nat) (xs ys:List Value) (D:a.eval s=v) (E:a.eval x= .slice (some ⟨W.heap.size,0,none⟩) 1 1) (F:ys.length=size) (h1:∀u∈ys,u.oneCell'=true)
    (j:W.ownsRow base e size v n xs) (G:Below base w0 W) (H:base<=W.heap.size) (k:(n+1)*bytes<=140737488355328)
    (h:∀v1 w1,w1.ownsRow base e size v1 (n+1) (xs++ys)->Below base w0 w1->W.grownBy w1 v.ownBlock->(v1.ownBlock=v.ownBlock∨∃b,v1.ownBlock=some b∧W.heap.size<=b)->wpList P ops Q rest (a.put o.dst v1) w1):
    wpList P ops Q (o::rest) a (W.alloc (.cells ys.toArray e)):=by
  obtain⟨i0,hi,l⟩:=Option.map_eq_some_iff.1 w;simp only[Prod.mk.injEq] at l;obtain⟨I,J,K⟩:=l;have hlen:n+1<=140737488355328:=Nat.le_trans (Nat.le_mul_of_pos_right _ C) k;refine wpList_append_own_at (W.alloc (.cells ys.toArray e)) p s x t q base e i0 z size bytes r hi I J K y B v n xs D (j.alloc _) ⟨W.heap.size,0,none⟩ 1 1 ys E (by rw[F];simp)
    (by simpa using World.news_of_block (cs:=ys.toArray) (t:=e) (fr:=(0,0)) (heap_alloc_new W (.cells ys.toArray e))) h1 (by simp only[maxLen];omega) k (by simp;omega) ?_
  intro v1 w1 L m _ g;refine h v1 w1 L ((G.alloc H _).grown m (by simp;omega) (jv j)) (World.grownBy.trans (World.grownBy_alloc W _ _) m) ?_;rcases g with g|g
  · exact .inl g
  · exact .inr ⟨_,g,by simp⟩
end
theorem qY {w:World} {base:Nat} {e t:TypeId} {size n g:Nat} {v:Value} {xs:List Value} {cs:Array Value} (h:w.ownsRow base e size v n xs) (b:w.heap[g]? =some (.cells cs t (0,0))) (i:e≠t):some g≠v.ownBlock:=by
  rcases h.2 with⟨rfl,_⟩|⟨j,cap,cur,rfl,_,a,_⟩
  · simp[Value.ownBlock]
  · intro he
    have:g=j:=by simpa [Value.ownBlock] using he
    subst this;rw[b] at a;injection a with a
    injection a with _ k
    exact i k.symm
theorem bE {w:World} {g:Nat} {t:TypeId} {cs:Array Value} (h:w.heap[g]? =some (.cells cs t (0,0))) (i:Nat) (u:Value):(w.setCell ⟨g,i,none⟩ u).heap[g]? =some (.cells (cs.setIfInBounds i u) t (0,0)):=by
  simp[World.setCell,Array.getElem?_modify,h]
theorem aC {w:World} {g:Nat} {t:TypeId} {cs:Array Value} (h:w.heap[g]? =some (.cells cs t (0,0))) {p:Addr} (hp:g≠p.block) (u:Value):(w.setCell p u).heap[g]? =some (.cells cs t (0,0)):=(Below.heap_setCell w p u g hp).trans h
theorem ay {w:World} {g:Nat} {o:Obj} (h:w.heap[g]? =some o):g<w.heap.size:=(Array.getElem?_eq_some_iff.1 h).1
theorem ao {w:World} {g:Nat} {t:TypeId} {cs:Array Value} (h:w.heap[g]? =some (.cells cs t (0,0))) (i:Nat):w.cell? ⟨g,i,none⟩=cs[i]? :=cell_of_row w g i cs t (0,0) h
theorem bq {w:World} {g:Nat} {t:TypeId} {cs:Array Value} (h:w.heap[g]? =some (.cells cs t (0,0))) (i:Nat):w.frozen? ⟨g,i,none⟩=false:=by simp[World.frozen?,h]
theorem cI {w w1:World} {g:Nat} {o:Obj} {row:Option Nat} (h:w.heap[g]? =some o) (a:w.grownBy w1 row) (b:some g≠row):w1.heap[g]? =some o:=(a.block g (ay h) b).trans h
def mM (w w':World) (g:Nat) (row:Option Nat):Prop:=w.heap.size<=w'.heap.size∧∀i,i<w.heap.size->i≠g->some i≠row->w'.heap[i]? =w.heap[i]?
theorem mM.trans {w w1 w2:World} {g:Nat} {row a:Option Nat} (h:mM w w1 g row) (k:mM w1 w2 g a) (l:a=row∨∃b,a=some b∧w.heap.size<=b):mM w w2 g row:=
  ⟨Nat.le_trans h.1 k.1,fun i hi j hn=>by
    refine(k.2 i (Nat.lt_of_lt_of_le hi h.1) j ?_).trans (h.2 i hi j hn);rcases l with rfl|⟨b,rfl,hb⟩
    · exact hn
    · intro e
      injection e with e
      omega⟩
section
variable {P:Program} {ops:Array Oper} {o:Oper} {a:Act} {Q:Exit->Act->World->Prop} {K:Act->World->Prop}
theorem wH {w0 W:World} (base:Nat) (hw:Region.wanted o (yielded ops a.tmps)=true) (s x:Operand) (t e:TypeId) (z:Value) (size bytes:Nat)
    (p:o.op= .call {callee:=.builtin .append,args:=#[s,x],argTypes:=#[t,t]})
    (q:P.underlying t=some (.slice e)) (r:(P.info? e).map (fun i=>(i.zero,i.size,i.bytes))=some (some z,size,bytes)) (w:z.cells.size=size) (y:0<size) (B:0<bytes)
    (v:Value) (n:Nat) (xs ys:List Value) (C:a.eval s=v) (D:a.eval x= .slice (some ⟨W.heap.size,0,none⟩) 1 1) (E:ys.length=size) (h1:∀u∈ys,u.oneCell'=true)
    (j:W.ownsRow base e size v n xs) (F:Below base w0 W) (G:base<=W.heap.size) (k:(n+1)*bytes<=140737488355328)
    (h:∀v1 w1,w1.ownsRow base e size v1 (n+1) (xs++ys)->Below base w0 w1->W.grownBy w1 v.ownBlock->(v1.ownBlock=v.ownBlock∨∃b,v1.ownBlock=some b∧W.heap.size<=b)->K (a.put o.dst v1) w1):
    if Region.wanted o (yielded ops a.tmps)=true then Oper.wp P o a (W.alloc (.cells ys.toArray e)) K Q else K (a.put o.dst undef) (W.alloc (.cells ys.toArray e)):=by
  obtain⟨i0,hi,l⟩:=Option.map_eq_some_iff.1 r;simp only[Prod.mk.injEq] at l;obtain⟨H,I,J⟩:=l;have hlen:n+1<=140737488355328:=Nat.le_trans (Nat.le_mul_of_pos_right _ B) k;rw[if_pos hw];obtain⟨v1,w1,L,M,m,_,g⟩:=run_append_own_at (P:=P) (W.alloc (.cells ys.toArray e)) base t o.type e i0 z size bytes q hi H I J w y v n xs (j.alloc _) ⟨W.heap.size,0,none⟩ 1 1 ys (by rw[E];simp)
    (by simpa using World.news_of_block (cs:=ys.toArray) (t:=e) (fr:=(0,0)) (heap_alloc_new W (.cells ys.toArray e))) h1 (by simp only[maxLen];omega) k (by simp;omega)
  unfold Oper.wp execOp;simp only[p,resolve,invoke,builtin,Sem.run_bind,Sem.run_pure,Result.andThen_ok,List.map_toArray,List.map_cons,List.map_nil,C,D,L];refine h v1 w1 M ((F.alloc G _).grown m (by simp;omega) (jv j)) (World.grownBy.trans (World.grownBy_alloc W _ _) m) ?_;rcases g with g|g
  · exact .inl g
  · exact .inr ⟨_,g,by simp⟩
end
theorem wI {w:World} {base base':Nat} {e:TypeId} {size n:Nat} {v:Value} {xs:List Value} (h:w.ownsRow base e size v n xs) (hb:base'<=base):w.ownsRow base' e size v n xs:=by
  obtain⟨h1,a⟩:=h;refine⟨h1,?_⟩;rcases a with a|⟨g,cap,cur,rfl,b,r⟩
  · exact .inl a
  · exact .inr ⟨g,cap,cur,rfl,Nat.le_trans hb b,r⟩
section
variable {α:Type} {enc:α->Value} {d:α}
def bF (enc:α->Value) (xs:List α):List Value:=xs.map enc
def bH (d:α) (xs:List α) (i:Int):α:=xs.getD i.toNat d
theorem qZ (xs:List α):(bF enc xs).length=xs.length:=by simp[bF]
theorem q6 (xs:List α) (j:Nat) (h:j<xs.length):(bF enc xs)[j]? =some (enc (xs.getD j d)):=by
  simp[bF,List.getElem?_eq_getElem h,List.getD_eq_getElem?_getD]
def kC (enc:α->Value) (d:α) (w:World) (A:Option Addr) (n:Nat) (xs:List α):Prop:=
  xs.length=n∧n<=9223372036854775807∧(0<n->∃ad,A=some ad∧∀j,j<n->w.cell? (ad.add j)=some (enc (xs.getD j d)))
theorem kC.at_ {w:World} {A:Option Addr} {n:Nat} {xs:List α} (h:kC enc d w A n xs) (i:Int) (b:0<=i) (h1:i<n):∃ad,A=some ad∧w.cell? (ad.add i.toNat)=some (enc (bH d xs i)):=by
  obtain⟨ad,e,a⟩:=h.2.2 (by omega);exact⟨ad,e,a _ (by omega)⟩
theorem wJ {W:World} {base g n cap:Nat} {e:TypeId} {xs:List α} (h:W.ownsRow base e 1 (.slice (some ⟨g,0,none⟩) n cap) n (bF enc xs)) (i:Int) (l:0<=i) (h1:i<n):
    W.cell? ⟨g,i.toNat,none⟩=some (enc (bH d xs i))∧W.frozen? ⟨g,i.toNat,none⟩=false:=by
  have m:xs.length=n:=by have:=h.1;simp[bF] at this;exact this
  constructor
  · have b:=h.cells (g:=g) rfl i.toNat _ (q6 (d:=d) xs i.toNat (by omega))
    rwa [add_plain] at b
  · rcases h.2 with⟨a,_⟩|⟨j,o,cur,a,_,k,_⟩
    · cases a
    · have:g=j:=by injection a with a;injection a with a;injection a with a
      subst this;simp[World.frozen?,k]
theorem wK {W:World} {base g n cap:Nat} {e:TypeId} {xs:List α} (h:W.ownsRow base e 1 (.slice (some ⟨g,0,none⟩) n cap) n (bF enc xs)) (i:Int) (x:α):
    (W.setCell ⟨g,i.toNat,none⟩ (enc x)).ownsRow base e 1 (.slice (some ⟨g,0,none⟩) n cap) n (bF enc (xs.set i.toNat x))∧W.grownBy (W.setCell ⟨g,i.toNat,none⟩ (enc x)) (some g):=by
  have a:=h.stored i.toNat (enc x);have he:(bF enc xs).set i.toNat (enc x)=bF enc (xs.set i.toNat x):=by simp[bF,List.map_set]
  rwa [he] at a
end
section
variable {α:Type} {P:Program} {ops:Array Oper} {rest:List Oper} {o:Oper} {a:Act} {Q:Exit->Act->World->Prop}
theorem wL {w0 W:World} (enc:α->Value) (d:α) (base:Nat) (F:o.guard=none) (s x:Operand) (t e:TypeId) (z:Value) (bytes:Nat)
    (G:o.op= .call {callee:=.builtin .append,args:=#[s,x],argTypes:=#[t,t]})
    (p:P.underlying t=some (.slice e)) (H:(P.info? e).map (fun i=>(i.zero,i.size,i.bytes))=some (some z,1,bytes)) (I:z.cells.size=1) (J:0<bytes) (h1:∀x:α,(enc x).oneCell'=true)
    (v:Value) (xs ys:List α) (A:Option Addr) (m c:Nat) (L:a.eval s=v) (M:a.eval x= .slice A m c)
    (n:W.ownsRow base e 1 v xs.length (bF enc xs)) (r:kC enc d W A m ys) (N:Below base w0 W) (B:base<=W.heap.size) (C:(xs.length+m)*bytes<=140737488355328)
    (h:∀v1 w1,w1.ownsRow base e 1 v1 (xs++ys).length (bF enc (xs++ys))->Below base w0 w1->W.grownBy w1 v.ownBlock->(v1.ownBlock=v.ownBlock∨∃b,v1.ownBlock=some b∧W.heap.size<=b)->wpList P ops Q rest (a.put o.dst v1) w1):
    wpList P ops Q (o::rest) a W:=by
  obtain⟨i0,hi,D⟩:=Option.map_eq_some_iff.1 H;simp only[Prod.mk.injEq] at D;obtain⟨O,R,S⟩:=D;have hm:ys.length=m:=r.1;have hlen:xs.length+m<=140737488355328:=Nat.le_trans (Nat.le_mul_of_pos_right _ J) C;have T:∃v1 w1,(Builtin.append_ #[t,t] o.type #[v,.slice A m c]).run P W= .ok v1 w1∧w1.ownsRow base e 1 v1 (xs++ys).length (bF enc (xs++ys))∧W.grownBy w1 v.ownBlock∧(v1.ownBlock=v.ownBlock∨v1.ownBlock=some W.heap.size):=by
    rcases A with _|ad
    · have k:m=0:=by
        rcases Nat.eq_zero_or_pos m with k|k
        · exact k
        · obtain⟨ad,h,_⟩:=r.2.2 k
          cases h
      subst k;obtain rfl:ys=[]:=List.eq_nil_of_length_eq_zero hm;refine⟨v,W,?_,by simpa using n,World.grownBy.refl W _,.inl rfl⟩;rcases n.2 with⟨rfl,hn⟩|⟨g,cap,cur,rfl,_,_,U,_⟩
      · simp[Builtin.append_,run_underlying p,sizeOf,typeInfo,hi,Builtin.lenOf,Builtin.firstCells]
      · simp[Builtin.append_,run_underlying p,sizeOf,typeInfo,hi,Builtin.lenOf,Builtin.firstCells,U,storeCells]
    · have V:∀j u,(bF enc ys)[j]? =some u->W.cell? (ad.add j)=some u:=by
        intro j u hu;have X:j<ys.length:=by
          rcases Nat.lt_or_ge j ys.length with h|h
          · exact h
          · simp[bF,List.getElem?_eq_none h] at hu
        obtain⟨am,w,Y⟩:=r.2.2 (by omega);injection w with w
        subst w;rw[q6 (d:=d) ys j X] at hu;rw[<-hu];exact Y j (by omega)
      obtain⟨v1,w1,y,Z,h3,_,h5⟩:=run_append_own_at (P:=P) W base t o.type e i0 z 1 bytes p hi O R S I (by omega) v xs.length (bF enc xs) n ad m c (bF enc ys) (by simp[bF,hm]) V
        (by intro u hu;simp only[bF,List.mem_map] at hu;obtain⟨q,_,rfl⟩:=hu;exact h1 q) (by simp only[maxLen];omega) C B
      exact⟨v1,w1,y,by simpa [bF,hm] using Z,h3,h5⟩
  obtain⟨v1,w1,y,ag,E,l⟩:=T;refine wpList_plain F fun K hK=>?_
  unfold Oper.wp execOp;simp only[G,resolve,invoke,builtin,Sem.run_bind,Sem.run_pure,Result.andThen_ok,List.map_toArray,List.map_cons,List.map_nil,L,M,y];refine hK _ _ (h v1 w1 ag (N.grown E B (jv n)) E ?_);rcases l with l|l
  · exact .inl l
  · exact .inr ⟨_,l,Nat.le_refl _⟩
end
theorem aw {w:World} {g:Nat} {o:Obj} (h:w.heap[g]? =some o) (a:Obj):(w.alloc a).heap[g]? =some o:=(Below.heap_alloc w a g (ay h)).trans h
theorem ff {w:World} {g:Nat} {o:Obj} (h:w.heap[g]? =some o):w.drew.heap[g]? =some o:=h
theorem gV {w:World} {g:Nat} {o:Obj} (h:w.heap[g]? =some o) (n:Nat):(w.drewN n).heap[g]? =some o:=h
theorem aG {w w1:World} {g:Nat} {o:Obj} (h:w.heap[g]? =some o) (hb:Below w.heap.size w w1):w1.heap[g]? =some o:=(hb.block g (ay h)).trans h
theorem wM (w:World) (o:Obj):(w.alloc o).heap[w.heap.size]? =some o:=heap_alloc_new w o
section
variable {P:Program}
theorem oK {fn:Func} {p u:Tmp} {ty:TypeId} (h:fn.results=#[.cell p ty,.tmp u]) (tmps:Array Value) (w:World) (g:Nat) (t:TypeId) (cs:Array Value) (fr:Nat×Nat) (d:TypeDesc)
    (hp:tmps.getD p undef= .pointer (some ⟨g,0,none⟩)) (a:w.heap[g]? =some (.cells cs t fr))
    (hu:P.underlying ty=some d) (hd:(match d with| .struct _| .array _ _=>true|_=>false)=true) (hi:(P.info? ty).map (·.size)=some cs.size):
    (results fn tmps).run P w= .ok (.tuple #[.agg cs,tmps.getD u undef]) w:=by
  have b:tmps[p]?.getD undef= .pointer (some ⟨g,0,none⟩):=by simpa using hp
  simp[results,h,b,asAddr,run_loadVar_row w g t ty cs fr d a hu hd hi]
end
theorem wN {w:World} {base n m c size:Nat} {e:TypeId} {A:Option Addr} {xs:List Value} (h:w.ownsRow base e size (.slice A m c) n xs):m<=c:=by
  rcases h.2 with⟨he,_⟩|⟨g,cap,cur,he,_,_,i,_⟩
  · injection he with _ a b
    omega
  · injection he with _ a b
    omega
def fP {α:Type} (R:α->List Value->Prop) (e:TypeId) (size:Nat) (w:World) (base:Nat) (v:Value) (ps:List α):Prop:=
  ∃inner,w.ownsRow base e size v ps.length inner∧aM R size ps inner
section
variable {α:Type} {R R':α->List Value->Prop} {e:TypeId} {size:Nat} {w w1:World} {base:Nat} {v:Value} {ps:List α}
theorem fP.none_ (R:α->List Value->Prop) (e:TypeId) (size:Nat) (w:World) (base:Nat):fP R e size w base (.slice none 0 0) []:=⟨[],qU _ _ _ _,aM.none _ _⟩
theorem fP.eT (h:fP R e size w base v ps) (a:∀p c,R p c->R' p c):fP R' e size w base v ps:=by
  obtain⟨inner,b,g⟩:=h;exact⟨inner,b,g.eT a⟩
theorem fP.reads (h:fP R e size w base v ps):∃A c,v= .slice A ps.length c∧ps.length<=c∧iB R size w A ps.length ps:=by
  obtain⟨inner,a,b⟩:=h;obtain⟨A,c,rfl,g⟩:=wF a b rfl;exact⟨A,c,rfl,wN a,g⟩
theorem fP.wO (h:fP R e size w base v ps) {g:Nat} {t:TypeId} {cells:Array Value} (hb:w.heap[g]? =some (.cells cells t (0,0))) (a:e≠t):some g≠v.ownBlock:=by
  obtain⟨inner,b,i⟩:=h;exact qY b hb a
end
structure Kd (α:Type) where
  sz:Nat
  E:List Nat
  K:World->α->List Value->Prop
  M:World->Nat->(Nat->Prop)->α->List Value->Prop
  dJ:∀{w x cs},K w x cs->cs.length=sz
  dS:∀{w x cs},K w x cs->∀u∈cs,u.oneCell'=true
  fQ:∀{w w1:World} {x cs},Below w.heap.size w w1->K w x cs->K w1 x cs
  cL:∀{w base ok x cs},M w base ok x cs->K w x cs
  cm:∀{w base ok ok' x cs},(∀k,ok k->ok' k)->M w base ok x cs->M w base ok' x cs
  d_:∀{w:World} {base ok x cs},M w base ok x cs->M w base (fun k=>ok k∧base<=k∧k<w.heap.size∧∃q,q∈E∧∃cells,w.heap[k]? =some (.cells cells q (0,0))) x cs
  ej:∀{w w1:World} {base ok x cs},(∀k,ok k->w1.heap[k]? =w.heap[k]?)->M w base ok x cs->M w1 base ok x cs
  fR:∀{w base base' ok x cs},base'<=base->M w base ok x cs->M w base' ok x cs
theorem wP {w w1:World} {base:Nat} {e:TypeId} {size n:Nat} {v:Value} {xs:List Value} (h:w.ownsRow base e size v n xs) (hm:∀k,v.ownBlock=some k->w1.heap[k]? =w.heap[k]?):w1.ownsRow base e size v n xs:=by
  obtain⟨h1,a⟩:=h;refine⟨h1,?_⟩;rcases a with a|⟨g,cap,cur,rfl,b,i,r⟩
  · exact .inl a
  · exact .inr ⟨g,cap,cur,rfl,b,(hm g (by simp[Value.ownBlock])).trans i,r⟩
theorem iS {w:World} {base:Nat} {e:TypeId} {size n:Nat} {v:Value} {xs:List Value} (h:w.ownsRow base e size v n xs) (k:Nat) (hk:v.ownBlock=some k):∃cells,w.heap[k]? =some (.cells cells e (0,0)):=by
  rcases h.2 with⟨rfl,_⟩|⟨g,cap,cur,rfl,b,a,r⟩
  · simp[Value.ownBlock] at hk
  · have:g=k:=by simpa [Value.ownBlock] using hk
    subst this;exact⟨cur,a⟩
namespace Kd
def C {α:Type} (d:Kd α) (w:World) (A:Option Addr) (n:Nat) (xs:List α):Prop:=iB (d.K w) d.sz w A n xs
def R {α:Type} (d:Kd α) (e:Nat) (w:World) (base:Nat) (ok:Nat->Prop) (v:Value) (xs:List α):Prop:=
  (∀k,v.ownBlock=some k->ok k)∧fP (d.M w base (fun k=>ok k∧some k≠v.ownBlock)) e d.sz w base v xs
section
variable {α:Type} {d:Kd α} {e:Nat} {w w1:World} {base:Nat} {ok ok':Nat->Prop} {v:Value} {xs:List α}
theorem al {A:Option Addr} {n:Nat} (h:d.C w A n xs) (hb:Below w.heap.size w w1):d.C w1 A n xs:=iB.eT h hb (fun _ _ hp=>d.fQ hb hp)
theorem cV (d:Kd α) (e:Nat) (w:World) (base:Nat) (ok:Nat->Prop):d.R e w base ok (.slice none 0 0) []:=⟨fun k hk=>by simp[Value.ownBlock] at hk,fP.none_ _ _ _ _ _⟩
theorem aV (h:d.R e w base ok v xs) (a:∀k,ok k->ok' k):d.R e w base ok' v xs:=⟨fun k hk=>a k (h.1 k hk),h.2.eT (fun _ _ hp=>d.cm (fun k hk=>⟨a k hk.1,hk.2⟩) hp)⟩
theorem eC (h:d.R e w base ok v xs):d.R e w base (fun k=>ok k∧base<=k∧k<w.heap.size∧∃q,q∈e::d.E∧∃cells,w.heap[k]? =some (.cells cells q (0,0))) v xs:=by
  obtain⟨g,inner,a,i⟩:=h;refine⟨fun k hk=>?_,inner,a,i.eT (fun _ _ hp=>d.cm (fun k hk=>?_) (d.d_ hp))⟩
  · obtain⟨cells,b⟩:=iS a k hk
    exact⟨g k hk,jv a k hk,qV a k hk,e,List.mem_cons_self,cells,b⟩
  · obtain⟨⟨h1,j⟩,l,m,q,n,b⟩:=hk
    exact⟨⟨h1,l,m,q,List.mem_cons_of_mem _ n,b⟩,j⟩
theorem eU (h:d.R e w base ok v xs) (hm:∀k,ok k->w1.heap[k]? =w.heap[k]?):d.R e w1 base ok v xs:=by
  obtain⟨a,inner,b,g⟩:=h;exact⟨a,inner,wP b (fun k hk=>hm k (a k hk)),g.eT (fun _ _ hp=>d.ej (fun k hk=>hm k hk.1) hp)⟩
theorem aW {base':Nat} (h:d.R e w base ok v xs) (hb:base'<=base):d.R e w base' ok v xs:=by
  obtain⟨a,inner,b,g⟩:=h;exact⟨a,inner,wI b hb,g.eT (fun _ _ hp=>d.fR hb hp)⟩
theorem kD (h:d.R e w base ok v xs) (hm:∀k,ok k->k<w.heap.size->w1.heap[k]? =w.heap[k]?):d.R e w1 base ok v xs:=
  aV (eU (eC h) (fun k hk=>hm k hk.1 hk.2.2.1)) (fun _ hk=>hk.1)
theorem oL {x:α} {cs:List Value} (h:d.M w base ok x cs) (hm:∀k,ok k->k<w.heap.size->w1.heap[k]? =w.heap[k]?):d.M w1 base ok x cs:=
  d.cm (fun _ hk=>hk.1) (d.ej (fun k hk=>hm k hk.1 hk.2.2.1) (d.d_ h))
theorem cp (h:d.R e w base ok v xs) (hb:Below w.heap.size w w1):d.R e w1 base ok v xs:=kD h (fun k _ hk=>hb.block k hk)
theorem q9 {x:α} {cs:List Value} (h:d.M w base ok x cs) (hb:Below w.heap.size w w1):d.M w1 base ok x cs:=oL h (fun k _ hk=>hb.block k hk)
theorem kE (h:d.R e w base ok v xs) {row:Option Nat} (a:w.grownBy w1 row) (b:∀k,ok k->some k≠row):d.R e w1 base ok v xs:=kD h (fun k g hk=>a.block k hk (b k g))
theorem bR (h:d.R e w base ok v xs) {p:Addr} (a:∀k,ok k->k≠p.block) (u:Value):d.R e (w.setCell p u) base ok v xs:=kD h (fun k b _=>Below.heap_setCell w p u k (a k b))
theorem dT (h:d.R e w base ok v xs) {g t:Nat} {cells:Array Value} (hb:w.heap[g]? =some (.cells cells t (0,0))) (a:∀q,q∈e::d.E->q≠t):d.R e w base (fun k=>ok k∧k≠g) v xs:=
  aV (eC h) (fun k hk=>⟨hk.1,by
    obtain⟨_,_,_,q,b,j,i⟩:=hk;rintro rfl;rw[i] at hb;injection hb with hb
    injection hb with _ hb
    exact a q b hb⟩)
theorem eK (h:d.R e w base ok v xs) {g t:Nat} {cells:Array Value} (hb:w.heap[g]? =some (.cells cells t (0,0))) (a:∀q,q∈e::d.E->q≠t) (j:Nat) (u:Value):d.R e (w.setCell ⟨g,j,none⟩ u) base ok v xs:=
  aV (bR (p:=⟨g,j,none⟩) (dT h hb a) (fun _ hk=>hk.2) u) (fun _ hk=>hk.1)
theorem mN (h:d.R e w base ok v xs):∃A c,v= .slice A xs.length c∧xs.length<=c∧d.C w A xs.length xs:=by
  obtain⟨A,c,he,a,b⟩:=fP.reads h.2;exact⟨A,c,he,a,b.eT (Below.refl _ _) (fun _ _ hp=>d.cL hp)⟩
theorem aZ (h:d.R e w base ok v xs):∃A c,v= .slice A xs.length c:=by
  obtain⟨A,c,he,_⟩:=mN h;exact⟨A,c,he⟩
theorem iT (h:d.R e w base ok v xs):∃inner,w.ownsRow base e d.sz v xs.length inner:=by
  obtain⟨_,inner,a,_⟩:=h;exact⟨inner,a⟩
theorem dh (h:d.R e w base ok v xs) {g t:Nat} {cells:Array Value} (hb:w.heap[g]? =some (.cells cells t (0,0))) (a:e≠t):some g≠v.ownBlock:=fP.wO h.2 hb a
end
def scalar {α:Type} (enc:α->Value) (h1:∀x,(enc x).oneCell'=true):Kd α where
  sz:=1
  E:=[]
  K:=fun _ x cs=>cs=[enc x]
  M:=fun _ _ _ x cs=>cs=[enc x]
  dJ:=fun h=>by rw[h];rfl
  dS:=fun h u hu=>by
    rw[h] at hu;rw[List.mem_singleton.1 hu];exact h1 _
  fQ:=fun _ h=>h
  cL:=fun h=>h
  cm:=fun _ h=>h
  d_:=fun h=>h
  ej:=fun _ h=>h
  fR:=fun _ h=>h
def int (k:IntKind):Kd Int:=scalar (Value.int k) (fun _=>rfl)
def bool:Kd Bool:=scalar Value.bool (fun _=>rfl)
def slice {α:Type} (e:Nat) (d:Kd α):Kd (List α) where
  sz:=1
  E:=e::d.E
  K:=fun w xs cs=>∃A c,cs=[.slice A xs.length c]∧xs.length<=c∧d.C w A xs.length xs
  M:=fun w base ok xs cs=>∃v,cs=[v]∧d.R e w base ok v xs
  dJ:=by
    rintro w x cs ⟨A,c,rfl,_⟩;rfl
  dS:=by
    rintro w x cs ⟨A,c,rfl,_⟩ u hu;rw[List.mem_singleton.1 hu];rfl
  fQ:=by
    rintro w w1 x cs hb ⟨A,c,rfl,a,b⟩;exact⟨A,c,rfl,a,al b hb⟩
  cL:=by
    rintro w base ok x cs ⟨v,rfl,h⟩;obtain⟨A,c,rfl,a,b⟩:=mN h;exact⟨A,c,rfl,a,b⟩
  cm:=by
    rintro w base ok ok' x cs g ⟨v,rfl,h⟩;exact⟨v,rfl,aV h g⟩
  d_:=by
    rintro w base ok x cs ⟨v,rfl,h⟩;exact⟨v,rfl,eC h⟩
  ej:=by
    rintro w w1 base ok x cs hm ⟨v,rfl,h⟩;exact⟨v,rfl,eU h hm⟩
  fR:=by
    rintro w base base' ok x cs hb ⟨v,rfl,h⟩;exact⟨v,rfl,aW h hb⟩
def pair {α β:Type} (a:Kd α) (b:Kd β):Kd (α×β) where
  sz:=a.sz+b.sz
  E:=a.E++b.E
  K:=fun w x cs=>∃c0 c1,cs=c0++c1∧a.K w x.1 c0∧b.K w x.2 c1
  M:=fun w base ok x cs=>∃c0 c1,cs=c0++c1∧a.M w base ok x.1 c0∧b.M w base ok x.2 c1
  dJ:=by
    rintro w x cs ⟨c0,c1,rfl,e,h1⟩;rw[List.length_append,a.dJ e,b.dJ h1]
  dS:=by
    rintro w x cs ⟨c0,c1,rfl,e,h1⟩ u hu;rcases List.mem_append.1 hu with hu|hu
    · exact a.dS e u hu
    · exact b.dS h1 u hu
  fQ:=by
    rintro w w1 x cs hb ⟨c0,c1,rfl,e,h1⟩;exact⟨c0,c1,rfl,a.fQ hb e,b.fQ hb h1⟩
  cL:=by
    rintro w base ok x cs ⟨c0,c1,rfl,e,h1⟩;exact⟨c0,c1,rfl,a.cL e,b.cL h1⟩
  cm:=by
    rintro w base ok ok' x cs m ⟨c0,c1,rfl,e,h1⟩;exact⟨c0,c1,rfl,a.cm m e,b.cm m h1⟩
  d_:=by
    rintro w base ok x cs ⟨c0,c1,rfl,e,h1⟩;refine⟨c0,c1,rfl,a.cm ?_ (a.d_ e),b.cm ?_ (b.d_ h1)⟩
    · rintro k ⟨g,h,i,q,j,l⟩
      exact⟨g,h,i,q,List.mem_append_left _ j,l⟩
    · rintro k ⟨g,h,i,q,j,l⟩
      exact⟨g,h,i,q,List.mem_append_right _ j,l⟩
  ej:=by
    rintro w w1 base ok x cs hm ⟨c0,c1,rfl,e,h1⟩;exact⟨c0,c1,rfl,a.ej hm e,b.ej hm h1⟩
  fR:=by
    rintro w base base' ok x cs hb ⟨c0,c1,rfl,e,h1⟩;exact⟨c0,c1,rfl,a.fR hb e,b.fR hb h1⟩
def wQ {α β:Type} (d:Kd α) (f:β->α):Kd β where
  sz:=d.sz
  E:=d.E
  K:=fun w x cs=>d.K w (f x) cs
  M:=fun w base ok x cs=>d.M w base ok (f x) cs
  dJ:=d.dJ
  dS:=d.dS
  fQ:=d.fQ
  cL:=d.cL
  cm:=d.cm
  d_:=d.d_
  ej:=d.ej
  fR:=d.fR
theorem oM {α:Type} {d:Kd α} {w:World} {A:Option Addr} {n:Nat} {xs:List α} (h:d.C w A n xs) (z:α) (i:Int) (a:0<=i) (h1:i<n):
    ∃ad c,A=some ad∧c.length=d.sz∧d.K w (xs.getD i.toNat z) c∧∀j u,c[j]? =some u->w.cell? (ad.add (i.toNat*d.sz+j))=some u:=iB.wE h z i a h1
theorem oN {α:Type} {d:Kd α} {e base:Nat} {ok okp:Nat->Prop} {W w1:World} {v v1:Value} {xs:List α} {p:α} {inner cs:List Value} (i:∀k,v.ownBlock=some k->ok k) (j:aM (d.M W base (fun k=>ok k∧some k≠v.ownBlock)) d.sz xs inner) (hp:d.M W base okp p cs) (l:∀k,okp k->ok k∧some k≠v.ownBlock) (m:∀k,W.heap.size<=k->ok k)
    (n:w1.ownsRow base e d.sz v1 (xs.length+1) (inner++cs)) (r:W.grownBy w1 v.ownBlock) (a:v1.ownBlock=v.ownBlock∨∃b,v1.ownBlock=some b∧W.heap.size<=b):d.R e w1 base ok v1 (xs++[p]):=by
  have s:∀k,some k≠v.ownBlock->k<W.heap.size->some k≠v1.ownBlock:=by
    intro k hk u;rcases a with a|⟨b,hb,hle⟩
    · rw[a];exact hk
    · rw[hb]
      intro he;injection he with he
      omega
  have step:∀{q:α} {c:List Value} {o:Nat->Prop},d.M W base o q c->(∀k,o k->ok k∧some k≠v.ownBlock)->d.M w1 base (fun k=>ok k∧some k≠v1.ownBlock) q c:=by
    intro q c o g h;have h1:=d.ej (w1:=w1) (fun k hk=>r.block k hk.2.2.1 (h k hk.1).2) (d.d_ g);exact d.cm (fun k hk=>⟨(h k hk.1).1,s k (h k hk.1).2 hk.2.2.1⟩) h1
  refine⟨fun k hk=>?_,inner++cs,by rw[List.length_append,List.length_singleton];exact n,?_⟩
  · rcases a with a|⟨b,hb,hle⟩
    · exact i k (a▸hk)
    · rw[hb] at hk
      injection hk with hk
      exact m k (by omega)
  · exact(j.eT (fun _ _ g=>step g (fun _ hk=>hk))).snoc (step hp l) (d.dJ (d.cL hp))
section
variable {P:Program} {ops:Array Oper} {rest:List Oper} {o:Oper} {a:Act} {Q:Exit->Act->World->Prop} {α:Type}
theorem lI (d:Kd α) {w0 W:World} (base:Nat) (l:o.guard=none) (s x:Operand) (t e:TypeId) (z:Value) (bytes:Nat)
    (m:o.op= .call {callee:=.builtin .append,args:=#[s,x],argTypes:=#[t,t]})
    (n:P.underlying t=some (.slice e)) (q:(P.info? e).map (fun i=>(i.zero,i.size,i.bytes))=some (some z,d.sz,bytes)) (r:z.cells.size=d.sz) (u:0<d.sz) (w:0<bytes)
    (v:Value) (xs:List α) (p:α) (cs:List Value) (ok okp:Nat->Prop) (y:a.eval s=v) (B:a.eval x= .slice (some ⟨W.heap.size,0,none⟩) 1 1) (hp:d.M W base okp p cs) (C:∀k,okp k->ok k∧some k≠v.ownBlock) (D:∀k,W.heap.size<=k->ok k)
    (E:d.R e W base ok v xs) (F:Below base w0 W) (G:base<=W.heap.size) (H:(xs.length+1)*bytes<=140737488355328)
    (h:∀v1 w1,d.R e w1 base ok v1 (xs++[p])->Below base w0 w1->W.grownBy w1 v.ownBlock->(v1.ownBlock=v.ownBlock∨∃b,v1.ownBlock=some b∧W.heap.size<=b)->wpList P ops Q rest (a.put o.dst v1) w1):
    wpList P ops Q (o::rest) a (W.alloc (.cells cs.toArray e)):=by
  obtain⟨I,inner,J,K⟩:=E;refine wG base l s x t e z d.sz bytes m n q r u w v xs.length inner cs y B (d.dJ (d.cL hp)) (d.dS (d.cL hp)) J F G H ?_;intro v1 w1 L N g j;exact h v1 w1 (oN I K hp C D L g j) N g j
end
section
variable {P:Program} {ops:Array Oper} {o:Oper} {a:Act} {Q:Exit->Act->World->Prop} {Kc:Act->World->Prop} {α:Type}
theorem oO (d:Kd α) {w0 W:World} (base:Nat) (hw:Region.wanted o (yielded ops a.tmps)=true) (s x:Operand) (t e:TypeId) (z:Value) (bytes:Nat)
    (l:o.op= .call {callee:=.builtin .append,args:=#[s,x],argTypes:=#[t,t]})
    (m:P.underlying t=some (.slice e)) (n:(P.info? e).map (fun i=>(i.zero,i.size,i.bytes))=some (some z,d.sz,bytes)) (q:z.cells.size=d.sz) (r:0<d.sz) (u:0<bytes)
    (v:Value) (xs:List α) (p:α) (cs:List Value) (ok okp:Nat->Prop) (w:a.eval s=v) (y:a.eval x= .slice (some ⟨W.heap.size,0,none⟩) 1 1) (hp:d.M W base okp p cs) (B:∀k,okp k->ok k∧some k≠v.ownBlock) (C:∀k,W.heap.size<=k->ok k)
    (D:d.R e W base ok v xs) (E:Below base w0 W) (F:base<=W.heap.size) (G:(xs.length+1)*bytes<=140737488355328)
    (h:∀v1 w1,d.R e w1 base ok v1 (xs++[p])->Below base w0 w1->W.grownBy w1 v.ownBlock->(v1.ownBlock=v.ownBlock∨∃b,v1.ownBlock=some b∧W.heap.size<=b)->Kc (a.put o.dst v1) w1):
    if Region.wanted o (yielded ops a.tmps)=true then Oper.wp P o a (W.alloc (.cells cs.toArray e)) Kc Q else Kc (a.put o.dst undef) (W.alloc (.cells cs.toArray e)):=by
  obtain⟨H,inner,I,J⟩:=D;refine wH base hw s x t e z d.sz bytes l m n q r u v xs.length inner cs w y (d.dJ (d.cL hp)) (d.dS (d.cL hp)) I E F G ?_;intro v1 w1 K L g j;exact h v1 w1 (oN H J hp B C K g j) L g j
end
theorem wR {α:Type} {enc:α->Value} (xs:List α):aM (fun (x:α) (cs:List Value)=>cs=[enc x]) 1 xs (bF enc xs):=by
  refine⟨by simp[bF],fun j p a=>?_⟩;obtain⟨b,hp⟩:=List.getElem?_eq_some_iff.1 a;have e:j<(bF enc xs).length:=by rw[qZ];exact b
  rw[Nat.mul_one,List.drop_eq_getElem_cons e];simp[bF,hp]
theorem lJ {α:Type} {enc:α->Value} {h1:∀x,(enc x).oneCell'=true} {e:Nat} {w:World} {base:Nat} {ok:Nat->Prop} {v:Value} {xs:List α} (a:w.ownsRow base e 1 v xs.length (bF enc xs)) (b:∀k,v.ownBlock=some k->ok k):(scalar enc h1).R e w base ok v xs:=⟨b,bF enc xs,a,wR xs⟩
theorem mO {α:Type} {enc:α->Value} {h1:∀x,(enc x).oneCell'=true} {e:Nat} {w:World} {base:Nat} {ok:Nat->Prop} {v:Value} {xs:List α} (h:(scalar enc h1).R e w base ok v xs):w.ownsRow base e 1 v xs.length (bF enc xs):=by
  obtain⟨_,inner,l,a⟩:=h;have:inner=bF enc xs:=by
    apply List.ext_getElem?
    intro j;rcases Nat.lt_or_ge j xs.length with b|b
    · have m:=a.2 j _ (List.getElem?_eq_getElem b)
      have i:j<inner.length:=by have:=a.1;simp[scalar] at this;omega
      have g:(inner.drop (j*1)).take 1=[enc xs[j]]:=m;rw[Nat.mul_one,List.drop_eq_getElem_cons i] at g;have n:inner[j]=enc xs[j]:=by
        have k:=congrArg List.head? g;rw[List.take_succ_cons] at k;exact Option.some.inj k
      rw[List.getElem?_eq_getElem i,n];simp[bF,List.getElem?_eq_getElem b]
    · have g:inner.length=xs.length:=by have:=a.1;simp[scalar] at this;omega
      rw[List.getElem?_eq_none (by omega),List.getElem?_eq_none (by rw[qZ];omega)]
  rw[<-this];exact l
theorem oP {α:Type} {enc:α->Value} {d:α} {h1:∀x,(enc x).oneCell'=true} {w:World} {A:Option Addr} {n:Nat} {xs:List α} (h:(scalar enc h1).C w A n xs):kC enc d w A n xs:=by
  refine⟨h.1,h.2.1,fun hn=>?_⟩;obtain⟨ad,e,b⟩:=h.2.2 hn;refine⟨ad,e,fun j l=>?_⟩;have a:j<xs.length:=by have:=h.1;omega
  obtain⟨c,_,g,i⟩:=b j _ (List.getElem?_eq_getElem a);have k:c=[enc xs[j]]:=g;subst k;have:=i 0 _ rfl;simpa [scalar,List.getD_eq_getElem?_getD,List.getElem?_eq_getElem a] using this
end Kd
namespace Kd
theorem q_ {α:Type} {d:Kd α} {e base:Nat} {ok:Nat->Prop} {W w1:World} {u v v1:Value} {xs:List α} (h:d.R e W base (fun k=>ok k∧some k≠v.ownBlock) u xs) (g:W.grownBy w1 v.ownBlock) (a:v1.ownBlock=v.ownBlock∨∃b,v1.ownBlock=some b∧W.heap.size<=b):d.R e w1 base (fun k=>ok k∧some k≠v1.ownBlock) u xs:=by
  refine aV (eU (eC h) (fun k hk=>g.block k hk.2.2.1 hk.1.2)) (fun k hk=>⟨hk.1.1,?_⟩);rcases a with a|⟨b,hb,hle⟩
  · rw[a];exact hk.1.2
  · rw[hb]
    intro he;injection he with he
    have:=hk.2.2.1;omega
theorem lK {α:Type} {d:Kd α} {e base:Nat} {ok:Nat->Prop} {w:World} {v:Value} {xs:List α} (h:d.R e w base ok v xs):(slice e d).M w base ok xs [v]:=⟨v,rfl,h⟩
end Kd
namespace Kd
section
variable {α β:Type} {d:Kd α} {d':Kd β} {e e':Nat} {w w1 W:World} {base b b':Nat} {ok ok' okv oku:Nat->Prop} {v u:Value} {xs:List α} {ys:List β}
theorem aI (h:d.R e w base ok v xs) (o:Obj):d.R e (w.alloc o) base ok v xs:=cp h (aq (Below.refl _ _) o)
theorem a8 (h:d.R e w base ok v xs):d.R e w.drew base ok v xs:=cp h (gF (Below.refl _ _))
theorem ba (h:d.R e w base ok v xs) (m:Nat):d.R e (w.drewN m) base ok v xs:=cp h (bP (Below.refl _ _) m)
theorem br {A:Option Addr} {n:Nat} (h:d.C w A n xs) (o:Obj):d.C (w.alloc o) A n xs:=al h (aq (Below.refl _ _) o)
theorem eV {A:Option Addr} {n:Nat} (h:d.C w A n xs):d.C w.drew A n xs:=al h (gF (Below.refl _ _))
theorem fs {A:Option Addr} {n:Nat} (h:d.C w A n xs) (m:Nat):d.C (w.drewN m) A n xs:=al h (bP (Below.refl _ _) m)
theorem mP (d:Kd α) (w:World):d.C w none ([]:List α).length []:=⟨rfl,by simp,fun h=>absurd h (Nat.lt_irrefl 0)⟩
theorem lL {A:Option Addr} {n:Nat} (h:d.C w A n xs):n<=9223372036854775807:=h.2.1
theorem aA {A:Option Addr} {n c:Nat} (h:d.R e w base ok (.slice A n c) xs):n=xs.length∧n<=c∧d.C w A xs.length xs:=by
  obtain⟨A',g,he,i,a⟩:=mN h;injection he with h1 b j
  subst h1;exact⟨b,by omega,a⟩
theorem aX (h:d.R e w base ok v xs):∀k,v.ownBlock=some k->k<w.heap.size:=by
  obtain⟨inner,a⟩:=iT h;exact qV a
theorem dK (h:d.R e w base ok v xs):∀k,v.ownBlock=some k->base<=k:=by
  obtain⟨inner,a⟩:=iT h;exact jv a
theorem wS (h:d.R e w base ok v xs) {g:Nat} (a:∀k,ok k->k≠g):some g≠v.ownBlock:=fun e=>a g (h.1 g e.symm) rfl
theorem fg (h:d.R e w base ok v xs) (hp:0<xs.length):∃g cap,v= .slice (some ⟨g,0,none⟩) xs.length cap∧base<=g∧g<w.heap.size∧∃cells,w.heap[g]? =some (.cells cells e (0,0)):=by
  obtain⟨inner,a⟩:=iT h;obtain⟨g,cap,he,hb,b⟩:=a.form hp;obtain⟨cells,i⟩:=iS a g (by rw[he];simp[Value.ownBlock]);exact⟨g,cap,he,hb,b,cells,i⟩
end
section
variable {w W:World} {A:Option Addr} {n:Nat}
theorem bG {k:IntKind} {xs:List Int} (h:(Kd.int k).C w A n xs) (i:Int) (a:0<=i) (h1:i<n):∃ad,A=some ad∧w.cell? (ad.add i.toNat)=some (.int k (rd xs i)):=
  kC.at_ (oP (enc:=Value.int k) (d:=(0:Int)) (h1:=fun _=>rfl) h) i a h1
theorem jw {xs:List Bool} (h:Kd.bool.C w A n xs) (i:Int) (a:0<=i) (h1:i<n):∃ad,A=some ad∧w.cell? (ad.add i.toNat)=some (.bool (bH false xs i)):=
  kC.at_ (oP (enc:=Value.bool) (d:=false) (h1:=fun _=>rfl) h) i a h1
variable {α:Type} {enc:α->Value} {h1:∀x,(enc x).oneCell'=true} {e base g cap:Nat} {ok:Nat->Prop} {xs:List α}
theorem wT (d:α) (h:(scalar enc h1).R e W base ok (.slice (some ⟨g,0,none⟩) xs.length cap) xs) (i:Int) (a:0<=i) (hi:i<xs.length):W.cell? ⟨g,i.toNat,none⟩=some (enc (bH d xs i))∧W.frozen? ⟨g,i.toNat,none⟩=false:=wJ (mO h) i a hi
theorem re (h:(scalar enc h1).R e W base ok (.slice (some ⟨g,0,none⟩) xs.length cap) xs) (i:Int) (x:α):(scalar enc h1).R e (W.setCell ⟨g,i.toNat,none⟩ (enc x)) base ok (.slice (some ⟨g,0,none⟩) xs.length cap) (xs.set i.toNat x)∧W.grownBy (W.setCell ⟨g,i.toNat,none⟩ (enc x)) (some g):=by
  obtain⟨a,b⟩:=wK (mO h) i x;exact⟨lJ (by rw[List.length_set];exact a) h.1,b⟩
end
section
variable {P:Program} {ops:Array Oper} {rest:List Oper} {o:Oper} {a:Act} {Q:Exit->Act->World->Prop}
theorem rf {W w1:World} {v:Value} (b:o.guard=none) (e:(execOp a.eval o).run P W= .ok (.value v) w1) (h:wpList P ops Q rest (a.put o.dst v) w1):wpList P ops Q (o::rest) a W:=by
  refine wpList_plain b fun K g=>?_
  unfold Oper.wp;rw[e];exact g _ _ h
variable {α:Type}
theorem eL (d:Kd α) {w0 W:World} (base e:Nat) (j:o.guard=none) {N:Tmp} (_hd:o.dst=some N) {xs:List α} {inner:List Value} {ok okp:Nat->Prop}
    (l:(execOp a.eval o).run P W= .ok (.value (.slice (some ⟨W.heap.size,0,none⟩) xs.length xs.length)) (W.alloc (.cells inner.toArray e)))
    (g:aM (d.M W base okp) d.sz xs inner) (m:∀k,okp k->ok k) (n:ok W.heap.size) (q:Below base w0 W) (i:base<=W.heap.size) (hm:xs.length<=9223372036854775807)
    (h:∀v1 w1,d.R e w1 base ok v1 xs->Below base w0 w1->W.grownBy w1 none->(∃b,v1.ownBlock=some b∧W.heap.size<=b)->wpList P ops Q rest (a.put o.dst v1) w1):wpList P ops Q (o::rest) a W:=by
  refine rf j l (h _ _ ⟨fun k hk=>?_,inner,?_,?_⟩ (q.alloc i _) (World.grownBy_alloc W _ none) ⟨W.heap.size,by simp[Value.ownBlock],Nat.le_refl _⟩)
  · have:W.heap.size=k:=by simpa [Value.ownBlock] using hk
    subst this;exact n
  · have r:=World.ownsRow_lit (base:=base) (e:=e) (size:=d.sz) W inner.toArray xs.length i (by simpa [maxLen] using hm) (by simpa using g.1)
    simpa using r
  · refine g.eT (fun p c hp=>d.cm (fun k hk=>⟨m k hk.1,fun he=>?_⟩) (q9 (d.d_ hp) (aq (Below.refl _ _) _)))
    have s:k=W.heap.size:=by simpa [Value.ownBlock] using he
    have:=hk.2.2.1;omega
theorem rh {α:Type} {R:α->List Value->Prop} {z:Value} {size:Nat} {z0:α} (a:z.cells.size=size) (o:0<size) (e:R z0 z.cells.toList) (m:Nat):aM R size (List.replicate m z0) (madeCells z.cells (m*size)).toList:=by
  refine⟨by simp[size_madeCells],fun j p g=>?_⟩;obtain⟨h,hp⟩:=List.getElem?_eq_some_iff.1 g;have k:j<m:=by simpa using h
  have l:z0=p:=by simpa using hp
  subst l;have hle:j*size+size<=m*size:=by rw[<-Nat.succ_mul];exact Nat.mul_le_mul_right _ k
  have:((madeCells z.cells (m*size)).toList.drop (j*size)).take size=z.cells.toList:=by
    apply List.ext_getElem
    · simp[size_madeCells,a]
      omega
    · intro i h1 b
      have hi:i<size:=by rw[Array.length_toList,a] at b;exact b
      have n:(j*size+i)%size=i:=by
        rw[Nat.mul_comm,Nat.mul_add_mod];exact Nat.mod_eq_of_lt hi
      simp[madeCells,a,n];rw[getElem!_pos z.cells i (by omega)]
  rw[this];exact e
theorem jx (d:Kd α) {w0 W:World} (base e:Nat) (p:o.guard=none) {N:Tmp} (hd:o.dst=some N) (t:TypeId) (x y:Operand) (q:o.op= .makeSlice t x y) (n:Int) (r:a.eval x= .int .i64 n) (s:a.eval y= .int .i64 n)
    (u:P.underlying t=some (.slice e)) (z:Value) (bytes:Nat) (v:(P.info? e).map (fun i=>(i.zero,i.size,i.bytes))=some (some z,d.sz,bytes)) (w:z.cells.size=d.sz) (B:0<d.sz) (C:0<bytes)
    (z0:α) {ok okp:Nat->Prop} (hzero:d.M W base okp z0 z.cells.toList) (D:∀k,okp k->ok k) (E:ok W.heap.size) (F:0<=n) (j:n.toNat*bytes<=281474976710656) (G:Below base w0 W) (H:base<=W.heap.size)
    (h:∀v1 w1,d.R e w1 base ok v1 (List.replicate n.toNat z0)->Below base w0 w1->W.grownBy w1 none->(∃b,v1.ownBlock=some b∧W.heap.size<=b)->wpList P ops Q rest (a.put o.dst v1) w1):wpList P ops Q (o::rest) a W:=by
  obtain⟨m,rfl⟩:=Int.eq_ofNat_of_zero_le F;simp only[Int.toNat_natCast] at j h;obtain⟨i0,hi,l⟩:=Option.map_eq_some_iff.1 v;simp only[Prod.mk.injEq] at l;obtain⟨I,J,K⟩:=l;have hm:m<=281474976710656:=Nat.le_trans (Nat.le_mul_of_pos_right _ C) j;have g:=run_make (P:=P) W t e i0 z u hi I .i64 .i64 (m:Int) (m:Int) (by omega) (by omega)
    (by
      have L:((i0.bytes*m:Nat):Int)<=281474976710656:=by rw[K,Nat.mul_comm];omega
      rwa [Int.natCast_mul] at L) (by omega)
  simp only[Int.toNat_natCast] at g;rw[J] at g;refine eL d base e p hd (xs:=List.replicate m z0) (inner:=(madeCells z.cells (m*d.sz)).toList) (okp:=okp) (ok:=ok) ?_ (rh w B hzero m) D E G H (by simp;omega) h;simp[execOp,q,r,s,g]
end
end Kd
theorem wU {w:World} {base n m c size:Nat} {e:TypeId} {A:Option Addr} {xs:List Value} (h:w.ownsRow base e size (.slice A n c) n xs) (hm:m<=n):w.ownsRow base e size (.slice A m c) m (xs.take (m*size)):=by
  obtain⟨h1,i⟩:=h;refine⟨by rw[List.length_take,h1];exact Nat.min_eq_left (Nat.mul_le_mul_right _ hm),?_⟩;rcases i with⟨he,p⟩|⟨g,cap,cur,he,hb,j,q,k,l,o⟩
  · injection he with a _ b
    subst a;subst b;exact .inl ⟨by rw[show m=0 by omega],by omega⟩
  · injection he with a _ b
    subst a;subst b;refine .inr ⟨g,c,cur,rfl,hb,j,by omega,k,l,?_⟩;rw[<-o,List.take_take,Nat.min_eq_left (Nat.mul_le_mul_right _ hm)]
def eM (w:World) (base:Nat) (e:TypeId) (size:Nat) (v:Value) (n:Nat) (xs:List Value):Prop:=
  xs.length=n*size∧
  ((n=0∧∃A,v= .slice A 0 0∧∀a,A=some a->base<=a.block∧∃cur,w.heap[a.block]? =some (.cells cur e (0,0)))∨
   ∃g off cap cur,v= .slice (some ⟨g,off*size,none⟩) n cap∧base<=g∧w.heap[g]? =some (.cells cur e (0,0))∧n<=cap∧off+cap<=maxLen∧cur.size=(off+cap)*size∧(cur.toList.drop (off*size)).take (n*size)=xs)
section
variable {w w1:World} {base n size:Nat} {e:TypeId} {v:Value} {xs:List Value}
theorem oQ (h:w.ownsRow base e size v n xs):eM w base e size v n xs:=by
  obtain⟨h1,b⟩:=h;refine⟨h1,?_⟩;rcases b with⟨rfl,i⟩|⟨g,cap,cur,rfl,hb,j,k,l,m,o⟩
  · exact .inl ⟨i,none,rfl,fun a p=>by cases p⟩
  · exact .inr ⟨g,0,cap,cur,by rw[Nat.zero_mul],hb,j,k,by rw[Nat.zero_add];exact l,by rw[Nat.zero_add];exact m,by rw[Nat.zero_mul,List.drop_zero];exact o⟩
theorem ri (h:eM w base e size v n xs) (hm:∀k,v.ownBlock=some k->w1.heap[k]? =w.heap[k]?):eM w1 base e size v n xs:=by
  obtain⟨h1,i⟩:=h;refine⟨h1,?_⟩;rcases i with⟨j,A,rfl,l⟩|⟨g,off,cap,cur,rfl,m,o,r⟩
  · refine .inl ⟨j,A,rfl,fun a b=>?_⟩
    obtain⟨hb,cur,p⟩:=l a b;subst b;exact⟨hb,cur,(hm a.block (by simp[Value.ownBlock])).trans p⟩
  · exact .inr ⟨g,off,cap,cur,rfl,m,(hm g (by simp[Value.ownBlock])).trans o,r⟩
theorem jU (h:eM w base e size v n xs) (k:Nat) (hk:v.ownBlock=some k):base<=k∧∃cells,w.heap[k]? =some (.cells cells e (0,0)):=by
  rcases h.2 with⟨_,A,rfl,b⟩|⟨g,off,cap,cur,rfl,i,j,r⟩
  · cases A with
    |none=>simp[Value.ownBlock] at hk
    |some a=>
      have:a.block=k:=by simpa [Value.ownBlock] using hk
      subst this;exact b a rfl
  · have:g=k:=by simpa [Value.ownBlock] using hk
    subst this;exact⟨i,cur,j⟩
theorem rj (h:eM w base e size v n xs) (k:Nat) (hk:v.ownBlock=some k):k<w.heap.size:=by
  obtain⟨_,cells,a⟩:=jU h k hk;exact(Array.getElem?_eq_some_iff.1 a).1
theorem wV {base':Nat} (h:eM w base e size v n xs) (hb:base'<=base):eM w base' e size v n xs:=by
  obtain⟨h1,j⟩:=h;refine⟨h1,?_⟩;rcases j with⟨k,A,rfl,b⟩|⟨g,off,cap,cur,rfl,l,r⟩
  · exact .inl ⟨k,A,rfl,fun a i=>⟨Nat.le_trans hb (b a i).1,(b a i).2⟩⟩
  · exact .inr ⟨g,off,cap,cur,rfl,Nat.le_trans hb l,r⟩
theorem rl (h:eM w base e size v n xs):∃A c,v= .slice A n c∧n<=c:=by
  rcases h.2 with⟨a,A,rfl,_⟩|⟨g,off,cap,cur,rfl,i,j,b,r⟩
  · exact⟨A,0,by rw[a],by omega⟩
  · exact⟨_,cap,rfl,b⟩
theorem wW (h:eM w base e size v n xs):n<=9223372036854775807:=by
  rcases h.2 with⟨a,_⟩|⟨g,off,cap,cur,rfl,b,i,j,hm,r⟩
  · omega
  · simp only[maxLen] at hm
    omega
theorem gW (g o j:Nat):(⟨g,o,none⟩:Addr).add j=⟨g,o+j,none⟩:=by unfold Addr.add;split<;>simp_all
theorem rp {A:Option Addr} {c:Nat} (h:eM w base e size (.slice A n c) n xs) (hn:0<n):∃ad,A=some ad∧∀j u,xs[j]? =some u->w.cell? (ad.add j)=some u:=by
  rcases h.2 with⟨k,_⟩|⟨g,off,cap,cur,he,l,a,m,hm,o,b⟩
  · omega
  · injection he with i _ p
    subst i;refine⟨_,rfl,fun j u hu=>?_⟩;rw[gW,cell_of_row w g _ cur e (0,0) a];rw[<-b,List.getElem?_take] at hu;split at hu
    · rw[List.getElem?_drop] at hu
      rw[<-Array.getElem?_toList];exact hu
    · cases hu
theorem wX {A:Option Addr} {c k:Nat} (h:eM w base e size (.slice A n c) n xs) (hk:k<=n):eM w base e size (.slice (if c=k then A else A.map (·.add (k*size))) (n-k) (c-k)) (n-k) (xs.drop (k*size)):=by
  obtain⟨h1,m⟩:=h;refine⟨by rw[List.length_drop,h1,Nat.sub_mul],?_⟩;rcases m with⟨o,A',he,p⟩|⟨g,off,cap,cur,he,hb,j,u,v,q,r⟩
  · injection he with b hb i
    subst b;subst i;have s:k=0:=by omega
    subst s;exact .inl ⟨by omega,A,by rw[if_pos rfl,o],p⟩
  · injection he with b _ i
    subst b;subst i;by_cases l:c=k
    · rw[if_pos l]
      refine .inl ⟨by omega,some ⟨g,off*size,none⟩,?_,fun a b=>?_⟩
      · rw[show n-k=0 by omega,show c-k=0 by omega]
      · injection b with b
        subst b;exact⟨hb,cur,j⟩
    · rw[if_neg l]
      refine .inr ⟨g,off+k,c-k,cur,?_,hb,j,by omega,by omega,by rw[q];congr 1;omega,?_⟩
      · rw[Option.map_some,gW,Nat.add_mul]
      · rw[<-r,List.drop_take,List.drop_drop,Nat.add_mul,Nat.sub_mul]
theorem oR {g:Nat}:∀(a:List Value) (o:Nat) {w:World} (k:Nat),k≠g->(w.setCells g o a).heap[k]? =w.heap[k]?
  |[],_,_,_,_=>rfl
  |v::r,o,w,k,hk=>by
    rw[World.setCells,oR r (o+1) k hk];exact Below.heap_setCell w ⟨g,o,none⟩ v k hk
theorem oS (g:Nat):∀(a:List Value) (o:Nat) (w:World),(w.setCells g o a).os=w.os∧(w.setCells g o a).tape=w.tape∧(w.setCells g o a).output=w.output∧(w.setCells g o a).heap.size=w.heap.size
  |[],_,_=>⟨rfl,rfl,rfl,rfl⟩
  |v::r,o,w=>by
    obtain⟨h1,b,e,h⟩:=oS g r (o+1) (w.setCell ⟨g,o,none⟩ v);rw[World.setCells];exact⟨h1,b,e,by rw[h];simp[World.setCell]⟩
theorem oT {g:Nat} {e:TypeId}:∀(b:List Value) (o:Nat) (w:World) (cur:Array Value),w.heap[g]? =some (.cells cur e (0,0))->o+b.length<=cur.size->
    ∃a,(w.setCells g o b).heap[g]? =some (.cells a e (0,0))∧a.size=cur.size∧a.toList=cur.toList.take o++b++cur.toList.drop (o+b.length)
  |[],o,w,cur,h,_=>⟨cur,h,rfl,by simp⟩
  |v::r,o,w,cur,h,i=>by
    have j:=bE h o v;simp only[List.length_cons] at i;obtain⟨a,k,l,m⟩:=oT r (o+1) (w.setCell ⟨g,o,none⟩ v) _ j (by simp;omega);refine⟨a,k,by rw[l];simp,?_⟩;rw[m,Array.toList_setIfInBounds];have n:o<cur.toList.length:=by rw[Array.length_toList];omega
    rw[List.take_set,List.drop_set_of_lt (by omega)];simp only[List.length_cons];rw[show o+1+r.length=o+(r.length+1) by omega];congr 1
    rw[List.take_succ_eq_append_getElem n,List.set_append_right _ _ (by rw[List.length_take];omega)];have p:o<cur.size:=by omega
    simp[Nat.min_eq_left (Nat.le_of_lt p)]
end
section
variable {P:Program}
theorem wY (w:World) (base:Nat) (t ty e:TypeId) (i:TypeInfo) (z:Value) (size bytes:Nat) (y:P.underlying t=some (.slice e)) (hi:P.info? e=some i) (E:i.zero=some z)
    (B:i.size=size) (F:i.bytes=bytes) (G:z.cells.size=size) (aQ:0<size)
    (v:Value) (n:Nat) (xs:List Value) (p:eM w base e size v n xs)
    (a:Addr) (m c:Nat) (news:List Value) (q:news.length=m*size) (C:∀j u,news[j]? =some u->w.cell? (a.add j)=some u) (h1:∀u∈news,u.oneCell'=true) (hm:0<m)
    (H:n+m<=maxLen) (I:(n+m)*bytes<=140737488355328) (J:base<=w.heap.size):
    ∃h w',(Builtin.append_ #[t,t] ty #[v,.slice (some a) m c]).run P w= .ok h w'∧eM w' base e size h (n+m) (xs++news)∧w.grownBy w' v.ownBlock∧(h.ownBlock=v.ownBlock∨∃b,h.ownBlock=some b∧w.heap.size<=b):=by
  have K:∀(b:Addr) (cap:Nat),cap<n+m->(∀j u,xs[j]? =some u->w.cell? (b.add j)=some u)->v= .slice (some b) n cap->
      ∃h w',(Builtin.append_ #[t,t] ty #[v,.slice (some a) m c]).run P w= .ok h w'∧eM w' base e size h (n+m) (xs++news)∧w.grownBy w' v.ownBlock∧(h.ownBlock=v.ownBlock∨∃b,h.ownBlock=some b∧w.heap.size<=b):=by
    intro b cap O Q o;obtain⟨h,w',r,x,l⟩:=run_append_arg_grows (P:=P) (w:=w) t ty e i z size bytes y hi E B F G aQ b n cap xs p.1 Q a m c news q C O H I;refine⟨h,w',by rw[o];exact r,wV (oQ x) J,⟨l.os,l.tape,l.output,l.size,fun k hk _=>l.block k hk (by simp)⟩,?_⟩;obtain⟨R,ag,he,hb,_⟩:=x.form (by omega);exact .inr ⟨R,by rw[he];simp[Value.ownBlock],hb⟩
  rcases p.2 with⟨D,A,o,hA⟩|⟨g,off,cap,cur,o,S,l,am,T,L,M⟩
  · cases A with
    |none=>
      subst D;have x:w.ownsRow base e size v 0 xs:=⟨p.1,.inl ⟨o,rfl⟩⟩;obtain⟨h,w',r,U,l,_,s⟩:=run_append_own_at (P:=P) w base t ty e i z size bytes y hi E B F G aQ v 0 xs x a m c news q C h1 H I J;refine⟨h,w',r,oQ U,l,?_⟩;rcases s with s|s
      · exact .inl s
      · exact .inr ⟨_,s,Nat.le_refl _⟩
    |some b=>
      have V:xs=[]:=List.eq_nil_of_length_eq_zero (by rw[p.1,D,Nat.zero_mul]);exact K b 0 (by omega) (fun j u hu=>by rw[V] at hu;simp at hu) (by rw[o,D])
  · by_cases N:n+m<=cap
    · have W:off*size+n*size+news.length<=cur.size:=by
        rw[q,L,<-Nat.add_mul,<-Nat.add_mul];exact Nat.mul_le_mul_right _ (by omega)
      subst B;have r:=run_append_room_cells (P:=P) (w:=w) t ty e i y hi g (off*i.size) n cap a m c news q C h1 N
        (fun j hj=>by rw[cell_of_row w g _ cur e (0,0) l];simp;omega) (fun j _=>bq l _)
      obtain⟨X,Y,Z,h5⟩:=oT news (off*i.size+n*i.size) w cur l W;obtain⟨s1,s2,s3,s4⟩:=oS g news (off*i.size+n*i.size) w;refine⟨_,_,by rw[o];exact r,⟨by rw[List.length_append,p.1,q,Nat.add_mul],.inr ⟨g,off,cap,X,rfl,S,Y,N,T,by rw[Z,L],?_⟩⟩,
        ⟨s1,s2,s3,by rw[s4];exact Nat.le_refl _,fun k _ hk=>oR news _ k (fun he=>hk (by rw[o,he];simp[Value.ownBlock]))⟩,.inl (by rw[o];rfl)⟩
      rw[h5,List.append_assoc,List.drop_append_of_le_length (by rw[List.length_take,Array.length_toList];omega),List.drop_take];rw[show off*i.size+n*i.size-off*i.size=n*i.size by omega,M];rw[<-List.append_assoc];exact List.take_left' (by rw[List.length_append,p.1,q,Nat.add_mul])
    · refine K ⟨g,off*size,none⟩ cap (by omega) (fun j u hu=>?_) o
      rw[gW,cell_of_row w g _ cur e (0,0) l];rw[<-M,List.getElem?_take] at hu;split at hu
      · rw[List.getElem?_drop] at hu
        rw[<-Array.getElem?_toList];exact hu
      · cases hu
end
namespace Kd
theorem wZ {α:Type} {R:α->List Value->Prop} {size m:Nat} {ps:List α} {cs:List Value} (h:aM R size ps cs) (hm:m<=ps.length):aM R size (ps.take m) (cs.take (m*size)):=by
  refine⟨by rw[List.length_take,List.length_take,h.1,Nat.min_eq_left hm,Nat.min_eq_left (Nat.mul_le_mul_right _ hm)],fun j p a=>?_⟩;rw[List.getElem?_take] at a;split at a
  · rename_i b
    have:=h.2 j p a;have hle:j*size+size<=m*size:=by rw[<-Nat.succ_mul];exact Nat.mul_le_mul_right _ b
    rw[List.drop_take,List.take_take,Nat.min_eq_left (by omega)];exact this
  · cases a
theorem w_ {α:Type} {R:α->List Value->Prop} {size m:Nat} {ps:List α} {cs:List Value} (h:aM R size ps cs):aM R size (ps.drop m) (cs.drop (m*size)):=by
  refine⟨by rw[List.length_drop,List.length_drop,h.1,Nat.sub_mul],fun j p a=>?_⟩;rw[List.getElem?_drop] at a;have:=h.2 (m+j) p a;rw[List.drop_drop,<-Nat.add_mul];exact this
theorem xc {α:Type} {d:Kd α} {e m n c:Nat} {w:World} {base:Nat} {ok:Nat->Prop} {A:Option Addr} {xs:List α} (h:d.R e w base ok (.slice A n c) xs) (hm:m<=xs.length):d.R e w base ok (.slice A m c) (xs.take m):=by
  obtain⟨b,inner,a,g⟩:=h;have hn:n=xs.length:=by
    obtain⟨A',i,he⟩:=qW a;injection he
  subst hn;have hb:∀x y:Nat,(Value.slice A x c).ownBlock=(Value.slice A y c).ownBlock:=by
    intro x y;cases A<;>rfl
  refine⟨fun k hk=>b k (by rw[hb _ m];exact hk),inner.take (m*d.sz),?_,?_⟩
  · rw[List.length_take,Nat.min_eq_left hm]
    exact wU a hm
  · rw[hb m xs.length]
    exact wZ g hm
def Q {α:Type} (d:Kd α) (e:Nat) (w:World) (base:Nat) (ok:Nat->Prop) (v:Value) (xs:List α):Prop:=
  (∀k,v.ownBlock=some k->ok k)∧∃inner,eM w base e d.sz v xs.length inner∧aM (d.M w base (fun k=>ok k∧some k≠v.ownBlock)) d.sz xs inner
section
variable {α:Type} {d:Kd α} {e:Nat} {w w1 W:World} {base:Nat} {ok ok':Nat->Prop} {v:Value} {xs:List α}
theorem xd (h:d.R e w base ok v xs):d.Q e w base ok v xs:=by
  obtain⟨a,inner,b,g⟩:=h;exact⟨a,inner,oQ b,g⟩
theorem kF (h:d.Q e w base ok v xs) (a:∀k,ok k->ok' k):d.Q e w base ok' v xs:=by
  obtain⟨b,inner,g,i⟩:=h;exact⟨fun k hk=>a k (b k hk),inner,g,i.eT (fun _ _ hp=>d.cm (fun k hk=>⟨a k hk.1,hk.2⟩) hp)⟩
theorem mQ (h:d.Q e w base ok v xs):d.Q e w base (fun k=>ok k∧base<=k∧k<w.heap.size∧∃q,q∈e::d.E∧∃cells,w.heap[k]? =some (.cells cells q (0,0))) v xs:=by
  obtain⟨g,inner,a,i⟩:=h;refine⟨fun k hk=>?_,inner,a,i.eT (fun _ _ hp=>d.cm (fun k hk=>?_) (d.d_ hp))⟩
  · obtain⟨hb,cells,b⟩:=jU a k hk
    exact⟨g k hk,hb,rj a k hk,e,List.mem_cons_self,cells,b⟩
  · obtain⟨⟨h1,j⟩,l,m,q,n,b⟩:=hk
    exact⟨⟨h1,l,m,q,List.mem_cons_of_mem _ n,b⟩,j⟩
theorem rr (h:d.Q e w base ok v xs) (hm:∀k,ok k->w1.heap[k]? =w.heap[k]?):d.Q e w1 base ok v xs:=by
  obtain⟨a,inner,b,g⟩:=h;exact⟨a,inner,ri b (fun k hk=>hm k (a k hk)),g.eT (fun _ _ hp=>d.ej (fun k hk=>hm k hk.1) hp)⟩
theorem oU (h:d.Q e w base ok v xs) (hm:∀k,ok k->k<w.heap.size->w1.heap[k]? =w.heap[k]?):d.Q e w1 base ok v xs:=kF (rr (mQ h) (fun k hk=>hm k hk.1 hk.2.2.1)) (fun _ hk=>hk.1)
theorem ru (h:d.Q e w base ok v xs) (hb:Below w.heap.size w w1):d.Q e w1 base ok v xs:=oU h (fun k _ hk=>hb.block k hk)
theorem xe (h:d.Q e w base ok v xs) (o:Obj):d.Q e (w.alloc o) base ok v xs:=ru h (aq (Below.refl _ _) o)
theorem xf (h:d.Q e w base ok v xs) {row:Option Nat} (a:w.grownBy w1 row) (b:∀k,ok k->some k≠row):d.Q e w1 base ok v xs:=oU h (fun k g hk=>a.block k hk (b k g))
theorem xg (h:d.Q e w base ok v xs) {p:Addr} (a:∀k,ok k->k≠p.block) (u:Value):d.Q e (w.setCell p u) base ok v xs:=oU h (fun k b _=>Below.heap_setCell w p u k (a k b))
theorem xh (h:d.Q e w base ok v xs) {g t:Nat} {cells:Array Value} (hb:w.heap[g]? =some (.cells cells t (0,0))) (a:∀q,q∈e::d.E->q≠t):d.Q e w base (fun k=>ok k∧k≠g) v xs:=
  kF (mQ h) (fun k hk=>⟨hk.1,by
    obtain⟨_,_,_,q,b,j,i⟩:=hk;rintro rfl;rw[i] at hb;injection hb with hb
    injection hb with _ hb
    exact a q b hb⟩)
theorem ry (h:d.Q e w base ok v xs) {g t:Nat} {cells:Array Value} (hb:w.heap[g]? =some (.cells cells t (0,0))) (a:∀q,q∈e::d.E->q≠t) (j:Nat) (u:Value):d.Q e (w.setCell ⟨g,j,none⟩ u) base ok v xs:=
  kF (xg (p:=⟨g,j,none⟩) (xh h hb a) (fun _ hk=>hk.2) u) (fun _ hk=>hk.1)
theorem xi (h:d.Q e w base ok v xs):∀k,v.ownBlock=some k->base<=k:=by
  obtain⟨_,inner,a,_⟩:=h;exact fun k hk=>(jU a k hk).1
theorem rz (h:d.Q e w base ok v xs) {g t:Nat} {cells:Array Value} (hb:w.heap[g]? =some (.cells cells t (0,0))) (a:e≠t):some g≠v.ownBlock:=by
  obtain⟨_,inner,b,_⟩:=h;intro he;obtain⟨_,j,i⟩:=jU b g he.symm;rw[i] at hb;injection hb with hb
  injection hb with _ hb
  exact a hb
theorem mR (h:d.Q e w base ok v xs):∃A c,v= .slice A xs.length c∧xs.length<=c:=by
  obtain⟨_,inner,a,_⟩:=h;exact rl a
theorem rA {A:Option Addr} {n c:Nat} (h:d.Q e w base ok (.slice A n c) xs):n=xs.length∧n<=c∧d.C w A xs.length xs:=by
  obtain⟨_,inner,a,b⟩:=h;obtain⟨A',s,he,k⟩:=rl a;injection he with h1 l m
  subst h1;subst l;subst m;refine⟨rfl,k,rfl,wW a,fun hp=>?_⟩;obtain⟨ad,o,q⟩:=rp a hp;refine⟨ad,o,fun j p g=>⟨(inner.drop (j*d.sz)).take d.sz,?_,d.cL (b.2 j p g),fun i u hu=>?_⟩⟩
  · have r:=(List.getElem?_eq_some_iff.1 g).1
    have h1:j*d.sz+d.sz<=inner.length:=by rw[b.1,<-Nat.succ_mul];exact Nat.mul_le_mul_right _ r
    rw[List.length_take,List.length_drop];omega
  · refine q _ u ?_
    rw[List.getElem?_take] at hu;split at hu
    · rw[List.getElem?_drop] at hu
      exact hu
    · cases hu
theorem xj {A:Option Addr} {k n c:Nat} (h:d.Q e w base ok (.slice A n c) xs) (hk:k<=xs.length):d.Q e w base ok (.slice (if c=k then A else A.map (·.add (k*d.sz))) (n-k) (c-k)) (xs.drop k):=by
  have hn:n=xs.length:=(rA h).1;subst hn;obtain⟨b,inner,g,i⟩:=h;have hb:(Value.slice (if c=k then A else A.map (·.add (k*d.sz))) (xs.length-k) (c-k)).ownBlock=(Value.slice A xs.length c).ownBlock:=by
    split
    · cases A<;>rfl
    · cases A with
      |none=>rfl
      |some a=>simp[Value.ownBlock];unfold Addr.add;split<;>rfl
  refine⟨fun j l=>b j (by rw[<-hb];exact l),inner.drop (k*d.sz),?_,?_⟩
  · rw[List.length_drop]
    exact wX g hk
  · rw[hb]
    exact w_ i
theorem xk {okp:Nat->Prop} {v1:Value} {p:α} {inner cs:List Value} (i:∀k,v.ownBlock=some k->ok k) (j:aM (d.M W base (fun k=>ok k∧some k≠v.ownBlock)) d.sz xs inner) (hp:d.M W base okp p cs) (l:∀k,okp k->ok k∧some k≠v.ownBlock) (m:∀k,W.heap.size<=k->ok k)
    (n:eM w1 base e d.sz v1 (xs.length+1) (inner++cs)) (r:W.grownBy w1 v.ownBlock) (a:v1.ownBlock=v.ownBlock∨∃b,v1.ownBlock=some b∧W.heap.size<=b):d.Q e w1 base ok v1 (xs++[p]):=by
  have s:∀k,some k≠v.ownBlock->k<W.heap.size->some k≠v1.ownBlock:=by
    intro k hk u;rcases a with a|⟨b,hb,hle⟩
    · rw[a];exact hk
    · rw[hb]
      intro he;injection he with he
      omega
  have step:∀{q:α} {c:List Value} {o:Nat->Prop},d.M W base o q c->(∀k,o k->ok k∧some k≠v.ownBlock)->d.M w1 base (fun k=>ok k∧some k≠v1.ownBlock) q c:=by
    intro q c o g h;have h1:=d.ej (w1:=w1) (fun k hk=>r.block k hk.2.2.1 (h k hk.1).2) (d.d_ g);exact d.cm (fun k hk=>⟨(h k hk.1).1,s k (h k hk.1).2 hk.2.2.1⟩) h1
  refine⟨fun k hk=>?_,inner++cs,by rw[List.length_append,List.length_singleton];exact n,?_⟩
  · rcases a with a|⟨b,hb,hle⟩
    · exact i k (a▸hk)
    · rw[hb] at hk
      injection hk with hk
      exact m k (by omega)
  · exact(j.eT (fun _ _ g=>step g (fun _ hk=>hk))).snoc (step hp l) (d.dJ (d.cL hp))
end
section
variable {P:Program} {ops:Array Oper} {rest:List Oper} {o:Oper} {a:Act} {Q':Exit->Act->World->Prop} {Kc:Act->World->Prop} {α:Type}
theorem xm (d:Kd α) {w0 W:World} (base:Nat) (t ty e:TypeId) (z:Value) (bytes:Nat)
    (n:P.underlying t=some (.slice e)) (o:(P.info? e).map (fun i=>(i.zero,i.size,i.bytes))=some (some z,d.sz,bytes)) (q:z.cells.size=d.sz) (r:0<d.sz) (s:0<bytes)
    (v:Value) (xs:List α) (p:α) (cs:List Value) (ok okp:Nat->Prop) (hp:d.M W base okp p cs) (u:∀k,okp k->ok k∧some k≠v.ownBlock) (w:∀k,W.heap.size<=k->ok k)
    (x:d.Q e W base ok v xs) (y:Below base w0 W) (B:base<=W.heap.size) (j:(xs.length+1)*bytes<=140737488355328):
    ∃v1 w1,(Builtin.append_ #[t,t] ty #[v,.slice (some ⟨W.heap.size,0,none⟩) 1 1]).run P (W.alloc (.cells cs.toArray e))= .ok v1 w1∧d.Q e w1 base ok v1 (xs++[p])∧Below base w0 w1∧W.grownBy w1 v.ownBlock∧(v1.ownBlock=v.ownBlock∨∃b,v1.ownBlock=some b∧W.heap.size<=b):=by
  obtain⟨C,inner,a,D⟩:=x;obtain⟨i0,hi,l⟩:=Option.map_eq_some_iff.1 o;simp only[Prod.mk.injEq] at l;obtain⟨E,F,G⟩:=l;have hlen:xs.length+1<=140737488355328:=Nat.le_trans (Nat.le_mul_of_pos_right _ s) j;have H:=d.dJ (d.cL hp);have I:eM (W.alloc (.cells cs.toArray e)) base e d.sz v xs.length inner:=ri a (fun k hk=>Below.heap_alloc W _ k (rj a k hk));obtain⟨v1,w1,J,K,L,g⟩:=wY (P:=P) (W.alloc (.cells cs.toArray e)) base t ty e i0 z d.sz bytes n hi E F G q r v xs.length inner I ⟨W.heap.size,0,none⟩ 1 1 cs (by rw[H,Nat.one_mul])
    (by simpa using World.news_of_block (cs:=cs.toArray) (t:=e) (fr:=(0,0)) (heap_alloc_new W (.cells cs.toArray e))) (d.dS (d.cL hp)) (by omega) (by simp only[maxLen];omega) j (by simp;omega)
  have h:W.grownBy w1 v.ownBlock:=World.grownBy.trans (World.grownBy_alloc W _ _) L;have m:v1.ownBlock=v.ownBlock∨∃b,v1.ownBlock=some b∧W.heap.size<=b:=by
    rcases g with g|⟨b,hb,hle⟩
    · exact .inl g
    · exact .inr ⟨b,hb,by rw[World.size_alloc] at hle;omega⟩
  exact⟨v1,w1,J,xk C D hp u w K h m,y.grown h B (fun k hk=>(jU a k hk).1),h,m⟩
end
end Kd
namespace Kd
section
variable {α:Type} {d:Kd α} {e e':Nat} {w w1 W:World} {base:Nat} {ok:Nat->Prop} {u v:Value} {xs:List α}
theorem fS (h:d.R e w base ok v xs):∀k,v.ownBlock=some k->∃cells,w.heap[k]? =some (.cells cells e (0,0)):=by
  obtain⟨inner,a⟩:=iT h;exact fun k hk=>iS a k hk
theorem rB (h:d.R e W base ok u xs) (b:∀k,v.ownBlock=some k->∃cells,W.heap[k]? =some (.cells cells e' (0,0))) (g:∀q,q∈e::d.E->q≠e') (i:W.grownBy w1 v.ownBlock):d.R e w1 base ok u xs:=by
  refine aV (eU (eC h) (fun k hk=>i.block k hk.2.2.1 (fun he=>?_))) (fun _ hk=>hk.1);obtain⟨_,_,_,q,j,cells,l⟩:=hk;obtain⟨m,a⟩:=b k he.symm;rw[l] at a;injection a with a
  injection a with _ a
  exact g q j a
theorem mS (h:d.R e W base ok u xs) (b:∀k,v.ownBlock=some k->∃cells,W.heap[k]? =some (.cells cells e' (0,0))) (g:∀q,q∈e::d.E->q≠e'):d.R e W base (fun k=>ok k∧some k≠v.ownBlock) u xs:=by
  refine aV (eC h) (fun k hk=>⟨hk.1,fun he=>?_⟩);obtain⟨_,_,_,q,i,cells,j⟩:=hk;obtain⟨l,a⟩:=b k he.symm;rw[j] at a;injection a with a
  injection a with _ a
  exact g q i a
theorem rC (hu:d.R e W base ok u xs) (a:∀k,v.ownBlock=some k->W.heap.size<=k) (hb:Below W.heap.size W w1):d.R e w1 base (fun k=>ok k∧some k≠v.ownBlock) u xs:=
  aV (eU (eC hu) (fun k hk=>hb.block k hk.2.2.1)) (fun k hk=>⟨hk.1,fun he=>by have:=a k he.symm;have:=hk.2.2.1;omega⟩)
theorem bz (h:d.R e w1 W.heap.size ok v xs) (a:∀k,u.ownBlock=some k->k<W.heap.size):d.R e w1 W.heap.size (fun k=>ok k∧some k≠u.ownBlock) v xs:=
  aV (eC h) (fun k hk=>⟨hk.1,fun he=>by have:=a k he.symm;have:=hk.2.1;omega⟩)
theorem rD (h:d.Q e w base ok v xs):∀k,v.ownBlock=some k->∃cells,w.heap[k]? =some (.cells cells e (0,0)):=by
  obtain⟨_,inner,a,_⟩:=h;exact fun k hk=>(jU a k hk).2
theorem jV (a:∀k,u.ownBlock=some k->k<W.heap.size):∀k,W.heap.size<=k->some k≠u.ownBlock:=fun k hk he=>by have:=a k he.symm;omega
end
end Kd
theorem lM {α:Type} (a seg:List α) (o:Nat) (h:o+seg.length<=a.length) (q:Nat):
    (a.take o++seg++a.drop (o+seg.length))[q]? =if q<o then a[q]? else if q<o+seg.length then seg[q-o]? else a[q]? :=by
  have e:(a.take o).length=o:=by rw[List.length_take];omega
  rw[List.append_assoc];by_cases h1:q<o
  · rw[if_pos h1,List.getElem?_append_left (by omega),List.getElem?_take,if_pos h1]
  · rw[if_neg h1,List.getElem?_append_right (by omega),e]
    by_cases b:q<o+seg.length
    · rw[if_pos b,List.getElem?_append_left (by omega)]
    · rw[if_neg b,List.getElem?_append_right (by omega),List.getElem?_drop]
      congr 1
      omega
namespace Kd
section
variable {α:Type} {d:Kd α} {e base g n cap:Nat} {ok okp:Nat->Prop} {W:World} {xs:List α}
theorem rE (h:d.R e W base ok (.slice (some ⟨g,0,none⟩) n cap) xs) (z:α) (i:Int) (p:0<=i) (h1:i<n):
    ∃c,c.length=d.sz∧d.M W base (fun k=>ok k∧k≠g) (xs.getD i.toNat z) c∧(∀j u,c[j]? =some u->W.cell? ⟨g,i.toNat*d.sz+j,none⟩=some u)∧∀j,W.frozen? ⟨g,i.toNat*d.sz+j,none⟩=false:=by
  obtain⟨hn,q,hC⟩:=aA h;obtain⟨_,inner,b,l⟩:=h;have a:i.toNat<xs.length:=by omega
  have r:i.toNat*d.sz+d.sz<=inner.length:=by rw[l.1,<-Nat.succ_mul];exact Nat.mul_le_mul_right _ a
  have m:=l.2 i.toNat _ (List.getElem?_eq_getElem a);refine⟨(inner.drop (i.toNat*d.sz)).take d.sz,by rw[List.length_take,List.length_drop];omega,?_,fun j u hu=>?_,fun j=>?_⟩
  · rw[List.getD_eq_getElem?_getD,List.getElem?_eq_getElem a]
    exact d.cm (fun k hk=>⟨hk.1,fun he=>hk.2 (by rw[he];simp[Value.ownBlock])⟩) m
  · rw[List.getElem?_take] at hu
    split at hu
    · rw[List.getElem?_drop] at hu
      have:=b.cells (g:=g) (by simp[Value.ownBlock]) _ u hu;rwa [add_plain] at this
    · cases hu
  · obtain⟨cells,o⟩:=iS b g (by simp[Value.ownBlock])
    exact bq o _
theorem rF (h:d.R e W base ok (.slice (some ⟨g,0,none⟩) n cap) xs) (i:Int) (h0:0<=i) (h1:i<n) {c seg:List Value} {j:Nat} (ap:c.length=d.sz) (H:∀j u,c[j]? =some u->W.cell? ⟨g,i.toNat*d.sz+j,none⟩=some u)
    (hj:j+seg.length<=d.sz) {x':α} (I:d.M W base okp x' (c.take j++seg++c.drop (j+seg.length))) (l:∀k,okp k->ok k∧k≠g):
    d.R e (W.setCells g (i.toNat*d.sz+j) seg) base ok (.slice (some ⟨g,0,none⟩) n cap) (xs.set i.toNat x')∧W.grownBy (W.setCells g (i.toNat*d.sz+j) seg) (some g):=by
  obtain⟨hn,w,_⟩:=aA h;obtain⟨J,inner,K,b⟩:=h;have L:i.toNat<xs.length:=by omega
  have x:i.toNat*d.sz+d.sz<=inner.length:=by rw[b.1,<-Nat.succ_mul];exact Nat.mul_le_mul_right _ L
  have av:inner.length=n*d.sz:=by rw[b.1,hn]
  obtain⟨aB,N⟩:=K;rcases N with⟨o,_⟩|⟨g',aL,cur,o,hb,y,aO,O,P,z⟩
  · cases o
  injection o with r _ Q
  injection r with r
  injection r with S
  subst S;subst Q;have T:i.toNat*d.sz+j+seg.length<=cur.size:=by
    have:n*d.sz<=cap*d.sz:=Nat.mul_le_mul_right _ w;omega
  obtain⟨U,V,X,Y⟩:=oT seg (i.toNat*d.sz+j) W cur y T;obtain⟨s1,s2,Z,s4⟩:=oS g seg (i.toNat*d.sz+j) W;have s:∀k,k≠g->(W.setCells g (i.toNat*d.sz+j) seg).heap[k]? =W.heap[k]? :=fun k hk=>oR seg _ k hk
  have ab:∀q,q<d.sz->c[q]? =inner[i.toNat*d.sz+q]? :=by
    intro q a;have B:q<c.length:=by omega
    have C:=H q _ (List.getElem?_eq_getElem B);rw[cell_of_row W g _ cur e (0,0) y] at C;rw[List.getElem?_eq_getElem B,<-C,<-z,List.getElem?_take,if_pos (by rw[<-hn];omega),Array.getElem?_toList]
  refine⟨⟨J,inner.take (i.toNat*d.sz+j)++seg++inner.drop (i.toNat*d.sz+j+seg.length),⟨?_,.inr ⟨g,cap,U,by rw[List.length_set,hn],hb,V,by rw[List.length_set,<-hn];exact w,O,by rw[X,P],?_⟩⟩,?_⟩,
    ⟨s1,s2,Z,by rw[s4];exact Nat.le_refl _,fun k _ hk=>s k (fun he=>hk (by rw[he]))⟩⟩
  · rw[List.length_set]
    simp only[List.length_append,List.length_take,List.length_drop];rw[b.1] at x⊢;omega
  · rw[List.length_set,<-hn]
    apply List.ext_getElem?
    intro q;rw[List.getElem?_take,Y];rw[lM cur.toList seg (i.toNat*d.sz+j) (by rw[Array.length_toList];omega) q,lM inner seg (i.toNat*d.sz+j) (by omega) q];have ad:∀q,q<n*d.sz->cur.toList[q]? =inner[q]? :=by
      intro q a;rw[<-z,List.getElem?_take,if_pos (by rw[<-hn];exact a)]
    by_cases a:q<n*d.sz
    · rw[if_pos a,ad q a]
    · rw[if_neg a,if_neg (by omega),if_neg (by omega),List.getElem?_eq_none (by omega)]
  · refine⟨?_,fun m p hm=>?_⟩
    · rw[List.length_set]
      simp only[List.length_append,List.length_take,List.length_drop];rw[b.1] at x⊢;omega
    · have ag:m<xs.length:=by
        have:=(List.getElem?_eq_some_iff.1 hm).1;rwa [List.length_set] at this
      have aP:m*d.sz+d.sz<=inner.length:=by rw[b.1,<-Nat.succ_mul];exact Nat.mul_le_mul_right _ ag
      have D:some g=(Value.slice (some ⟨g,0,none⟩) n cap).ownBlock:=by simp[Value.ownBlock]
      by_cases E:m=i.toNat
      · subst E
        rw[List.getElem?_set_self (by omega)] at hm;injection hm with hm
        subst hm;have v:((inner.take (i.toNat*d.sz+j)++seg++inner.drop (i.toNat*d.sz+j+seg.length)).drop (i.toNat*d.sz)).take d.sz=c.take j++seg++c.drop (j+seg.length):=by
          apply List.ext_getElem?
          intro q;rw[List.getElem?_take,List.getElem?_drop,lM inner seg _ (by omega),lM c seg j (by omega) q];by_cases a:q<d.sz
          · rw[if_pos a,ab q a]
            by_cases F:q<j
            · rw[if_pos (by omega),if_pos F]
            · rw[if_neg (by omega),if_neg F]
              by_cases G:q<j+seg.length
              · rw[if_pos (by omega),if_pos G]
                congr 1
                omega
              · rw[if_neg (by omega),if_neg G]
          · rw[if_neg a,if_neg (by omega),if_neg (by omega),List.getElem?_eq_none (by omega)]
        rw[v];refine d.cm (fun k hk=>?_) (d.ej (w1:=W.setCells g (i.toNat*d.sz+j) seg) (fun k hk=>s k (l k hk).2) I);exact⟨(l k hk).1,fun he=>(l k hk).2 (by rw[<-D] at he;injection he)⟩
      · rw[List.getElem?_set_ne (by omega)] at hm
        have hold:=b.2 m p hm;have v:((inner.take (i.toNat*d.sz+j)++seg++inner.drop (i.toNat*d.sz+j+seg.length)).drop (m*d.sz)).take d.sz=(inner.drop (m*d.sz)).take d.sz:=by
          apply List.ext_getElem?
          intro q;rw[List.getElem?_take,List.getElem?_take,List.getElem?_drop,List.getElem?_drop,lM inner seg _ (by omega)];by_cases a:q<d.sz
          · rw[if_pos a,if_pos a]
            rcases Nat.lt_or_gt_of_ne E with ak|am
            · have:m*d.sz+d.sz<=i.toNat*d.sz:=by rw[<-Nat.succ_mul];exact Nat.mul_le_mul_right _ ak
              rw[if_pos (by omega)]
            · have:i.toNat*d.sz+d.sz<=m*d.sz:=by rw[<-Nat.succ_mul];exact Nat.mul_le_mul_right _ am
              rw[if_neg (by omega),if_neg (by omega)]
          · rw[if_neg a,if_neg a]
        rw[v];refine d.ej (fun k hk=>s k (fun he=>hk.2 (by rw[he];exact D))) hold
end
end Kd
theorem a_ {w W:World} (h:Below w.heap.size w W):w.heap.size<=W.heap.size:=h.size
theorem aU {w W w2:World} (h:Below w.heap.size w W) (k:Below W.heap.size W w2):Below w.heap.size w w2:=kA h h.size k
theorem ec {w W:World} {g j:Nat} {v:Value} (h:Below w.heap.size w W) (a:w.heap.size<=g):Below w.heap.size w (W.setCell ⟨g,j,none⟩ v):=h.setCell a _
theorem bb {w:World} {g:Nat} {t:TypeId} {cs a:Array Value} (h:w.heap[g]? =some (.cells cs t (0,0))) (i:Nat) (u:Value) (e:cs.setIfInBounds i u=a):(w.setCell ⟨g,i,none⟩ u).heap[g]? =some (.cells a t (0,0)):=e▸bE h i u
theorem bL {base:Nat} {w W:World} (h:Below base w W):Below base w W.drew:=h.drew
namespace Kd
section
variable {α:Type} {d:Kd α} {e base g:Nat} {ok:Nat->Prop} {w w1:World} {v:Value} {xs:List α} {o:Obj}
theorem rG (h:d.R e w base ok v xs) (a:Nat) (b:w.heap.size<=a):d.R e w base (fun k=>ok k∧k≠a) v xs:=aV (eC h) (fun k hk=>⟨hk.1,by have:=hk.2.2.1;omega⟩)
theorem kG (hb:w.heap[g]? =some o):∀k,w.heap.size<=k->k≠g:=fun k hk=>by have:=ay hb;omega
end
end Kd
section
variable {P:Program} {ops:Array Oper} {rest:List Oper} {o:Oper} {a:Act} {Q:Exit->Act->World->Prop}
theorem xn {W:World} (b:o.guard=none) {N:Tmp} (_hd:o.dst=some N) {cs:Array Value} {t:TypeId}
    (e:(execOp a.eval o).run P W= .ok (.value (.pointer (some ⟨W.heap.size,0,none⟩))) (W.alloc (.cells cs t (0,0))))
    (h:∀g,g=W.heap.size->∀w1,w1.heap[g]? =some (.cells cs t (0,0))->Below W.heap.size W w1->wpList P ops Q rest (a.put o.dst (.pointer (some ⟨g,0,none⟩))) w1):wpList P ops Q (o::rest) a W:=
  Kd.rf b e (h _ rfl _ (wM W _) (aq (Below.refl _ _) _))
theorem Kd.rH {α:Type} (enc:α->Value) (d:α) {h1:∀x:α,(enc x).oneCell'=true} {w0 W:World} (base:Nat) (n:o.guard=none) (s x:Operand) (t e:TypeId) (z:Value) (bytes:Nat)
    (p:o.op= .call {callee:=.builtin .append,args:=#[s,x],argTypes:=#[t,t]})
    (q:P.underlying t=some (.slice e)) (r:(P.info? e).map (fun i=>(i.zero,i.size,i.bytes))=some (some z,1,bytes)) (u:z.cells.size=1) (w:0<bytes)
    (v:Value) (xs ys:List α) (A:Option Addr) (m c:Nat) (ok:Nat->Prop) (y:a.eval s=v) (B:a.eval x= .slice A m c) (D:∀k,W.heap.size<=k->ok k)
    (j:(Kd.scalar enc h1).R e W base ok v xs) (E:(Kd.scalar enc h1).C W A m ys) (F:Below base w0 W) (G:base<=W.heap.size) (H:(xs.length+m)*bytes<=140737488355328)
    (h:∀v1 w1,(Kd.scalar enc h1).R e w1 base ok v1 (xs++ys)->Below base w0 w1->W.grownBy w1 v.ownBlock->(v1.ownBlock=v.ownBlock∨∃b,v1.ownBlock=some b∧W.heap.size<=b)->wpList P ops Q rest (a.put o.dst v1) w1):
    wpList P ops Q (o::rest) a W:=by
  refine wL (w0:=w0) enc d base n s x t e z bytes p q r u w h1 v xs ys A m c y B (Kd.mO j) (Kd.oP (d:=d) E) F G H ?_;intro v1 w1 I hb J l;refine h v1 w1 (Kd.lJ I (fun k hk=>?_)) hb J l;rcases l with g|⟨b,g,K⟩
  · exact j.1 k (by rw[<-g];exact hk)
  · rw[g] at hk
    injection hk with hk
    subst hk;exact D _ K
end
namespace Kd
section
variable {α:Type} {enc:α->Value} {h1:∀x,(enc x).oneCell'=true} {e base g n cap:Nat} {ok:Nat->Prop} {W:World} {xs:List α}
theorem bJ (d:α) (h:(scalar enc h1).R e W base ok (.slice (some ⟨g,0,none⟩) n cap) xs) (i:Int) (a:0<=i) (hi:i<n):W.cell? ⟨g,i.toNat,none⟩=some (enc (bH d xs i))∧W.frozen? ⟨g,i.toNat,none⟩=false:=by
  obtain⟨rfl,_⟩:=aA h;exact wT d h i a hi
theorem xo (h:(scalar enc h1).R e W base ok (.slice (some ⟨g,0,none⟩) n cap) xs) (i:Int) (x:α):(scalar enc h1).R e (W.setCell ⟨g,i.toNat,none⟩ (enc x)) base ok (.slice (some ⟨g,0,none⟩) n cap) (xs.set i.toNat x):=by
  obtain⟨rfl,_⟩:=aA h;exact(re h i x).1
end
end Kd
section
variable {P:Program} {ops:Array Oper} {rest:List Oper} {o:Oper} {a:Act} {Q:Exit->Act->World->Prop}
theorem jy {W w1:World} (b:o.guard=none) {t:TypeId} {p:Tmp} {v:Operand} (_ho:o.op= .store t (.tmp p) v) (e:o.dst=none)
    (g:(execOp a.eval o).run P W= .ok .skip w1) (h:∀w',w'=w1->wpList P ops Q rest a w'):wpList P ops Q (o::rest) a W:=by
  refine wpList_plain b fun K i=>?_
  unfold Oper.wp;rw[g];show K (a.put o.dst undef) w1
  rw[e];exact i _ _ (h _ rfl)
end
namespace Kd
section
variable {α:Type} {enc:α->Value} {h1:∀x,(enc x).oneCell'=true} {e base g n cap:Nat} {ok:Nat->Prop} {W:World} {xs:List α}
theorem cZ (h:(scalar enc h1).R e W base ok (.slice (some ⟨g,0,none⟩) n cap) xs) (i:Int) (x:α):(scalar enc h1).R e (W.setCell ⟨g,i.toNat,none⟩ (enc x)) base ok (.slice (some ⟨g,0,none⟩) n cap) (xs.set i.toNat x)∧W.grownBy (W.setCell ⟨g,i.toNat,none⟩ (enc x)) (some g):=by
  obtain⟨rfl,_⟩:=aA h;exact re h i x
end
end Kd
section
variable {P:Program} {ops:Array Oper} {rest:List Oper} {o:Oper} {a:Act} {Q:Exit->Act->World->Prop} {W:World}
theorem aH {N:Tmp} (_hN:o.dst=some N) (h:wpList P ops Q (o::rest) a W):wpList P ops Q (o::rest) a W:=h
theorem jz {t:TypeId} {p:Tmp} {v:Operand} (_ho:o.op= .store t (.tmp p) v) (h:wpList P ops Q (o::rest) a W):wpList P ops Q (o::rest) a W:=h
end
section
variable {P:Program} {ops:Array Oper} {o:Oper} {a:Act} {Q:Exit->Act->World->Prop} {Kc:Act->World->Prop}
theorem xp {W w1:World} {v:Value} (hw:Region.wanted o (yielded ops a.tmps)=true) (b:(execOp a.eval o).run P W= .ok (.value v) w1) (h:Kc (a.put o.dst v) w1):if Region.wanted o (yielded ops a.tmps)=true then Oper.wp P o a W Kc Q else Kc (a.put o.dst undef) W:=by
  rw[if_pos hw];unfold Oper.wp;rw[b];exact h
namespace Kd
variable {α:Type}
theorem xr (d:Kd α) {w0 W:World} (base e:Nat) (hw:Region.wanted o (yielded ops a.tmps)=true) {N:Tmp} (_hd:o.dst=some N) {xs:List α} {inner:List Value} {ok okp:Nat->Prop}
    (j:(execOp a.eval o).run P W= .ok (.value (.slice (some ⟨W.heap.size,0,none⟩) xs.length xs.length)) (W.alloc (.cells inner.toArray e)))
    (g:aM (d.M W base okp) d.sz xs inner) (l:∀k,okp k->ok k) (m:ok W.heap.size) (n:Below base w0 W) (i:base<=W.heap.size) (hm:xs.length<=9223372036854775807)
    (h:∀v1 w1,d.R e w1 base ok v1 xs->Below base w0 w1->W.grownBy w1 none->(∃b,v1.ownBlock=some b∧W.heap.size<=b)->Kc (a.put o.dst v1) w1):if Region.wanted o (yielded ops a.tmps)=true then Oper.wp P o a W Kc Q else Kc (a.put o.dst undef) W:=by
  refine xp hw j (h _ _ ⟨fun k hk=>?_,inner,?_,?_⟩ (n.alloc i _) (World.grownBy_alloc W _ none) ⟨W.heap.size,by simp[Value.ownBlock],Nat.le_refl _⟩)
  · have:W.heap.size=k:=by simpa [Value.ownBlock] using hk
    subst this;exact m
  · have q:=World.ownsRow_lit (base:=base) (e:=e) (size:=d.sz) W inner.toArray xs.length i (by simpa [maxLen] using hm) (by simpa using g.1)
    simpa using q
  · refine g.eT (fun p c hp=>d.cm (fun k hk=>⟨l k hk.1,fun he=>?_⟩) (q9 (d.d_ hp) (aq (Below.refl _ _) _)))
    have r:k=W.heap.size:=by simpa [Value.ownBlock] using he
    have:=hk.2.2.1;omega
end Kd
end
inductive jW (P:Program) (tmps:Array Value) (w:World):List ResultVar->List Value->Prop where
  |nil:jW P tmps w [] []
  |tmp {u:Tmp} {rs:List ResultVar} {a:List Value} (h:jW P tmps w rs a):jW P tmps w (.tmp u::rs) (tmps.getD u undef::a)
  |cell {p:Tmp} {ty:TypeId} {rs:List ResultVar} {a:List Value} (g:Nat) (t:TypeId) (cs:Array Value) (fr:Nat×Nat) (d:TypeDesc)
      (hp:tmps.getD p undef= .pointer (some ⟨g,0,none⟩)) (b:w.heap[g]? =some (.cells cs t fr))
      (hu:P.underlying ty=some d) (hd:(match d with| .struct _| .array _ _=>true|_=>false)=true) (hi:(P.info? ty).map (·.size)=some cs.size)
      (h:jW P tmps w rs a):jW P tmps w (.cell p ty::rs) (.agg cs::a)
section
variable {P:Program} {tmps:Array Value} {w:World}
theorem xt {rs:List ResultVar} {e:List Value} (i:jW P tmps w rs e) (f:ResultVar->Sem Value) (hf:∀u,f (.tmp u)=pure (tmps.getD u undef)) (j:∀a t,f (.cell a t)=(do loadVar t (<-asAddr (tmps.getD a undef)))):
    (rs.mapM f).run P w= .ok e w:=by
  induction i with
  |nil=>simp
  |tmp h b=>simp[List.mapM_cons,hf,b]
  |cell g t cs fr d hp k hu hd hi h b=>
    rw[List.mapM_cons,j,hp];simp[asAddr,run_loadVar_row w g t _ cs fr d k hu hd hi,b]
theorem rI {fn:Func} {rs:List ResultVar} {b:List Value} (h:fn.results=rs.toArray) (e:b.length≠1) (g:jW P tmps w rs b):(results fn tmps).run P w= .ok (.tuple b.toArray) w:=by
  unfold results;rw[h,List.mapM_toArray];simp only[Sem.run_bind,Sem.run_map];rw[xt g]
  · simp[e]
  · intro u
    rfl
  · intro a t
    rfl
end
end Go.Proofs.YtffdiakgjakngaaGreatW.PrintWords
end
section
namespace Go.Proofs.YtffdiakgjakngaaGreatW.PrintLast
section
variable {P:Program} {ops:Array Oper} {Q:Exit->Act->World->Prop} {md:Region.Mode} {S:World->Prop} {ds:List Nat}
def Region.gG (md:Region.Mode) (ops:Array Oper) (i:Nat):Nat->Nat->Bool
  |0,_=>false
  |fuel+1,d=>match ops[d]? with
    |some o=>o.after.any fun e=>Region.binds md e&&(e.on==i||Region.gG md ops i fuel e.on)
    |none=>false
def Region.lN (md:Region.Mode) (ops:Array Oper) (a:Array Bool):Bool:=
  (List.range ops.size).all fun j=> !a.getD j false||match ops[j]? with
    |some o=>o.after.all fun e=> !Region.binds md e||a.getD e.on false
    |none=>true
def Region.mT (md:Region.Mode) (ops:Array Oper) (a:Array Bool) (ds:List Nat) (i:Nat):Bool:=
  ds.all fun d=>a.getD d true||Region.gG md ops i ops.size d
def jX (md:Region.Mode) (ops:Array Oper) (a:Array Bool):Prop:=
  ∀j b,ops[j]? =some b->a.getD j false=true->∀e∈b.after,Region.binds md e=true->a.getD e.on false=true
theorem Region.xu {a:Array Bool} (h:Region.lN md ops a=true):jX md ops a:=by
  intro j l b g e he hb;have i:j<ops.size:=(Array.getElem?_eq_some_iff.1 b).1;have h1:=List.all_eq_true.1 h j (List.mem_range.2 i);simp only[g,b,Bool.not_true,Bool.false_or] at h1;have k:=Array.all_eq_true_iff_forall_mem.1 h1 e he;simpa [hb] using k
theorem jX.set {a:Array Bool} {i:Nat} (h:jX md ops a) (hi:i∈Region.ready md ops a):jX md ops (a.setIfInBounds i true):=by
  obtain⟨_,m,n,o⟩:=mem_ready.1 hi;intro j b g k e he hb;by_cases l:i=j
  · subst l
    have:b=m:=Option.some.inj (g.symm.trans n);subst this;exact getD_set_true (o e he hb)
  · rw[getD_set_ne false l] at k
    exact getD_set_true (h j b g k e he hb)
theorem Region.rJ {a:Array Bool} {i:Nat} (j:jX md ops a):∀(fuel d:Nat),Region.gG md ops i fuel d=true->a.getD d false=true->a.getD i false=true
  |0,_,h,_=>by simp[Region.gG] at h
  |fuel+1,d,h,k=>by
    unfold Region.gG at h;cases b:ops[d]? with
    |none=>rw[b] at h;simp at h
    |some o=>
      rw[b] at h;obtain⟨e,he,h1⟩:=Array.any_eq_true'.1 h;simp only[Bool.and_eq_true,Bool.or_eq_true,beq_iff_eq] at h1;have hle:=j d o b k e he h1.1;rcases h1.2 with g|g
      · rw[<-g];exact hle
      · exact Region.rJ j fuel e.on g hle
theorem Region.xw {a:Array Bool} {i d fuel:Nat} (k:jX md ops a) (b:Region.gG md ops i fuel d=true) (g:a.getD i true=false):d∉Region.ready md ops a:=by
  intro hd;obtain⟨_,o,l,m⟩:=mem_ready.1 hd;have hi:a.getD i false=true:=by
    cases fuel with
    |zero=>simp[Region.gG] at b
    |succ n=>
      unfold Region.gG at b;rw[l] at b;obtain⟨e,he,h1⟩:=Array.any_eq_true'.1 b;simp only[Bool.and_eq_true,Bool.or_eq_true,beq_iff_eq] at h1;have hle:=m e he h1.1;rcases h1.2 with h|h
      · rw[<-h];exact hle
      · exact Region.rJ k n e.on h hle
  rcases Nat.lt_or_ge i a.size with j|j
  · simp[j] at g hi
    rw[g] at hi;cases hi
  · simp[Array.getElem?_eq_none j] at g
def cQ (P:Program) (md:Region.Mode) (ops:Array Oper) (Q:Exit->Act->World->Prop) (S:World->Prop) (ds:List Nat):Nat->Array Bool->Act->World->Prop
  |0,b,a,w=>Region.ready md ops b=[]∧Q .normal a w
  |fuel+1,b,a,w=>
    (Region.ready md ops b=[]->Q .normal a w)∧
    ∀i∈Region.ready md ops b,wpOp P ops Q i (fun a' w'=>(i∉ds->S w->S w')∧cQ P md ops Q S ds fuel (b.setIfInBounds i true) a' w') a w
theorem rK:∀(fuel:Nat) (b:Array Bool) (a:Act) (w:World),cQ P md ops Q S ds fuel b a w->wpAny P md ops Q fuel b a w
  |0,_,_,_,h=>h
  |fuel+1,_,_,_,h=>⟨h.1,fun i hi=>wpOp_mono (fun a' w' e=>rK fuel _ a' w' e.2) (h.2 i hi)⟩
theorem xx {i:Nat} {m:Oper} {v:Value} (hi:ops[i]? =some m) (E:∀(j:Nat) (o:Oper) cs b,ops[j]? =some o->o.op≠ .select cs b)
    (I:∀c a w,Q (.panic c) (a.put m.dst v) w->Q (.panic c) a w) (n:Nat):
    ∀(fuel:Nat) (g:Array Bool) (a:Act) (w:World),
      (∀j p,ops[j]? =some p->j≠i->g.getD j true=false->(∀e∈p.after,Region.binds md e=true->e.on≠i)->m.apart ops p=true)->
      jX md ops g->(∀d∈ds,g.getD d true=false->Region.gG md ops i n d=true)->
      i∈Region.ready md ops g->YieldsIf P ops S m v a->S w->
      cQ P md ops Q S ds fuel (g.setIfInBounds i true) (a.put m.dst v) w->cQ P md ops Q S ds (fuel+1) g a w:=by
  intro fuel;induction fuel with
  |zero=>
    intro g a w _ _ _ q x hS H;refine⟨fun h=>(by rw[h] at q;cases q),fun j r=>?_⟩;by_cases l:j=i
    · subst l;exact x.wpOp hi hS ⟨fun _ h=>h,H⟩
    · have:=ready_mono r l
      rw[H.1] at this;cases this
  |succ fuel J=>
    intro g a w F G hd q x hS H;refine⟨fun h=>(by rw[h] at q;cases q),fun j r=>?_⟩;by_cases l:j=i
    · subst l;exact x.wpOp hi hS ⟨fun _ h=>h,H⟩
    · have h1:=H.2 j (ready_mono r l)
      obtain⟨y,p,B,K⟩:=mem_ready.1 r;have C:=(mem_ready.1 q).1;have L:∀e∈p.after,Region.binds md e=true->e.on≠i:=fun e he hb heq=>by
        have h1:=K e he hb;rw[heq] at h1;rcases Nat.lt_or_ge i g.size with D|D
        · simp[D] at C h1;rw[C] at h1;cases h1
        · simp[Array.getElem?_eq_none D] at h1
      have M:j∉ds:=fun hm=>Region.xw G (hd j hm y) C r
      have N:=wpOp_putIf B (F j p B l y L) (fun cs b=>E i m cs b hi) (fun cs b=>E j p cs b B) I x h1;have O:∀k ok,ops[k]? =some ok->k≠i->(g.setIfInBounds j true).getD k true=false->
          (∀e∈ok.after,Region.binds md e=true->e.on≠i)->m.apart ops ok=true:=fun k ok hk R s T=>by
        refine F k ok hk R ?_ T;by_cases u:j=k
        · subst u;exact y
        · rw[getD_set_ne true u] at s;exact s
      have U:∀d∈ds,(g.setIfInBounds j true).getD d true=false->Region.gG md ops i n d=true:=fun d hm s=>by
        refine hd d hm ?_;by_cases u:j=d
        · subst u;exact y
        · rw[getD_set_ne true u] at s;exact s
      refine wpOp_mono (fun a' w' z=>⟨z.2.1,J (g.setIfInBounds j true) a' w' O (G.set r) U (ready_mono q (Ne.symm l)) z.1 (z.2.1 M hS) ?_⟩) N;rw[Array.setIfInBounds_comm _ _ l];exact z.2.2
theorem xz {i:Nat} {m:Oper} {v:Value} (hi:ops[i]? =some m) (y:∀(j:Nat) (o:Oper) cs b,ops[j]? =some o->o.op≠ .select cs b)
    (F:∀c a w,Q (.panic c) (a.put m.dst v) w->Q (.panic c) a w):
    ∀(fuel:Nat) (g:Array Bool) (a:Act) (w:World),
      (∀j n,ops[j]? =some n->j≠i->g.getD j true=false->(∀e∈n.after,Region.binds md e=true->e.on≠i)->m.apart ops n=true)->
      i∈Region.ready md ops g->Yields P ops m v a->
      cQ P md ops Q S ds fuel (g.setIfInBounds i true) (a.put m.dst v) w->cQ P md ops Q S ds (fuel+1) g a w:=by
  intro fuel;induction fuel with
  |zero=>
    intro g a w _ p q H;refine⟨fun h=>(by rw[h] at p;cases p),fun j r=>?_⟩;by_cases l:j=i
    · subst l;exact(q.yieldsIf (S:=fun _=>True)).wpOp hi trivial ⟨fun _ h=>h,H⟩
    · have:=ready_mono r l
      rw[H.1] at this;cases this
  |succ fuel G=>
    intro g a w z p q H;refine⟨fun h=>(by rw[h] at p;cases p),fun j r=>?_⟩;by_cases l:j=i
    · subst l;exact(q.yieldsIf (S:=fun _=>True)).wpOp hi trivial ⟨fun _ h=>h,H⟩
    · have h1:=H.2 j (ready_mono r l)
      obtain⟨B,n,s,I⟩:=mem_ready.1 r;have C:=(mem_ready.1 p).1;have J:∀e∈n.after,Region.binds md e=true->e.on≠i:=fun e he hb heq=>by
        have h1:=I e he hb;rw[heq] at h1;rcases Nat.lt_or_ge i g.size with u|u
        · simp[u] at C h1;rw[C] at h1;cases h1
        · simp[Array.getElem?_eq_none u] at h1
      have K:=wpOp_put s (z j n s l B J) (fun cs b=>y i m cs b hi) (fun cs b=>y j n cs b s) F q h1;have L:∀k ok,ops[k]? =some ok->k≠i->(g.setIfInBounds j true).getD k true=false->
          (∀e∈ok.after,Region.binds md e=true->e.on≠i)->m.apart ops ok=true:=fun k ok hk M D N=>by
        refine z k ok hk M ?_ N;by_cases E:j=k
        · subst E;exact B
        · rw[getD_set_ne true E] at D;exact D
      refine wpOp_mono (fun a' w' x=>⟨x.2.1,G (g.setIfInBounds j true) a' w' L (ready_mono p (Ne.symm l)) x.1 ?_⟩) K;rw[Array.setIfInBounds_comm _ _ l];exact x.2.2
theorem xA {i:Nat} {e:Oper} {v:Value} {fuel:Nat} {b:Array Bool} {a:Act} {w:World} (hi:ops[i]? =some e)
    (g:Region.noSelect ops=true) (hf:Region.free md ops b i=true) (j:(Region.ready md ops b).contains i=true)
    (k:Region.lN md ops b=true) (l:Region.mT md ops b ds i=true)
    (m:∀c a w,Q (.panic c) (a.put e.dst v) w->Q (.panic c) a w) (n:YieldsIf P ops S e v a) (hS:S w)
    (h:cQ P md ops Q S ds fuel (b.setIfInBounds i true) (a.put e.dst v) w):cQ P md ops Q S ds (fuel+1) b a w:=
  xx hi (Region.noSelect_spec g) m ops.size fuel b a w (Region.free_spec hi hf) (Region.xu k)
    (fun d hm o=>by have:=List.all_eq_true.1 l d hm;rw[o] at this;simpa using this) (by simpa using j) n hS h
theorem xB {rs:List Nat} {fuel:Nat} {b:Array Bool} {a:Act} {w:World} (e:Region.ready md ops b=rs) (g:rs≠[])
    (h:∀i∈rs,wpOp P ops Q i (fun a' w'=>(i∉ds->S w->S w')∧cQ P md ops Q S ds fuel (b.setIfInBounds i true) a' w') a w):cQ P md ops Q S ds (fuel+1) b a w:=
  ⟨fun j=>absurd (e▸j) g,e▸h⟩
theorem xC {b:Array Bool} {a:Act} {w:World} (e:Region.ready md ops b=[]) (h:Q .normal a w):
    ∀fuel,cQ P md ops Q S ds fuel b a w
  |0=>⟨e,h⟩
  |_+1=>⟨fun _=>h,by rw[e];simp⟩
theorem xD {id:Nat} {a:Act} {w:World} (hm:P.follows .mixedOrders=true)
    (h:cQ P .any ops Q S ds ops.size (Array.replicate ops.size false) a {w with drawn:=w.drawn+1}):(Code.region id ops true).wp P Q a w:=
  wp_region_any hm (rK _ _ _ _ h)
end
section
variable {P:Program} {ops:Array Oper} {Q:Exit->Act->World->Prop} {md:Region.Mode} {S:World->Prop} {ds:List Nat}
def fT (P:Program) (md:Region.Mode) (ops:Array Oper) (Q:Exit->Act->World->Prop) (S:World->Prop) (ds:List Nat) (fuel:Nat) (b:Array Bool) (a:Act) (w:World) (rs:List Nat):Prop:=
  ∀i∈rs,wpOp P ops Q i (fun a' w'=>(i∉ds->S w->S w')∧cQ P md ops Q S ds fuel (b.setIfInBounds i true) a' w') a w
theorem fT.nil {fuel:Nat} {b:Array Bool} {a:Act} {w:World}:fT P md ops Q S ds fuel b a w []:=fun _ h=>by cases h
theorem fT.cons {fuel:Nat} {e:Array Bool} {a:Act} {w:World} {i:Nat} {o:Oper} {rs:List Nat} (k:ops[i]? =some o) (hd:i∉ds)
    (h:∀b:Act->World->Prop,Shut (∀a w,S w->(S w->cQ P md ops Q S ds fuel (e.setIfInBounds i true) a w)->b a w)->if Region.wanted o (yielded ops a.tmps)=true then Oper.wp P o a w b Q else b (a.put o.dst undef) w)
    (l:fT P md ops Q S ds fuel e a w rs):fT P md ops Q S ds fuel e a w (i::rs):=fun j g=>by
  rcases List.mem_cons.1 g with rfl|g
  · exact wpOp_step k (fun b m=>h b (fun a w hS n=>m a w ⟨fun _ _=>hS,n hS⟩))
  · exact l j g
theorem fT.xE {fuel:Nat} {e:Array Bool} {a:Act} {w:World} {i:Nat} {o:Oper} {rs:List Nat} (k:ops[i]? =some o) (hd:i∈ds)
    (h:∀b:Act->World->Prop,Shut (∀a w,cQ P md ops Q S ds fuel (e.setIfInBounds i true) a w->b a w)->if Region.wanted o (yielded ops a.tmps)=true then Oper.wp P o a w b Q else b (a.put o.dst undef) w)
    (l:fT P md ops Q S ds fuel e a w rs):fT P md ops Q S ds fuel e a w (i::rs):=fun j g=>by
  rcases List.mem_cons.1 g with rfl|g
  · exact wpOp_step k (fun b m=>h b (fun a w n=>m a w ⟨fun hn=>absurd hd hn,n⟩))
  · exact l j g
theorem rL {rs:List Nat} {fuel:Nat} {b:Array Bool} {a:Act} {w:World} (e:Region.ready md ops b=rs) (g:rs≠[])
    (h:fT P md ops Q S ds fuel b a w rs):cQ P md ops Q S ds (fuel+1) b a w:=xB e g h
theorem mU {id n:Nat} {a:Act} {w:World} (l:Array Bool) (hm:P.follows .mixedOrders=true) (hn:ops.size=n) (b:Array.replicate n false=l) (hS:S w.drew)
    (h:S w.drew->cQ P .any ops Q S ds n l a w.drew):(Code.region id ops true).wp P Q a w:=by
  subst hn;subst b;exact xD hm (h hS)
def lO (md:Region.Mode) (ops:Array Oper) (ds:List Nat) (l l':Array Bool) (i:Nat):Bool:=
  Region.noSelect ops&&Region.free md ops l i&&(Region.ready md ops l).contains i&&Region.lN md ops l&&Region.mT md ops l ds i&&(l.setIfInBounds i true==l')
theorem iC {i:Nat} {N:Option Tmp} {b:Oper} {v:Value} {fuel:Nat} {l:Array Bool} {a:Act} {w:World} (l':Array Bool) (hi:ops[i]? =some b) (g:b.dst=N) (e:lO md ops ds l l' i=true)
    (j:∀c a w,Q (.panic c) (a.put b.dst v) w->Q (.panic c) a w) (k:YieldsIf P ops S b v a) (hS:S w) {a':Act} (m:a.put N v=a')
    (h:cQ P md ops Q S ds fuel l' a' w):cQ P md ops Q S ds (fuel+1) l a w:=by
  subst m;subst g;simp only[lO,Bool.and_eq_true,beq_iff_eq] at e;obtain⟨⟨⟨⟨⟨h1,n⟩,o⟩,p⟩,q⟩,r⟩:=e;subst r;exact xA hi h1 n o p q j k hS h
def mV (md:Region.Mode) (ops:Array Oper) (l l':Array Bool) (i:Nat):Bool:=
  Region.noSelect ops&&Region.free md ops l i&&(Region.ready md ops l).contains i&&(l.setIfInBounds i true==l')
theorem cy {i:Nat} {N:Option Tmp} {b:Oper} {v:Value} {fuel:Nat} {l:Array Bool} {a:Act} {w:World} (l':Array Bool) (hi:ops[i]? =some b) (g:b.dst=N) (e:mV md ops l l' i=true)
    (j:∀c a w,Q (.panic c) (a.put b.dst v) w->Q (.panic c) a w) (k:Yields P ops b v a) {a':Act} (m:a.put N v=a')
    (h:cQ P md ops Q S ds fuel l' a' w):cQ P md ops Q S ds (fuel+1) l a w:=by
  subst m;subst g;simp only[mV,Bool.and_eq_true,beq_iff_eq] at e;obtain⟨⟨⟨h1,n⟩,o⟩,p⟩:=e;subst p;exact xz hi (Region.noSelect_spec h1) j fuel l a w (Region.free_spec hi n) (by simpa using o) k h
def kH (md:Region.Mode) (ops:Array Oper) (l l':Array Bool) (i:Nat):Bool:=(Region.ready md ops l==[i])&&(l.setIfInBounds i true==l')
theorem jA {i:Nat} {N:Option Tmp} {b:Oper} {fuel:Nat} {l:Array Bool} {a:Act} {w:World} (l':Array Bool) (hi:ops[i]? =some b) (g:b.dst=N) (e:kH md ops l l' i=true) (hd:i∉ds)
    (h:∀K:Act->World->Prop,Shut (∀a' w',S w'->(S w'->cQ P md ops Q S ds fuel l' a' w')->K a' w')->if Region.wanted b (yielded ops a.tmps)=true then Oper.wp P b a w K Q else K (a.put N undef) w):
    cQ P md ops Q S ds (fuel+1) l a w:=by
  subst g;simp only[kH,Bool.and_eq_true,beq_iff_eq] at e;obtain⟨h1,j⟩:=e;subst j;exact rL h1 (by simp) (fT.cons hi hd (fun K k=>h K k) fT.nil)
theorem xF {i:Nat} {N:Option Tmp} {b:Oper} {fuel:Nat} {l:Array Bool} {a:Act} {w:World} (l':Array Bool) (hi:ops[i]? =some b) (g:b.dst=N) (e:kH md ops l l' i=true) (hd:i∈ds)
    (h:∀K:Act->World->Prop,Shut (∀a' w',cQ P md ops Q S ds fuel l' a' w'->K a' w')->if Region.wanted b (yielded ops a.tmps)=true then Oper.wp P b a w K Q else K (a.put N undef) w):
    cQ P md ops Q S ds (fuel+1) l a w:=by
  subst g;simp only[kH,Bool.and_eq_true,beq_iff_eq] at e;obtain⟨h1,j⟩:=e;subst j;exact rL h1 (by simp) (fT.xE hi hd (fun K k=>h K k) fT.nil)
theorem mW {l:Array Bool} {a:Act} {w:World} {n:Nat} (b:(Region.ready md ops l==[])=true) (h:Q .normal a w):cQ P md ops Q S ds n l a w:=xC (by simpa using b) h n
theorem jB {fuel:Nat} {l:Array Bool} {a a':Act} {w:World} (b:a=a') (h:cQ P md ops Q S ds fuel l a' w):cQ P md ops Q S ds fuel l a w:=by
  subst b;exact h
theorem xG {b:Oper} {N:Option Tmp} {a:Act} {w:World} {K:Act->World->Prop} (f:FuncId) (args:Array Value) (hw:Region.wanted b (yielded ops a.tmps)=true) (g:b.dst=N) (i:(execOp a.eval b).run P w= .ok (.enter f args) w)
    (h:Calls P f args w fun e w'=>∃v,e= .returned v∧K (a.put N v) w'):if Region.wanted b (yielded ops a.tmps)=true then Oper.wp P b a w K Q else K (a.put N undef) w:=by
  rw[if_pos hw];subst g;unfold Oper.wp;rw[i,Oper.upon_enter];refine h.mono fun e k j=>?_
  obtain⟨v,rfl,hk⟩:=j;exact hk
theorem rM {f:FuncId} {fn:Func} (hf:P.funcs[f]? =some fn) (a:(fn.name== "runtime.NumGoroutine")=false) (hb:fn.body.isSome=true) (args:Array Value) (w:World):(callFunc f args).run P w= .ok (.enter f args) w:=by
  have h1:fn.name≠ "runtime.NumGoroutine":=by simpa using a
  obtain⟨c,b⟩:=Option.isSome_iff_exists.1 hb;simp[callFunc,hf,h1,b]
theorem jY {b:Oper} {N:Option Tmp} {a:Act} {w:World} {K:Act->World->Prop} {f:FuncId} {fn:Func} {as:Array Operand} {g:Array TypeId} (hf:P.funcs[f]? =some fn) (i:(fn.name== "runtime.NumGoroutine")=false) (hb:fn.body.isSome=true) (args:Array Value)
    (hw:Region.wanted b (yielded ops a.tmps)=true) (j:b.dst=N) (k:b.op= .call {callee:=.value (.func f),args:=as,argTypes:=g}) (l:as.map a.eval=args)
    (h:Calls P f args w fun e w'=>∃v,e= .returned v∧K (a.put N v) w'):if Region.wanted b (yielded ops a.tmps)=true then Oper.wp P b a w K Q else K (a.put N undef) w:=by
  refine xG f args hw j ?_ h;have he:=rM hf i hb args w;unfold execOp;simp[k,resolve,Deferred.ofValue,invoke,Act.eval,l,he]
theorem rN {rest:List Oper} {b:Oper} {a:Act} {w:World} (N:Option Tmp) (hd:b.dst=N) (g:b.guard=none) {f:FuncId} {fn:Func} {as:Array Operand} {i:Array TypeId} (hf:P.funcs[f]? =some fn) (j:(fn.name== "runtime.NumGoroutine")=false) (hb:fn.body.isSome=true) (args:Array Value)
    (k:b.op= .call {callee:=.value (.func f),args:=as,argTypes:=i}) (l:as.map a.eval=args)
    (h:Calls P f args w fun e w'=>∃v,e= .returned v∧wpList P ops Q rest (a.put N v) w'):wpList P ops Q (b::rest) a w:=by
  refine wpList_plain g fun K m=>?_
  have he:=rM hf j hb args w;have n:(execOp a.eval b).run P w= .ok (.enter f args) w:=by
    unfold execOp;simp[k,resolve,Deferred.ofValue,invoke,Act.eval,l,he]
  unfold Oper.wp;rw[n,Oper.upon_enter];refine h.mono fun e p o=>?_
  obtain⟨v,rfl,hk⟩:=o;subst hd;exact m _ _ hk
theorem xH {b:Oper} {a:Act} {w w1:World} {K:Act->World->Prop} (hw:Region.wanted b (yielded ops a.tmps)=true) (e:b.dst=none) (g:(execOp a.eval b).run P w= .ok .skip w1)
    (h:K a w1):if Region.wanted b (yielded ops a.tmps)=true then Oper.wp P b a w K Q else K (a.put none undef) w:=by
  rw[if_pos hw];unfold Oper.wp;rw[g];show K (a.put b.dst undef) w1
  rw[e];exact h
theorem bd (n:Int):IntKind.i64.wrap n=Go.RowKit.wrap64 n:=by unfold Go.RowKit.wrap64;exact IntKind.wrap_i64 n
theorem bh (n:Int):IntKind.i32.wrap n=Go.RowKit.wrap32 n:=by unfold Go.RowKit.wrap32;exact IntKind.wrap_i32 n
end
end Go.Proofs.YtffdiakgjakngaaGreatW.PrintLast
end
section
namespace Go.Proofs.YtffdiakgjakngaaGreatW.PrintWords
open Go.RowKit
namespace Kd
section
variable {α:Type} {d:Kd α} {e base g o n cap:Nat} {ok okp:Nat->Prop} {w W:World} {v:Value} {xs:List α}
theorem xI (h:d.Q e w base ok v xs) (hp:0<xs.length):∃g o cap,v= .slice (some ⟨g,o,none⟩) xs.length cap∧base<=g∧g<w.heap.size∧∃cells,w.heap[g]? =some (.cells cells e (0,0)):=by
  obtain⟨i,inner,b,j⟩:=h;rcases b.2 with⟨h1,_⟩|⟨g,off,cap,cur,rfl,hb,a,r⟩
  · omega
  · exact⟨g,off*d.sz,cap,rfl,hb,ay a,cur,a⟩
theorem xJ (h:d.Q e W base ok (.slice (some ⟨g,o,none⟩) n cap) xs) (z:α) (i:Int) (q:0<=i) (h1:i<n):
    ∃c,c.length=d.sz∧d.M W base (fun k=>ok k∧k≠g) (xs.getD i.toNat z) c∧(∀j u,c[j]? =some u->W.cell? ⟨g,o+i.toNat*d.sz+j,none⟩=some u)∧∀j,W.frozen? ⟨g,o+i.toNat*d.sz+j,none⟩=false:=by
  obtain⟨hn,r,hC⟩:=rA h;obtain⟨_,inner,l,m⟩:=h;have a:i.toNat<xs.length:=by omega
  have s:i.toNat*d.sz+d.sz<=inner.length:=by rw[m.1,<-Nat.succ_mul];exact Nat.mul_le_mul_right _ a
  have p:=m.2 i.toNat _ (List.getElem?_eq_getElem a);refine⟨(inner.drop (i.toNat*d.sz)).take d.sz,by rw[List.length_take,List.length_drop];omega,?_,fun j u hu=>?_,fun j=>?_⟩
  · rw[List.getD_eq_getElem?_getD,List.getElem?_eq_getElem a]
    exact d.cm (fun k hk=>⟨hk.1,fun he=>hk.2 (by rw[he];simp[Value.ownBlock])⟩) p
  · rw[List.getElem?_take] at hu
    split at hu
    · rw[List.getElem?_drop] at hu
      subst hn;obtain⟨ad,he,b⟩:=rp l (by omega);injection he with he
      subst he;have:=b _ u hu;rwa [gW,<-Nat.add_assoc] at this
    · cases hu
  · obtain⟨_,cells,b⟩:=jU l g (by simp[Value.ownBlock])
    exact bq b _
end
section
variable {α:Type} {enc:α->Value} {h1:∀x,(enc x).oneCell'=true} {e base g o n cap:Nat} {ok:Nat->Prop} {W:World} {xs:List α}
theorem xK (d:α) (h:(scalar enc h1).Q e W base ok (.slice (some ⟨g,o,none⟩) n cap) xs) (i:Int) (j:0<=i) (hi:i<n):W.cell? ⟨g,o+i.toNat,none⟩=some (enc (bH d xs i))∧W.frozen? ⟨g,o+i.toNat,none⟩=false:=by
  obtain⟨c,_,k,l,hf⟩:=xJ h d i j hi;have m:c=[enc (xs.getD i.toNat d)]:=k;subst m;have a:=l 0 _ rfl;have b:=hf 0;rw[show (scalar enc h1).sz=1 from rfl,Nat.mul_one,Nat.add_zero] at a b;exact⟨a,b⟩
end
end Kd
end Go.Proofs.YtffdiakgjakngaaGreatW.PrintWords
end
section
namespace Go.Proofs.YtffdiakgjakngaaGreatW.PrintWords
open Go.RowKit
namespace Kd
def tag {α:Type} (f:Nat->Nat) (d:Kd α):Kd (α×Nat) where
  sz:=d.sz
  E:=d.E
  K:=fun w x cs=>d.K w x.1 cs
  M:=fun w base ok x cs=>d.M w base (fun k=>ok k∧f k=x.2) x.1 cs
  dJ:=fun h=>d.dJ h
  dS:=fun h=>d.dS h
  fQ:=fun hb h=>d.fQ hb h
  cL:=fun h=>d.cL h
  cm:=fun a h=>d.cm (fun k hk=>⟨a k hk.1,hk.2⟩) h
  d_:=fun h=>d.cm (fun _ hk=>⟨⟨hk.1.1,hk.2⟩,hk.1.2⟩) (d.d_ h)
  ej:=fun hm h=>d.ej (fun k hk=>hm k hk.1) h
  fR:=fun hb h=>d.fR hb h
def raw (sz:Nat):Kd (List Value) where
  sz:=sz
  E:=[]
  K:=fun _ x cs=>cs=x∧cs.length=sz∧∀u∈cs,u.oneCell'=true
  M:=fun _ _ _ x cs=>cs=x∧cs.length=sz∧∀u∈cs,u.oneCell'=true
  dJ:=fun h=>h.2.1
  dS:=fun h=>h.2.2
  fQ:=fun _ h=>h
  cL:=fun h=>h
  cm:=fun _ h=>h
  d_:=fun h=>h
  ej:=fun _ h=>h
  fR:=fun _ h=>h
def S {α:Type} (d:Kd α) (e:Nat) (w:World) (base:Nat) (ok:Nat->Prop) (v:Value) (xs:List α):Prop:=∃f,(tag f d).R e w base ok v xs.zipIdx
section
variable {α β:Type} {d:Kd α} {d':Kd β} {e e':Nat} {w w1 W:World} {base b:Nat} {ok ok' okv oku:Nat->Prop} {u v:Value} {xs:List α} {ys:List β}
theorem jC {xs:List α} {j:Nat} {p:α} (h:xs[j]? =some p):xs.zipIdx[j]? =some (p,j):=by rw[List.getElem?_zipIdx,h,Nat.zero_add];rfl
theorem jZ (h:S d e w base ok v xs):d.R e w base ok v xs:=by
  obtain⟨f,g,inner,a,b⟩:=h;rw[List.length_zipIdx] at a;exact⟨g,inner,a,by have:=b.1;rw[List.length_zipIdx] at this;exact this,fun j p i=>d.cm (fun _ hk=>hk.1) (b.2 j (p,j) (jC i))⟩
theorem kI {ad:Addr} {n cap:Nat} (h:d.R e w base ok (.slice (some ad) n cap) xs):∃g,ad=⟨g,0,none⟩:=by
  obtain⟨_,inner,i,j⟩:=h;rcases i.2 with⟨a,_⟩|⟨g,k,cur,a,_⟩
  · cases a
  · injection a with b _ _
    injection b with b
    exact⟨g,b⟩
theorem fU (b:d.E=[]) (h:d.R e w base ok v xs):d.R e w base (fun k=>some k=v.ownBlock) v xs:=by
  obtain⟨j,inner,g,i⟩:=h;refine⟨fun k hk=>hk.symm,inner,g,i.eT (fun p c hp=>d.cm (fun k hk=>?_) (d.d_ hp))⟩;obtain⟨_,_,_,q,a,_⟩:=hk;rw[b] at a;cases a
theorem fB (d:Kd α) (e:Nat) (w:World) (base:Nat) (ok:Nat->Prop):S d e w base ok (.slice none 0 0) []:=⟨fun _=>0,cV _ _ _ _ _⟩
theorem j4 (h:S d e w base ok v xs) (a:∀k,ok k->ok' k):S d e w base ok' v xs:=by
  obtain⟨f,h⟩:=h;exact⟨f,aV h a⟩
theorem lP (h:S d e w base ok v xs):S d e w base (fun k=>ok k∧base<=k∧k<w.heap.size∧∃q,q∈e::d.E∧∃cells,w.heap[k]? =some (.cells cells q (0,0))) v xs:=by
  obtain⟨f,h⟩:=h;exact⟨f,eC h⟩
theorem xL (h:S d e w base ok v xs) (hm:∀k,ok k->w1.heap[k]? =w.heap[k]?):S d e w1 base ok v xs:=by
  obtain⟨f,h⟩:=h;exact⟨f,eU h hm⟩
theorem oV (h:S d e w base ok v xs) (hm:∀k,ok k->k<w.heap.size->w1.heap[k]? =w.heap[k]?):S d e w1 base ok v xs:=
  j4 (xL (lP h) (fun k hk=>hm k hk.1 hk.2.2.1)) (fun _ hk=>hk.1)
theorem mX (h:S d e w base ok v xs) (hb:Below w.heap.size w w1):S d e w1 base ok v xs:=oV h (fun k _ hk=>hb.block k hk)
theorem oW (h:S d e w base ok v xs) (o:Obj):S d e (w.alloc o) base ok v xs:=mX h (aq (Below.refl _ _) o)
theorem rO (h:S d e w base ok v xs):S d e w.drew base ok v xs:=mX h (gF (Below.refl _ _))
theorem xM (h:S d e w base ok v xs) (m:Nat):S d e (w.drewN m) base ok v xs:=mX h (bP (Below.refl _ _) m)
theorem rP (h:S d e w base ok v xs) {row:Option Nat} (a:w.grownBy w1 row) (b:∀k,ok k->some k≠row):S d e w1 base ok v xs:=oV h (fun k g hk=>a.block k hk (b k g))
theorem xN (h:S d e w base ok v xs) {p:Addr} (a:∀k,ok k->k≠p.block) (u:Value):S d e (w.setCell p u) base ok v xs:=oV h (fun k b _=>Below.heap_setCell w p u k (a k b))
theorem xO (h:S d e w base ok v xs) {g t:Nat} {cells:Array Value} (hb:w.heap[g]? =some (.cells cells t (0,0))) (a:∀q,q∈e::d.E->q≠t):S d e w base (fun k=>ok k∧k≠g) v xs:=by
  obtain⟨f,h⟩:=h;exact⟨f,dT h hb a⟩
theorem oX (h:S d e w base ok v xs) {g t:Nat} {cells:Array Value} (hb:w.heap[g]? =some (.cells cells t (0,0))) (a:∀q,q∈e::d.E->q≠t) (j:Nat) (u:Value):S d e (w.setCell ⟨g,j,none⟩ u) base ok v xs:=
  j4 (xN (p:=⟨g,j,none⟩) (xO h hb a) (fun _ hk=>hk.2) u) (fun _ hk=>hk.1)
theorem mY (h:S d e w base ok v xs):∀k,v.ownBlock=some k->∃cells,w.heap[k]? =some (.cells cells e (0,0)):=fS (jZ h)
theorem xP (h:S d e w base ok v xs):∀k,v.ownBlock=some k->k<w.heap.size:=aX (jZ h)
theorem xQ {f a:Nat->Nat} {b:List (α×Nat)} (h:(tag f d).R e w base ok v b) (hf:∀k,ok k->k<w.heap.size->a k=f k):(tag a d).R e w base ok v b:=by
  obtain⟨i,inner,l,g⟩:=eC h;exact⟨fun k hk=>(i k hk).1,inner,l,g.1,fun j p m=>d.cm (fun k hk=>⟨⟨hk.1.1.1,hk.1.2⟩,(hf k hk.1.1.1 hk.1.1.2.2.1).trans hk.2⟩) (g.2 j p m)⟩
end
section
variable {α β:Type} {d:Kd α} {d':Kd β} {e e' g:Nat} {w w1 W:World} {base b:Nat} {ok ok' okv oku:Nat->Prop} {u v:Value} {xs:List α} {ys:List β}
theorem xR (h:S d e w base ok v xs) {t:Nat} {cells:Array Value} (hb:w.heap[g]? =some (.cells cells t (0,0))) (a:e≠t):some g≠v.ownBlock:=dh (jZ h) hb a
theorem oY (h:S d e w base ok v xs) (hp:0<xs.length):∃g cap,v= .slice (some ⟨g,0,none⟩) xs.length cap∧base<=g∧g<w.heap.size∧∃cells,w.heap[g]? =some (.cells cells e (0,0)):=fg (jZ h) hp
theorem kJ (h:S d e w base ok v xs):∃A c,v= .slice A xs.length c:=aZ (jZ h)
theorem rQ (xs:List α) (p:α):(xs++[p]).zipIdx=xs.zipIdx++[(p,xs.length)]:=by rw[List.zipIdx_append];simp
end
section
open Classical in
theorem rR {α:Type} {d:Kd α} {e base:Nat} {okv:Nat->Prop} {w:World} {v:Value} {xs:List α} (h:S d e w base okv v xs) (m:Nat) (okp:Nat->Prop) (a:∀k,okp k->¬okv k):∃f,(∀k,okp k->f k=m)∧(tag f d).R e w base okv v xs.zipIdx:=by
  obtain⟨f,h⟩:=h;exact⟨fun k=>if okp k then m else f k,fun k hk=>if_pos hk,xQ h (fun k hk _=>if_neg (fun b=>a k b hk))⟩
variable {P:Program} {ops:Array Oper} {rest:List Oper} {o:Oper} {a:Act} {Q:Exit->Act->World->Prop} {Kc:Act->World->Prop} {α:Type}
theorem xS (d:Kd α) {w0 W:World} (base:Nat) (j:o.guard=none) (s x:Operand) (t e:TypeId) (z:Value) (bytes:Nat)
    (l:o.op= .call {callee:=.builtin .append,args:=#[s,x],argTypes:=#[t,t]})
    (m:P.underlying t=some (.slice e)) (n:(P.info? e).map (fun i=>(i.zero,i.size,i.bytes))=some (some z,d.sz,bytes)) (q:z.cells.size=d.sz) (r:0<d.sz) (u:0<bytes)
    (v:Value) (xs:List α) (p:α) (cs:List Value) (ok okp:Nat->Prop) (w:a.eval s=v) (y:a.eval x= .slice (some ⟨W.heap.size,0,none⟩) 1 1) (hp:d.M W base okp p cs) (B:∀k,okp k->ok k∧some k≠v.ownBlock) (C:∀k,W.heap.size<=k->ok k)
    (D:S d e W base (fun k=>ok k∧¬okp k) v xs) (E:Below base w0 W) (F:base<=W.heap.size) (G:(xs.length+1)*bytes<=140737488355328)
    (h:∀v1 w1,S d e w1 base ok v1 (xs++[p])->Below base w0 w1->W.grownBy w1 v.ownBlock->(v1.ownBlock=v.ownBlock∨∃b,v1.ownBlock=some b∧W.heap.size<=b)->wpList P ops Q rest (a.put o.dst v1) w1):
    wpList P ops Q (o::rest) a (W.alloc (.cells cs.toArray e)):=by
  obtain⟨f,hf,H⟩:=rR D xs.length okp (fun _ hk I=>I.2 hk);refine lI (tag f d) base j s x t e z bytes l m n q r u v xs.zipIdx (p,xs.length) cs ok okp w y (d.cm (fun k hk=>⟨hk,hf k hk⟩) hp) B C (aV H (fun _ hk=>hk.1)) E F (by rw[List.length_zipIdx];exact G) ?_;intro v1 w1 g;rw[<-rQ] at g;exact h v1 w1 ⟨f,g⟩
theorem xT (d:Kd α) {w0 W:World} (base:Nat) (hw:Region.wanted o (yielded ops a.tmps)=true) (s x:Operand) (t e:TypeId) (z:Value) (bytes:Nat)
    (j:o.op= .call {callee:=.builtin .append,args:=#[s,x],argTypes:=#[t,t]})
    (l:P.underlying t=some (.slice e)) (m:(P.info? e).map (fun i=>(i.zero,i.size,i.bytes))=some (some z,d.sz,bytes)) (n:z.cells.size=d.sz) (q:0<d.sz) (r:0<bytes)
    (v:Value) (xs:List α) (p:α) (cs:List Value) (ok okp:Nat->Prop) (u:a.eval s=v) (w:a.eval x= .slice (some ⟨W.heap.size,0,none⟩) 1 1) (hp:d.M W base okp p cs) (y:∀k,okp k->ok k∧some k≠v.ownBlock) (B:∀k,W.heap.size<=k->ok k)
    (C:S d e W base (fun k=>ok k∧¬okp k) v xs) (D:Below base w0 W) (E:base<=W.heap.size) (F:(xs.length+1)*bytes<=140737488355328)
    (h:∀v1 w1,S d e w1 base ok v1 (xs++[p])->Below base w0 w1->W.grownBy w1 v.ownBlock->(v1.ownBlock=v.ownBlock∨∃b,v1.ownBlock=some b∧W.heap.size<=b)->Kc (a.put o.dst v1) w1):
    if Region.wanted o (yielded ops a.tmps)=true then Oper.wp P o a (W.alloc (.cells cs.toArray e)) Kc Q else Kc (a.put o.dst undef) (W.alloc (.cells cs.toArray e)):=by
  obtain⟨f,hf,G⟩:=rR C xs.length okp (fun _ hk H=>H.2 hk);refine oO (tag f d) base hw s x t e z bytes j l m n q r v xs.zipIdx (p,xs.length) cs ok okp u w (d.cm (fun k hk=>⟨hk,hf k hk⟩) hp) y B (aV G (fun _ hk=>hk.1)) D E (by rw[List.length_zipIdx];exact F) ?_;intro v1 w1 g;rw[<-rQ] at g;exact h v1 w1 ⟨f,g⟩
end
def jD {α:Type} (f:Nat->Nat) (d:Kd α) (i:Nat) (c:List Value):Kd (α×Nat) where
  sz:=d.sz
  E:=d.E
  K:=fun w x cs=>(x.2=i->cs=c∧cs.length=d.sz∧∀u∈cs,u.oneCell'=true)∧(x.2≠i->d.K w x.1 cs)
  M:=fun w base ok x cs=>(x.2=i->cs=c∧cs.length=d.sz∧∀u∈cs,u.oneCell'=true)∧(x.2≠i->d.M w base (fun k=>ok k∧f k=x.2) x.1 cs)
  dJ:=fun {w x cs} h=>by
    by_cases a:x.2=i
    · exact(h.1 a).2.1
    · exact d.dJ (h.2 a)
  dS:=fun {w x cs} h=>by
    by_cases a:x.2=i
    · exact(h.1 a).2.2
    · exact d.dS (h.2 a)
  fQ:=fun hb h=>⟨h.1,fun a=>d.fQ hb (h.2 a)⟩
  cL:=fun h=>⟨h.1,fun a=>d.cL (h.2 a)⟩
  cm:=fun b h=>⟨h.1,fun a=>d.cm (fun k hk=>⟨b k hk.1,hk.2⟩) (h.2 a)⟩
  d_:=fun h=>⟨h.1,fun a=>d.cm (fun _ hk=>⟨⟨hk.1.1,hk.2⟩,hk.1.2⟩) (d.d_ (h.2 a))⟩
  ej:=fun hm h=>⟨h.1,fun a=>d.ej (fun k hk=>hm k hk.1) (h.2 a)⟩
  fR:=fun hb h=>⟨h.1,fun a=>d.fR hb (h.2 a)⟩
def H {α:Type} (d:Kd α) (e:Nat) (w:World) (base:Nat) (ok:Nat->Prop) (v:Value) (xs:List α) (i:Int) (oki:Nat->Prop) (c:List Value):Prop:=
  (∀k,oki k->ok k)∧∃f,(jD f d i.toNat c).R e w base (fun k=>ok k∧¬oki k) v xs.zipIdx
section
variable {α β:Type} {d:Kd α} {e e' g n cap:Nat} {w w1 W:World} {base:Nat} {ok ok' oki okp:Nat->Prop} {u v:Value} {xs:List α} {i:Int} {c:List Value}
theorem rS (h:S d e W base ok (.slice (some ⟨g,0,none⟩) n cap) xs) (z:α) (i:Int) (C:0<=i) (h1:i<n):
    ∃(oki:Nat->Prop) (c:List Value),c.length=d.sz∧d.M W base oki (xs.getD i.toNat z) c∧(∀j u,c[j]? =some u->W.cell? ⟨g,i.toNat*d.sz+j,none⟩=some u)∧(∀k,oki k->ok k∧k≠g)∧H d e W base ok (.slice (some ⟨g,0,none⟩) n cap) xs i oki c:=by
  obtain⟨f,s⟩:=h;have hn:=(aA s).1;rw[List.length_zipIdx] at hn;have b:some g=(Value.slice (some ⟨g,0,none⟩) n cap).ownBlock:=by simp[Value.ownBlock]
  obtain⟨x,inner,v,a⟩:=s;have l:i.toNat<xs.length:=by omega
  have hlen:inner.length=xs.length*d.sz:=by have:=a.1;rw[List.length_zipIdx] at this;exact this
  have D:i.toNat*d.sz+d.sz<=inner.length:=by rw[hlen,<-Nat.succ_mul];exact Nat.mul_le_mul_right _ l
  have o:=a.2 i.toNat _ (jC (List.getElem?_eq_getElem l));have y:∀k,some k≠(Value.slice (some ⟨g,0,none⟩) n cap).ownBlock->k≠g:=fun k hk he=>hk (by rw[he];exact b)
  refine⟨fun k=>(ok k∧k≠g)∧f k=i.toNat,(inner.drop (i.toNat*d.sz)).take d.sz,by rw[List.length_take,List.length_drop];omega,?_,fun j u hu=>?_,fun k hk=>hk.1,fun k hk=>hk.1.1,f,fun k hk=>⟨x k hk,fun r=>r.1.2 ?_⟩,inner,v,a.1,fun m p hm=>?_⟩
  · rw[List.getD_eq_getElem?_getD,List.getElem?_eq_getElem l]
    exact d.cm (fun k hk=>⟨⟨hk.1.1,y k hk.1.2⟩,hk.2⟩) o
  · rw[List.getElem?_take] at hu
    split at hu
    · rw[List.getElem?_drop] at hu
      have:=v.cells (g:=g) b.symm _ u hu;rwa [add_plain] at this
    · cases hu
  · rw[<-b] at hk;injection hk with hk;exact hk.symm
  · have hold:=a.2 m p hm
    have E:p.2=m:=by
      rw[List.getElem?_zipIdx,Nat.zero_add] at hm;obtain⟨q,_,rfl⟩:=Option.map_eq_some_iff.1 hm;rfl
    refine⟨fun w=>?_,fun w=>d.cm (fun k hk=>⟨⟨⟨hk.1.1,fun r=>w ?_⟩,hk.1.2⟩,hk.2⟩) hold⟩
    · have B:m=i.toNat:=by omega
      subst B;exact⟨rfl,d.dJ (d.cL o),d.dS (d.cL o)⟩
    · rw[<-hk.2];exact r.2
open Classical in
theorem rT (h:H d e w base ok v xs i oki c) {x':α} (r:d.M w base okp x' c) (b:∀k,okp k->oki k):S d e w base ok v (xs.set i.toNat x'):=by
  obtain⟨s,f,l,inner,n,g⟩:=h;refine⟨fun k=>if oki k then i.toNat else f k,fun k hk=>(l k hk).1,inner,by rw[List.length_zipIdx,List.length_set];rw[List.length_zipIdx] at n;exact n,by have:=g.1;rw[List.length_zipIdx] at this;rw[List.length_zipIdx,List.length_set];exact this,fun m p hm=>?_⟩;rw[List.getElem?_zipIdx,Nat.zero_add] at hm;obtain⟨q,a,rfl⟩:=Option.map_eq_some_iff.1 hm;have o:m<xs.length:=by
    have:=(List.getElem?_eq_some_iff.1 a).1;rwa [List.length_set] at this
  by_cases j:m=i.toNat
  · subst j
    rw[List.getElem?_set_self o] at a;injection a with a
    subst a;have u:=((g.2 i.toNat _ (jC (List.getElem?_eq_getElem o))).1 rfl).1;show d.M w base _ x' ((inner.drop (i.toNat*d.sz)).take d.sz)
    rw[show (inner.drop (i.toNat*d.sz)).take d.sz=c from u];exact d.cm (fun k hk=>⟨⟨s k (b k hk),fun he=>(l k he.symm).2 (b k hk)⟩,if_pos (b k hk)⟩) r
  · rw[List.getElem?_set_ne (Ne.symm j)] at a
    exact d.cm (fun k hk=>⟨⟨hk.1.1.1,hk.1.2⟩,(if_neg hk.1.1.2).trans hk.2⟩) ((g.2 m (q,m) (jC a)).2 j)
theorem rU (h:H d e w base ok v xs i oki c) (hm:∀k,ok k->¬oki k->k<w.heap.size->w1.heap[k]? =w.heap[k]?):H d e w1 base ok v xs i oki c:=by
  obtain⟨a,f,h⟩:=h;exact⟨a,f,kD h (fun k hk b=>hm k hk.1 hk.2 b)⟩
theorem rV (h:H d e w base ok v xs i oki c) {row:Option Nat} (a:w.grownBy w1 row) (b:∀k,row=some k->oki k):H d e w1 base ok v xs i oki c:=
  rU h (fun k _ hn g=>a.block k g (fun he=>hn (b k he.symm)))
theorem xU (h:H d e w base ok v xs i oki c) (hb:Below w.heap.size w w1):H d e w1 base ok v xs i oki c:=rU h (fun k _ _ a=>hb.block k a)
theorem xV (h:H d e w base ok v xs i oki c):H d e w.drew base ok v xs i oki c:=xU h (gF (Below.refl _ _))
theorem xW {okg:Nat->Prop} (h:H d e w base (fun k=>ok k∧¬okg k) v xs i oki c) (b:∀k,okg k->ok k):H d e w base ok v xs i (fun k=>oki k∨okg k) c:=by
  obtain⟨g,f,h⟩:=h;exact⟨fun k hk=>hk.elim (fun a=>(g k a).1) (b k),f,aV h (fun k hk=>⟨hk.1.1,fun a=>a.elim hk.2 hk.1.2⟩)⟩
theorem xX {ad:Addr} (h:S d e W base ok (.slice (some ad) n cap) xs) (z:α) (i:Int) (b:0<=i) (h1:i<n):
    ∃(oki:Nat->Prop) (c:List Value),c.length=d.sz∧d.M W base oki (xs.getD i.toNat z) c∧(∀j u,c[j]? =some u->W.cell? (ad.add (i.toNat*d.sz+j))=some u)∧(∀k,oki k->ok k∧some k≠(Value.slice (some ad) n cap).ownBlock)∧
      ∀{w1:World} {row:Option Nat} {x':α},W.grownBy w1 row->(∀k,row=some k->oki k)->d.M w1 base oki x' c->S d e w1 base ok (.slice (some ad) n cap) (xs.set i.toNat x'):=by
  obtain⟨g,rfl⟩:=kI (jZ h);obtain⟨oki,c,l,m,o,a,hH⟩:=rS h z i b h1;refine⟨oki,c,l,m,fun j u hu=>?_,fun k hk=>⟨(a k hk).1,fun he=>(a k hk).2 ?_⟩,fun p q r=>rT (rV hH p q) r (fun _ hk=>hk)⟩
  · rw[gW,Nat.zero_add]
    exact o j u hu
  · simpa [Value.ownBlock] using he
theorem rW (h:S d e W base ok (.slice (some ⟨g,0,none⟩) n cap) xs) (z:α) (i:Int) (a:0<=i) (h1:i<n):
    ∃(oki:Nat->Prop) (c:List Value),c.length=d.sz∧d.M W base oki (xs.getD i.toNat z) c∧(∀j u,c[j]? =some u->W.cell? ⟨g,i.toNat*d.sz+j,none⟩=some u)∧(∀j,W.frozen? ⟨g,i.toNat*d.sz+j,none⟩=false)∧(∀k,oki k->ok k∧k≠g)∧H d e W base ok (.slice (some ⟨g,0,none⟩) n cap) xs i oki c:=by
  obtain⟨_,_,_,_,b⟩:=rE (jZ h) z i a h1;obtain⟨oki,c,l,m,o,p,hH⟩:=rS h z i a h1;exact⟨oki,c,l,m,o,b,p,hH⟩
theorem xY (h:H d e W base ok (.slice (some ⟨g,0,none⟩) n cap) xs i oki c) (S:0<=i) (h1:i<n):
    ∃rows:List (List Value),rows.length=xs.length∧(raw d.sz).R e W base (fun _=>True) (.slice (some ⟨g,0,none⟩) n cap) rows∧c.length=d.sz∧(∀u∈c,u.oneCell'=true)∧(∀j u,c[j]? =some u->W.cell? ⟨g,i.toNat*d.sz+j,none⟩=some u)∧
      ∀w1 b,W.grownBy w1 (some g)->(raw d.sz).R e w1 base (fun _=>True) (.slice (some ⟨g,0,none⟩) n cap) (rows.set i.toNat b)->H d e w1 base ok (.slice (some ⟨g,0,none⟩) n cap) xs i oki b:=by
  obtain⟨G,f,x⟩:=h;have hn:=(aA x).1;rw[List.length_zipIdx] at hn;have y:some g=(Value.slice (some ⟨g,0,none⟩) n cap).ownBlock:=by simp[Value.ownBlock]
  obtain⟨I,inner,s,a⟩:=x;have z:i.toNat<xs.length:=by omega
  have hlen:inner.length=xs.length*d.sz:=by have:=a.1;rw[List.length_zipIdx] at this;exact this
  have J:∀k,some k≠(Value.slice (some ⟨g,0,none⟩) n cap).ownBlock->k≠g:=fun k hk he=>hk (by rw[he];exact y)
  have l:=(a.2 i.toNat _ (jC (List.getElem?_eq_getElem z))).1 rfl;rw[l.1] at l;have K:=((a.2 i.toNat _ (jC (List.getElem?_eq_getElem z))).1 rfl).1;refine⟨(List.range xs.length).map fun j=>(inner.drop (j*d.sz)).take d.sz,by rw[List.length_map,List.length_range],⟨fun _ _=>trivial,inner,?_,?_,fun j p B=>?_⟩,l.2.1,l.2.2,fun j u hu=>?_,fun w1 b L N=>?_⟩
  · rw[List.length_map,List.length_range];rw[List.length_zipIdx] at s;exact s
  · rw[List.length_map,List.length_range];exact hlen
  · rw[List.getElem?_map] at B
    obtain⟨T,O,rfl⟩:=Option.map_eq_some_iff.1 B;obtain⟨C,he⟩:=List.getElem?_eq_some_iff.1 O;rw[List.getElem_range] at he;subst he;rw[List.length_range] at C;have hm:=(jD f d i.toNat c).cL (a.2 j _ (jC (List.getElem?_eq_getElem C)));exact⟨rfl,(jD f d i.toNat c).dJ hm,(jD f d i.toNat c).dS hm⟩
  · rw[<-K,List.getElem?_take] at hu
    split at hu
    · rw[List.getElem?_drop] at hu
      have:=s.cells (g:=g) y.symm _ u hu;rwa [add_plain] at this
    · cases hu
  · obtain⟨_,o,D,v⟩:=N
    have P:o.length=xs.length*d.sz:=by have:=v.1;rw[List.length_set,List.length_map,List.length_range] at this;exact this
    rw[List.length_set,List.length_map,List.length_range] at D;refine⟨G,f,I,o,by rw[List.length_zipIdx];exact D,by rw[List.length_zipIdx];exact P,fun m p hm=>?_⟩;rw[List.getElem?_zipIdx,Nat.zero_add] at hm;obtain⟨q,E,rfl⟩:=Option.map_eq_some_iff.1 hm;have F:m<xs.length:=(List.getElem?_eq_some_iff.1 E).1;have hold:=a.2 m (q,m) (jC E);refine⟨fun r=>?_,fun r=>?_⟩
    · have w:m=i.toNat:=r
      subst w;exact v.2 i.toNat b (List.getElem?_set_self (by rw[List.length_map,List.length_range];exact F))
    · have w:m≠i.toNat:=r
      have Q:=(v.2 m ((inner.drop (m*d.sz)).take d.sz) (by
        rw[List.getElem?_set_ne (Ne.symm w),List.getElem?_map,List.getElem?_eq_getElem (by rw[List.length_range];exact F),List.getElem_range];rfl)).1
      show d.M w1 base _ q ((o.drop (m*d.sz)).take d.sz)
      rw[show (o.drop (m*d.sz)).take d.sz=_ from Q];exact d.cm (fun k hk=>hk.1) (d.ej (w1:=w1) (fun k hk=>L.block k hk.2.2.1 (fun he=>J k hk.1.1.2 (by injection he))) (d.d_ (hold.2 r)))
theorem xZ (h:H d e W base ok (.slice (some ⟨g,0,none⟩) n cap) xs i oki c) (a:0<=i) (h1:i<n) {seg:List Value} {j:Nat} (l:j+seg.length<=d.sz) (m:∀q∈seg,q.oneCell'=true):
    H d e (W.setCells g (i.toNat*d.sz+j) seg) base ok (.slice (some ⟨g,0,none⟩) n cap) xs i oki (c.take j++seg++c.drop (j+seg.length))∧W.grownBy (W.setCells g (i.toNat*d.sz+j) seg) (some g):=by
  obtain⟨rows,_,o,p,b,r,s⟩:=xY h a h1;obtain⟨v,k⟩:=rF o i a h1 (c:=c) (seg:=seg) (j:=j) (x':=c.take j++seg++c.drop (j+seg.length)) (okp:=fun _=>False) p r l
    ⟨rfl,by
      show (c.take j++seg++c.drop (j+seg.length)).length=d.sz
      simp only[List.length_append,List.length_take,List.length_drop];omega,fun u hu=>by
      rcases List.mem_append.1 hu with hu|hu
      · rcases List.mem_append.1 hu with hu|hu
        · exact b u (List.mem_of_mem_take hu)
        · exact m u hu
      · exact b u (List.mem_of_mem_drop hu)⟩ (fun _ hk=>hk.elim)
  exact⟨s _ _ k v,k⟩
theorem x_ {okg:Nat->Prop} (hH:H d e W base (fun k=>ok k∧¬okg k) (.slice (some ⟨g,0,none⟩) n cap) xs i oki c) (m:0<=i) (h1:i<n) {seg:List Value} {j:Nat} (o:j+seg.length<=d.sz)
    {x':α} (a:d.M W base okp x' (c.take j++seg++c.drop (j+seg.length))) (b:∀k,okp k->oki k∨okg k) (h:∀k,okg k->ok k∧k≠g):
    S d e (W.setCells g (i.toNat*d.sz+j) seg) base ok (.slice (some ⟨g,0,none⟩) n cap) (xs.set i.toNat x')∧W.grownBy (W.setCells g (i.toNat*d.sz+j) seg) (some g):=by
  have p:∀k,oki k∨okg k->k≠g:=by
    intro k hk he;subst he;rcases hk with hk|hk
    · obtain⟨_,f,r⟩:=hH
      exact(r.1 k (by simp[Value.ownBlock])).2 hk
    · exact(h k hk).2 rfl
  obtain⟨s,l⟩:=xZ (xW hH (fun k hk=>(h k hk).1)) m h1 o (fun q u=>d.dS (d.cL a) q (List.mem_append_left _ (List.mem_append_right _ u)));exact⟨rT s (oL a (fun k hk v=>l.block k v (fun he=>p k (b k hk) (by injection he)))) b,l⟩
end
end Kd
end Go.Proofs.YtffdiakgjakngaaGreatW.PrintWords
end
section
namespace Go.Proofs.YtffdiakgjakngaaGreatW.PrintWords
open Go.RowKit
end Go.Proofs.YtffdiakgjakngaaGreatW.PrintWords
end
section
namespace Go.Proofs.YtffdiakgjakngaaGreatW.PrintWords
open Go.RowKit
end Go.Proofs.YtffdiakgjakngaaGreatW.PrintWords
end
section
namespace Go.Proofs.YtffdiakgjakngaaGreatW.PrintWords
open Go.RowKit
end Go.Proofs.YtffdiakgjakngaaGreatW.PrintWords
end
section
namespace Go.Proofs.YtffdiakgjakngaaGreatW.PrintWords
open Go.RowKit
end Go.Proofs.YtffdiakgjakngaaGreatW.PrintWords
end
section
namespace Go.Proofs.YtffdiakgjakngaaGreatW.PrintWords
open Go.RowKit
def dL (P:World->Prop) (W:World) (ok:Nat->Prop):Prop:=∀W':World,(∀k,ok k->k<W.heap.size->W'.heap[k]? =W.heap[k]?)->P W'
theorem ya {W W1:World} {k:Nat} (h:W1.heap[k]? =W.heap[k]?) (a:k<W.heap.size):k<W1.heap.size:=by
  rw[Array.getElem?_eq_getElem a] at h;exact(Array.getElem?_eq_some_iff.1 h).1
namespace dL
variable {P Q:World->Prop} {W W1:World} {ok ok':Nat->Prop}
theorem now (h:dL P W ok):P W:=h W (fun _ _ _=>rfl)
theorem mono (h:dL P W ok) (a:∀k,ok k->ok' k):dL P W ok':=fun W' b=>h W' (fun k hk e=>b k (a k hk) e)
theorem bound (h:dL P W ok):dL P W (fun k=>ok k∧k<W.heap.size):=fun W' b=>h W' (fun k hk a=>b k ⟨hk,a⟩ a)
theorem step (h:dL P W ok) (hm:∀k,ok k->k<W.heap.size->W1.heap[k]? =W.heap[k]?):dL P W1 ok:=fun W' b=>h W' (fun k hk a=>(b k hk (ya (hm k hk a) a)).trans (hm k hk a))
theorem yb (h:dL P W ok) (hb:Below W.heap.size W W1):dL P W1 (fun k=>ok k∧k<W.heap.size):=(h.bound).step (fun k _ a=>hb.block k a)
end dL
namespace Kd
def F {α:Type} (d:Kd α) (W:World) (ok:Nat->Prop) (A:Option Addr) (n:Nat) (xs:List α):Prop:=dL (fun W=>d.C W A n xs) W ok
def FK {α:Type} (d:Kd α) (W:World) (ok:Nat->Prop) (x:α) (c:List Value):Prop:=dL (fun W=>d.K W x c) W ok
section
variable {α β:Type} {d:Kd α} {e base n n' cc g N:Nat} {ok ok' okp S:Nat->Prop} {w w0 w1 W W1:World} {A A':Option Addr} {u v v1:Value} {xs:List α} {xs':List β} {d':Kd β} {x:α} {c:List Value}
theorem jE (h:F d W ok A n xs):d.C W A n xs:=dL.now h
theorem mZ (h:F d W ok A n xs) (a:∀k,ok k->ok' k):F d W ok' A n xs:=dL.mono h a
theorem yc (h:F d W ok A n xs):F d W (fun k=>ok k∧k<W.heap.size) A n xs:=dL.bound h
theorem oZ (h:F d W ok A n xs) (hm:∀k,ok k->k<W.heap.size->W1.heap[k]? =W.heap[k]?):F d W1 ok A n xs:=dL.step h hm
theorem o5 (h:F d W ok A n xs) (hb:Below W.heap.size W W1):F d W1 ok A n xs:=oZ h (fun k _ a=>hb.block k a)
theorem yd (h:F d W ok A n xs) (m:Nat):F d (W.drewN m) ok A n xs:=o5 h (bP (Below.refl _ _) m)
theorem ye (h:F d W ok A n xs):n<=9223372036854775807:=(jE h).2.1
theorem yf (h:F d W ok A n xs) (a:∀k,v.ownBlock=some k->W.heap.size<=k) (hb:Below W.heap.size W W1):F d W1 (fun k=>ok k∧some k≠v.ownBlock) A n xs:=
  mZ (dL.yb h hb) (fun k hk=>⟨hk.1,fun he=>by have:=a k he.symm;have:=hk.2;omega⟩)
theorem yg (h:F d W (fun k=>ok k∧some k≠v.ownBlock) A n xs) (e:W.grownBy W1 v.ownBlock) (a:v1.ownBlock=v.ownBlock∨∃b,v1.ownBlock=some b∧W.heap.size<=b):F d W1 (fun k=>ok k∧some k≠v1.ownBlock) A n xs:=by
  refine mZ (dL.step (yc h) (fun k hk g=>e.block k g hk.1.2)) (fun k hk=>⟨hk.1.1,?_⟩);rcases a with a|⟨b,hb,hle⟩
  · rw[a];exact hk.1.2
  · rw[hb]
    intro he;injection he with he
    have:=hk.2;omega
theorem yh (h:d.R e W base ok (.slice A n cc) xs):F d W ok A n xs:=fun W' b=>by
  have a:=aA (kD h b);rw[a.1];exact a.2.2
theorem kK (h:FK d W ok x c):d.K W x c:=dL.now h
theorem j5 (h:FK d W ok x c) (a:∀k,ok k->ok' k):FK d W ok' x c:=dL.mono h a
theorem rX (h:FK d W ok x c):FK d W (fun k=>ok k∧k<W.heap.size) x c:=dL.bound h
theorem kL (h:FK d W ok x c) (hm:∀k,ok k->k<W.heap.size->W1.heap[k]? =W.heap[k]?):FK d W1 ok x c:=dL.step h hm
theorem yi (h:FK d W ok x c) (hb:Below W.heap.size W W1):FK d W1 ok x c:=kL h (fun k _ a=>hb.block k a)
theorem yj (h:d.M W base ok x c):FK d W ok x c:=fun _ a=>d.cL (oL h a)
end
end Kd
end Go.Proofs.YtffdiakgjakngaaGreatW.PrintWords
end
section
namespace Go.Proofs.YtffdiakgjakngaaGreatW.PrintWords
open Go.RowKit
namespace Kd
def chunks (sz:Nat) (n:Nat) (inner:List Value):List (List Value):=(List.range n).map fun j=>(inner.drop (j*sz)).take sz
theorem lQ (sz n:Nat) (inner:List Value):(chunks sz n inner).length=n:=by simp[chunks]
theorem yk {sz n:Nat} {inner:List Value} {j:Nat} (a:j<n):(chunks sz n inner)[j]? =some ((inner.drop (j*sz)).take sz):=by simp[chunks,a]
theorem rY {sz n:Nat} {inner:List Value} {j:Nat} {c:List Value} (h:(chunks sz n inner)[j]? =some c):c=(inner.drop (j*sz)).take sz:=by
  have a:j<n:=by have:=(List.getElem?_eq_some_iff.1 h).1;rwa [lQ] at this
  rw[yk a] at h;injection h with h
  exact h.symm
theorem yl {α:Type} {a:α->List Value->Prop} {sz:Nat} {xs:List α} {inner:List Value} (h:aM a sz xs inner) (e:∀x c,a x c->c.length=sz∧∀u∈c,u.oneCell'=true):aM (fun x cs=>cs=x∧cs.length=sz∧∀u∈cs,u.oneCell'=true) sz (chunks sz xs.length inner) inner:=by
  refine⟨by rw[lQ];exact h.1,fun j p b=>?_⟩;have g:j<xs.length:=by have:=(List.getElem?_eq_some_iff.1 b).1;rwa [lQ] at this
  have hp:=rY b;exact⟨hp.symm,e _ _ (h.2 j _ (List.getElem?_eq_getElem g))⟩
section
variable {α:Type} {d:Kd α} {e base n cc g:Nat} {ok ok' okp S:Nat->Prop} {w w1 W W1:World} {A:Option Addr} {u v v1:Value} {xs:List α} {x:α} {c:List Value}
def N {α:Type} (d:Kd α) (e:Nat) (w:World) (base:Nat) (ok:Nat->Prop) (v:Value) (xs:List α):Prop:=
  (∀k,v.ownBlock=some k->ok k)∧∃rows:List (List Value),rows.length=xs.length∧(raw d.sz).R e w base (fun k=>some k=v.ownBlock) v rows∧∀(j:Nat) (x:α) (c:List Value),xs[j]? =some x->rows[j]? =some c->FK d w (fun k=>ok k∧some k≠v.ownBlock) x c
theorem o6 {sz:Nat} {rows:List (List Value)} (h:(raw sz).R e w base ok v rows):(raw sz).R e w base (fun k=>some k=v.ownBlock) v rows:=fU rfl h
theorem m_ {sz:Nat} {rows:List (List Value)} (h:(raw sz).R e w base ok v rows):(raw sz).R e w base (fun _=>True) v rows:=aV h (fun _ _=>trivial)
theorem na (h:d.R e w base ok v xs):N d e w base ok v xs:=by
  obtain⟨b,inner,g,a⟩:=h;refine⟨b,chunks d.sz xs.length inner,lQ _ _ _,⟨fun k hk=>hk.symm,inner,by rw[lQ];exact g,yl a (fun x c hp=>⟨d.dJ (d.cL hp),d.dS (d.cL hp)⟩)⟩,fun j x c i l=>?_⟩;rw[rY l];exact yj (a.2 j x i)
theorem fV (d:Kd α) (e:Nat) (w:World) (base:Nat) (ok:Nat->Prop):N d e w base ok (.slice none 0 0) []:=na (cV _ _ _ _ _)
theorem en (h:N d e w base ok v xs) (a:∀k,ok k->ok' k):N d e w base ok' v xs:=by
  obtain⟨b,rows,g,i,hf⟩:=h;exact⟨fun k hk=>a k (b k hk),rows,g,i,fun j x c l m=>j5 (hf j x c l m) (fun k hk=>⟨a k hk.1,hk.2⟩)⟩
theorem rZ (h:N d e w base ok v xs):∀k,v.ownBlock=some k->k<w.heap.size:=by
  obtain⟨_,rows,_,a,_⟩:=h;exact aX a
theorem nc (h:N d e w base ok v xs):∀k,v.ownBlock=some k->∃cells,w.heap[k]? =some (.cells cells e (0,0)):=by
  obtain⟨_,rows,_,a,_⟩:=h;exact fS a
theorem ym (h:N d e w base ok v xs) {t:Nat} {cells:Array Value} (hb:w.heap[g]? =some (.cells cells t (0,0))) (a:e≠t):some g≠v.ownBlock:=by
  obtain⟨_,rows,_,b,_⟩:=h;exact dh b hb a
theorem o7 (h:N d e w base ok v xs):N d e w base (fun k=>ok k∧k<w.heap.size) v xs:=by
  have a:=rZ h;obtain⟨b,rows,g,i,hf⟩:=h;exact⟨fun k hk=>⟨b k hk,a k hk⟩,rows,g,i,fun j x c l m=>j5 (rX (hf j x c l m)) (fun k hk=>⟨⟨hk.1.1,hk.2⟩,hk.1.2⟩)⟩
theorem lR {base':Nat} (h:N d e w base ok v xs) (hb:base'<=base):N d e w base' ok v xs:=by
  obtain⟨a,rows,b,g,hf⟩:=h;exact⟨a,rows,b,aW g hb,hf⟩
theorem lS (h:N d e w base ok v xs) (hm:∀k,ok k->k<w.heap.size->w1.heap[k]? =w.heap[k]?):N d e w1 base ok v xs:=by
  obtain⟨b,rows,g,i,hf⟩:=h;exact⟨b,rows,g,kD i (fun k hk a=>hm k (b k hk.symm) a),fun j x c l m=>kL (hf j x c l m) (fun k hk a=>hm k hk.1 a)⟩
theorem fW (h:N d e w base ok v xs) (hb:Below w.heap.size w w1):N d e w1 base ok v xs:=lS h (fun k _ hk=>hb.block k hk)
theorem eD (h:N d e w base ok v xs) (o:Obj):N d e (w.alloc o) base ok v xs:=fW h (aq (Below.refl _ _) o)
theorem fC (h:N d e w base ok v xs):N d e w.drew base ok v xs:=fW h (gF (Below.refl _ _))
theorem fD (h:N d e w base ok v xs) (m:Nat):N d e (w.drewN m) base ok v xs:=fW h (bP (Below.refl _ _) m)
theorem r6 (h:N d e w base ok v xs) {p:Addr} (a:∀k,ok k->k≠p.block) (u:Value):N d e (w.setCell p u) base ok v xs:=lS h (fun k b _=>Below.heap_setCell w p u k (a k b))
theorem yn (h:N d e W base ok v xs) (a:∀k,u.ownBlock=some k->W.heap.size<=k) (hb:Below W.heap.size W w1):N d e w1 base (fun k=>ok k∧some k≠u.ownBlock) v xs:=
  en (fW (o7 h) hb) (fun k hk=>⟨hk.1,fun he=>by have:=a k he.symm;have:=hk.2;omega⟩)
theorem yo (h:N d e W base (fun k=>ok k∧some k≠u.ownBlock) v xs) {u1:Value} (g:W.grownBy w1 u.ownBlock) (a:u1.ownBlock=u.ownBlock∨∃b,u1.ownBlock=some b∧W.heap.size<=b):N d e w1 base (fun k=>ok k∧some k≠u1.ownBlock) v xs:=by
  refine en (lS (o7 h) (fun k hk i=>g.block k i hk.1.2)) (fun k hk=>⟨hk.1.1,?_⟩);rcases a with a|⟨b,hb,hle⟩
  · rw[a];exact hk.1.2
  · rw[hb]
    intro he;injection he with he
    have:=hk.2;omega
theorem lT (h:N d e w base ok v xs):∃A c,v= .slice A xs.length c:=by
  obtain⟨_,rows,a,b,_⟩:=h;obtain⟨A,c,he⟩:=aZ b;exact⟨A,c,by rw[he,a]⟩
theorem yp (h:N d e w base ok v xs) (hp:0<xs.length):∃g cap,v= .slice (some ⟨g,0,none⟩) xs.length cap∧base<=g∧g<w.heap.size∧∃cells,w.heap[g]? =some (.cells cells e (0,0)):=by
  obtain⟨_,rows,a,b,_⟩:=h;rw[<-a] at hp⊢;exact fg b hp
theorem iD {n c:Nat} (h:N d e w base ok (.slice A n c) xs):n=xs.length∧n<=c∧d.C w A xs.length xs:=by
  obtain⟨_,rows,i,k,hf⟩:=h;obtain⟨hn,l,hC⟩:=aA k;refine⟨by omega,l,?_⟩;rw[i] at hC;refine⟨rfl,hC.2.1,fun hp=>?_⟩;obtain⟨ad,he,m⟩:=hC.2.2 hp;refine⟨ad,he,fun j p a=>?_⟩;have b:j<rows.length:=by have:=(List.getElem?_eq_some_iff.1 a).1;omega
  obtain⟨g,o,q,r⟩:=m j _ (List.getElem?_eq_getElem b);have hk:=kK (hf j p _ a (List.getElem?_eq_getElem b));refine⟨g,o,?_,r⟩;rw[show g=rows[j] from q.1];exact hk
theorem yq (h:N d e w base ok v xs):∃A c,v= .slice A xs.length c∧xs.length<=c∧d.C w A xs.length xs:=by
  obtain⟨A,c,rfl⟩:=lT h;exact⟨A,c,rfl,(iD h).2⟩
theorem o8 {n cap:Nat} (h:N d e W base ok (.slice (some ⟨g,0,none⟩) n cap) xs) (z:α) (i:Int) (m:0<=i) (h1:i<n):
    ∃c,c.length=d.sz∧FK d W (fun k=>ok k∧k≠g) (xs.getD i.toNat z) c∧(∀j u,c[j]? =some u->W.cell? ⟨g,i.toNat*d.sz+j,none⟩=some u)∧∀j,W.frozen? ⟨g,i.toNat*d.sz+j,none⟩=false:=by
  obtain⟨_,rows,w,a,hf⟩:=h;have hn:=(aA a).1;obtain⟨c,o,p,q,r⟩:=rE a [] i m h1;have b:i.toNat<rows.length:=by omega
  have l:i.toNat<xs.length:=by omega
  have s:c=rows[i.toNat]:=by
    have v:=p.1;rwa [List.getD_eq_getElem?_getD,List.getElem?_eq_getElem b] at v
  refine⟨c,o,?_,q,r⟩;rw[List.getD_eq_getElem?_getD,List.getElem?_eq_getElem l];exact j5 (hf _ _ _ (List.getElem?_eq_getElem l) (by rw[s];exact List.getElem?_eq_getElem b)) (fun k hk=>⟨hk.1,fun he=>hk.2 (by rw[he];simp[Value.ownBlock])⟩)
theorem nf {ad:Addr} {n cap:Nat} (h:N d e W base ok (.slice (some ad) n cap) xs) (z:α) (i:Int) (a:0<=i) (h1:i<n):
    ∃c,c.length=d.sz∧FK d W (fun k=>ok k∧some k≠(Value.slice (some ad) n cap).ownBlock) (xs.getD i.toNat z) c∧∀j u,c[j]? =some u->W.cell? (ad.add (i.toNat*d.sz+j))=some u:=by
  obtain⟨g,rfl⟩:∃g,ad=⟨g,0,none⟩:=by
    obtain⟨_,rows,_,b,_⟩:=h;exact kI b
  obtain⟨c,l,m,o,_⟩:=o8 h z i a h1;refine⟨c,l,j5 m (fun k hk=>⟨hk.1,fun he=>hk.2 (by simpa [Value.ownBlock] using he)⟩),fun j u hu=>?_⟩;rw[gW,Nat.zero_add];exact o j u hu
end
end Kd
end Go.Proofs.YtffdiakgjakngaaGreatW.PrintWords
end
section
namespace Go.Proofs.YtffdiakgjakngaaGreatW.PrintWords
open Go.RowKit
namespace Kd
section
variable {α:Type} {d:Kd α} {e base n cap g:Nat} {ok ok' okp:Nat->Prop} {w w1 W:World} {v v1:Value} {xs ys:List α}
theorem yr {rows news:List (List Value)} (n:∀k,v.ownBlock=some k->ok k) (m:rows.length=xs.length) (hf:∀(j:Nat) (x:α) (c:List Value),xs[j]? =some x->rows[j]? =some c->FK d W (fun k=>ok k∧some k≠v.ownBlock) x c)
    (p:news.length=ys.length) (q:∀(j:Nat) (x:α) (c:List Value),ys[j]? =some x->news[j]? =some c->FK d W okp x c) (r:∀k,okp k->ok k∧some k≠v.ownBlock) (s:∀k,W.heap.size<=k->ok k)
    (u:(raw d.sz).R e w1 base (fun _=>True) v1 (rows++news)) (w:W.grownBy w1 v.ownBlock) (a:v1.ownBlock=v.ownBlock∨∃b,v1.ownBlock=some b∧W.heap.size<=b):N d e w1 base ok v1 (xs++ys):=by
  have y:∀k,some k≠v.ownBlock->k<W.heap.size->some k≠v1.ownBlock:=by
    intro k hk g;rcases a with a|⟨b,hb,hle⟩
    · rw[a];exact hk
    · rw[hb]
      intro he;injection he with he
      omega
  have step:∀{x:α} {c:List Value} {o:Nat->Prop},FK d W o x c->(∀k,o k->ok k∧some k≠v.ownBlock)->FK d w1 (fun k=>ok k∧some k≠v1.ownBlock) x c:=by
    intro x c o z l;exact j5 (kL (rX z) (fun k hk g=>w.block k g (l k hk.1).2)) (fun k hk=>⟨(l k hk.1).1,y k (l k hk.1).2 hk.2⟩)
  refine⟨fun k hk=>?_,rows++news,by rw[List.length_append,List.length_append,m,p],o6 u,fun j x c h i=>?_⟩
  · rcases a with a|⟨b,hb,hle⟩
    · exact n k (a▸hk)
    · rw[hb] at hk
      injection hk with hk
      exact s k (by omega)
  · rcases Nat.lt_or_ge j xs.length with g|B
    · rw[List.getElem?_append_left g] at h
      rw[List.getElem?_append_left (by omega)] at i;exact step (hf j x c h i) (fun _ hk=>hk)
    · rw[List.getElem?_append_right B] at h
      rw[List.getElem?_append_right (by omega),m] at i;exact step (q _ x c h i) r
theorem yt {x:α} {c:List Value} (h:FK d W ok x c):c=c∧c.length=d.sz∧∀u∈c,u.oneCell'=true:=⟨rfl,d.dJ (kK h),d.dS (kK h)⟩
theorem yu {rows:List (List Value)} {i:Int} {x':α} {h:List Value} (r:∀k,(Value.slice (some ⟨g,0,none⟩) n cap).ownBlock=some k->ok k) (s:rows.length=xs.length) (hf:∀(j:Nat) (x:α) (c:List Value),xs[j]? =some x->rows[j]? =some c->FK d W (fun k=>ok k∧some k≠(Value.slice (some ⟨g,0,none⟩) n cap).ownBlock) x c)
    (u:(raw d.sz).R e w1 base (fun _=>True) (.slice (some ⟨g,0,none⟩) n cap) (rows.set i.toNat h)) (o:W.grownBy w1 (some g)) (v:FK d W okp x' h) (l:∀k,okp k->ok k∧k≠g):N d e w1 base ok (.slice (some ⟨g,0,none⟩) n cap) (xs.set i.toNat x'):=by
  have p:some g=(Value.slice (some ⟨g,0,none⟩) n cap).ownBlock:=by simp[Value.ownBlock]
  refine⟨r,rows.set i.toNat h,by rw[List.length_set,List.length_set,s],o6 u,fun j x c a b=>?_⟩;have w:j<xs.length:=by have:=(List.getElem?_eq_some_iff.1 a).1;rwa [List.length_set] at this
  by_cases q:j=i.toNat
  · subst q
    rw[List.getElem?_set_self w] at a;rw[List.getElem?_set_self (by omega)] at b;injection a with a
    injection b with b
    rw[<-a,<-b];exact j5 (kL v (fun k hk m=>o.block k m (fun he=>(l k hk).2 (by injection he)))) (fun k hk=>⟨(l k hk).1,fun he=>(l k hk).2 (by rw[<-p] at he;injection he)⟩)
  · rw[List.getElem?_set_ne (Ne.symm q)] at a b
    exact kL (hf j x c a b) (fun k hk m=>o.block k m (by rw[p];exact hk.2))
theorem yv {A:Option Addr} {m c:Nat} (h:N d e w base ok (.slice A n c) xs) (hm:m<=xs.length):N d e w base ok (.slice A m c) (xs.take m):=by
  obtain⟨g,rows,i,l,hf⟩:=h;have hb:∀x y:Nat,(Value.slice A x c).ownBlock=(Value.slice A y c).ownBlock:=by
    intro x y;cases A<;>rfl
  refine⟨fun k hk=>g k (by rw[hb _ m];exact hk),rows.take m,by rw[List.length_take,List.length_take,i],o6 (xc (m_ l) (by omega)),fun j x o a b=>?_⟩;rw[List.getElem?_take] at a b;split at a
  · rename_i p
    rw[if_pos p] at b;rw[hb m n];exact hf j x o a b
  · cases a
theorem yw (h:N d e W base ok (.slice (some ⟨g,0,none⟩) n cap) xs) (i:Int) (l:0<=i) (h1:i<n) {c seg:List Value} {j:Nat} (m:c.length=d.sz) (o:∀j u,c[j]? =some u->W.cell? ⟨g,i.toNat*d.sz+j,none⟩=some u)
    (p:j+seg.length<=d.sz) {x':α} (a:FK d W okp x' (c.take j++seg++c.drop (j+seg.length))) (q:∀k,okp k->ok k∧k≠g):
    N d e (W.setCells g (i.toNat*d.sz+j) seg) base ok (.slice (some ⟨g,0,none⟩) n cap) (xs.set i.toNat x')∧W.grownBy (W.setCells g (i.toNat*d.sz+j) seg) (some g):=by
  obtain⟨r,rows,s,v,hf⟩:=h;obtain⟨w,b⟩:=rF (m_ v) i l h1 (c:=c) (seg:=seg) (j:=j) (x':=c.take j++seg++c.drop (j+seg.length)) (okp:=fun _=>False) m o p ⟨rfl,d.dJ (kK a),d.dS (kK a)⟩ (fun _ hk=>hk.elim);exact⟨yu r s hf w b a q,b⟩
end
section
variable {P:Program} {ops:Array Oper} {rest:List Oper} {o:Oper} {a:Act} {Q:Exit->Act->World->Prop} {Kc:Act->World->Prop} {α:Type}
theorem yx (d:Kd α) {w0 W:World} (base:Nat) (r:o.guard=none) (s x:Operand) (t e:TypeId) (z:Value) (bytes:Nat)
    (u:o.op= .call {callee:=.builtin .append,args:=#[s,x],argTypes:=#[t,t]})
    (w:P.underlying t=some (.slice e)) (B:(P.info? e).map (fun i=>(i.zero,i.size,i.bytes))=some (some z,d.sz,bytes)) (C:z.cells.size=d.sz) (D:0<d.sz) (E:0<bytes)
    (v:Value) (xs:List α) (p:α) (cs:List Value) (ok okp:Nat->Prop) (F:a.eval s=v) (G:a.eval x= .slice (some ⟨W.heap.size,0,none⟩) 1 1) (hp:FK d W okp p cs) (H:∀k,okp k->ok k∧some k≠v.ownBlock) (I:∀k,W.heap.size<=k->ok k)
    (J:N d e W base ok v xs) (K:Below base w0 W) (L:base<=W.heap.size) (M:(xs.length+1)*bytes<=140737488355328)
    (h:∀v1 w1,N d e w1 base ok v1 (xs++[p])->Below base w0 w1->W.grownBy w1 v.ownBlock->(v1.ownBlock=v.ownBlock∨∃b,v1.ownBlock=some b∧W.heap.size<=b)->wpList P ops Q rest (a.put o.dst v1) w1):
    wpList P ops Q (o::rest) a (W.alloc (.cells cs.toArray e)):=by
  obtain⟨O,rows,l,R,hf⟩:=J;refine lI (raw d.sz) base r s x t e z bytes u w B C D E v rows cs cs (fun _=>True) (fun _=>False) F G (yt hp) (fun _ hk=>hk.elim) (fun _ _=>trivial) (m_ R) K L (by rw[l];exact M) ?_;intro v1 w1 S hb m n;exact h v1 w1 (yr O l hf (ys:=[p]) (news:=[cs]) rfl (fun j y c g q=>by
    rcases j with _|j
    · simp only[List.getElem?_cons_zero,Option.some.injEq] at g q
      rw[<-g,<-q];exact hp
    · simp at g) H I S m n) hb m n
end
end Kd
end Go.Proofs.YtffdiakgjakngaaGreatW.PrintWords
end
section
namespace Go.Proofs.YtffdiakgjakngaaGreatW.PrintMore
open Go.RowKit Go.Proofs.YtffdiakgjakngaaGreatW.PrintWords
namespace Kd
open Go.Proofs.YtffdiakgjakngaaGreatW.PrintWords.Kd
end Kd
namespace Kd
open Go.Proofs.YtffdiakgjakngaaGreatW.PrintWords.Kd
end Kd
theorem iU (k k':IntKind) (x y:Int):Builtin.max2 (.int k x) (.int k' y)=pure (.int k (if x<y then y else x)):=by simp only[Builtin.max2,gt_iff_lt]
theorem iV (k k':IntKind) (x y:Int):Builtin.min2 (.int k x) (.int k' y)=pure (.int k (if y<x then y else x)):=by simp only[Builtin.min2]
theorem iW (e:Array TypeId) (ty:TypeId) (a b:Value):Builtin.max_ e ty #[a,b]=(Builtin.max2 a b>>=fun s=>pure s):=by simp only[Builtin.max_,List.foldlM_cons,List.foldlM_nil]
theorem iX (e:Array TypeId) (ty:TypeId) (a b:Value):Builtin.min_ e ty #[a,b]=(Builtin.min2 a b>>=fun s=>pure s):=by simp only[Builtin.min_,List.foldlM_cons,List.foldlM_nil]
theorem lU (e:Array TypeId) (ty:TypeId) (a b c:Value):Builtin.max_ e ty #[a,b,c]=(Builtin.max2 a b>>=fun s=>Builtin.max2 s c>>=fun s=>pure s):=by simp only[Builtin.max_,List.foldlM_cons,List.foldlM_nil]
theorem lV (e:Array TypeId) (ty:TypeId) (a b c:Value):Builtin.min_ e ty #[a,b,c]=(Builtin.min2 a b>>=fun s=>Builtin.min2 s c>>=fun s=>pure s):=by simp only[Builtin.min_,List.foldlM_cons,List.foldlM_nil]
theorem lW (e:Array TypeId) (ty:TypeId) (a b c d:Value):Builtin.max_ e ty #[a,b,c,d]=(Builtin.max2 a b>>=fun s=>Builtin.max2 s c>>=fun s=>Builtin.max2 s d>>=fun s=>pure s):=by simp only[Builtin.max_,List.foldlM_cons,List.foldlM_nil]
theorem lX (e:Array TypeId) (ty:TypeId) (a b c d:Value):Builtin.min_ e ty #[a,b,c,d]=(Builtin.min2 a b>>=fun s=>Builtin.min2 s c>>=fun s=>Builtin.min2 s d>>=fun s=>pure s):=by simp only[Builtin.min_,List.foldlM_cons,List.foldlM_nil]
end Go.Proofs.YtffdiakgjakngaaGreatW.PrintMore
namespace Go.Proofs.YtffdiakgjakngaaGreatW.PrintWords
open Go.RowKit
section
variable {P:Program} {ops:Array Oper} {rest:List Oper} {o:Oper} {a:Act} {Q:Exit->Act->World->Prop} {W:World}
theorem ax {f:FuncId} {as:Array Operand} {b:Array TypeId} (_ho:o.op= .call {callee:=.value (.func f),args:=as,argTypes:=b}) (h:wpList P ops Q (o::rest) a W):wpList P ops Q (o::rest) a W:=h
theorem o9 {b:Builtin} {xs:Array Operand} {e:Array TypeId} (_ho:o.op= .call {callee:=.builtin b,args:=xs,argTypes:=e}) (h:wpList P ops Q (o::rest) a W):wpList P ops Q (o::rest) a W:=h
end
def mx (a b:Int):Int:=if a<b then b else a
def mn (a b:Int):Int:=if b<a then b else a
namespace Kd
section
variable {α:Type} {d:Kd α} {e base:Nat} {ok:Nat->Prop} {W w1:World} {v:Value} {xs:List α}
theorem gX (h:d.R e W base ok v xs) (a:d.E=[]) {row:Option Nat} (b:W.grownBy w1 row) (g:row≠v.ownBlock):d.R e w1 base ok v xs:=
  aV (kE (fU a h) b (fun _ hk i=>g (i.symm.trans hk))) (fun k hk=>h.1 k hk.symm)
end
section
variable {α:Type} {d:Kd α} {e base b b' g N:Nat} {ok ok1:Nat->Prop} {W W2 w1:World} {u v:Value} {xs ys:List α} {S:Nat->Prop}
theorem r7 (a:d.E=[]) (h:d.R e W base ok1 v xs) (b:∀k,v.ownBlock=some k->ok k):d.R e W base ok v xs:=aV (fU a h) (fun k hk=>b k hk.symm)
end
end Kd
end Go.Proofs.YtffdiakgjakngaaGreatW.PrintWords
namespace Go.Proofs.YtffdiakgjakngaaGreatW.PrintWords
open Go.RowKit
namespace Kd
def V {α:Type} (d:Kd α) (_e:Nat) (W:World) (_base:Nat) (ok:Nat->Prop) (v:Value) (xs:List α):Prop:=∃A c,v= .slice A xs.length c∧xs.length<=c∧F d W ok A xs.length xs
section
variable {α β:Type} {d:Kd α} {e base base' n m c g N' lo hi:Nat} {ok ok' S:Nat->Prop} {w W w1:World} {A:Option Addr} {ad:Addr} {u v v1:Value} {xs:List α}
theorem ng (h:V d e W base ok v xs) (hF:∀A,F d W ok A xs.length xs->F d w1 ok' A xs.length xs):V d e w1 base' ok' v xs:=by
  obtain⟨A,c,a,b,hf⟩:=h;exact⟨A,c,a,b,hF A hf⟩
theorem o_ (a:xs.length<=c) (hf:F d W ok A xs.length xs):V d e W base ok (.slice A xs.length c) xs:=⟨A,c,rfl,a,hf⟩
theorem r8 (h:V d e W base ok v xs) (a:∀k,ok k->ok' k):V d e W base ok' v xs:=ng h (fun _ hf=>mZ hf a)
theorem kM (h:V d e W base ok v xs) (m:Nat):V d e (W.drewN m) base ok v xs:=ng h (fun _ hf=>yd hf m)
theorem yy (h:V d e W base (fun k=>ok k∧some k≠u.ownBlock) v xs) (a:W.grownBy w1 u.ownBlock) (g:v1.ownBlock=u.ownBlock∨∃b,v1.ownBlock=some b∧W.heap.size<=b):V d e w1 base (fun k=>ok k∧some k≠v1.ownBlock) v xs:=ng h (fun _ hf=>yg hf a g)
theorem r9 (h:V d e W base (fun k=>ok k∧some k≠v.ownBlock) u xs) (a:W.grownBy w1 v.ownBlock) (g:v1.ownBlock=v.ownBlock∨∃b,v1.ownBlock=some b∧W.heap.size<=b):V d e w1 base (fun k=>ok k∧some k≠v1.ownBlock) u xs:=yy h a g
theorem pa (h:N d e W base (fun k=>ok k∧some k≠v.ownBlock) u xs) (a:W.grownBy w1 v.ownBlock) (g:v1.ownBlock=v.ownBlock∨∃b,v1.ownBlock=some b∧W.heap.size<=b):N d e w1 base (fun k=>ok k∧some k≠v1.ownBlock) u xs:=yo h a g
theorem nh (h:V d e W base ok v xs) (a:∀k,u.ownBlock=some k->W.heap.size<=k) (hb:Below W.heap.size W w1):V d e w1 base (fun k=>ok k∧some k≠u.ownBlock) v xs:=ng h (fun _ hf=>yf hf a hb)
theorem j6 {l:List α} {cs:List Value} (h:FK (Kd.slice e d) W ok l cs):∃A c,cs=[.slice A l.length c]∧l.length<=c∧F d W ok A l.length l:=by
  obtain⟨A,c,rfl,a,_⟩:=kK h;refine⟨A,c,rfl,a,fun W' b=>?_⟩;obtain⟨A',j,he,_,g⟩:=h W' b;injection he with he _
  injection he with i _ _
  rw[i];exact g
theorem yz {l:List α} (a:l.length<=c) (hf:F d W ok A l.length l):FK (Kd.slice e d) W ok l [.slice A l.length c]:=fun W' b=>⟨A,c,rfl,a,hf W' b⟩
theorem yA {k:IntKind} {l:List Int} (h:(Kd.int k).C w (some ad) n l) (i:Int) (a:0<=i) (h1:i<n):w.cell? (ad.add i.toNat)=some (.int k (rd l i)):=by
  obtain⟨e,he,b⟩:=bG h i a h1;injection he with he
  subst he;exact b
theorem yB {M:Nat->Prop} (h:d.R e w1 W.heap.size ok v xs) (hle:w.heap.size<=W.heap.size) (a:∀k,w.heap.size<=k->M k):d.R e w1 W.heap.size (fun k=>M k∧ok k) v xs:=aV (eC h) (fun k hk=>⟨a k (Nat.le_trans hle hk.2.1),hk.1⟩)
end
end Kd
end Go.Proofs.YtffdiakgjakngaaGreatW.PrintWords
end
section
namespace Go.Proofs.YtffdiakgjakngaaGreatW.PrintLast
open Go.Proofs.YtffdiakgjakngaaGreatW.PrintWords (Aside0)
def kN (md:Region.Mode) (o:Oper):List Nat:=(o.after.toList.filter (fun e=>Region.binds md e)).map (fun e=>e.on)
def pc (md:Region.Mode) (ops:Array Oper) (i:Nat) (b:Oper):List Nat:=(List.range ops.size).filter fun j=> !(j==i)&&match ops[j]? with
  |some a=> !(a.after.any (fun e=>Region.binds md e&&e.on==i)||b.apart ops a)
  |none=>false
def dM (md:Region.Mode) (ops:Array Oper):Bool×List (List Nat×List Nat):=(Region.noSelect ops,(List.range ops.size).map fun i=>match ops[i]? with
  |some o=>(kN md o,pc md ops i o)
  |none=>([],[]))
def jF (T:List (List Nat×List Nat)) (l:List Bool) (i:Nat):Bool:= !l.getD i true&&match T[i]? with
  |some r=>r.1.all (fun j=>l.getD j false)
  |none=>false
def lY (T:List (List Nat×List Nat)) (l:List Bool):List Nat:=(List.range T.length).filter (jF T l)
def lZ (T:List (List Nat×List Nat)) (l:List Bool) (i:Nat):Bool:=match T[i]? with
  |some r=>r.2.all (fun j=>l.getD j true)
  |none=>false
def ni (T:List (List Nat×List Nat)) (l:List Bool):Bool:=(List.range T.length).all fun j=> !l.getD j false||match T[j]? with
  |some r=>r.1.all (fun k=>l.getD k false)
  |none=>true
def kO (T:List (List Nat×List Nat)) (i:Nat):Nat->Nat->Bool
  |0,_=>false
  |fuel+1,d=>match T[d]? with
    |some r=>r.1.any fun j=>j==i||kO T i fuel j
    |none=>false
def nj (T:List (List Nat×List Nat)) (l:List Bool) (ds:List Nat) (i:Nat):Bool:=ds.all fun d=>l.getD d true||kO T i T.length d
section
variable {md:Region.Mode} {ops:Array Oper} {T:Bool×List (List Nat×List Nat)} {l l' li lj lk:Array Bool} {ds:List Nat} {i j k:Nat}
theorem gd (l:Array Bool) (j:Nat) (b:Bool):l.getD j b=l.toList.getD j b:=by simp[Array.getD_eq_getD_getElem?,List.getD_eq_getElem?_getD]
theorem r_ (o:Oper) (p:Nat->Bool):o.after.all (fun e=> !Region.binds md e||p e.on)=(kN md o).all p:=by
  unfold kN;rw[<-Array.all_toList];induction o.after.toList with
  |nil=>rfl
  |cons e r a=>
    rw[List.all_cons,a,List.filter_cons];cases h:Region.binds md e<;>simp
theorem yC (o:Oper) (p:Nat->Bool):o.after.any (fun e=>Region.binds md e&&p e.on)=(kN md o).any p:=by
  unfold kN;rw[<-Array.any_toList];induction o.after.toList with
  |nil=>rfl
  |cons e r a=>
    rw[List.any_cons,a,List.filter_cons];cases h:Region.binds md e<;>simp
theorem nk:(dM md ops).2.length=ops.size:=by simp[dM]
theorem nm {o:Oper} (h:ops[i]? =some o):(dM md ops).2[i]? =some (kN md o,pc md ops i o):=by
  have hi:=(Array.getElem?_eq_some_iff.1 h).1;unfold dM;rw[List.getElem?_map,List.getElem?_range hi,Option.map_some,h]
theorem nn (h:ops[i]? =none):(dM md ops).2[i]? =none:=by
  have hi:ops.size<=i:=Array.getElem?_eq_none_iff.1 h;exact List.getElem?_eq_none (by rw[nk];exact hi)
theorem yD:jF (dM md ops).2 l.toList i=(!l.getD i true&&((ops[i]?).map (·.after.all fun e=> !Region.binds md e||l.getD e.on false)).getD false):=by
  unfold jF;rw[gd];cases h:ops[i]? with
  |none=>rw[nn h];rfl
  |some o=>
    rw[nm h];simp only[Option.map_some,Option.getD_some];rw[<-r_];simp only[gd]
theorem pd:Region.ready md ops l=lY (dM md ops).2 l.toList:=by
  unfold Region.ready lY;rw[nk];refine List.filter_congr (fun i _=>?_);rw[yD]
theorem sa:Region.free md ops l i=lZ (dM md ops).2 l.toList i:=by
  unfold Region.free lZ;cases h:ops[i]? with
  |none=>rw[nn h]
  |some b=>
    rw[nm h];simp only[pc];rw[List.all_filter];congr 1
    funext j
    rw[gd];cases g:ops[j]? with
    |none=>cases (j==i)<;>cases (l.toList.getD j true)<;>simp
    |some a=>
      cases (j==i)<;>cases (l.toList.getD j true)<;>cases (a.after.any (fun e=>Region.binds md e&&e.on==i)||b.apart ops a)<;>simp_all
theorem yE:Region.lN md ops l=ni (dM md ops).2 l.toList:=by
  unfold Region.lN ni;rw[nk];congr 1
  funext j
  rw[gd];cases h:ops[j]? with
  |none=>rw[nn h]
  |some o=>
    rw[nm h];simp only;rw[<-r_];simp only[gd]
theorem sb:∀(fuel d:Nat),Region.gG md ops i fuel d=kO (dM md ops).2 i fuel d
  |0,_=>rfl
  |fuel+1,d=>by
    unfold Region.gG kO;cases h:ops[d]? with
    |none=>rw[nn h]
    |some o=>
      rw[nm h];simp only;rw[<-yC];congr 1
      funext e
      rw[sb fuel]
theorem yF:Region.mT md ops l ds i=nj (dM md ops).2 l.toList ds i:=by
  unfold Region.mT nj;rw[nk];congr 1
  funext d
  rw[gd,sb]
theorem sd (h:jF T.2 l.toList i=true) (b:dM md ops=T):(Region.ready md ops l).contains i=true:=by
  subst b;rw[pd];unfold lY;rw[List.contains_iff_mem,List.mem_filter,List.mem_range];refine⟨?_,h⟩;unfold jF at h;rw[Bool.and_eq_true] at h;cases a:(dM md ops).2[i]? with
  |none=>rw[a] at h;simp at h
  |some r=>exact(List.getElem?_eq_some_iff.1 a).1
theorem pf (h:(l.toList.set i true==l'.toList)=true):(l.setIfInBounds i true==l')=true:=by
  rw[beq_iff_eq] at h⊢;apply Array.ext'
  rw[Array.toList_setIfInBounds];exact h
def se (T:Bool×List (List Nat×List Nat)) (l l':List Bool) (i:Nat):Bool:=T.1&&lZ T.2 l i&&jF T.2 l i&&(l.set i true==l')
theorem cz (a:dM md ops=T) (h:se T l.toList l'.toList i=true):mV md ops l l' i=true:=by
  simp only[se,Bool.and_eq_true] at h;obtain⟨⟨⟨h1,b⟩,e⟩,g⟩:=h;have j:=sd e a;have k:=pf g;subst a;simp only[mV,Bool.and_eq_true];exact⟨⟨⟨h1,by rw[sa];exact b⟩,j⟩,k⟩
def pg (T:Bool×List (List Nat×List Nat)) (ds:List Nat) (l l':List Bool) (i:Nat):Bool:=T.1&&lZ T.2 l i&&jF T.2 l i&&ni T.2 l&&nj T.2 l ds i&&(l.set i true==l')
theorem yG (a:dM md ops=T) (h:pg T ds l.toList l'.toList i=true):lO md ops ds l l' i=true:=by
  simp only[pg,Bool.and_eq_true] at h;obtain⟨⟨⟨⟨⟨h1,b⟩,e⟩,g⟩,j⟩,k⟩:=h;have m:=sd e a;have n:=pf k;subst a;simp only[lO,Bool.and_eq_true];exact⟨⟨⟨⟨⟨h1,by rw[sa];exact b⟩,m⟩,by rw[yE];exact g⟩,by rw[yF];exact j⟩,n⟩
theorem iY (a:dM md ops=T) (h:(lY T.2 l.toList==[i]&&l.toList.set i true==l'.toList)=true):kH md ops l l' i=true:=by
  simp only[Bool.and_eq_true] at h;obtain⟨h1,b⟩:=h;subst a;simp only[kH,Bool.and_eq_true];exact⟨by rw[pd];exact h1,pf b⟩
theorem np (a:dM md ops=T) (h:(lY T.2 l.toList==[])=true):(Region.ready md ops l==[])=true:=by
  subst a;rw[pd];exact h
def j7 (B:List Nat) (d:Nat):List Nat->Nat
  |[]=>0
  |n::r=>(2 ^ n|||(if n<d then B.getD n 0 else 0))|||j7 B d r
def j8 (T:List (List Nat×List Nat)) (B:List Nat):Bool:=(List.range T.length).all fun d=>match T[d]? with
  |some r=>(B.getD d 0|||j7 B d r.1)==j7 B d r.1
  |none=>false
theorem sg {B:List Nat} {d i:Nat}:∀{ns:List Nat},(j7 B d ns).testBit i=true->∃n∈ns,n=i∨(n<d∧(B.getD n 0).testBit i=true)
  |[],h=>by simp[j7] at h
  |n::r,h=>by
    unfold j7 at h;rw[Nat.testBit_or,Nat.testBit_or,Bool.or_eq_true,Bool.or_eq_true] at h;rcases h with (h|h)|h
    · rw[Nat.testBit_two_pow] at h
      exact⟨n,List.mem_cons_self,.inl (by simpa using h)⟩
    · by_cases hn:n<d
      · rw[if_pos hn] at h
        exact⟨n,List.mem_cons_self,.inr ⟨hn,h⟩⟩
      · rw[if_neg hn] at h
        simp at h
    · obtain⟨m,hm,a⟩:=sg h
      exact⟨m,List.mem_cons_of_mem _ hm,a⟩
theorem sh {T:List (List Nat×List Nat)} {B:List Nat} (b:j8 T B=true):∀(fuel d:Nat),d<fuel->d<T.length->(B.getD d 0).testBit i=true->kO T i fuel d=true
  |0,d,h,_,_=>by omega
  |fuel+1,d,h,hd,hb=>by
    have h1:=List.all_eq_true.1 b d (List.mem_range.2 hd);cases a:T[d]? with
    |none=>rw[a] at h1;simp at h1
    |some r=>
      rw[a] at h1;simp only[beq_iff_eq] at h1;have e:(j7 B d r.1).testBit i=true:=by rw[<-h1,Nat.testBit_or,hb,Bool.true_or]
      obtain⟨n,hn,g⟩:=sg e;unfold kO;rw[a];simp only;rw[List.any_eq_true];refine⟨n,hn,?_⟩;rcases g with rfl|⟨k,j⟩
      · simp
      · rw[sh b fuel n (by omega) (by omega) j,Bool.or_true]
def sj (T:List (List Nat×List Nat)) (B:List Nat) (l:List Bool) (ds:List Nat) (i:Nat):Bool:=ds.all fun d=>l.getD d true||(decide (d<T.length)&&(B.getD d 0).testBit i)
def sk (T:Bool×List (List Nat×List Nat)) (B:List Nat) (ds:List Nat) (l l':List Bool) (i:Nat):Bool:=T.1&&lZ T.2 l i&&jF T.2 l i&&ni T.2 l&&sj T.2 B l ds i&&(l.set i true==l')
theorem iE {B:List Nat} (g:dM md ops=T) (j:j8 T.2 B=true) (h:sk T B ds l.toList l'.toList i=true):lO md ops ds l l' i=true:=by
  refine yG g ?_;simp only[sk,pg,Bool.and_eq_true] at h⊢;obtain⟨⟨⟨⟨⟨h1,k⟩,m⟩,n⟩,b⟩,o⟩:=h;refine⟨⟨⟨⟨⟨h1,k⟩,m⟩,n⟩,?_⟩,o⟩;unfold sj at b;unfold nj;rw[List.all_eq_true] at b⊢;intro d hd;have a:=b d hd;rw[Bool.or_eq_true,Bool.and_eq_true,decide_eq_true_eq] at a;rcases a with a|⟨e,p⟩
  · rw[a,Bool.true_or]
  · rw[sh j _ d e e p,Bool.or_true]
theorem nt {P:Program} {Q:Exit->Act->World->Prop} {S:World->Prop} {n:Nat} {a:Act} {w:World} {B:List Nat} (b:dM md ops=T) (e:j8 T.2 B=true) (h:Aside0 (dM md ops=T)->Aside0 (j8 T.2 B=true)->cQ P md ops Q S ds n l a w):cQ P md ops Q S ds n l a w:=h ⟨b⟩ ⟨e⟩
end
def iF:Code->Nat->Option (Array Oper)
  | .region id ops _,k=>if id==k then some ops else none
  | .seq a b,k=>match iF a k with
    |some o=>some o
    |none=>iF b k
  | .cond _ a b,k=>match iF a k with
    |some o=>some o
    |none=>iF b k
  | .block _ c,k=>iF c k
  | .loop c,k=>iF c k
  | .scope c,k=>iF c k
  | .rangeFunc _ _ a b,k=>match iF a k with
    |some o=>some o
    |none=>iF b k
  |_,_=>none
def opsOf (f:Func) (k:Nat):Array Oper:=((f.body.bind fun c=>iF c k)).getD #[]
end Go.Proofs.YtffdiakgjakngaaGreatW.PrintLast
end
section
end
section
namespace Go.Proofs.YtffdiakgjakngaaGreatW.PrintWords
open Go.RowKit
end Go.Proofs.YtffdiakgjakngaaGreatW.PrintWords
end
section
namespace Go.Proofs.YtffdiakgjakngaaGreatW.PrintWords
open Go.RowKit
end Go.Proofs.YtffdiakgjakngaaGreatW.PrintWords
end
section
namespace Go.Proofs.YtffdiakgjakngaaGreatW.PrintWords
open Go.RowKit
end Go.Proofs.YtffdiakgjakngaaGreatW.PrintWords
end
section
namespace Go.Proofs.YtffdiakgjakngaaGreatW.PrintWords
theorem aM.one {α:Type} {R:α->List Value->Prop} {ps:List α} {cs:List Value} {p:α} {v:Value} (hp:R p [v]) (h:aM R 1 ps cs):aM R 1 (p::ps) (v::cs):=by
  refine⟨by simp[h.1],fun j q a=>?_⟩;cases j with
  |zero=>
    simp only[List.getElem?_cons_zero,Option.some.injEq] at a;subst a;simpa using hp
  |succ j=>
    simp only[List.getElem?_cons_succ] at a;have h1:=h.2 j q a;simpa [Nat.mul_one] using h1
theorem aM.front {α:Type} {R:α->List Value->Prop} {size:Nat} {ps:List α} {cs c all:List Value} {p:α} (hp:R p c) (b:c.length=size) (h:aM R size ps cs) (e:c++cs=all):aM R size (p::ps) all:=by
  subst e;refine⟨by rw[List.length_append,b,h.1,List.length_cons,Nat.succ_mul,Nat.add_comm],fun j q a=>?_⟩;cases j with
  |zero=>
    simp only[List.getElem?_cons_zero,Option.some.injEq] at a;subst a;rw[Nat.zero_mul,List.drop_zero,List.take_append_of_le_length (by omega),List.take_of_length_le (by omega)];exact hp
  |succ j=>
    simp only[List.getElem?_cons_succ] at a;have h1:=h.2 j q a;rw[Nat.succ_mul,List.drop_append,List.drop_of_length_le (by rw[b];exact Nat.le_add_left _ _),List.nil_append,b,Nat.add_sub_cancel];exact h1
theorem aM.c3 {α:Type} {R:α->List Value->Prop} {ps:List α} {cs:List Value} {p:α} {a b e:Value} (hp:R p [a,b,e]) (h:aM R 3 ps cs):aM R 3 (p::ps) (a::b::e::cs):=aM.front hp rfl h rfl
end Go.Proofs.YtffdiakgjakngaaGreatW.PrintWords
end
section
end
section
namespace Go.Proofs.YtffdiakgjakngaaGreatW.PrintWords
open Go.RowKit
end Go.Proofs.YtffdiakgjakngaaGreatW.PrintWords
end
section
namespace Go.Proofs.YtffdiakgjakngaaGreatW.PrintWords
open Go.RowKit
section
variable {P:Program} {ops:Array Oper} {rest:List Oper} {o:Oper} {a:Act} {Q:Exit->Act->World->Prop} {W:World}
theorem dA (hw:Region.wanted o (yielded ops a.tmps)=true) (h:wpList P ops Q ({o with guard:=none}::rest) a W):wpList P ops Q (o::rest) a W:=by
  have h1:Region.wanted {o with guard:=none} (yielded ops a.tmps)=true:=rfl;unfold wpList at h⊢;rw[if_pos h1] at h;rw[if_pos hw];exact h
end
end Go.Proofs.YtffdiakgjakngaaGreatW.PrintWords
end

