/- Lists2 answers true whatever the input (text 1 of 8): own walks and plain laws; no conditions. -/
import Derived.ArgAppend
import Derived.Below
import Derived.BigQuiet
import Derived.Deep.AppendLies
import Derived.Deep.CutBlock
import Derived.Deep.DeepCutAuto
import Derived.Deep.Draws
import Derived.Deep.LoopGhost
import Derived.Deep.OwnRows
import Derived.Deep.QuietTactic
import Derived.Deep.RegionHeld3
import Derived.KernelRfl
import Derived.Laws.BitsLemmas
import Derived.Laws.BytesArg
import Derived.Laws.IdiomCopy
import Derived.Laws.MakeOwn
import Derived.Laws.OwnMore
import Derived.Laws.Rows
import Derived.Laws.Slices
import Derived.Laws.StructEq
import Derived.Lib.AppendStr
import Derived.Lib.ConvBytes
import Derived.Lib.Hide
import Derived.LoopIn
import Derived.LoopNIn
import Derived.Maps.AppendAt
import Derived.OrdersHeld
import Derived.Outline
import Derived.OwnWalk
import Derived.OwnWalkIn
import Derived.RangeFuncBound
import Derived.RangeFuncCalls
import Derived.RangeFuncLeaves
import Derived.RangeFuncNested
import Derived.RegionIn
import Derived.RowKit
import Derived.RowKit3
import Derived.Shelf.RegionOpen
import Derived.Sort.LoopGhostIn
import Derived.Tactics
import Derived.TacticsInMore
import Derived.Test.YtffdiakgjakngaaGreatProg
import Derived.WalkKit
import Derived.WalkSpells
import Derived.WideLaws
section
set_option linter.unusedVariables false
set_option linter.unusedSimpArgs false
namespace Go.Proofs.YtffdiakgjakngaaGreatW.PrintWords
open Go.RowKit
structure Aside0 (p:Prop):Prop where mk::(out:p)
structure az (w w':World):Prop where mk::(out:∃n,w'=w.drewN n)
theorem az.refl (w:World):az w w:=⟨⟨0,rfl⟩⟩
theorem az.step {w w':World} (h:az w w') (n:Nat):az w (w'.drewN n):=by
  obtain⟨m,rfl⟩:=h;exact⟨⟨m+n,World.drewN_drewN ..⟩⟩
theorem az.below {w w':World} (h:az w w'):Below w.heap.size w w':=by
  obtain⟨n,rfl⟩:=h;induction n with
  |zero=>exact Below.refl _ _
  |succ n a=>rw[<-World.drew_drewN];exact a.drew
def rd (xs:List Int) (i:Int):Int:=xs.getD i.toNat 0
theorem ao {w W:World} (h:Below w.heap.size w W) (o:Obj):Below w.heap.size w (W.alloc o):=h.alloc h.size o
theorem iA {B:Nat} {w W:World} (h:Below B w W):Below B w W.drew:=⟨h.os,h.tape,h.output,h.size,h.block⟩
theorem bN {B:Nat} {w W:World} (h:Below B w W) (n:Nat):Below B w (W.drewN n):=⟨h.os,h.tape,h.output,h.size,h.block⟩
theorem lZ {B:Nat} {w w1 w2:World} (h:Below B w w1) (a:B<=w1.heap.size) (k:Below w1.heap.size w1 w2):Below B w w2:=
  h.trans ⟨k.os,k.tape,k.output,k.size,fun i hi=>k.block i (Nat.lt_of_lt_of_le hi a)⟩
theorem kx {B:Nat} {w w1:World} (h:Below B w w1) (row:Option Nat) (a:B<=w1.heap.size) {w2:World} (b:w1.grownBy w2 row) (e:∀k,row=some k->B<=k):Below B w w2:=h.grown b a e
theorem jL {w w1:World} (h:Below w.heap.size w w1) (row:Option Nat):w.grownBy w1 row:=⟨h.os,h.tape,h.output,h.size,fun i hi _=>h.block i hi⟩
theorem fU {w w1:World} (h:Below w.heap.size w w1) {a:Addr} {v:Value} (b:w.cell? a=some v):w1.cell? a=some v:=(h.cell (World.block_lt_of_cell? w a b)).trans b
theorem add_plain (g j:Nat):(⟨g,0,none⟩:Addr).add j=⟨g,j,none⟩:=by unfold Addr.add;split<;>simp_all
def Kl (w:World) (k:IntKind) (A:Option Addr) (n:Nat) (xs:List Int):Prop:=
  xs.length=n/\n<=9223372036854775807/\(0<n->∃ad,A=some ad/\∀j,j<n->w.cell? (ad.add j)=some (.int k (xs.getD j 0)))
theorem s6 (W:World) (base:Nat) (e:TypeId) (size:Nat):W.ownsRow base e size (.slice none 0 0) 0 []:=⟨by simp,.inl ⟨rfl,rfl⟩⟩
theorem jM {w:World} {base:Nat} {e:TypeId} {size n:Nat} {v:Value} {xs:List Value} (h:w.ownsRow base e size v n xs) (k:Nat) (hk:v.ownBlock=some k):base<=k:=by
  rcases h.2 with⟨rfl,_⟩|⟨g,cap,cur,rfl,hb,_⟩
  · simp[Value.ownBlock] at hk
  · have:g=k:=by simpa [Value.ownBlock] using hk
    omega
theorem s7 {w:World} {base:Nat} {e:TypeId} {size n:Nat} {v:Value} {xs:List Value} (h:w.ownsRow base e size v n xs) (k:Nat) (hk:v.ownBlock=some k):k<w.heap.size:=by
  rcases h.2 with⟨rfl,_⟩|⟨g,cap,cur,rfl,hb,a,_⟩
  · simp[Value.ownBlock] at hk
  · have:g=k:=by simpa [Value.ownBlock] using hk
    subst this;exact(Array.getElem?_eq_some_iff.1 a).1
theorem s8 {w:World} {base n:Nat} {e:TypeId} {size:Nat} {v:Value} {xs:List Value} (h:w.ownsRow base e size v n xs):∃A c,v= .slice A n c:=by
  rcases h.2 with⟨rfl,rfl⟩|⟨g,cap,cur,rfl,_⟩
  · exact⟨none,0,rfl⟩
  · exact⟨_,cap,rfl⟩
def ai {α:Type} (a b:Option α):Prop:=∀r,a=some r->b=some r
theorem ai.refl {α:Type} (a:Option α):ai a a:=fun _ h=>h
theorem ai.trans {α:Type} {a b c:Option α} (h:ai a b) (k:ai b c):ai a c:=fun r e=>k r (h r e)
theorem ai.ite {α:Type} {c:Prop} [Decidable c] {a a' b b':Option α} (h:ai a a') (k:ai b b'):ai (if c then a else b) (if c then a' else b'):=by
  split
  · exact h
  · exact k
theorem ai.bind {α β:Type} {a a':Option α} {f b:α->Option β} (h:ai a a') (k:∀x,ai (f x) (b x)):ai (a.bind f) (a'.bind b):=by
  intro r e;obtain⟨x,g,hf⟩:=Option.bind_eq_some_iff.1 e;exact Option.bind_eq_some_iff.2 ⟨x,h x g,k x r hf⟩
theorem s9 {α:Type} {g:Nat->Option α} (h:∀k,ai (g k) (g (k+1))) (k:Nat):∀j,ai (g k) (g (k+j))
  |0=>ai.refl _
  |j+1=>(s9 h k j).trans (h (k+j))
theorem l4 {α:Type} {g:Nat->Option α} (h:∀k,ai (g k) (g (k+1))) {k k':Nat} (hk:k<=k') {r:α} (a:g k=some r):g k'=some r:=by
  have:=s9 h k (k'-k) r a;rwa [Nat.add_sub_cancel' hk] at this
def aT {α:Type} (R:α->List Value->Prop) (size:Nat) (ps:List α) (cs:List Value):Prop:=
  cs.length=ps.length*size/\∀j p,ps[j]? =some p->R p ((cs.drop (j*size)).take size)
theorem aT.none {α:Type} (R:α->List Value->Prop) (size:Nat):aT R size [] []:=⟨by simp,fun j p h=>by simp at h⟩
theorem aT.snoc {α:Type} {R:α->List Value->Prop} {size:Nat} {ps:List α} {cs c:List Value} {p:α} (h:aT R size ps cs) (hp:R p c) (e:c.length=size):aT R size (ps++[p]) (cs++c):=by
  refine⟨by rw[List.length_append,h.1,e,List.length_append,List.length_singleton,Nat.add_mul,Nat.one_mul],fun j q a=>?_⟩;rcases Nat.lt_or_ge j ps.length with b|b
  · rw[List.getElem?_append_left b] at a
    have h1:j*size+size<=cs.length:=by rw[h.1,<-Nat.succ_mul];exact Nat.mul_le_mul_right _ b
    have g:=h.2 j q a;rw[List.drop_append_of_le_length (by omega),List.take_append_of_le_length (by rw[List.length_drop];omega)];exact g
  · have i:j=ps.length:=by
      have:=(List.getElem?_eq_some_iff.1 a).1;rw[List.length_append,List.length_singleton] at this;omega
    subst i;have k:p=q:=by simpa using a
    subst k;rw[<-h.1,List.drop_left,<-e,List.take_length];exact hp
theorem aT.eM {α:Type} {R R':α->List Value->Prop} {size:Nat} {ps:List α} {cs:List Value} (h:aT R size ps cs) (a:∀p c,R p c->R' p c):aT R' size ps cs:=⟨h.1,fun j p b=>a _ _ (h.2 j p b)⟩
def fk {α:Type} (R:α->List Value->Prop) (size:Nat) (w:World) (A:Option Addr) (n:Nat) (ps:List α):Prop:=
  ps.length=n/\n<=9223372036854775807/\(0<n->∃ad,A=some ad/\∀j p,ps[j]? =some p->∃c,c.length=size/\R p c/\∀i u,c[i]? =some u->w.cell? (ad.add (j*size+i))=some u)
theorem fk.yU {α:Type} {R:α->List Value->Prop} {size:Nat} {w:World} {A:Option Addr} {n:Nat} {ps:List α} (h:fk R size w A n ps) (d:α) (i:Int) (m:0<=i) (h1:i<n):
    ∃ad c,A=some ad/\c.length=size/\R (ps.getD i.toNat d) c/\∀j u,c[j]? =some u->w.cell? (ad.add (i.toNat*size+j))=some u:=by
  obtain⟨ad,e,b⟩:=h.2.2 (by omega);have a:i.toNat<ps.length:=by have:=h.1;omega
  obtain⟨c,g,k,l⟩:=b i.toNat _ (List.getElem?_eq_getElem a);refine⟨ad,c,e,g,?_,l⟩;rw[List.getD_eq_getElem?_getD,List.getElem?_eq_getElem a];exact k
theorem fk.eM {α:Type} {R R':α->List Value->Prop} {size:Nat} {w w1:World} {A:Option Addr} {n:Nat} {ps:List α} (h:fk R size w A n ps) (hb:Below w.heap.size w w1) (a:∀p c,R p c->R' p c):fk R' size w1 A n ps:=
  ⟨h.1,h.2.1,fun hn=>by
    obtain⟨ad,e,b⟩:=h.2.2 hn;refine⟨ad,e,fun j p g=>?_⟩;obtain⟨c,k,l,m⟩:=b j p g;exact⟨c,k,a _ _ l,fun i u hu=>fU hb (m i u hu)⟩⟩
theorem yV {α:Type} {R:α->List Value->Prop} {w:World} {base n size:Nat} {e:TypeId} {v:Value} {ps:List α} {cs:List Value} (h:w.ownsRow base e size v n cs) (a:aT R size ps cs) (hn:ps.length=n):
    ∃A c,v= .slice A n c/\fk R size w A n ps:=by
  rcases Nat.eq_zero_or_pos n with b|b
  · rcases h.2 with⟨rfl,rfl⟩|⟨g,cap,cur,rfl,_⟩
    · exact⟨none,0,rfl,hn,by omega,fun hp=>absurd hp (by omega)⟩
    · exact⟨_,cap,rfl,hn,by omega,fun hp=>absurd hp (by omega)⟩
  · obtain⟨g,cap,rfl,_,_⟩:=h.form b
    have hm:n<=9223372036854775807:=by
      rcases h.2 with⟨_,h1⟩|⟨o,q,cur,he,_,_,h1,l,_⟩
      · omega
      · simp only[maxLen] at l
        omega
    refine⟨_,cap,rfl,hn,hm,fun _=>⟨_,rfl,fun j p k=>⟨(cs.drop (j*size)).take size,?_,a.2 j p k,fun i u hu=>?_⟩⟩⟩
    · have m:=(List.getElem?_eq_some_iff.1 k).1
      have h1:j*size+size<=cs.length:=by rw[a.1,<-Nat.succ_mul];exact Nat.mul_le_mul_right _ m
      rw[List.length_take,List.length_drop];omega
    · refine h.cells (g:=g) rfl _ u ?_
      rw[List.getElem?_take] at hu;split at hu
      · rw[List.getElem?_drop] at hu
        exact hu
      · cases hu
theorem qc (ad:Addr) (m j:Nat) (a:0<j):ad.add (m+j)=⟨(ad.add m).block,(ad.add m).off+j,none⟩:=by
  unfold Addr.add;by_cases hm:m=0
  · subst hm
    simp[Nat.ne_of_gt a]
  · simp[hm,Nat.add_assoc]
section
variable {P:Program} {ops:Array Oper} {rest:List Oper} {o:Oper} {a:Act} {Q:Exit->Act->World->Prop}
theorem yW {w0 W:World} (base:Nat) (p:o.guard=none) (s x:Operand) (t e:TypeId) (z:Value) (size bytes:Nat)
    (q:o.op= .call {callee:=.builtin .append,args:=#[s,x],argTypes:=#[t,t]})
    (r:P.underlying t=some (.slice e)) (w:(P.info? e).map (fun i=>(i.zero,i.size,i.bytes))=some (some z,size,bytes)) (y:z.cells.size=size) (B:0<size) (C:0<bytes)
    (v:Value) (n:Nat) (xs ys:List Value) (D:a.eval s=v) (E:a.eval x= .slice (some ⟨W.heap.size,0,none⟩) 1 1) (F:ys.length=size) (h1:∀u∈ys,u.oneCell'=true)
    (j:W.ownsRow base e size v n xs) (G:Below base w0 W) (H:base<=W.heap.size) (k:(n+1)*bytes<=140737488355328)
    (h:∀v1 w1,w1.ownsRow base e size v1 (n+1) (xs++ys)->Below base w0 w1->W.grownBy w1 v.ownBlock->(v1.ownBlock=v.ownBlock\/∃b,v1.ownBlock=some b/\W.heap.size<=b)->wpList P ops Q rest (a.put o.dst v1) w1):
    wpList P ops Q (o::rest) a (W.alloc (.cells ys.toArray e)):=by
  obtain⟨i0,hi,l⟩:=Option.map_eq_some_iff.1 w;simp only[Prod.mk.injEq] at l;obtain⟨I,J,K⟩:=l;have hlen:n+1<=140737488355328:=Nat.le_trans (Nat.le_mul_of_pos_right _ C) k;refine wpList_append_own_at (W.alloc (.cells ys.toArray e)) p s x t q base e i0 z size bytes r hi I J K y B v n xs D (j.alloc _) ⟨W.heap.size,0,none⟩ 1 1 ys E (by rw[F];simp)
    (by simpa using World.news_of_block (cs:=ys.toArray) (t:=e) (fr:=(0,0)) (heap_alloc_new W (.cells ys.toArray e))) h1 (by simp only[maxLen];omega) k (by simp;omega) ?_
  intro v1 w1 L m _ g;refine h v1 w1 L ((G.alloc H _).grown m (by simp;omega) (jM j)) (World.grownBy.trans (World.grownBy_alloc W _ _) m) ?_;rcases g with g|g
  · exact .inl g
  · exact .inr ⟨_,g,by simp⟩
end
theorem s_ {w:World} {base:Nat} {e t:TypeId} {size n g:Nat} {v:Value} {xs:List Value} {cs:Array Value} (h:w.ownsRow base e size v n xs) (b:w.heap[g]? =some (.cells cs t (0,0))) (i:e≠t):some g≠v.ownBlock:=by
  rcases h.2 with⟨rfl,_⟩|⟨j,cap,cur,rfl,_,a,_⟩
  · simp[Value.ownBlock]
  · intro he
    have:g=j:=by simpa [Value.ownBlock] using he
    subst this;rw[b] at a;injection a with a
    injection a with _ k
    exact i k.symm
theorem bV {w:World} {g:Nat} {t:TypeId} {cs:Array Value} (h:w.heap[g]? =some (.cells cs t (0,0))) (i:Nat) (u:Value):(w.setCell ⟨g,i,none⟩ u).heap[g]? =some (.cells (cs.setIfInBounds i u) t (0,0)):=by
  simp[World.setCell,Array.getElem?_modify,h]
theorem aE {w:World} {g:Nat} {t:TypeId} {cs:Array Value} (h:w.heap[g]? =some (.cells cs t (0,0))) {p:Addr} (hp:g≠p.block) (u:Value):(w.setCell p u).heap[g]? =some (.cells cs t (0,0)):=(Below.heap_setCell w p u g hp).trans h
theorem aC {w:World} {g:Nat} {o:Obj} (h:w.heap[g]? =some o):g<w.heap.size:=(Array.getElem?_eq_some_iff.1 h).1
theorem ah {w:World} {g:Nat} {t:TypeId} {cs:Array Value} (h:w.heap[g]? =some (.cells cs t (0,0))) (i:Nat):w.cell? ⟨g,i,none⟩=cs[i]? :=cell_of_row w g i cs t (0,0) h
theorem bF {w:World} {g:Nat} {t:TypeId} {cs:Array Value} (h:w.heap[g]? =some (.cells cs t (0,0))) (i:Nat):w.frozen? ⟨g,i,none⟩=false:=by simp[World.frozen?,h]
theorem dc {w w1:World} {g:Nat} {o:Obj} {row:Option Nat} (h:w.heap[g]? =some o) (a:w.grownBy w1 row) (b:some g≠row):w1.heap[g]? =some o:=(a.block g (aC h) b).trans h
def om (w w':World) (g:Nat) (row:Option Nat):Prop:=w.heap.size<=w'.heap.size/\∀i,i<w.heap.size->i≠g->some i≠row->w'.heap[i]? =w.heap[i]?
theorem om.trans {w w1 w2:World} {g:Nat} {row a:Option Nat} (h:om w w1 g row) (k:om w1 w2 g a) (l:a=row\/∃b,a=some b/\w.heap.size<=b):om w w2 g row:=
  ⟨Nat.le_trans h.1 k.1,fun i hi j hn=>by
    refine(k.2 i (Nat.lt_of_lt_of_le hi h.1) j ?_).trans (h.2 i hi j hn);rcases l with rfl|⟨b,rfl,hb⟩
    · exact hn
    · intro e
      injection e with e
      omega⟩
section
variable {P:Program} {ops:Array Oper} {o:Oper} {a:Act} {Q:Exit->Act->World->Prop} {K:Act->World->Prop}
theorem yX {w0 W:World} (base:Nat) (hw:Region.wanted o (yielded ops a.tmps)=true) (s x:Operand) (t e:TypeId) (z:Value) (size bytes:Nat)
    (p:o.op= .call {callee:=.builtin .append,args:=#[s,x],argTypes:=#[t,t]})
    (q:P.underlying t=some (.slice e)) (r:(P.info? e).map (fun i=>(i.zero,i.size,i.bytes))=some (some z,size,bytes)) (w:z.cells.size=size) (y:0<size) (B:0<bytes)
    (v:Value) (n:Nat) (xs ys:List Value) (C:a.eval s=v) (D:a.eval x= .slice (some ⟨W.heap.size,0,none⟩) 1 1) (E:ys.length=size) (h1:∀u∈ys,u.oneCell'=true)
    (j:W.ownsRow base e size v n xs) (F:Below base w0 W) (G:base<=W.heap.size) (k:(n+1)*bytes<=140737488355328)
    (h:∀v1 w1,w1.ownsRow base e size v1 (n+1) (xs++ys)->Below base w0 w1->W.grownBy w1 v.ownBlock->(v1.ownBlock=v.ownBlock\/∃b,v1.ownBlock=some b/\W.heap.size<=b)->K (a.put o.dst v1) w1):
    if Region.wanted o (yielded ops a.tmps)=true then Oper.wp P o a (W.alloc (.cells ys.toArray e)) K Q else K (a.put o.dst undef) (W.alloc (.cells ys.toArray e)):=by
  obtain⟨i0,hi,l⟩:=Option.map_eq_some_iff.1 r;simp only[Prod.mk.injEq] at l;obtain⟨H,I,J⟩:=l;have hlen:n+1<=140737488355328:=Nat.le_trans (Nat.le_mul_of_pos_right _ B) k;rw[if_pos hw];obtain⟨v1,w1,L,M,m,_,g⟩:=run_append_own_at (P:=P) (W.alloc (.cells ys.toArray e)) base t o.type e i0 z size bytes q hi H I J w y v n xs (j.alloc _) ⟨W.heap.size,0,none⟩ 1 1 ys (by rw[E];simp)
    (by simpa using World.news_of_block (cs:=ys.toArray) (t:=e) (fr:=(0,0)) (heap_alloc_new W (.cells ys.toArray e))) h1 (by simp only[maxLen];omega) k (by simp;omega)
  unfold Oper.wp execOp;simp only[p,resolve,invoke,builtin,Sem.run_bind,Sem.run_pure,Result.andThen_ok,List.map_toArray,List.map_cons,List.map_nil,C,D,L];refine h v1 w1 M ((F.alloc G _).grown m (by simp;omega) (jM j)) (World.grownBy.trans (World.grownBy_alloc W _ _) m) ?_;rcases g with g|g
  · exact .inl g
  · exact .inr ⟨_,g,by simp⟩
end
theorem yY {w:World} {base base':Nat} {e:TypeId} {size n:Nat} {v:Value} {xs:List Value} (h:w.ownsRow base e size v n xs) (hb:base'<=base):w.ownsRow base' e size v n xs:=by
  obtain⟨h1,a⟩:=h;refine⟨h1,?_⟩;rcases a with a|⟨g,cap,cur,rfl,b,r⟩
  · exact .inl a
  · exact .inr ⟨g,cap,cur,rfl,Nat.le_trans hb b,r⟩
section
variable {α:Type} {enc:α->Value} {d:α}
def bW (enc:α->Value) (xs:List α):List Value:=xs.map enc
def bM (d:α) (xs:List α) (i:Int):α:=xs.getD i.toNat d
theorem ta (xs:List α):(bW enc xs).length=xs.length:=by simp[bW]
theorem tb (xs:List α) (j:Nat) (h:j<xs.length):(bW enc xs)[j]? =some (enc (xs.getD j d)):=by
  simp[bW,List.getElem?_eq_getElem h,List.getD_eq_getElem?_getD]
def l5 (enc:α->Value) (d:α) (w:World) (A:Option Addr) (n:Nat) (xs:List α):Prop:=
  xs.length=n/\n<=9223372036854775807/\(0<n->∃ad,A=some ad/\∀j,j<n->w.cell? (ad.add j)=some (enc (xs.getD j d)))
theorem l5.at_ {w:World} {A:Option Addr} {n:Nat} {xs:List α} (h:l5 enc d w A n xs) (i:Int) (b:0<=i) (h1:i<n):∃ad,A=some ad/\w.cell? (ad.add i.toNat)=some (enc (bM d xs i)):=by
  obtain⟨ad,e,a⟩:=h.2.2 (by omega);exact⟨ad,e,a _ (by omega)⟩
theorem yZ {W:World} {base g n cap:Nat} {e:TypeId} {xs:List α} (h:W.ownsRow base e 1 (.slice (some ⟨g,0,none⟩) n cap) n (bW enc xs)) (i:Int) (l:0<=i) (h1:i<n):
    W.cell? ⟨g,i.toNat,none⟩=some (enc (bM d xs i))/\W.frozen? ⟨g,i.toNat,none⟩=false:=by
  have m:xs.length=n:=by have:=h.1;simp[bW] at this;exact this
  constructor
  · have b:=h.cells (g:=g) rfl i.toNat _ (tb (d:=d) xs i.toNat (by omega))
    rwa [add_plain] at b
  · rcases h.2 with⟨a,_⟩|⟨j,o,cur,a,_,k,_⟩
    · cases a
    · have:g=j:=by injection a with a;injection a with a;injection a with a
      subst this;simp[World.frozen?,k]
theorem za {W:World} {base g n cap:Nat} {e:TypeId} {xs:List α} (h:W.ownsRow base e 1 (.slice (some ⟨g,0,none⟩) n cap) n (bW enc xs)) (i:Int) (x:α):
    (W.setCell ⟨g,i.toNat,none⟩ (enc x)).ownsRow base e 1 (.slice (some ⟨g,0,none⟩) n cap) n (bW enc (xs.set i.toNat x))/\W.grownBy (W.setCell ⟨g,i.toNat,none⟩ (enc x)) (some g):=by
  have a:=h.stored i.toNat (enc x);have he:(bW enc xs).set i.toNat (enc x)=bW enc (xs.set i.toNat x):=by simp[bW,List.map_set]
  rwa [he] at a
end
section
variable {α:Type} {P:Program} {ops:Array Oper} {rest:List Oper} {o:Oper} {a:Act} {Q:Exit->Act->World->Prop}
theorem zc {w0 W:World} (enc:α->Value) (d:α) (base:Nat) (F:o.guard=none) (s x:Operand) (t e:TypeId) (z:Value) (bytes:Nat)
    (G:o.op= .call {callee:=.builtin .append,args:=#[s,x],argTypes:=#[t,t]})
    (p:P.underlying t=some (.slice e)) (H:(P.info? e).map (fun i=>(i.zero,i.size,i.bytes))=some (some z,1,bytes)) (I:z.cells.size=1) (J:0<bytes) (h1:∀x:α,(enc x).oneCell'=true)
    (v:Value) (xs ys:List α) (A:Option Addr) (m c:Nat) (L:a.eval s=v) (M:a.eval x= .slice A m c)
    (n:W.ownsRow base e 1 v xs.length (bW enc xs)) (r:l5 enc d W A m ys) (N:Below base w0 W) (B:base<=W.heap.size) (C:(xs.length+m)*bytes<=140737488355328)
    (h:∀v1 w1,w1.ownsRow base e 1 v1 (xs++ys).length (bW enc (xs++ys))->Below base w0 w1->W.grownBy w1 v.ownBlock->(v1.ownBlock=v.ownBlock\/∃b,v1.ownBlock=some b/\W.heap.size<=b)->wpList P ops Q rest (a.put o.dst v1) w1):
    wpList P ops Q (o::rest) a W:=by
  obtain⟨i0,hi,D⟩:=Option.map_eq_some_iff.1 H;simp only[Prod.mk.injEq] at D;obtain⟨O,R,S⟩:=D;have hm:ys.length=m:=r.1;have hlen:xs.length+m<=140737488355328:=Nat.le_trans (Nat.le_mul_of_pos_right _ J) C;have T:∃v1 w1,(Builtin.append_ #[t,t] o.type #[v,.slice A m c]).run P W= .ok v1 w1/\w1.ownsRow base e 1 v1 (xs++ys).length (bW enc (xs++ys))/\W.grownBy w1 v.ownBlock/\(v1.ownBlock=v.ownBlock\/v1.ownBlock=some W.heap.size):=by
    rcases A with _|ad
    · have k:m=0:=by
        rcases Nat.eq_zero_or_pos m with k|k
        · exact k
        · obtain⟨ad,h,_⟩:=r.2.2 k
          cases h
      subst k;obtain rfl:ys=[]:=List.eq_nil_of_length_eq_zero hm;refine⟨v,W,?_,by simpa using n,World.grownBy.refl W _,.inl rfl⟩;rcases n.2 with⟨rfl,hn⟩|⟨g,cap,cur,rfl,_,_,U,_⟩
      · simp[Builtin.append_,run_underlying p,sizeOf,typeInfo,hi,Builtin.lenOf,Builtin.firstCells]
      · simp[Builtin.append_,run_underlying p,sizeOf,typeInfo,hi,Builtin.lenOf,Builtin.firstCells,U,storeCells]
    · have V:∀j u,(bW enc ys)[j]? =some u->W.cell? (ad.add j)=some u:=by
        intro j u hu;have X:j<ys.length:=by
          rcases Nat.lt_or_ge j ys.length with h|h
          · exact h
          · simp[bW,List.getElem?_eq_none h] at hu
        obtain⟨am,w,Y⟩:=r.2.2 (by omega);injection w with w
        subst w;rw[tb (d:=d) ys j X] at hu;rw[<-hu];exact Y j (by omega)
      obtain⟨v1,w1,y,Z,h3,_,h5⟩:=run_append_own_at (P:=P) W base t o.type e i0 z 1 bytes p hi O R S I (by omega) v xs.length (bW enc xs) n ad m c (bW enc ys) (by simp[bW,hm]) V
        (by intro u hu;simp only[bW,List.mem_map] at hu;obtain⟨q,_,rfl⟩:=hu;exact h1 q) (by simp only[maxLen];omega) C B
      exact⟨v1,w1,y,by simpa [bW,hm] using Z,h3,h5⟩
  obtain⟨v1,w1,y,ag,E,l⟩:=T;refine wpList_plain F fun K hK=>?_
  unfold Oper.wp execOp;simp only[G,resolve,invoke,builtin,Sem.run_bind,Sem.run_pure,Result.andThen_ok,List.map_toArray,List.map_cons,List.map_nil,L,M,y];refine hK _ _ (h v1 w1 ag (N.grown E B (jM n)) E ?_);rcases l with l|l
  · exact .inl l
  · exact .inr ⟨_,l,Nat.le_refl _⟩
end
theorem au {w:World} {g:Nat} {o:Obj} (h:w.heap[g]? =some o) (a:Obj):(w.alloc a).heap[g]? =some o:=(Below.heap_alloc w a g (aC h)).trans h
theorem eZ {w:World} {g:Nat} {o:Obj} (h:w.heap[g]? =some o):w.drew.heap[g]? =some o:=h
theorem iB {w:World} {g:Nat} {o:Obj} (h:w.heap[g]? =some o) (n:Nat):(w.drewN n).heap[g]? =some o:=h
theorem aD {w w1:World} {g:Nat} {o:Obj} (h:w.heap[g]? =some o) (hb:Below w.heap.size w w1):w1.heap[g]? =some o:=(hb.block g (aC h)).trans h
theorem zd (w:World) (o:Obj):(w.alloc o).heap[w.heap.size]? =some o:=heap_alloc_new w o
section
variable {P:Program}
theorem qd {fn:Func} {p u:Tmp} {ty:TypeId} (h:fn.results=#[.cell p ty,.tmp u]) (tmps:Array Value) (w:World) (g:Nat) (t:TypeId) (cs:Array Value) (fr:Nat×Nat) (d:TypeDesc)
    (hp:tmps.getD p undef= .pointer (some ⟨g,0,none⟩)) (a:w.heap[g]? =some (.cells cs t fr))
    (hu:P.underlying ty=some d) (hd:(match d with| .struct _| .array _ _=>true|_=>false)=true) (hi:(P.info? ty).map (·.size)=some cs.size):
    (results fn tmps).run P w= .ok (.tuple #[.agg cs,tmps.getD u undef]) w:=by
  have b:tmps[p]?.getD undef= .pointer (some ⟨g,0,none⟩):=by simpa using hp
  simp[results,h,b,asAddr,run_loadVar_row w g t ty cs fr d a hu hd hi]
end
theorem ze {w:World} {base n m c size:Nat} {e:TypeId} {A:Option Addr} {xs:List Value} (h:w.ownsRow base e size (.slice A m c) n xs):m<=c:=by
  rcases h.2 with⟨he,_⟩|⟨g,cap,cur,he,_,_,i,_⟩
  · injection he with _ a b
    omega
  · injection he with _ a b
    omega
def gZ {α:Type} (R:α->List Value->Prop) (e:TypeId) (size:Nat) (w:World) (base:Nat) (v:Value) (ps:List α):Prop:=
  ∃inner,w.ownsRow base e size v ps.length inner/\aT R size ps inner
section
variable {α:Type} {R R':α->List Value->Prop} {e:TypeId} {size:Nat} {w w1:World} {base:Nat} {v:Value} {ps:List α}
theorem gZ.none_ (R:α->List Value->Prop) (e:TypeId) (size:Nat) (w:World) (base:Nat):gZ R e size w base (.slice none 0 0) []:=⟨[],s6 _ _ _ _,aT.none _ _⟩
theorem gZ.eM (h:gZ R e size w base v ps) (a:∀p c,R p c->R' p c):gZ R' e size w base v ps:=by
  obtain⟨inner,b,g⟩:=h;exact⟨inner,b,g.eM a⟩
theorem gZ.reads (h:gZ R e size w base v ps):∃A c,v= .slice A ps.length c/\ps.length<=c/\fk R size w A ps.length ps:=by
  obtain⟨inner,a,b⟩:=h;obtain⟨A,c,rfl,g⟩:=yV a b rfl;exact⟨A,c,rfl,ze a,g⟩
theorem gZ.zf (h:gZ R e size w base v ps) {g:Nat} {t:TypeId} {cells:Array Value} (hb:w.heap[g]? =some (.cells cells t (0,0))) (a:e≠t):some g≠v.ownBlock:=by
  obtain⟨inner,b,i⟩:=h;exact s_ b hb a
end
theorem fk.tc {α:Type} {R:α->List Value->Prop} {size:Nat} {w:World} {ad:Addr} {n:Nat} {ps:List α} (h:fk R size w (some ad) n ps):
    ∃inner,aT R size ps inner/\∀j u,inner[j]? =some u->w.cell? (ad.add j)=some u:=by
  have key:∀m,m<=ps.length->∃inner,aT R size (ps.take m) inner/\∀j u,inner[j]? =some u->w.cell? (ad.add j)=some u:=by
    intro m;induction m with
    |zero=>exact fun _=>⟨[],aT.none _ _,fun j u hu=>by simp at hu⟩
    |succ m g=>
      intro hm;obtain⟨inner,a,b⟩:=g (by omega);obtain⟨p,he,i⟩:=h.2.2 (by have:=h.1;omega);injection he with he
      subst he;obtain⟨c,k,hp,l⟩:=i m _ (List.getElem?_eq_getElem (show m<ps.length by omega));refine⟨inner++c,?_,fun j u hu=>?_⟩
      · rw[List.take_succ_eq_append_getElem (show m<ps.length by omega)]
        exact a.snoc hp k
      · have o:inner.length=m*size:=by rw[a.1,List.length_take,Nat.min_eq_left (by omega)]
        rcases Nat.lt_or_ge j inner.length with e|e
        · rw[List.getElem?_append_left e] at hu
          exact b j u hu
        · rw[List.getElem?_append_right e] at hu
          have:=l (j-inner.length) u hu;rwa [o,Nat.add_sub_cancel' (by omega)] at this
  obtain⟨inner,a,b⟩:=key ps.length (Nat.le_refl _);rw[List.take_length] at a;exact⟨inner,a,b⟩
structure Kd (α:Type) where
  sz:Nat
  E:List Nat
  K:World->α->List Value->Prop
  M:World->Nat->(Nat->Prop)->α->List Value->Prop
  dV:∀{w x cs},K w x cs->cs.length=sz
  dW:∀{w x cs},K w x cs->∀u∈cs,u.oneCell'=true
  g_:∀{w w1:World} {x cs},Below w.heap.size w w1->K w x cs->K w1 x cs
  dg:∀{w base ok x cs},M w base ok x cs->K w x cs
  cG:∀{w base ok ok' x cs},(∀k,ok k->ok' k)->M w base ok x cs->M w base ok' x cs
  eu:∀{w:World} {base ok x cs},M w base ok x cs->M w base (fun k=>ok k/\base<=k/\k<w.heap.size/\∃q,q∈E/\∃cells,w.heap[k]? =some (.cells cells q (0,0))) x cs
  eD:∀{w w1:World} {base ok x cs},(∀k,ok k->w1.heap[k]? =w.heap[k]?)->M w base ok x cs->M w1 base ok x cs
  hU:∀{w base base' ok x cs},base'<=base->M w base ok x cs->M w base' ok x cs
theorem zg {w w1:World} {base:Nat} {e:TypeId} {size n:Nat} {v:Value} {xs:List Value} (h:w.ownsRow base e size v n xs) (hm:∀k,v.ownBlock=some k->w1.heap[k]? =w.heap[k]?):w1.ownsRow base e size v n xs:=by
  obtain⟨h1,a⟩:=h;refine⟨h1,?_⟩;rcases a with a|⟨g,cap,cur,rfl,b,i,r⟩
  · exact .inl a
  · exact .inr ⟨g,cap,cur,rfl,b,(hm g (by simp[Value.ownBlock])).trans i,r⟩
theorem jr {w:World} {base:Nat} {e:TypeId} {size n:Nat} {v:Value} {xs:List Value} (h:w.ownsRow base e size v n xs) (k:Nat) (hk:v.ownBlock=some k):∃cells,w.heap[k]? =some (.cells cells e (0,0)):=by
  rcases h.2 with⟨rfl,_⟩|⟨g,cap,cur,rfl,b,a,r⟩
  · simp[Value.ownBlock] at hk
  · have:g=k:=by simpa [Value.ownBlock] using hk
    subst this;exact⟨cur,a⟩
namespace Kd
def C {α:Type} (d:Kd α) (w:World) (A:Option Addr) (n:Nat) (xs:List α):Prop:=fk (d.K w) d.sz w A n xs
def R {α:Type} (d:Kd α) (e:Nat) (w:World) (base:Nat) (ok:Nat->Prop) (v:Value) (xs:List α):Prop:=
  (∀k,v.ownBlock=some k->ok k)/\gZ (d.M w base (fun k=>ok k/\some k≠v.ownBlock)) e d.sz w base v xs
section
variable {α:Type} {d:Kd α} {e:Nat} {w w1:World} {base:Nat} {ok ok':Nat->Prop} {v:Value} {xs:List α}
theorem ax {A:Option Addr} {n:Nat} (h:d.C w A n xs) (hb:Below w.heap.size w w1):d.C w1 A n xs:=fk.eM h hb (fun _ _ hp=>d.g_ hb hp)
theorem dm (d:Kd α) (e:Nat) (w:World) (base:Nat) (ok:Nat->Prop):d.R e w base ok (.slice none 0 0) []:=⟨fun k hk=>by simp[Value.ownBlock] at hk,gZ.none_ _ _ _ _ _⟩
theorem a_ (h:d.R e w base ok v xs) (a:∀k,ok k->ok' k):d.R e w base ok' v xs:=⟨fun k hk=>a k (h.1 k hk),h.2.eM (fun _ _ hp=>d.cG (fun k hk=>⟨a k hk.1,hk.2⟩) hp)⟩
theorem ef (h:d.R e w base ok v xs):d.R e w base (fun k=>ok k/\base<=k/\k<w.heap.size/\∃q,q∈e::d.E/\∃cells,w.heap[k]? =some (.cells cells q (0,0))) v xs:=by
  obtain⟨g,inner,a,i⟩:=h;refine⟨fun k hk=>?_,inner,a,i.eM (fun _ _ hp=>d.cG (fun k hk=>?_) (d.eu hp))⟩
  · obtain⟨cells,b⟩:=jr a k hk
    exact⟨g k hk,jM a k hk,s7 a k hk,e,List.mem_cons_self,cells,b⟩
  · obtain⟨⟨h1,j⟩,l,m,q,n,b⟩:=hk
    exact⟨⟨h1,l,m,q,List.mem_cons_of_mem _ n,b⟩,j⟩
theorem fC (h:d.R e w base ok v xs) (hm:∀k,ok k->w1.heap[k]? =w.heap[k]?):d.R e w1 base ok v xs:=by
  obtain⟨a,inner,b,g⟩:=h;exact⟨a,inner,zg b (fun k hk=>hm k (a k hk)),g.eM (fun _ _ hp=>d.eD (fun k hk=>hm k hk.1) hp)⟩
theorem bd {base':Nat} (h:d.R e w base ok v xs) (hb:base'<=base):d.R e w base' ok v xs:=by
  obtain⟨a,inner,b,g⟩:=h;exact⟨a,inner,yY b hb,g.eM (fun _ _ hp=>d.hU hb hp)⟩
theorem l6 (h:d.R e w base ok v xs) (hm:∀k,ok k->k<w.heap.size->w1.heap[k]? =w.heap[k]?):d.R e w1 base ok v xs:=
  a_ (fC (ef h) (fun k hk=>hm k hk.1 hk.2.2.1)) (fun _ hk=>hk.1)
theorem qe {x:α} {cs:List Value} (h:d.M w base ok x cs) (hm:∀k,ok k->k<w.heap.size->w1.heap[k]? =w.heap[k]?):d.M w1 base ok x cs:=
  d.cG (fun _ hk=>hk.1) (d.eD (fun k hk=>hm k hk.1 hk.2.2.1) (d.eu h))
theorem cY (h:d.R e w base ok v xs) (hb:Below w.heap.size w w1):d.R e w1 base ok v xs:=l6 h (fun k _ hk=>hb.block k hk)
theorem td {x:α} {cs:List Value} (h:d.M w base ok x cs) (hb:Below w.heap.size w w1):d.M w1 base ok x cs:=qe h (fun k _ hk=>hb.block k hk)
theorem l7 (h:d.R e w base ok v xs) {row:Option Nat} (a:w.grownBy w1 row) (b:∀k,ok k->some k≠row):d.R e w1 base ok v xs:=l6 h (fun k g hk=>a.block k hk (b k g))
theorem dJ (h:d.R e w base ok v xs) {p:Addr} (a:∀k,ok k->k≠p.block) (u:Value):d.R e (w.setCell p u) base ok v xs:=l6 h (fun k b _=>Below.heap_setCell w p u k (a k b))
theorem gM (h:d.R e w base ok v xs) {g t:Nat} {cells:Array Value} (hb:w.heap[g]? =some (.cells cells t (0,0))) (a:∀q,q∈e::d.E->q≠t):d.R e w base (fun k=>ok k/\k≠g) v xs:=
  a_ (ef h) (fun k hk=>⟨hk.1,by
    obtain⟨_,_,_,q,b,j,i⟩:=hk;rintro rfl;rw[i] at hb;injection hb with hb
    injection hb with _ hb
    exact a q b hb⟩)
theorem fl (h:d.R e w base ok v xs) {g t:Nat} {cells:Array Value} (hb:w.heap[g]? =some (.cells cells t (0,0))) (a:∀q,q∈e::d.E->q≠t) (j:Nat) (u:Value):d.R e (w.setCell ⟨g,j,none⟩ u) base ok v xs:=
  a_ (dJ (p:=⟨g,j,none⟩) (gM h hb a) (fun _ hk=>hk.2) u) (fun _ hk=>hk.1)
theorem ot (h:d.R e w base ok v xs):∃A c,v= .slice A xs.length c/\xs.length<=c/\d.C w A xs.length xs:=by
  obtain⟨A,c,he,a,b⟩:=gZ.reads h.2;exact⟨A,c,he,a,b.eM (Below.refl _ _) (fun _ _ hp=>d.dg hp)⟩
theorem bh (h:d.R e w base ok v xs):∃A c,v= .slice A xs.length c:=by
  obtain⟨A,c,he,_⟩:=ot h;exact⟨A,c,he⟩
theorem js (h:d.R e w base ok v xs):∃inner,w.ownsRow base e d.sz v xs.length inner:=by
  obtain⟨_,inner,a,_⟩:=h;exact⟨inner,a⟩
theorem dr (h:d.R e w base ok v xs) {g t:Nat} {cells:Array Value} (hb:w.heap[g]? =some (.cells cells t (0,0))) (a:e≠t):some g≠v.ownBlock:=gZ.zf h.2 hb a
end
def scalar {α:Type} (enc:α->Value) (h1:∀x,(enc x).oneCell'=true):Kd α where
  sz:=1
  E:=[]
  K:=fun _ x cs=>cs=[enc x]
  M:=fun _ _ _ x cs=>cs=[enc x]
  dV:=fun h=>by rw[h];rfl
  dW:=fun h u hu=>by
    rw[h] at hu;rw[List.mem_singleton.1 hu];exact h1 _
  g_:=fun _ h=>h
  dg:=fun h=>h
  cG:=fun _ h=>h
  eu:=fun h=>h
  eD:=fun _ h=>h
  hU:=fun _ h=>h
def int (k:IntKind):Kd Int:=scalar (Value.int k) (fun _=>rfl)
def bool:Kd Bool:=scalar Value.bool (fun _=>rfl)
def slice {α:Type} (e:Nat) (d:Kd α):Kd (List α) where
  sz:=1
  E:=e::d.E
  K:=fun w xs cs=>∃A c,cs=[.slice A xs.length c]/\xs.length<=c/\d.C w A xs.length xs
  M:=fun w base ok xs cs=>∃v,cs=[v]/\d.R e w base ok v xs
  dV:=by
    rintro w x cs ⟨A,c,rfl,_⟩;rfl
  dW:=by
    rintro w x cs ⟨A,c,rfl,_⟩ u hu;rw[List.mem_singleton.1 hu];rfl
  g_:=by
    rintro w w1 x cs hb ⟨A,c,rfl,a,b⟩;exact⟨A,c,rfl,a,ax b hb⟩
  dg:=by
    rintro w base ok x cs ⟨v,rfl,h⟩;obtain⟨A,c,rfl,a,b⟩:=ot h;exact⟨A,c,rfl,a,b⟩
  cG:=by
    rintro w base ok ok' x cs g ⟨v,rfl,h⟩;exact⟨v,rfl,a_ h g⟩
  eu:=by
    rintro w base ok x cs ⟨v,rfl,h⟩;exact⟨v,rfl,ef h⟩
  eD:=by
    rintro w w1 base ok x cs hm ⟨v,rfl,h⟩;exact⟨v,rfl,fC h hm⟩
  hU:=by
    rintro w base base' ok x cs hb ⟨v,rfl,h⟩;exact⟨v,rfl,bd h hb⟩
def pair {α β:Type} (a:Kd α) (b:Kd β):Kd (α×β) where
  sz:=a.sz+b.sz
  E:=a.E++b.E
  K:=fun w x cs=>∃c0 c1,cs=c0++c1/\a.K w x.1 c0/\b.K w x.2 c1
  M:=fun w base ok x cs=>∃c0 c1,cs=c0++c1/\a.M w base ok x.1 c0/\b.M w base ok x.2 c1
  dV:=by
    rintro w x cs ⟨c0,c1,rfl,e,h1⟩;rw[List.length_append,a.dV e,b.dV h1]
  dW:=by
    rintro w x cs ⟨c0,c1,rfl,e,h1⟩ u hu;rcases List.mem_append.1 hu with hu|hu
    · exact a.dW e u hu
    · exact b.dW h1 u hu
  g_:=by
    rintro w w1 x cs hb ⟨c0,c1,rfl,e,h1⟩;exact⟨c0,c1,rfl,a.g_ hb e,b.g_ hb h1⟩
  dg:=by
    rintro w base ok x cs ⟨c0,c1,rfl,e,h1⟩;exact⟨c0,c1,rfl,a.dg e,b.dg h1⟩
  cG:=by
    rintro w base ok ok' x cs m ⟨c0,c1,rfl,e,h1⟩;exact⟨c0,c1,rfl,a.cG m e,b.cG m h1⟩
  eu:=by
    rintro w base ok x cs ⟨c0,c1,rfl,e,h1⟩;refine⟨c0,c1,rfl,a.cG ?_ (a.eu e),b.cG ?_ (b.eu h1)⟩
    · rintro k ⟨g,h,i,q,j,l⟩
      exact⟨g,h,i,q,List.mem_append_left _ j,l⟩
    · rintro k ⟨g,h,i,q,j,l⟩
      exact⟨g,h,i,q,List.mem_append_right _ j,l⟩
  eD:=by
    rintro w w1 base ok x cs hm ⟨c0,c1,rfl,e,h1⟩;exact⟨c0,c1,rfl,a.eD hm e,b.eD hm h1⟩
  hU:=by
    rintro w base base' ok x cs hb ⟨c0,c1,rfl,e,h1⟩;exact⟨c0,c1,rfl,a.hU hb e,b.hU hb h1⟩
def zl {α β:Type} (d:Kd α) (f:β->α):Kd β where
  sz:=d.sz
  E:=d.E
  K:=fun w x cs=>d.K w (f x) cs
  M:=fun w base ok x cs=>d.M w base ok (f x) cs
  dV:=d.dV
  dW:=d.dW
  g_:=d.g_
  dg:=d.dg
  cG:=d.cG
  eu:=d.eu
  eD:=d.eD
  hU:=d.hU
theorem l8 {α:Type} {d:Kd α} {w:World} {A:Option Addr} {n:Nat} {xs:List α} (h:d.C w A n xs) (z:α) (i:Int) (a:0<=i) (h1:i<n):
    ∃ad c,A=some ad/\c.length=d.sz/\d.K w (xs.getD i.toNat z) c/\∀j u,c[j]? =some u->w.cell? (ad.add (i.toNat*d.sz+j))=some u:=fk.yU h z i a h1
theorem qf {α:Type} {d:Kd α} {e base:Nat} {ok okp:Nat->Prop} {W w1:World} {v v1:Value} {xs:List α} {p:α} {inner cs:List Value} (i:∀k,v.ownBlock=some k->ok k) (j:aT (d.M W base (fun k=>ok k/\some k≠v.ownBlock)) d.sz xs inner) (hp:d.M W base okp p cs) (l:∀k,okp k->ok k/\some k≠v.ownBlock) (m:∀k,W.heap.size<=k->ok k)
    (n:w1.ownsRow base e d.sz v1 (xs.length+1) (inner++cs)) (r:W.grownBy w1 v.ownBlock) (a:v1.ownBlock=v.ownBlock\/∃b,v1.ownBlock=some b/\W.heap.size<=b):d.R e w1 base ok v1 (xs++[p]):=by
  have s:∀k,some k≠v.ownBlock->k<W.heap.size->some k≠v1.ownBlock:=by
    intro k hk u;rcases a with a|⟨b,hb,hle⟩
    · rw[a];exact hk
    · rw[hb]
      intro he;injection he with he
      omega
  have step:∀{q:α} {c:List Value} {o:Nat->Prop},d.M W base o q c->(∀k,o k->ok k/\some k≠v.ownBlock)->d.M w1 base (fun k=>ok k/\some k≠v1.ownBlock) q c:=by
    intro q c o g h;have h1:=d.eD (w1:=w1) (fun k hk=>r.block k hk.2.2.1 (h k hk.1).2) (d.eu g);exact d.cG (fun k hk=>⟨(h k hk.1).1,s k (h k hk.1).2 hk.2.2.1⟩) h1
  refine⟨fun k hk=>?_,inner++cs,by rw[List.length_append,List.length_singleton];exact n,?_⟩
  · rcases a with a|⟨b,hb,hle⟩
    · exact i k (a▸hk)
    · rw[hb] at hk
      injection hk with hk
      exact m k (by omega)
  · exact(j.eM (fun _ _ g=>step g (fun _ hk=>hk))).snoc (step hp l) (d.dV (d.dg hp))
section
variable {P:Program} {ops:Array Oper} {rest:List Oper} {o:Oper} {a:Act} {Q:Exit->Act->World->Prop} {α:Type}
theorem l9 (d:Kd α) {w0 W:World} (base:Nat) (l:o.guard=none) (s x:Operand) (t e:TypeId) (z:Value) (bytes:Nat)
    (m:o.op= .call {callee:=.builtin .append,args:=#[s,x],argTypes:=#[t,t]})
    (n:P.underlying t=some (.slice e)) (q:(P.info? e).map (fun i=>(i.zero,i.size,i.bytes))=some (some z,d.sz,bytes)) (r:z.cells.size=d.sz) (u:0<d.sz) (w:0<bytes)
    (v:Value) (xs:List α) (p:α) (cs:List Value) (ok okp:Nat->Prop) (y:a.eval s=v) (B:a.eval x= .slice (some ⟨W.heap.size,0,none⟩) 1 1) (hp:d.M W base okp p cs) (C:∀k,okp k->ok k/\some k≠v.ownBlock) (D:∀k,W.heap.size<=k->ok k)
    (E:d.R e W base ok v xs) (F:Below base w0 W) (G:base<=W.heap.size) (H:(xs.length+1)*bytes<=140737488355328)
    (h:∀v1 w1,d.R e w1 base ok v1 (xs++[p])->Below base w0 w1->W.grownBy w1 v.ownBlock->(v1.ownBlock=v.ownBlock\/∃b,v1.ownBlock=some b/\W.heap.size<=b)->wpList P ops Q rest (a.put o.dst v1) w1):
    wpList P ops Q (o::rest) a (W.alloc (.cells cs.toArray e)):=by
  obtain⟨I,inner,J,K⟩:=E;refine yW base l s x t e z d.sz bytes m n q r u w v xs.length inner cs y B (d.dV (d.dg hp)) (d.dW (d.dg hp)) J F G H ?_;intro v1 w1 L N g j;exact h v1 w1 (qf I K hp C D L g j) N g j
end
section
variable {P:Program} {ops:Array Oper} {o:Oper} {a:Act} {Q:Exit->Act->World->Prop} {Kc:Act->World->Prop} {α:Type}
theorem qg (d:Kd α) {w0 W:World} (base:Nat) (hw:Region.wanted o (yielded ops a.tmps)=true) (s x:Operand) (t e:TypeId) (z:Value) (bytes:Nat)
    (l:o.op= .call {callee:=.builtin .append,args:=#[s,x],argTypes:=#[t,t]})
    (m:P.underlying t=some (.slice e)) (n:(P.info? e).map (fun i=>(i.zero,i.size,i.bytes))=some (some z,d.sz,bytes)) (q:z.cells.size=d.sz) (r:0<d.sz) (u:0<bytes)
    (v:Value) (xs:List α) (p:α) (cs:List Value) (ok okp:Nat->Prop) (w:a.eval s=v) (y:a.eval x= .slice (some ⟨W.heap.size,0,none⟩) 1 1) (hp:d.M W base okp p cs) (B:∀k,okp k->ok k/\some k≠v.ownBlock) (C:∀k,W.heap.size<=k->ok k)
    (D:d.R e W base ok v xs) (E:Below base w0 W) (F:base<=W.heap.size) (G:(xs.length+1)*bytes<=140737488355328)
    (h:∀v1 w1,d.R e w1 base ok v1 (xs++[p])->Below base w0 w1->W.grownBy w1 v.ownBlock->(v1.ownBlock=v.ownBlock\/∃b,v1.ownBlock=some b/\W.heap.size<=b)->Kc (a.put o.dst v1) w1):
    if Region.wanted o (yielded ops a.tmps)=true then Oper.wp P o a (W.alloc (.cells cs.toArray e)) Kc Q else Kc (a.put o.dst undef) (W.alloc (.cells cs.toArray e)):=by
  obtain⟨H,inner,I,J⟩:=D;refine yX base hw s x t e z d.sz bytes l m n q r u v xs.length inner cs w y (d.dV (d.dg hp)) (d.dW (d.dg hp)) I E F G ?_;intro v1 w1 K L g j;exact h v1 w1 (qf H J hp B C K g j) L g j
end
theorem zm {α:Type} {enc:α->Value} (xs:List α):aT (fun (x:α) (cs:List Value)=>cs=[enc x]) 1 xs (bW enc xs):=by
  refine⟨by simp[bW],fun j p a=>?_⟩;obtain⟨b,hp⟩:=List.getElem?_eq_some_iff.1 a;have e:j<(bW enc xs).length:=by rw[ta];exact b
  rw[Nat.mul_one,List.drop_eq_getElem_cons e];simp[bW,hp]
theorem mU {α:Type} {enc:α->Value} {h1:∀x,(enc x).oneCell'=true} {e:Nat} {w:World} {base:Nat} {ok:Nat->Prop} {v:Value} {xs:List α} (a:w.ownsRow base e 1 v xs.length (bW enc xs)) (b:∀k,v.ownBlock=some k->ok k):(scalar enc h1).R e w base ok v xs:=⟨b,bW enc xs,a,zm xs⟩
theorem ow {α:Type} {enc:α->Value} {h1:∀x,(enc x).oneCell'=true} {e:Nat} {w:World} {base:Nat} {ok:Nat->Prop} {v:Value} {xs:List α} (h:(scalar enc h1).R e w base ok v xs):w.ownsRow base e 1 v xs.length (bW enc xs):=by
  obtain⟨_,inner,l,a⟩:=h;have:inner=bW enc xs:=by
    apply List.ext_getElem?
    intro j;rcases Nat.lt_or_ge j xs.length with b|b
    · have m:=a.2 j _ (List.getElem?_eq_getElem b)
      have i:j<inner.length:=by have:=a.1;simp[scalar] at this;omega
      have g:(inner.drop (j*1)).take 1=[enc xs[j]]:=m;rw[Nat.mul_one,List.drop_eq_getElem_cons i] at g;have n:inner[j]=enc xs[j]:=by
        have k:=congrArg List.head? g;rw[List.take_succ_cons] at k;exact Option.some.inj k
      rw[List.getElem?_eq_getElem i,n];simp[bW,List.getElem?_eq_getElem b]
    · have g:inner.length=xs.length:=by have:=a.1;simp[scalar] at this;omega
      rw[List.getElem?_eq_none (by omega),List.getElem?_eq_none (by rw[ta];omega)]
  rw[<-this];exact l
theorem qh {α:Type} {enc:α->Value} {d:α} {h1:∀x,(enc x).oneCell'=true} {w:World} {A:Option Addr} {n:Nat} {xs:List α} (h:(scalar enc h1).C w A n xs):l5 enc d w A n xs:=by
  refine⟨h.1,h.2.1,fun hn=>?_⟩;obtain⟨ad,e,b⟩:=h.2.2 hn;refine⟨ad,e,fun j l=>?_⟩;have a:j<xs.length:=by have:=h.1;omega
  obtain⟨c,_,g,i⟩:=b j _ (List.getElem?_eq_getElem a);have k:c=[enc xs[j]]:=g;subst k;have:=i 0 _ rfl;simpa [scalar,List.getD_eq_getElem?_getD,List.getElem?_eq_getElem a] using this
end Kd
namespace Kd
theorem te {α:Type} {d:Kd α} {e base:Nat} {ok:Nat->Prop} {W w1:World} {u v v1:Value} {xs:List α} (h:d.R e W base (fun k=>ok k/\some k≠v.ownBlock) u xs) (g:W.grownBy w1 v.ownBlock) (a:v1.ownBlock=v.ownBlock\/∃b,v1.ownBlock=some b/\W.heap.size<=b):d.R e w1 base (fun k=>ok k/\some k≠v1.ownBlock) u xs:=by
  refine a_ (fC (ef h) (fun k hk=>g.block k hk.2.2.1 hk.1.2)) (fun k hk=>⟨hk.1.1,?_⟩);rcases a with a|⟨b,hb,hle⟩
  · rw[a];exact hk.1.2
  · rw[hb]
    intro he;injection he with he
    have:=hk.2.2.1;omega
theorem lu {α:Type} {d:Kd α} {e base:Nat} {ok:Nat->Prop} {w:World} {v:Value} {xs:List α} (h:d.R e w base ok v xs):(slice e d).M w base ok xs [v]:=⟨v,rfl,h⟩
end Kd
namespace Kd
section
variable {α β:Type} {d:Kd α} {d':Kd β} {e e':Nat} {w w1 W:World} {base b b':Nat} {ok ok' okv oku:Nat->Prop} {v u:Value} {xs:List α} {ys:List β}
theorem aM (h:d.R e w base ok v xs) (o:Obj):d.R e (w.alloc o) base ok v xs:=cY h (ao (Below.refl _ _) o)
theorem bj (h:d.R e w base ok v xs):d.R e w.drew base ok v xs:=cY h (iA (Below.refl _ _))
theorem bs (h:d.R e w base ok v xs) (m:Nat):d.R e (w.drewN m) base ok v xs:=cY h (bN (Below.refl _ _) m)
theorem bz {A:Option Addr} {n:Nat} (h:d.C w A n xs) (o:Obj):d.C (w.alloc o) A n xs:=ax h (ao (Below.refl _ _) o)
theorem fD {A:Option Addr} {n:Nat} (h:d.C w A n xs):d.C w.drew A n xs:=ax h (iA (Below.refl _ _))
theorem gy {A:Option Addr} {n:Nat} (h:d.C w A n xs) (m:Nat):d.C (w.drewN m) A n xs:=ax h (bN (Below.refl _ _) m)
theorem oA (d:Kd α) (w:World):d.C w none ([]:List α).length []:=⟨rfl,by simp,fun h=>absurd h (Nat.lt_irrefl 0)⟩
theorem mV {A:Option Addr} {n:Nat} (h:d.C w A n xs):n<=9223372036854775807:=h.2.1
theorem aH {A:Option Addr} {n c:Nat} (h:d.R e w base ok (.slice A n c) xs):n=xs.length/\n<=c/\d.C w A xs.length xs:=by
  obtain⟨A',g,he,i,a⟩:=ot h;injection he with h1 b j
  subst h1;exact⟨b,by omega,a⟩
theorem ba (h:d.R e w base ok v xs):∀k,v.ownBlock=some k->k<w.heap.size:=by
  obtain⟨inner,a⟩:=js h;exact s7 a
theorem dK (h:d.R e w base ok v xs):∀k,v.ownBlock=some k->base<=k:=by
  obtain⟨inner,a⟩:=js h;exact jM a
theorem zp (h:d.R e w base ok v xs) {g:Nat} (a:∀k,ok k->k≠g):some g≠v.ownBlock:=fun e=>a g (h.1 g e.symm) rfl
theorem fE (h:d.R e w base ok v xs) (hp:0<xs.length):∃g cap,v= .slice (some ⟨g,0,none⟩) xs.length cap/\base<=g/\g<w.heap.size/\∃cells,w.heap[g]? =some (.cells cells e (0,0)):=by
  obtain⟨inner,a⟩:=js h;obtain⟨g,cap,he,hb,b⟩:=a.form hp;obtain⟨cells,i⟩:=jr a g (by rw[he];simp[Value.ownBlock]);exact⟨g,cap,he,hb,b,cells,i⟩
end
section
variable {w W:World} {A:Option Addr} {n:Nat}
theorem bJ {k:IntKind} {xs:List Int} (h:(Kd.int k).C w A n xs) (i:Int) (a:0<=i) (h1:i<n):∃ad,A=some ad/\w.cell? (ad.add i.toNat)=some (.int k (rd xs i)):=
  l5.at_ (qh (enc:=Value.int k) (d:=(0:Int)) (h1:=fun _=>rfl) h) i a h1
theorem jt {xs:List Bool} (h:Kd.bool.C w A n xs) (i:Int) (a:0<=i) (h1:i<n):∃ad,A=some ad/\w.cell? (ad.add i.toNat)=some (.bool (bM false xs i)):=
  l5.at_ (qh (enc:=Value.bool) (d:=false) (h1:=fun _=>rfl) h) i a h1
variable {α:Type} {enc:α->Value} {h1:∀x,(enc x).oneCell'=true} {e base g cap:Nat} {ok:Nat->Prop} {xs:List α}
theorem zq (d:α) (h:(scalar enc h1).R e W base ok (.slice (some ⟨g,0,none⟩) xs.length cap) xs) (i:Int) (a:0<=i) (hi:i<xs.length):W.cell? ⟨g,i.toNat,none⟩=some (enc (bM d xs i))/\W.frozen? ⟨g,i.toNat,none⟩=false:=yZ (ow h) i a hi
theorem tf (h:(scalar enc h1).R e W base ok (.slice (some ⟨g,0,none⟩) xs.length cap) xs) (i:Int) (x:α):(scalar enc h1).R e (W.setCell ⟨g,i.toNat,none⟩ (enc x)) base ok (.slice (some ⟨g,0,none⟩) xs.length cap) (xs.set i.toNat x)/\W.grownBy (W.setCell ⟨g,i.toNat,none⟩ (enc x)) (some g):=by
  obtain⟨a,b⟩:=za (ow h) i x;exact⟨mU (by rw[List.length_set];exact a) h.1,b⟩
end
section
variable {P:Program} {ops:Array Oper} {rest:List Oper} {o:Oper} {a:Act} {Q:Exit->Act->World->Prop}
theorem tg {W w1:World} {v:Value} (b:o.guard=none) (e:(execOp a.eval o).run P W= .ok (.value v) w1) (h:wpList P ops Q rest (a.put o.dst v) w1):wpList P ops Q (o::rest) a W:=by
  refine wpList_plain b fun K g=>?_
  unfold Oper.wp;rw[e];exact g _ _ h
variable {α:Type}
theorem e7 (d:Kd α) {w0 W:World} (base e:Nat) (j:o.guard=none) {N:Tmp} (_hd:o.dst=some N) {xs:List α} {inner:List Value} {ok okp:Nat->Prop}
    (l:(execOp a.eval o).run P W= .ok (.value (.slice (some ⟨W.heap.size,0,none⟩) xs.length xs.length)) (W.alloc (.cells inner.toArray e)))
    (g:aT (d.M W base okp) d.sz xs inner) (m:∀k,okp k->ok k) (n:ok W.heap.size) (q:Below base w0 W) (i:base<=W.heap.size) (hm:xs.length<=9223372036854775807)
    (h:∀v1 w1,d.R e w1 base ok v1 xs->Below base w0 w1->W.grownBy w1 none->(∃b,v1.ownBlock=some b/\W.heap.size<=b)->wpList P ops Q rest (a.put o.dst v1) w1):wpList P ops Q (o::rest) a W:=by
  refine tg j l (h _ _ ⟨fun k hk=>?_,inner,?_,?_⟩ (q.alloc i _) (World.grownBy_alloc W _ none) ⟨W.heap.size,by simp[Value.ownBlock],Nat.le_refl _⟩)
  · have:W.heap.size=k:=by simpa [Value.ownBlock] using hk
    subst this;exact n
  · have r:=World.ownsRow_lit (base:=base) (e:=e) (size:=d.sz) W inner.toArray xs.length i (by simpa [maxLen] using hm) (by simpa using g.1)
    simpa using r
  · refine g.eM (fun p c hp=>d.cG (fun k hk=>⟨m k hk.1,fun he=>?_⟩) (td (d.eu hp) (ao (Below.refl _ _) _)))
    have s:k=W.heap.size:=by simpa [Value.ownBlock] using he
    have:=hk.2.2.1;omega
theorem th {α:Type} {R:α->List Value->Prop} {z:Value} {size:Nat} {z0:α} (a:z.cells.size=size) (o:0<size) (e:R z0 z.cells.toList) (m:Nat):aT R size (List.replicate m z0) (madeCells z.cells (m*size)).toList:=by
  refine⟨by simp[size_madeCells],fun j p g=>?_⟩;obtain⟨h,hp⟩:=List.getElem?_eq_some_iff.1 g;have k:j<m:=by simpa using h
  have l:z0=p:=by simpa using hp
  subst l;have hle:j*size+size<=m*size:=by rw[<-Nat.succ_mul];exact Nat.mul_le_mul_right _ k
  have:((madeCells z.cells (m*size)).toList.drop (j*size)).take size=z.cells.toList:=by
    apply List.ext_getElem
    · simp[size_madeCells,a]
      omega
    · intro i h1 b
      have hi:i<size:=by rw[Array.length_toList,a] at b;exact b
      have n:(j*size+i)%size=i:=by
        rw[Nat.mul_comm,Nat.mul_add_mod];exact Nat.mod_eq_of_lt hi
      simp[madeCells,a,n];rw[getElem!_pos z.cells i (by omega)]
  rw[this];exact e
theorem ky (d:Kd α) {w0 W:World} (base e:Nat) (p:o.guard=none) {N:Tmp} (hd:o.dst=some N) (t:TypeId) (x y:Operand) (q:o.op= .makeSlice t x y) (n:Int) (r:a.eval x= .int .i64 n) (s:a.eval y= .int .i64 n)
    (u:P.underlying t=some (.slice e)) (z:Value) (bytes:Nat) (v:(P.info? e).map (fun i=>(i.zero,i.size,i.bytes))=some (some z,d.sz,bytes)) (w:z.cells.size=d.sz) (B:0<d.sz) (C:0<bytes)
    (z0:α) {ok okp:Nat->Prop} (hzero:d.M W base okp z0 z.cells.toList) (D:∀k,okp k->ok k) (E:ok W.heap.size) (F:0<=n) (j:n.toNat*bytes<=281474976710656) (G:Below base w0 W) (H:base<=W.heap.size)
    (h:∀v1 w1,d.R e w1 base ok v1 (List.replicate n.toNat z0)->Below base w0 w1->W.grownBy w1 none->(∃b,v1.ownBlock=some b/\W.heap.size<=b)->wpList P ops Q rest (a.put o.dst v1) w1):wpList P ops Q (o::rest) a W:=by
  obtain⟨m,rfl⟩:=Int.eq_ofNat_of_zero_le F;simp only[Int.toNat_natCast] at j h;obtain⟨i0,hi,l⟩:=Option.map_eq_some_iff.1 v;simp only[Prod.mk.injEq] at l;obtain⟨I,J,K⟩:=l;have hm:m<=281474976710656:=Nat.le_trans (Nat.le_mul_of_pos_right _ C) j;have g:=run_make (P:=P) W t e i0 z u hi I .i64 .i64 (m:Int) (m:Int) (by omega) (by omega)
    (by
      have L:((i0.bytes*m:Nat):Int)<=281474976710656:=by rw[K,Nat.mul_comm];omega
      rwa [Int.natCast_mul] at L) (by omega)
  simp only[Int.toNat_natCast] at g;rw[J] at g;refine e7 d base e p hd (xs:=List.replicate m z0) (inner:=(madeCells z.cells (m*d.sz)).toList) (okp:=okp) (ok:=ok) ?_ (th w B hzero m) D E G H (by simp;omega) h;simp[execOp,q,r,s,g]
end
end Kd
theorem zr {w:World} {base n m c size:Nat} {e:TypeId} {A:Option Addr} {xs:List Value} (h:w.ownsRow base e size (.slice A n c) n xs) (hm:m<=n):w.ownsRow base e size (.slice A m c) m (xs.take (m*size)):=by
  obtain⟨h1,i⟩:=h;refine⟨by rw[List.length_take,h1];exact Nat.min_eq_left (Nat.mul_le_mul_right _ hm),?_⟩;rcases i with⟨he,p⟩|⟨g,cap,cur,he,hb,j,q,k,l,o⟩
  · injection he with a _ b
    subst a;subst b;exact .inl ⟨by rw[show m=0 by omega],by omega⟩
  · injection he with a _ b
    subst a;subst b;refine .inr ⟨g,c,cur,rfl,hb,j,by omega,k,l,?_⟩;rw[<-o,List.take_take,Nat.min_eq_left (Nat.mul_le_mul_right _ hm)]
section
variable {P:Program}
theorem zt (t e:TypeId) (a:IntKind) {i:TypeInfo} (b:P.underlying t=some (.slice e)) (hi:P.info? e=some i) (A:Option Addr) (n c:Nat) (j:Int) (h:0<=j) (hm:j<=n) (l:n<=c):
    ∀W:World,(Instr.slice t (.slice A n c) none (some (.int a j)) none).run P W= .ok (.slice A j.toNat c) W:=by
  intro W;have g:P.elem t=e:=by simp[Program.elem,b]
  have hu:P.underlying t=some (.slice (P.elem t)):=by rw[g];exact b
  have k:(A.map fun x=>x.add 0)=A:=by cases A<;>simp[Addr.add]
  rw[run_slice_h W t A n c hu a j h (by omega),g];simp[sizeOf,typeInfo,hi,sliced,Result.andThen,k]
theorem zu (t e:TypeId) (a:IntKind) {i:TypeInfo} (b:P.underlying t=some (.slice e)) (hi:P.info? e=some i) (size:Nat) (aY:i.size=size) (A:Option Addr) (n c:Nat) (j:Int) (h:0<=j) (hm:j<=n):
    ∀W:World,(Instr.slice t (.slice A n c) (some (.int a j)) none none).run P W= .ok (.slice (if c=j.toNat then A else A.map (·.add (j.toNat*size))) (n-j.toNat) (c-j.toNat)) W:=by
  intro W;have g:P.elem t=e:=by simp[Program.elem,b]
  have hu:P.underlying t=some (.slice (P.elem t)):=by rw[g];exact b
  rw[run_slice_l W t A n c hu a j h hm,g];simp[sizeOf,typeInfo,hi,aY,sliced,Result.andThen]
end
def fm (w:World) (base:Nat) (e:TypeId) (size:Nat) (v:Value) (n:Nat) (xs:List Value):Prop:=
  xs.length=n*size/\
  ((n=0/\∃A,v= .slice A 0 0/\∀a,A=some a->base<=a.block/\∃cur,w.heap[a.block]? =some (.cells cur e (0,0)))\/
   ∃g off cap cur,v= .slice (some ⟨g,off*size,none⟩) n cap/\base<=g/\w.heap[g]? =some (.cells cur e (0,0))/\n<=cap/\off+cap<=maxLen/\cur.size=(off+cap)*size/\(cur.toList.drop (off*size)).take (n*size)=xs)
section
variable {w w1:World} {base n size:Nat} {e:TypeId} {v:Value} {xs:List Value}
theorem qi (h:w.ownsRow base e size v n xs):fm w base e size v n xs:=by
  obtain⟨h1,b⟩:=h;refine⟨h1,?_⟩;rcases b with⟨rfl,i⟩|⟨g,cap,cur,rfl,hb,j,k,l,m,o⟩
  · exact .inl ⟨i,none,rfl,fun a p=>by cases p⟩
  · exact .inr ⟨g,0,cap,cur,by rw[Nat.zero_mul],hb,j,k,by rw[Nat.zero_add];exact l,by rw[Nat.zero_add];exact m,by rw[Nat.zero_mul,List.drop_zero];exact o⟩
theorem ti (h:fm w base e size v n xs) (hm:∀k,v.ownBlock=some k->w1.heap[k]? =w.heap[k]?):fm w1 base e size v n xs:=by
  obtain⟨h1,i⟩:=h;refine⟨h1,?_⟩;rcases i with⟨j,A,rfl,l⟩|⟨g,off,cap,cur,rfl,m,o,r⟩
  · refine .inl ⟨j,A,rfl,fun a b=>?_⟩
    obtain⟨hb,cur,p⟩:=l a b;subst b;exact⟨hb,cur,(hm a.block (by simp[Value.ownBlock])).trans p⟩
  · exact .inr ⟨g,off,cap,cur,rfl,m,(hm g (by simp[Value.ownBlock])).trans o,r⟩
theorem lx (h:fm w base e size v n xs) (k:Nat) (hk:v.ownBlock=some k):base<=k/\∃cells,w.heap[k]? =some (.cells cells e (0,0)):=by
  rcases h.2 with⟨_,A,rfl,b⟩|⟨g,off,cap,cur,rfl,i,j,r⟩
  · cases A with
    |none=>simp[Value.ownBlock] at hk
    |some a=>
      have:a.block=k:=by simpa [Value.ownBlock] using hk
      subst this;exact b a rfl
  · have:g=k:=by simpa [Value.ownBlock] using hk
    subst this;exact⟨i,cur,j⟩
theorem tj (h:fm w base e size v n xs) (k:Nat) (hk:v.ownBlock=some k):k<w.heap.size:=by
  obtain⟨_,cells,a⟩:=lx h k hk;exact(Array.getElem?_eq_some_iff.1 a).1
theorem zv {base':Nat} (h:fm w base e size v n xs) (hb:base'<=base):fm w base' e size v n xs:=by
  obtain⟨h1,j⟩:=h;refine⟨h1,?_⟩;rcases j with⟨k,A,rfl,b⟩|⟨g,off,cap,cur,rfl,l,r⟩
  · exact .inl ⟨k,A,rfl,fun a i=>⟨Nat.le_trans hb (b a i).1,(b a i).2⟩⟩
  · exact .inr ⟨g,off,cap,cur,rfl,Nat.le_trans hb l,r⟩
theorem tk (h:fm w base e size v n xs):∃A c,v= .slice A n c/\n<=c:=by
  rcases h.2 with⟨a,A,rfl,_⟩|⟨g,off,cap,cur,rfl,i,j,b,r⟩
  · exact⟨A,0,by rw[a],by omega⟩
  · exact⟨_,cap,rfl,b⟩
theorem zw (h:fm w base e size v n xs):n<=9223372036854775807:=by
  rcases h.2 with⟨a,_⟩|⟨g,off,cap,cur,rfl,b,i,j,hm,r⟩
  · omega
  · simp only[maxLen] at hm
    omega
theorem iC (g o j:Nat):(⟨g,o,none⟩:Addr).add j=⟨g,o+j,none⟩:=by unfold Addr.add;split<;>simp_all
theorem tl {A:Option Addr} {c:Nat} (h:fm w base e size (.slice A n c) n xs) (hn:0<n):∃ad,A=some ad/\∀j u,xs[j]? =some u->w.cell? (ad.add j)=some u:=by
  rcases h.2 with⟨k,_⟩|⟨g,off,cap,cur,he,l,a,m,hm,o,b⟩
  · omega
  · injection he with i _ p
    subst i;refine⟨_,rfl,fun j u hu=>?_⟩;rw[iC,cell_of_row w g _ cur e (0,0) a];rw[<-b,List.getElem?_take] at hu;split at hu
    · rw[List.getElem?_drop] at hu
      rw[<-Array.getElem?_toList];exact hu
    · cases hu
theorem zx {A:Option Addr} {c k:Nat} (h:fm w base e size (.slice A n c) n xs) (hk:k<=n):fm w base e size (.slice (if c=k then A else A.map (·.add (k*size))) (n-k) (c-k)) (n-k) (xs.drop (k*size)):=by
  obtain⟨h1,m⟩:=h;refine⟨by rw[List.length_drop,h1,Nat.sub_mul],?_⟩;rcases m with⟨o,A',he,p⟩|⟨g,off,cap,cur,he,hb,j,u,v,q,r⟩
  · injection he with b hb i
    subst b;subst i;have s:k=0:=by omega
    subst s;exact .inl ⟨by omega,A,by rw[if_pos rfl,o],p⟩
  · injection he with b _ i
    subst b;subst i;by_cases l:c=k
    · rw[if_pos l]
      refine .inl ⟨by omega,some ⟨g,off*size,none⟩,?_,fun a b=>?_⟩
      · rw[show n-k=0 by omega,show c-k=0 by omega]
      · injection b with b
        subst b;exact⟨hb,cur,j⟩
    · rw[if_neg l]
      refine .inr ⟨g,off+k,c-k,cur,?_,hb,j,by omega,by omega,by rw[q];congr 1;omega,?_⟩
      · rw[Option.map_some,iC,Nat.add_mul]
      · rw[<-r,List.drop_take,List.drop_drop,Nat.add_mul,Nat.sub_mul]
theorem qj {g:Nat}:∀(a:List Value) (o:Nat) {w:World} (k:Nat),k≠g->(w.setCells g o a).heap[k]? =w.heap[k]?
  |[],_,_,_,_=>rfl
  |v::r,o,w,k,hk=>by
    rw[World.setCells,qj r (o+1) k hk];exact Below.heap_setCell w ⟨g,o,none⟩ v k hk
theorem qk (g:Nat):∀(a:List Value) (o:Nat) (w:World),(w.setCells g o a).os=w.os/\(w.setCells g o a).tape=w.tape/\(w.setCells g o a).output=w.output/\(w.setCells g o a).heap.size=w.heap.size
  |[],_,_=>⟨rfl,rfl,rfl,rfl⟩
  |v::r,o,w=>by
    obtain⟨h1,b,e,h⟩:=qk g r (o+1) (w.setCell ⟨g,o,none⟩ v);rw[World.setCells];exact⟨h1,b,e,by rw[h];simp[World.setCell]⟩
theorem ql {g:Nat} {e:TypeId}:∀(b:List Value) (o:Nat) (w:World) (cur:Array Value),w.heap[g]? =some (.cells cur e (0,0))->o+b.length<=cur.size->
    ∃a,(w.setCells g o b).heap[g]? =some (.cells a e (0,0))/\a.size=cur.size/\a.toList=cur.toList.take o++b++cur.toList.drop (o+b.length)
  |[],o,w,cur,h,_=>⟨cur,h,rfl,by simp⟩
  |v::r,o,w,cur,h,i=>by
    have j:=bV h o v;simp only[List.length_cons] at i;obtain⟨a,k,l,m⟩:=ql r (o+1) (w.setCell ⟨g,o,none⟩ v) _ j (by simp;omega);refine⟨a,k,by rw[l];simp,?_⟩;rw[m,Array.toList_setIfInBounds];have n:o<cur.toList.length:=by rw[Array.length_toList];omega
    rw[List.take_set,List.drop_set_of_lt (by omega)];simp only[List.length_cons];rw[show o+1+r.length=o+(r.length+1) by omega];congr 1
    rw[List.take_succ_eq_append_getElem n,List.set_append_right _ _ (by rw[List.length_take];omega)];have p:o<cur.size:=by omega
    simp[Nat.min_eq_left (Nat.le_of_lt p)]
end
section
variable {P:Program}
theorem zy (w:World) (base:Nat) (t ty e:TypeId) (i:TypeInfo) (z:Value) (size bytes:Nat) (y:P.underlying t=some (.slice e)) (hi:P.info? e=some i) (E:i.zero=some z)
    (B:i.size=size) (F:i.bytes=bytes) (G:z.cells.size=size) (aY:0<size)
    (v:Value) (n:Nat) (xs:List Value) (p:fm w base e size v n xs)
    (a:Addr) (m c:Nat) (news:List Value) (q:news.length=m*size) (C:∀j u,news[j]? =some u->w.cell? (a.add j)=some u) (h1:∀u∈news,u.oneCell'=true) (hm:0<m)
    (H:n+m<=maxLen) (I:(n+m)*bytes<=140737488355328) (J:base<=w.heap.size):
    ∃h w',(Builtin.append_ #[t,t] ty #[v,.slice (some a) m c]).run P w= .ok h w'/\fm w' base e size h (n+m) (xs++news)/\w.grownBy w' v.ownBlock/\(h.ownBlock=v.ownBlock\/∃b,h.ownBlock=some b/\w.heap.size<=b):=by
  have K:∀(b:Addr) (cap:Nat),cap<n+m->(∀j u,xs[j]? =some u->w.cell? (b.add j)=some u)->v= .slice (some b) n cap->
      ∃h w',(Builtin.append_ #[t,t] ty #[v,.slice (some a) m c]).run P w= .ok h w'/\fm w' base e size h (n+m) (xs++news)/\w.grownBy w' v.ownBlock/\(h.ownBlock=v.ownBlock\/∃b,h.ownBlock=some b/\w.heap.size<=b):=by
    intro b cap O Q o;obtain⟨h,w',r,x,l⟩:=run_append_arg_grows (P:=P) (w:=w) t ty e i z size bytes y hi E B F G aY b n cap xs p.1 Q a m c news q C O H I;refine⟨h,w',by rw[o];exact r,zv (qi x) J,⟨l.os,l.tape,l.output,l.size,fun k hk _=>l.block k hk (by simp)⟩,?_⟩;obtain⟨R,ag,he,hb,_⟩:=x.form (by omega);exact .inr ⟨R,by rw[he];simp[Value.ownBlock],hb⟩
  rcases p.2 with⟨D,A,o,hA⟩|⟨g,off,cap,cur,o,S,l,am,T,L,M⟩
  · cases A with
    |none=>
      subst D;have x:w.ownsRow base e size v 0 xs:=⟨p.1,.inl ⟨o,rfl⟩⟩;obtain⟨h,w',r,U,l,_,s⟩:=run_append_own_at (P:=P) w base t ty e i z size bytes y hi E B F G aY v 0 xs x a m c news q C h1 H I J;refine⟨h,w',r,qi U,l,?_⟩;rcases s with s|s
      · exact .inl s
      · exact .inr ⟨_,s,Nat.le_refl _⟩
    |some b=>
      have V:xs=[]:=List.eq_nil_of_length_eq_zero (by rw[p.1,D,Nat.zero_mul]);exact K b 0 (by omega) (fun j u hu=>by rw[V] at hu;simp at hu) (by rw[o,D])
  · by_cases N:n+m<=cap
    · have W:off*size+n*size+news.length<=cur.size:=by
        rw[q,L,<-Nat.add_mul,<-Nat.add_mul];exact Nat.mul_le_mul_right _ (by omega)
      subst B;have r:=run_append_room_cells (P:=P) (w:=w) t ty e i y hi g (off*i.size) n cap a m c news q C h1 N
        (fun j hj=>by rw[cell_of_row w g _ cur e (0,0) l];simp;omega) (fun j _=>bF l _)
      obtain⟨X,Y,Z,h5⟩:=ql news (off*i.size+n*i.size) w cur l W;obtain⟨s1,s2,s3,s4⟩:=qk g news (off*i.size+n*i.size) w;refine⟨_,_,by rw[o];exact r,⟨by rw[List.length_append,p.1,q,Nat.add_mul],.inr ⟨g,off,cap,X,rfl,S,Y,N,T,by rw[Z,L],?_⟩⟩,
        ⟨s1,s2,s3,by rw[s4];exact Nat.le_refl _,fun k _ hk=>qj news _ k (fun he=>hk (by rw[o,he];simp[Value.ownBlock]))⟩,.inl (by rw[o];rfl)⟩
      rw[h5,List.append_assoc,List.drop_append_of_le_length (by rw[List.length_take,Array.length_toList];omega),List.drop_take];rw[show off*i.size+n*i.size-off*i.size=n*i.size by omega,M];rw[<-List.append_assoc];exact List.take_left' (by rw[List.length_append,p.1,q,Nat.add_mul])
    · refine K ⟨g,off*size,none⟩ cap (by omega) (fun j u hu=>?_) o
      rw[iC,cell_of_row w g _ cur e (0,0) l];rw[<-M,List.getElem?_take] at hu;split at hu
      · rw[List.getElem?_drop] at hu
        rw[<-Array.getElem?_toList];exact hu
      · cases hu
end
namespace Kd
theorem zz {α:Type} {R:α->List Value->Prop} {size m:Nat} {ps:List α} {cs:List Value} (h:aT R size ps cs) (hm:m<=ps.length):aT R size (ps.take m) (cs.take (m*size)):=by
  refine⟨by rw[List.length_take,List.length_take,h.1,Nat.min_eq_left hm,Nat.min_eq_left (Nat.mul_le_mul_right _ hm)],fun j p a=>?_⟩;rw[List.getElem?_take] at a;split at a
  · rename_i b
    have:=h.2 j p a;have hle:j*size+size<=m*size:=by rw[<-Nat.succ_mul];exact Nat.mul_le_mul_right _ b
    rw[List.drop_take,List.take_take,Nat.min_eq_left (by omega)];exact this
  · cases a
theorem zD {α:Type} {R:α->List Value->Prop} {size m:Nat} {ps:List α} {cs:List Value} (h:aT R size ps cs):aT R size (ps.drop m) (cs.drop (m*size)):=by
  refine⟨by rw[List.length_drop,List.length_drop,h.1,Nat.sub_mul],fun j p a=>?_⟩;rw[List.getElem?_drop] at a;have:=h.2 (m+j) p a;rw[List.drop_drop,<-Nat.add_mul];exact this
theorem zF {α:Type} {d:Kd α} {e m n c:Nat} {w:World} {base:Nat} {ok:Nat->Prop} {A:Option Addr} {xs:List α} (h:d.R e w base ok (.slice A n c) xs) (hm:m<=xs.length):d.R e w base ok (.slice A m c) (xs.take m):=by
  obtain⟨b,inner,a,g⟩:=h;have hn:n=xs.length:=by
    obtain⟨A',i,he⟩:=s8 a;injection he
  subst hn;have hb:∀x y:Nat,(Value.slice A x c).ownBlock=(Value.slice A y c).ownBlock:=by
    intro x y;cases A<;>rfl
  refine⟨fun k hk=>b k (by rw[hb _ m];exact hk),inner.take (m*d.sz),?_,?_⟩
  · rw[List.length_take,Nat.min_eq_left hm]
    exact zr a hm
  · rw[hb m xs.length]
    exact zz g hm
def Q {α:Type} (d:Kd α) (e:Nat) (w:World) (base:Nat) (ok:Nat->Prop) (v:Value) (xs:List α):Prop:=
  (∀k,v.ownBlock=some k->ok k)/\∃inner,fm w base e d.sz v xs.length inner/\aT (d.M w base (fun k=>ok k/\some k≠v.ownBlock)) d.sz xs inner
section
variable {α:Type} {d:Kd α} {e:Nat} {w w1 W:World} {base:Nat} {ok ok':Nat->Prop} {v:Value} {xs:List α}
theorem zH (h:d.R e w base ok v xs):d.Q e w base ok v xs:=by
  obtain⟨a,inner,b,g⟩:=h;exact⟨a,inner,qi b,g⟩
theorem l_ (h:d.Q e w base ok v xs) (a:∀k,ok k->ok' k):d.Q e w base ok' v xs:=by
  obtain⟨b,inner,g,i⟩:=h;exact⟨fun k hk=>a k (b k hk),inner,g,i.eM (fun _ _ hp=>d.cG (fun k hk=>⟨a k hk.1,hk.2⟩) hp)⟩
theorem oB (h:d.Q e w base ok v xs):d.Q e w base (fun k=>ok k/\base<=k/\k<w.heap.size/\∃q,q∈e::d.E/\∃cells,w.heap[k]? =some (.cells cells q (0,0))) v xs:=by
  obtain⟨g,inner,a,i⟩:=h;refine⟨fun k hk=>?_,inner,a,i.eM (fun _ _ hp=>d.cG (fun k hk=>?_) (d.eu hp))⟩
  · obtain⟨hb,cells,b⟩:=lx a k hk
    exact⟨g k hk,hb,tj a k hk,e,List.mem_cons_self,cells,b⟩
  · obtain⟨⟨h1,j⟩,l,m,q,n,b⟩:=hk
    exact⟨⟨h1,l,m,q,List.mem_cons_of_mem _ n,b⟩,j⟩
theorem tn (h:d.Q e w base ok v xs) (hm:∀k,ok k->w1.heap[k]? =w.heap[k]?):d.Q e w1 base ok v xs:=by
  obtain⟨a,inner,b,g⟩:=h;exact⟨a,inner,ti b (fun k hk=>hm k (a k hk)),g.eM (fun _ _ hp=>d.eD (fun k hk=>hm k hk.1) hp)⟩
theorem qm (h:d.Q e w base ok v xs) (hm:∀k,ok k->k<w.heap.size->w1.heap[k]? =w.heap[k]?):d.Q e w1 base ok v xs:=l_ (tn (oB h) (fun k hk=>hm k hk.1 hk.2.2.1)) (fun _ hk=>hk.1)
theorem tp (h:d.Q e w base ok v xs) (hb:Below w.heap.size w w1):d.Q e w1 base ok v xs:=qm h (fun k _ hk=>hb.block k hk)
theorem zI (h:d.Q e w base ok v xs) (o:Obj):d.Q e (w.alloc o) base ok v xs:=tp h (ao (Below.refl _ _) o)
theorem zJ (h:d.Q e w base ok v xs) {row:Option Nat} (a:w.grownBy w1 row) (b:∀k,ok k->some k≠row):d.Q e w1 base ok v xs:=qm h (fun k g hk=>a.block k hk (b k g))
theorem zM (h:d.Q e w base ok v xs) {p:Addr} (a:∀k,ok k->k≠p.block) (u:Value):d.Q e (w.setCell p u) base ok v xs:=qm h (fun k b _=>Below.heap_setCell w p u k (a k b))
theorem zO (h:d.Q e w base ok v xs) {g t:Nat} {cells:Array Value} (hb:w.heap[g]? =some (.cells cells t (0,0))) (a:∀q,q∈e::d.E->q≠t):d.Q e w base (fun k=>ok k/\k≠g) v xs:=
  l_ (oB h) (fun k hk=>⟨hk.1,by
    obtain⟨_,_,_,q,b,j,i⟩:=hk;rintro rfl;rw[i] at hb;injection hb with hb
    injection hb with _ hb
    exact a q b hb⟩)
theorem tq (h:d.Q e w base ok v xs) {g t:Nat} {cells:Array Value} (hb:w.heap[g]? =some (.cells cells t (0,0))) (a:∀q,q∈e::d.E->q≠t) (j:Nat) (u:Value):d.Q e (w.setCell ⟨g,j,none⟩ u) base ok v xs:=
  l_ (zM (p:=⟨g,j,none⟩) (zO h hb a) (fun _ hk=>hk.2) u) (fun _ hk=>hk.1)
theorem zP (h:d.Q e w base ok v xs):∀k,v.ownBlock=some k->base<=k:=by
  obtain⟨_,inner,a,_⟩:=h;exact fun k hk=>(lx a k hk).1
theorem tr (h:d.Q e w base ok v xs) {g t:Nat} {cells:Array Value} (hb:w.heap[g]? =some (.cells cells t (0,0))) (a:e≠t):some g≠v.ownBlock:=by
  obtain⟨_,inner,b,_⟩:=h;intro he;obtain⟨_,j,i⟩:=lx b g he.symm;rw[i] at hb;injection hb with hb
  injection hb with _ hb
  exact a hb
theorem oC (h:d.Q e w base ok v xs):∃A c,v= .slice A xs.length c/\xs.length<=c:=by
  obtain⟨_,inner,a,_⟩:=h;exact tk a
theorem tt {A:Option Addr} {n c:Nat} (h:d.Q e w base ok (.slice A n c) xs):n=xs.length/\n<=c/\d.C w A xs.length xs:=by
  obtain⟨_,inner,a,b⟩:=h;obtain⟨A',s,he,k⟩:=tk a;injection he with h1 l m
  subst h1;subst l;subst m;refine⟨rfl,k,rfl,zw a,fun hp=>?_⟩;obtain⟨ad,o,q⟩:=tl a hp;refine⟨ad,o,fun j p g=>⟨(inner.drop (j*d.sz)).take d.sz,?_,d.dg (b.2 j p g),fun i u hu=>?_⟩⟩
  · have r:=(List.getElem?_eq_some_iff.1 g).1
    have h1:j*d.sz+d.sz<=inner.length:=by rw[b.1,<-Nat.succ_mul];exact Nat.mul_le_mul_right _ r
    rw[List.length_take,List.length_drop];omega
  · refine q _ u ?_
    rw[List.getElem?_take] at hu;split at hu
    · rw[List.getElem?_drop] at hu
      exact hu
    · cases hu
theorem zQ {A:Option Addr} {k n c:Nat} (h:d.Q e w base ok (.slice A n c) xs) (hk:k<=xs.length):d.Q e w base ok (.slice (if c=k then A else A.map (·.add (k*d.sz))) (n-k) (c-k)) (xs.drop k):=by
  have hn:n=xs.length:=(tt h).1;subst hn;obtain⟨b,inner,g,i⟩:=h;have hb:(Value.slice (if c=k then A else A.map (·.add (k*d.sz))) (xs.length-k) (c-k)).ownBlock=(Value.slice A xs.length c).ownBlock:=by
    split
    · cases A<;>rfl
    · cases A with
      |none=>rfl
      |some a=>simp[Value.ownBlock];unfold Addr.add;split<;>rfl
  refine⟨fun j l=>b j (by rw[<-hb];exact l),inner.drop (k*d.sz),?_,?_⟩
  · rw[List.length_drop]
    exact zx g hk
  · rw[hb]
    exact zD i
theorem zU {okp:Nat->Prop} {v1:Value} {p:α} {inner cs:List Value} (i:∀k,v.ownBlock=some k->ok k) (j:aT (d.M W base (fun k=>ok k/\some k≠v.ownBlock)) d.sz xs inner) (hp:d.M W base okp p cs) (l:∀k,okp k->ok k/\some k≠v.ownBlock) (m:∀k,W.heap.size<=k->ok k)
    (n:fm w1 base e d.sz v1 (xs.length+1) (inner++cs)) (r:W.grownBy w1 v.ownBlock) (a:v1.ownBlock=v.ownBlock\/∃b,v1.ownBlock=some b/\W.heap.size<=b):d.Q e w1 base ok v1 (xs++[p]):=by
  have s:∀k,some k≠v.ownBlock->k<W.heap.size->some k≠v1.ownBlock:=by
    intro k hk u;rcases a with a|⟨b,hb,hle⟩
    · rw[a];exact hk
    · rw[hb]
      intro he;injection he with he
      omega
  have step:∀{q:α} {c:List Value} {o:Nat->Prop},d.M W base o q c->(∀k,o k->ok k/\some k≠v.ownBlock)->d.M w1 base (fun k=>ok k/\some k≠v1.ownBlock) q c:=by
    intro q c o g h;have h1:=d.eD (w1:=w1) (fun k hk=>r.block k hk.2.2.1 (h k hk.1).2) (d.eu g);exact d.cG (fun k hk=>⟨(h k hk.1).1,s k (h k hk.1).2 hk.2.2.1⟩) h1
  refine⟨fun k hk=>?_,inner++cs,by rw[List.length_append,List.length_singleton];exact n,?_⟩
  · rcases a with a|⟨b,hb,hle⟩
    · exact i k (a▸hk)
    · rw[hb] at hk
      injection hk with hk
      exact m k (by omega)
  · exact(j.eM (fun _ _ g=>step g (fun _ hk=>hk))).snoc (step hp l) (d.dV (d.dg hp))
end
section
variable {P:Program} {ops:Array Oper} {rest:List Oper} {o:Oper} {a:Act} {Q':Exit->Act->World->Prop} {Kc:Act->World->Prop} {α:Type}
theorem zV (d:Kd α) {w0 W:World} (base:Nat) (t ty e:TypeId) (z:Value) (bytes:Nat)
    (n:P.underlying t=some (.slice e)) (o:(P.info? e).map (fun i=>(i.zero,i.size,i.bytes))=some (some z,d.sz,bytes)) (q:z.cells.size=d.sz) (r:0<d.sz) (s:0<bytes)
    (v:Value) (xs:List α) (p:α) (cs:List Value) (ok okp:Nat->Prop) (hp:d.M W base okp p cs) (u:∀k,okp k->ok k/\some k≠v.ownBlock) (w:∀k,W.heap.size<=k->ok k)
    (x:d.Q e W base ok v xs) (y:Below base w0 W) (B:base<=W.heap.size) (j:(xs.length+1)*bytes<=140737488355328):
    ∃v1 w1,(Builtin.append_ #[t,t] ty #[v,.slice (some ⟨W.heap.size,0,none⟩) 1 1]).run P (W.alloc (.cells cs.toArray e))= .ok v1 w1/\d.Q e w1 base ok v1 (xs++[p])/\Below base w0 w1/\W.grownBy w1 v.ownBlock/\(v1.ownBlock=v.ownBlock\/∃b,v1.ownBlock=some b/\W.heap.size<=b):=by
  obtain⟨C,inner,a,D⟩:=x;obtain⟨i0,hi,l⟩:=Option.map_eq_some_iff.1 o;simp only[Prod.mk.injEq] at l;obtain⟨E,F,G⟩:=l;have hlen:xs.length+1<=140737488355328:=Nat.le_trans (Nat.le_mul_of_pos_right _ s) j;have H:=d.dV (d.dg hp);have I:fm (W.alloc (.cells cs.toArray e)) base e d.sz v xs.length inner:=ti a (fun k hk=>Below.heap_alloc W _ k (tj a k hk));obtain⟨v1,w1,J,K,L,g⟩:=zy (P:=P) (W.alloc (.cells cs.toArray e)) base t ty e i0 z d.sz bytes n hi E F G q r v xs.length inner I ⟨W.heap.size,0,none⟩ 1 1 cs (by rw[H,Nat.one_mul])
    (by simpa using World.news_of_block (cs:=cs.toArray) (t:=e) (fr:=(0,0)) (heap_alloc_new W (.cells cs.toArray e))) (d.dW (d.dg hp)) (by omega) (by simp only[maxLen];omega) j (by simp;omega)
  have h:W.grownBy w1 v.ownBlock:=World.grownBy.trans (World.grownBy_alloc W _ _) L;have m:v1.ownBlock=v.ownBlock\/∃b,v1.ownBlock=some b/\W.heap.size<=b:=by
    rcases g with g|⟨b,hb,hle⟩
    · exact .inl g
    · exact .inr ⟨b,hb,by rw[World.size_alloc] at hle;omega⟩
  exact⟨v1,w1,J,zU C D hp u w K h m,y.grown h B (fun k hk=>(lx a k hk).1),h,m⟩
end
end Kd
namespace Kd
section
variable {α:Type} {d:Kd α} {e e':Nat} {w w1 W:World} {base:Nat} {ok:Nat->Prop} {u v:Value} {xs:List α}
theorem gN (h:d.R e w base ok v xs):∀k,v.ownBlock=some k->∃cells,w.heap[k]? =some (.cells cells e (0,0)):=by
  obtain⟨inner,a⟩:=js h;exact fun k hk=>jr a k hk
theorem qo (h:d.R e W base ok u xs) (b:∀k,v.ownBlock=some k->∃cells,W.heap[k]? =some (.cells cells e' (0,0))) (g:∀q,q∈e::d.E->q≠e') (i:W.grownBy w1 v.ownBlock):d.R e w1 base ok u xs:=by
  refine a_ (fC (ef h) (fun k hk=>i.block k hk.2.2.1 (fun he=>?_))) (fun _ hk=>hk.1);obtain⟨_,_,_,q,j,cells,l⟩:=hk;obtain⟨m,a⟩:=b k he.symm;rw[l] at a;injection a with a
  injection a with _ a
  exact g q j a
theorem oD (h:d.R e W base ok u xs) (b:∀k,v.ownBlock=some k->∃cells,W.heap[k]? =some (.cells cells e' (0,0))) (g:∀q,q∈e::d.E->q≠e'):d.R e W base (fun k=>ok k/\some k≠v.ownBlock) u xs:=by
  refine a_ (ef h) (fun k hk=>⟨hk.1,fun he=>?_⟩);obtain⟨_,_,_,q,i,cells,j⟩:=hk;obtain⟨l,a⟩:=b k he.symm;rw[j] at a;injection a with a
  injection a with _ a
  exact g q i a
theorem tu (hu:d.R e W base ok u xs) (a:∀k,v.ownBlock=some k->W.heap.size<=k) (hb:Below W.heap.size W w1):d.R e w1 base (fun k=>ok k/\some k≠v.ownBlock) u xs:=
  a_ (fC (ef hu) (fun k hk=>hb.block k hk.2.2.1)) (fun k hk=>⟨hk.1,fun he=>by have:=a k he.symm;have:=hk.2.2.1;omega⟩)
theorem bQ (h:d.R e w1 W.heap.size ok v xs) (a:∀k,u.ownBlock=some k->k<W.heap.size):d.R e w1 W.heap.size (fun k=>ok k/\some k≠u.ownBlock) v xs:=
  a_ (ef h) (fun k hk=>⟨hk.1,fun he=>by have:=a k he.symm;have:=hk.2.1;omega⟩)
theorem tw (h:d.Q e w base ok v xs):∀k,v.ownBlock=some k->∃cells,w.heap[k]? =some (.cells cells e (0,0)):=by
  obtain⟨_,inner,a,_⟩:=h;exact fun k hk=>(lx a k hk).2
theorem ly (a:∀k,u.ownBlock=some k->k<W.heap.size):∀k,W.heap.size<=k->some k≠u.ownBlock:=fun k hk he=>by have:=a k he.symm;omega
end
end Kd
theorem mW {α:Type} (a seg:List α) (o:Nat) (h:o+seg.length<=a.length) (q:Nat):
    (a.take o++seg++a.drop (o+seg.length))[q]? =if q<o then a[q]? else if q<o+seg.length then seg[q-o]? else a[q]? :=by
  have e:(a.take o).length=o:=by rw[List.length_take];omega
  rw[List.append_assoc];by_cases h1:q<o
  · rw[if_pos h1,List.getElem?_append_left (by omega),List.getElem?_take,if_pos h1]
  · rw[if_neg h1,List.getElem?_append_right (by omega),e]
    by_cases b:q<o+seg.length
    · rw[if_pos b,List.getElem?_append_left (by omega)]
    · rw[if_neg b,List.getElem?_append_right (by omega),List.getElem?_drop]
      congr 1
      omega
namespace Kd
section
variable {α:Type} {d:Kd α} {e base g n cap:Nat} {ok okp:Nat->Prop} {W:World} {xs:List α}
theorem tx (h:d.R e W base ok (.slice (some ⟨g,0,none⟩) n cap) xs) (z:α) (i:Int) (p:0<=i) (h1:i<n):
    ∃c,c.length=d.sz/\d.M W base (fun k=>ok k/\k≠g) (xs.getD i.toNat z) c/\(∀j u,c[j]? =some u->W.cell? ⟨g,i.toNat*d.sz+j,none⟩=some u)/\∀j,W.frozen? ⟨g,i.toNat*d.sz+j,none⟩=false:=by
  obtain⟨hn,q,hC⟩:=aH h;obtain⟨_,inner,b,l⟩:=h;have a:i.toNat<xs.length:=by omega
  have r:i.toNat*d.sz+d.sz<=inner.length:=by rw[l.1,<-Nat.succ_mul];exact Nat.mul_le_mul_right _ a
  have m:=l.2 i.toNat _ (List.getElem?_eq_getElem a);refine⟨(inner.drop (i.toNat*d.sz)).take d.sz,by rw[List.length_take,List.length_drop];omega,?_,fun j u hu=>?_,fun j=>?_⟩
  · rw[List.getD_eq_getElem?_getD,List.getElem?_eq_getElem a]
    exact d.cG (fun k hk=>⟨hk.1,fun he=>hk.2 (by rw[he];simp[Value.ownBlock])⟩) m
  · rw[List.getElem?_take] at hu
    split at hu
    · rw[List.getElem?_drop] at hu
      have:=b.cells (g:=g) (by simp[Value.ownBlock]) _ u hu;rwa [add_plain] at this
    · cases hu
  · obtain⟨cells,o⟩:=jr b g (by simp[Value.ownBlock])
    exact bF o _
theorem tz (h:d.R e W base ok (.slice (some ⟨g,0,none⟩) n cap) xs) (i:Int) (h0:0<=i) (h1:i<n) {c seg:List Value} {j:Nat} (ap:c.length=d.sz) (H:∀j u,c[j]? =some u->W.cell? ⟨g,i.toNat*d.sz+j,none⟩=some u)
    (hj:j+seg.length<=d.sz) {x':α} (I:d.M W base okp x' (c.take j++seg++c.drop (j+seg.length))) (l:∀k,okp k->ok k/\k≠g):
    d.R e (W.setCells g (i.toNat*d.sz+j) seg) base ok (.slice (some ⟨g,0,none⟩) n cap) (xs.set i.toNat x')/\W.grownBy (W.setCells g (i.toNat*d.sz+j) seg) (some g):=by
  obtain⟨hn,w,_⟩:=aH h;obtain⟨J,inner,K,b⟩:=h;have L:i.toNat<xs.length:=by omega
  have x:i.toNat*d.sz+d.sz<=inner.length:=by rw[b.1,<-Nat.succ_mul];exact Nat.mul_le_mul_right _ L
  have av:inner.length=n*d.sz:=by rw[b.1,hn]
  obtain⟨aB,N⟩:=K;rcases N with⟨o,_⟩|⟨g',aL,cur,o,hb,y,aO,O,P,z⟩
  · cases o
  injection o with r _ Q
  injection r with r
  injection r with S
  subst S;subst Q;have T:i.toNat*d.sz+j+seg.length<=cur.size:=by
    have:n*d.sz<=cap*d.sz:=Nat.mul_le_mul_right _ w;omega
  obtain⟨U,V,X,Y⟩:=ql seg (i.toNat*d.sz+j) W cur y T;obtain⟨s1,s2,Z,s4⟩:=qk g seg (i.toNat*d.sz+j) W;have s:∀k,k≠g->(W.setCells g (i.toNat*d.sz+j) seg).heap[k]? =W.heap[k]? :=fun k hk=>qj seg _ k hk
  have ab:∀q,q<d.sz->c[q]? =inner[i.toNat*d.sz+q]? :=by
    intro q a;have B:q<c.length:=by omega
    have C:=H q _ (List.getElem?_eq_getElem B);rw[cell_of_row W g _ cur e (0,0) y] at C;rw[List.getElem?_eq_getElem B,<-C,<-z,List.getElem?_take,if_pos (by rw[<-hn];omega),Array.getElem?_toList]
  refine⟨⟨J,inner.take (i.toNat*d.sz+j)++seg++inner.drop (i.toNat*d.sz+j+seg.length),⟨?_,.inr ⟨g,cap,U,by rw[List.length_set,hn],hb,V,by rw[List.length_set,<-hn];exact w,O,by rw[X,P],?_⟩⟩,?_⟩,
    ⟨s1,s2,Z,by rw[s4];exact Nat.le_refl _,fun k _ hk=>s k (fun he=>hk (by rw[he]))⟩⟩
  · rw[List.length_set]
    simp only[List.length_append,List.length_take,List.length_drop];rw[b.1] at x⊢;omega
  · rw[List.length_set,<-hn]
    apply List.ext_getElem?
    intro q;rw[List.getElem?_take,Y];rw[mW cur.toList seg (i.toNat*d.sz+j) (by rw[Array.length_toList];omega) q,mW inner seg (i.toNat*d.sz+j) (by omega) q];have ad:∀q,q<n*d.sz->cur.toList[q]? =inner[q]? :=by
      intro q a;rw[<-z,List.getElem?_take,if_pos (by rw[<-hn];exact a)]
    by_cases a:q<n*d.sz
    · rw[if_pos a,ad q a]
    · rw[if_neg a,if_neg (by omega),if_neg (by omega),List.getElem?_eq_none (by omega)]
  · refine⟨?_,fun m p hm=>?_⟩
    · rw[List.length_set]
      simp only[List.length_append,List.length_take,List.length_drop];rw[b.1] at x⊢;omega
    · have ag:m<xs.length:=by
        have:=(List.getElem?_eq_some_iff.1 hm).1;rwa [List.length_set] at this
      have aP:m*d.sz+d.sz<=inner.length:=by rw[b.1,<-Nat.succ_mul];exact Nat.mul_le_mul_right _ ag
      have D:some g=(Value.slice (some ⟨g,0,none⟩) n cap).ownBlock:=by simp[Value.ownBlock]
      by_cases E:m=i.toNat
      · subst E
        rw[List.getElem?_set_self (by omega)] at hm;injection hm with hm
        subst hm;have v:((inner.take (i.toNat*d.sz+j)++seg++inner.drop (i.toNat*d.sz+j+seg.length)).drop (i.toNat*d.sz)).take d.sz=c.take j++seg++c.drop (j+seg.length):=by
          apply List.ext_getElem?
          intro q;rw[List.getElem?_take,List.getElem?_drop,mW inner seg _ (by omega),mW c seg j (by omega) q];by_cases a:q<d.sz
          · rw[if_pos a,ab q a]
            by_cases F:q<j
            · rw[if_pos (by omega),if_pos F]
            · rw[if_neg (by omega),if_neg F]
              by_cases G:q<j+seg.length
              · rw[if_pos (by omega),if_pos G]
                congr 1
                omega
              · rw[if_neg (by omega),if_neg G]
          · rw[if_neg a,if_neg (by omega),if_neg (by omega),List.getElem?_eq_none (by omega)]
        rw[v];refine d.cG (fun k hk=>?_) (d.eD (w1:=W.setCells g (i.toNat*d.sz+j) seg) (fun k hk=>s k (l k hk).2) I);exact⟨(l k hk).1,fun he=>(l k hk).2 (by rw[<-D] at he;injection he)⟩
      · rw[List.getElem?_set_ne (by omega)] at hm
        have hold:=b.2 m p hm;have v:((inner.take (i.toNat*d.sz+j)++seg++inner.drop (i.toNat*d.sz+j+seg.length)).drop (m*d.sz)).take d.sz=(inner.drop (m*d.sz)).take d.sz:=by
          apply List.ext_getElem?
          intro q;rw[List.getElem?_take,List.getElem?_take,List.getElem?_drop,List.getElem?_drop,mW inner seg _ (by omega)];by_cases a:q<d.sz
          · rw[if_pos a,if_pos a]
            rcases Nat.lt_or_gt_of_ne E with ak|am
            · have:m*d.sz+d.sz<=i.toNat*d.sz:=by rw[<-Nat.succ_mul];exact Nat.mul_le_mul_right _ ak
              rw[if_pos (by omega)]
            · have:i.toNat*d.sz+d.sz<=m*d.sz:=by rw[<-Nat.succ_mul];exact Nat.mul_le_mul_right _ am
              rw[if_neg (by omega),if_neg (by omega)]
          · rw[if_neg a,if_neg a]
        rw[v];refine d.eD (fun k hk=>s k (fun he=>hk.2 (by rw[he];exact D))) hold
end
end Kd
namespace Kd
theorem zW {α:Type} {R:α->List Value->Prop} {size:Nat} {ps b:List α} {cs ds:List Value} (h:aT R size ps cs) (e:aT R size b ds):aT R size (ps++b) (cs++ds):=by
  refine⟨by rw[List.length_append,List.length_append,h.1,e.1,Nat.add_mul],fun j p a=>?_⟩;rcases Nat.lt_or_ge j ps.length with g|i
  · rw[List.getElem?_append_left g] at a
    have hle:j*size+size<=cs.length:=by rw[h.1,<-Nat.succ_mul];exact Nat.mul_le_mul_right _ g
    rw[List.drop_append_of_le_length (by omega),List.take_append_of_le_length (by rw[List.length_drop];omega)];exact h.2 j p a
  · rw[List.getElem?_append_right i] at a
    have k:=e.2 (j-ps.length) p a;have hle:ps.length*size<=j*size:=Nat.mul_le_mul_right _ i;rw[List.drop_append,List.drop_eq_nil_of_le (by rw[h.1];exact hle),List.nil_append,h.1,<-Nat.sub_mul];exact k
section
variable {P:Program} {ops:Array Oper} {rest:List Oper} {o:Oper} {a:Act} {Q:Exit->Act->World->Prop} {α:Type}
theorem tA (d:Kd α) {I:α->List Value->Prop} {w0 W:World} (base:Nat) (T:o.guard=none) (s x:Operand) (t e:TypeId) (z:Value) (bytes:Nat)
    (n:o.op= .call {callee:=.builtin .append,args:=#[s,x],argTypes:=#[t,t]})
    (C:P.underlying t=some (.slice e)) (U:(P.info? e).map (fun i=>(i.zero,i.size,i.bytes))=some (some z,d.sz,bytes)) (V:z.cells.size=d.sz) (D:0<d.sz) (X:0<bytes)
    (v:Value) (xs ys:List α) (A:Option Addr) (m c:Nat) (ok okp:Nat->Prop) (Y:a.eval s=v) (Z:a.eval x= .slice A m c)
    (HO:d.R e W base ok v xs) (E:fk I d.sz W A m ys) (ab:∀x cs,I x cs->d.M W base okp x cs) (ag:∀k,okp k->ok k/\some k≠v.ownBlock) (ak:∀k,W.heap.size<=k->ok k)
    (HB:Below base w0 W) (J:base<=W.heap.size) (L:(xs.length+m)*bytes<=140737488355328)
    (h:∀v1 w1,d.R e w1 base ok v1 (xs++ys)->Below base w0 w1->W.grownBy w1 v.ownBlock->(v1.ownBlock=v.ownBlock\/∃b,v1.ownBlock=some b/\W.heap.size<=b)->wpList P ops Q rest (a.put o.dst v1) w1):
    wpList P ops Q (o::rest) a W:=by
  obtain⟨i0,hi,N⟩:=Option.map_eq_some_iff.1 U;simp only[Prod.mk.injEq] at N;obtain⟨an,ap,ar⟩:=N;have hm:ys.length=m:=E.1;have hlen:xs.length+m<=140737488355328:=Nat.le_trans (Nat.le_mul_of_pos_right _ X) L;obtain⟨O,inner,y,S⟩:=HO;have F:∃v1 w1,(Builtin.append_ #[t,t] o.type #[v,.slice A m c]).run P W= .ok v1 w1/\d.R e w1 base ok v1 (xs++ys)/\W.grownBy w1 v.ownBlock/\(v1.ownBlock=v.ownBlock\/∃b,v1.ownBlock=some b/\W.heap.size<=b):=by
    rcases A with _|ad
    · have r:m=0:=by
        rcases Nat.eq_zero_or_pos m with r|r
        · exact r
        · obtain⟨ad,h,_⟩:=E.2.2 r
          cases h
      subst r;obtain rfl:ys=[]:=List.eq_nil_of_length_eq_zero hm;refine⟨v,W,?_,by rw[List.append_nil];exact⟨O,inner,y,S⟩,World.grownBy.refl W _,.inl rfl⟩;rcases y.2 with⟨rfl,hn⟩|⟨g,cap,cur,rfl,_,_,G,_⟩
      · simp[Builtin.append_,run_underlying C,sizeOf,typeInfo,hi,Builtin.lenOf,Builtin.firstCells]
      · simp[Builtin.append_,run_underlying C,sizeOf,typeInfo,hi,Builtin.lenOf,Builtin.firstCells,G,storeCells]
    · obtain⟨news,av,G⟩:=fk.tc E
      have B:aT (d.M W base okp) d.sz ys news:=av.eM (fun p c hp=>ab p c hp);have aB:∀u∈news,u.oneCell'=true:=by
        intro u hu;obtain⟨q,l,rfl⟩:=List.mem_iff_getElem.1 hu;have aF:q/d.sz<ys.length:=by
          rw[Nat.div_lt_iff_lt_mul D];rw[<-B.1];exact l
        have hc:=B.2 (q/d.sz) _ (List.getElem?_eq_getElem aF);refine d.dW (d.dg hc) _ ?_;rw[List.mem_iff_getElem?];refine⟨q%d.sz,?_⟩;rw[List.getElem?_take,if_pos (Nat.mod_lt _ D),List.getElem?_drop,Nat.mul_comm,Nat.div_add_mod,List.getElem?_eq_getElem l]
      obtain⟨v1,w1,F,h2,w,_,j⟩:=run_append_own_at (P:=P) W base t o.type e i0 z d.sz bytes C hi an ap ar V D v xs.length inner y ad m c news (by rw[B.1,hm]) G aB (by simp only[maxLen];omega) L J;have H:v1.ownBlock=v.ownBlock\/∃b,v1.ownBlock=some b/\W.heap.size<=b:=by
        rcases j with j|j
        · exact .inl j
        · exact .inr ⟨_,j,Nat.le_refl _⟩
      have aP:∀k,some k≠v.ownBlock->k<W.heap.size->some k≠v1.ownBlock:=by
        intro k hk a0;rcases H with j|⟨b,hb,hle⟩
        · rw[j];exact hk
        · rw[hb]
          intro he;injection he with he
          omega
      have step:∀{q:α} {c:List Value} {o:Nat->Prop},d.M W base o q c->(∀k,o k->ok k/\some k≠v.ownBlock)->d.M w1 base (fun k=>ok k/\some k≠v1.ownBlock) q c:=by
        intro q c o l n;have h1:=d.eD (w1:=w1) (fun k hk=>w.block k hk.2.2.1 (n k hk.1).2) (d.eu l);exact d.cG (fun k hk=>⟨(n k hk.1).1,aP k (n k hk.1).2 hk.2.2.1⟩) h1
      refine⟨v1,w1,F,⟨fun k hk=>?_,inner++news,by rw[List.length_append,hm];exact h2,zW (S.eM (fun _ _ l=>step l (fun _ hk=>hk))) (B.eM (fun _ _ l=>step l ag))⟩,w,H⟩;rcases H with j|⟨b,hb,hle⟩
      · exact O k (j▸hk)
      · rw[hb] at hk
        injection hk with hk
        exact ak k (by omega)
  obtain⟨v1,w1,aR,h1,w,j⟩:=F;refine wpList_plain T fun K hK=>?_
  unfold Oper.wp execOp;simp only[n,resolve,invoke,builtin,Sem.run_bind,Sem.run_pure,Result.andThen_ok,List.map_toArray,List.map_cons,List.map_nil,Y,Z,aR];exact hK _ _ (h v1 w1 h1 (HB.grown w J (jM y)) w j)
end
end Kd
theorem bH {w W:World} (h:Below w.heap.size w W):w.heap.size<=W.heap.size:=h.size
theorem aW {w W w2:World} (h:Below w.heap.size w W) (k:Below W.heap.size W w2):Below w.heap.size w w2:=lZ h h.size k
theorem dL {w W:World} {g j:Nat} {v:Value} (h:Below w.heap.size w W) (a:w.heap.size<=g):Below w.heap.size w (W.setCell ⟨g,j,none⟩ v):=h.setCell a _
theorem qp (a:Addr) (i:Nat):(a.add i).block=a.block:=by unfold Addr.add;split<;>rfl
theorem bE {w:World} {g:Nat} {t:TypeId} {cs a:Array Value} (h:w.heap[g]? =some (.cells cs t (0,0))) (i:Nat) (u:Value) (e:cs.setIfInBounds i u=a):(w.setCell ⟨g,i,none⟩ u).heap[g]? =some (.cells a t (0,0)):=e▸bV h i u
theorem bR {base:Nat} {w W:World} (h:Below base w W):Below base w W.drew:=h.drew
namespace Kd
section
variable {α:Type} {d:Kd α} {e base g:Nat} {ok:Nat->Prop} {w w1:World} {v:Value} {xs:List α} {o:Obj}
theorem tB (h:d.R e w base ok v xs) (a:Nat) (b:w.heap.size<=a):d.R e w base (fun k=>ok k/\k≠a) v xs:=a_ (ef h) (fun k hk=>⟨hk.1,by have:=hk.2.2.1;omega⟩)
theorem ma (hb:w.heap[g]? =some o):∀k,w.heap.size<=k->k≠g:=fun k hk=>by have:=aC hb;omega
end
end Kd
section
variable {P:Program} {ops:Array Oper} {rest:List Oper} {o:Oper} {a:Act} {Q:Exit->Act->World->Prop}
theorem zY {W:World} (b:o.guard=none) {N:Tmp} (_hd:o.dst=some N) {cs:Array Value} {t:TypeId}
    (e:(execOp a.eval o).run P W= .ok (.value (.pointer (some ⟨W.heap.size,0,none⟩))) (W.alloc (.cells cs t (0,0))))
    (h:∀g,g=W.heap.size->∀w1,w1.heap[g]? =some (.cells cs t (0,0))->Below W.heap.size W w1->wpList P ops Q rest (a.put o.dst (.pointer (some ⟨g,0,none⟩))) w1):wpList P ops Q (o::rest) a W:=
  Kd.tg b e (h _ rfl _ (zd W _) (ao (Below.refl _ _) _))
theorem Kd.oE {α:Type} (enc:α->Value) (d:α) {h1:∀x:α,(enc x).oneCell'=true} {w0 W:World} (base:Nat) (n:o.guard=none) (s x:Operand) (t e:TypeId) (z:Value) (bytes:Nat)
    (p:o.op= .call {callee:=.builtin .append,args:=#[s,x],argTypes:=#[t,t]})
    (q:P.underlying t=some (.slice e)) (r:(P.info? e).map (fun i=>(i.zero,i.size,i.bytes))=some (some z,1,bytes)) (u:z.cells.size=1) (w:0<bytes)
    (v:Value) (xs ys:List α) (A:Option Addr) (m c:Nat) (ok:Nat->Prop) (y:a.eval s=v) (B:a.eval x= .slice A m c) (D:∀k,W.heap.size<=k->ok k)
    (j:(Kd.scalar enc h1).R e W base ok v xs) (E:(Kd.scalar enc h1).C W A m ys) (F:Below base w0 W) (G:base<=W.heap.size) (H:(xs.length+m)*bytes<=140737488355328)
    (h:∀v1 w1,(Kd.scalar enc h1).R e w1 base ok v1 (xs++ys)->Below base w0 w1->W.grownBy w1 v.ownBlock->(v1.ownBlock=v.ownBlock\/∃b,v1.ownBlock=some b/\W.heap.size<=b)->wpList P ops Q rest (a.put o.dst v1) w1):
    wpList P ops Q (o::rest) a W:=by
  refine zc (w0:=w0) enc d base n s x t e z bytes p q r u w h1 v xs ys A m c y B (Kd.ow j) (Kd.qh (d:=d) E) F G H ?_;intro v1 w1 I hb J l;refine h v1 w1 (Kd.mU I (fun k hk=>?_)) hb J l;rcases l with g|⟨b,g,K⟩
  · exact j.1 k (by rw[<-g];exact hk)
  · rw[g] at hk
    injection hk with hk
    subst hk;exact D _ K
end
namespace Kd
section
variable {α:Type} {enc:α->Value} {h1:∀x,(enc x).oneCell'=true} {e base g n cap:Nat} {ok:Nat->Prop} {W:World} {xs:List α}
theorem bO (d:α) (h:(scalar enc h1).R e W base ok (.slice (some ⟨g,0,none⟩) n cap) xs) (i:Int) (a:0<=i) (hi:i<n):W.cell? ⟨g,i.toNat,none⟩=some (enc (bM d xs i))/\W.frozen? ⟨g,i.toNat,none⟩=false:=by
  obtain⟨rfl,_⟩:=aH h;exact zq d h i a hi
theorem tC (h:(scalar enc h1).R e W base ok (.slice (some ⟨g,0,none⟩) n cap) xs) (i:Int) (x:α):(scalar enc h1).R e (W.setCell ⟨g,i.toNat,none⟩ (enc x)) base ok (.slice (some ⟨g,0,none⟩) n cap) (xs.set i.toNat x):=by
  obtain⟨rfl,_⟩:=aH h;exact(tf h i x).1
end
end Kd
section
variable {P:Program} {ops:Array Oper} {rest:List Oper} {o:Oper} {a:Act} {Q:Exit->Act->World->Prop}
theorem jN {W w1:World} (b:o.guard=none) {t:TypeId} {p:Tmp} {v:Operand} (_ho:o.op= .store t (.tmp p) v) (e:o.dst=none)
    (g:(execOp a.eval o).run P W= .ok .skip w1) (h:∀w',w'=w1->wpList P ops Q rest a w'):wpList P ops Q (o::rest) a W:=by
  refine wpList_plain b fun K i=>?_
  unfold Oper.wp;rw[g];show K (a.put o.dst undef) w1
  rw[e];exact i _ _ (h _ rfl)
end
namespace Kd
section
variable {α:Type} {enc:α->Value} {h1:∀x,(enc x).oneCell'=true} {e base g n cap:Nat} {ok:Nat->Prop} {W:World} {xs:List α}
theorem dh (h:(scalar enc h1).R e W base ok (.slice (some ⟨g,0,none⟩) n cap) xs) (i:Int) (x:α):(scalar enc h1).R e (W.setCell ⟨g,i.toNat,none⟩ (enc x)) base ok (.slice (some ⟨g,0,none⟩) n cap) (xs.set i.toNat x)/\W.grownBy (W.setCell ⟨g,i.toNat,none⟩ (enc x)) (some g):=by
  obtain⟨rfl,_⟩:=aH h;exact tf h i x
end
end Kd
section
variable {P:Program} {ops:Array Oper} {rest:List Oper} {o:Oper} {a:Act} {Q:Exit->Act->World->Prop} {W:World}
theorem aU {N:Tmp} (_hN:o.dst=some N) (h:wpList P ops Q (o::rest) a W):wpList P ops Q (o::rest) a W:=h
theorem jO {t:TypeId} {p:Tmp} {v:Operand} (_ho:o.op= .store t (.tmp p) v) (h:wpList P ops Q (o::rest) a W):wpList P ops Q (o::rest) a W:=h
end
section
variable {P:Program} {ops:Array Oper} {o:Oper} {a:Act} {Q:Exit->Act->World->Prop} {Kc:Act->World->Prop}
theorem zZ {W w1:World} {v:Value} (hw:Region.wanted o (yielded ops a.tmps)=true) (b:(execOp a.eval o).run P W= .ok (.value v) w1) (h:Kc (a.put o.dst v) w1):if Region.wanted o (yielded ops a.tmps)=true then Oper.wp P o a W Kc Q else Kc (a.put o.dst undef) W:=by
  rw[if_pos hw];unfold Oper.wp;rw[b];exact h
namespace Kd
variable {α:Type}
theorem z7 (d:Kd α) {w0 W:World} (base e:Nat) (hw:Region.wanted o (yielded ops a.tmps)=true) {N:Tmp} (_hd:o.dst=some N) {xs:List α} {inner:List Value} {ok okp:Nat->Prop}
    (j:(execOp a.eval o).run P W= .ok (.value (.slice (some ⟨W.heap.size,0,none⟩) xs.length xs.length)) (W.alloc (.cells inner.toArray e)))
    (g:aT (d.M W base okp) d.sz xs inner) (l:∀k,okp k->ok k) (m:ok W.heap.size) (n:Below base w0 W) (i:base<=W.heap.size) (hm:xs.length<=9223372036854775807)
    (h:∀v1 w1,d.R e w1 base ok v1 xs->Below base w0 w1->W.grownBy w1 none->(∃b,v1.ownBlock=some b/\W.heap.size<=b)->Kc (a.put o.dst v1) w1):if Region.wanted o (yielded ops a.tmps)=true then Oper.wp P o a W Kc Q else Kc (a.put o.dst undef) W:=by
  refine zZ hw j (h _ _ ⟨fun k hk=>?_,inner,?_,?_⟩ (n.alloc i _) (World.grownBy_alloc W _ none) ⟨W.heap.size,by simp[Value.ownBlock],Nat.le_refl _⟩)
  · have:W.heap.size=k:=by simpa [Value.ownBlock] using hk
    subst this;exact m
  · have q:=World.ownsRow_lit (base:=base) (e:=e) (size:=d.sz) W inner.toArray xs.length i (by simpa [maxLen] using hm) (by simpa using g.1)
    simpa using q
  · refine g.eM (fun p c hp=>d.cG (fun k hk=>⟨l k hk.1,fun he=>?_⟩) (td (d.eu hp) (ao (Below.refl _ _) _)))
    have r:k=W.heap.size:=by simpa [Value.ownBlock] using he
    have:=hk.2.2.1;omega
end Kd
end
inductive lz (P:Program) (tmps:Array Value) (w:World):List ResultVar->List Value->Prop where
  |nil:lz P tmps w [] []
  |tmp {u:Tmp} {rs:List ResultVar} {a:List Value} (h:lz P tmps w rs a):lz P tmps w (.tmp u::rs) (tmps.getD u undef::a)
  |cell {p:Tmp} {ty:TypeId} {rs:List ResultVar} {a:List Value} (g:Nat) (t:TypeId) (cs:Array Value) (fr:Nat×Nat) (d:TypeDesc)
      (hp:tmps.getD p undef= .pointer (some ⟨g,0,none⟩)) (b:w.heap[g]? =some (.cells cs t fr))
      (hu:P.underlying ty=some d) (hd:(match d with| .struct _| .array _ _=>true|_=>false)=true) (hi:(P.info? ty).map (·.size)=some cs.size)
      (h:lz P tmps w rs a):lz P tmps w (.cell p ty::rs) (.agg cs::a)
section
variable {P:Program} {tmps:Array Value} {w:World}
theorem z_ {rs:List ResultVar} {e:List Value} (i:lz P tmps w rs e) (f:ResultVar->Sem Value) (hf:∀u,f (.tmp u)=pure (tmps.getD u undef)) (j:∀a t,f (.cell a t)=(do loadVar t (<-asAddr (tmps.getD a undef)))):
    (rs.mapM f).run P w= .ok e w:=by
  induction i with
  |nil=>simp
  |tmp h b=>simp[List.mapM_cons,hf,b]
  |cell g t cs fr d hp k hu hd hi h b=>
    rw[List.mapM_cons,j,hp];simp[asAddr,run_loadVar_row w g t _ cs fr d k hu hd hi,b]
theorem tD {fn:Func} {rs:List ResultVar} {b:List Value} (h:fn.results=rs.toArray) (e:b.length≠1) (g:lz P tmps w rs b):(results fn tmps).run P w= .ok (.tuple b.toArray) w:=by
  unfold results;rw[h,List.mapM_toArray];simp only[Sem.run_bind,Sem.run_map];rw[z_ g]
  · simp[e]
  · intro u
    rfl
  · intro a t
    rfl
end
end Go.Proofs.YtffdiakgjakngaaGreatW.PrintWords
end
section
namespace Go.Proofs.YtffdiakgjakngaaGreatW.PrintLast
section
variable {P:Program} {ops:Array Oper} {Q:Exit->Act->World->Prop} {md:Region.Mode} {S:World->Prop} {ds:List Nat}
def Region.iD (md:Region.Mode) (ops:Array Oper) (i:Nat):Nat->Nat->Bool
  |0,_=>false
  |fuel+1,d=>match ops[d]? with
    |some o=>o.after.any fun e=>Region.binds md e&&(e.on==i||Region.iD md ops i fuel e.on)
    |none=>false
def Region.mX (md:Region.Mode) (ops:Array Oper) (a:Array Bool):Bool:=
  (List.range ops.size).all fun j=> !a.getD j false||match ops[j]? with
    |some o=>o.after.all fun e=> !Region.binds md e||a.getD e.on false
    |none=>true
def Region.oF (md:Region.Mode) (ops:Array Oper) (a:Array Bool) (ds:List Nat) (i:Nat):Bool:=
  ds.all fun d=>a.getD d true||Region.iD md ops i ops.size d
def lA (md:Region.Mode) (ops:Array Oper) (a:Array Bool):Prop:=
  ∀j b,ops[j]? =some b->a.getD j false=true->∀e∈b.after,Region.binds md e=true->a.getD e.on false=true
theorem Region.z' {a:Array Bool} (h:Region.mX md ops a=true):lA md ops a:=by
  intro j l b g e he hb;have i:j<ops.size:=(Array.getElem?_eq_some_iff.1 b).1;have h1:=List.all_eq_true.1 h j (List.mem_range.2 i);simp only[g,b,Bool.not_true,Bool.false_or] at h1;have k:=Array.all_eq_true_iff_forall_mem.1 h1 e he;simpa [hb] using k
theorem lA.set {a:Array Bool} {i:Nat} (h:lA md ops a) (hi:i∈Region.ready md ops a):lA md ops (a.setIfInBounds i true):=by
  obtain⟨_,m,n,o⟩:=mem_ready.1 hi;intro j b g k e he hb;by_cases l:i=j
  · subst l
    have:b=m:=Option.some.inj (g.symm.trans n);subst this;exact getD_set_true (o e he hb)
  · rw[getD_set_ne false l] at k
    exact getD_set_true (h j b g k e he hb)
theorem Region.tE {a:Array Bool} {i:Nat} (j:lA md ops a):∀(fuel d:Nat),Region.iD md ops i fuel d=true->a.getD d false=true->a.getD i false=true
  |0,_,h,_=>by simp[Region.iD] at h
  |fuel+1,d,h,k=>by
    unfold Region.iD at h;cases b:ops[d]? with
    |none=>rw[b] at h;simp at h
    |some o=>
      rw[b] at h;obtain⟨e,he,h1⟩:=Array.any_eq_true'.1 h;simp only[Bool.and_eq_true,Bool.or_eq_true,beq_iff_eq] at h1;have hle:=j d o b k e he h1.1;rcases h1.2 with g|g
      · rw[<-g];exact hle
      · exact Region.tE j fuel e.on g hle
theorem Region.Ab {a:Array Bool} {i d fuel:Nat} (k:lA md ops a) (b:Region.iD md ops i fuel d=true) (g:a.getD i true=false):d∉Region.ready md ops a:=by
  intro hd;obtain⟨_,o,l,m⟩:=mem_ready.1 hd;have hi:a.getD i false=true:=by
    cases fuel with
    |zero=>simp[Region.iD] at b
    |succ n=>
      unfold Region.iD at b;rw[l] at b;obtain⟨e,he,h1⟩:=Array.any_eq_true'.1 b;simp only[Bool.and_eq_true,Bool.or_eq_true,beq_iff_eq] at h1;have hle:=m e he h1.1;rcases h1.2 with h|h
      · rw[<-h];exact hle
      · exact Region.tE k n e.on h hle
  rcases Nat.lt_or_ge i a.size with j|j
  · simp[j] at g hi
    rw[g] at hi;cases hi
  · simp[Array.getElem?_eq_none j] at g
def da (P:Program) (md:Region.Mode) (ops:Array Oper) (Q:Exit->Act->World->Prop) (S:World->Prop) (ds:List Nat):Nat->Array Bool->Act->World->Prop
  |0,b,a,w=>Region.ready md ops b=[]/\Q .normal a w
  |fuel+1,b,a,w=>
    (Region.ready md ops b=[]->Q .normal a w)/\
    ∀i∈Region.ready md ops b,wpOp P ops Q i (fun a' w'=>(i∉ds->S w->S w')/\da P md ops Q S ds fuel (b.setIfInBounds i true) a' w') a w
theorem tF:∀(fuel:Nat) (b:Array Bool) (a:Act) (w:World),da P md ops Q S ds fuel b a w->wpAny P md ops Q fuel b a w
  |0,_,_,_,h=>h
  |fuel+1,_,_,_,h=>⟨h.1,fun i hi=>wpOp_mono (fun a' w' e=>tF fuel _ a' w' e.2) (h.2 i hi)⟩
theorem Af {i:Nat} {m:Oper} {v:Value} (hi:ops[i]? =some m) (E:∀(j:Nat) (o:Oper) cs b,ops[j]? =some o->o.op≠ .select cs b)
    (I:∀c a w,Q (.panic c) (a.put m.dst v) w->Q (.panic c) a w) (n:Nat):
    ∀(fuel:Nat) (g:Array Bool) (a:Act) (w:World),
      (∀j p,ops[j]? =some p->j≠i->g.getD j true=false->(∀e∈p.after,Region.binds md e=true->e.on≠i)->m.apart ops p=true)->
      lA md ops g->(∀d∈ds,g.getD d true=false->Region.iD md ops i n d=true)->
      i∈Region.ready md ops g->YieldsIf P ops S m v a->S w->
      da P md ops Q S ds fuel (g.setIfInBounds i true) (a.put m.dst v) w->da P md ops Q S ds (fuel+1) g a w:=by
  intro fuel;induction fuel with
  |zero=>
    intro g a w _ _ _ q x hS H;refine⟨fun h=>(by rw[h] at q;cases q),fun j r=>?_⟩;by_cases l:j=i
    · subst l;exact x.wpOp hi hS ⟨fun _ h=>h,H⟩
    · have:=ready_mono r l
      rw[H.1] at this;cases this
  |succ fuel J=>
    intro g a w F G hd q x hS H;refine⟨fun h=>(by rw[h] at q;cases q),fun j r=>?_⟩;by_cases l:j=i
    · subst l;exact x.wpOp hi hS ⟨fun _ h=>h,H⟩
    · have h1:=H.2 j (ready_mono r l)
      obtain⟨y,p,B,K⟩:=mem_ready.1 r;have C:=(mem_ready.1 q).1;have L:∀e∈p.after,Region.binds md e=true->e.on≠i:=fun e he hb heq=>by
        have h1:=K e he hb;rw[heq] at h1;rcases Nat.lt_or_ge i g.size with D|D
        · simp[D] at C h1;rw[C] at h1;cases h1
        · simp[Array.getElem?_eq_none D] at h1
      have M:j∉ds:=fun hm=>Region.Ab G (hd j hm y) C r
      have N:=wpOp_putIf B (F j p B l y L) (fun cs b=>E i m cs b hi) (fun cs b=>E j p cs b B) I x h1;have O:∀k ok,ops[k]? =some ok->k≠i->(g.setIfInBounds j true).getD k true=false->
          (∀e∈ok.after,Region.binds md e=true->e.on≠i)->m.apart ops ok=true:=fun k ok hk R s T=>by
        refine F k ok hk R ?_ T;by_cases u:j=k
        · subst u;exact y
        · rw[getD_set_ne true u] at s;exact s
      have U:∀d∈ds,(g.setIfInBounds j true).getD d true=false->Region.iD md ops i n d=true:=fun d hm s=>by
        refine hd d hm ?_;by_cases u:j=d
        · subst u;exact y
        · rw[getD_set_ne true u] at s;exact s
      refine wpOp_mono (fun a' w' z=>⟨z.2.1,J (g.setIfInBounds j true) a' w' O (G.set r) U (ready_mono q (Ne.symm l)) z.1 (z.2.1 M hS) ?_⟩) N;rw[Array.setIfInBounds_comm _ _ l];exact z.2.2
theorem Ag {i:Nat} {m:Oper} {v:Value} (hi:ops[i]? =some m) (y:∀(j:Nat) (o:Oper) cs b,ops[j]? =some o->o.op≠ .select cs b)
    (F:∀c a w,Q (.panic c) (a.put m.dst v) w->Q (.panic c) a w):
    ∀(fuel:Nat) (g:Array Bool) (a:Act) (w:World),
      (∀j n,ops[j]? =some n->j≠i->g.getD j true=false->(∀e∈n.after,Region.binds md e=true->e.on≠i)->m.apart ops n=true)->
      i∈Region.ready md ops g->Yields P ops m v a->
      da P md ops Q S ds fuel (g.setIfInBounds i true) (a.put m.dst v) w->da P md ops Q S ds (fuel+1) g a w:=by
  intro fuel;induction fuel with
  |zero=>
    intro g a w _ p q H;refine⟨fun h=>(by rw[h] at p;cases p),fun j r=>?_⟩;by_cases l:j=i
    · subst l;exact(q.yieldsIf (S:=fun _=>True)).wpOp hi trivial ⟨fun _ h=>h,H⟩
    · have:=ready_mono r l
      rw[H.1] at this;cases this
  |succ fuel G=>
    intro g a w z p q H;refine⟨fun h=>(by rw[h] at p;cases p),fun j r=>?_⟩;by_cases l:j=i
    · subst l;exact(q.yieldsIf (S:=fun _=>True)).wpOp hi trivial ⟨fun _ h=>h,H⟩
    · have h1:=H.2 j (ready_mono r l)
      obtain⟨B,n,s,I⟩:=mem_ready.1 r;have C:=(mem_ready.1 p).1;have J:∀e∈n.after,Region.binds md e=true->e.on≠i:=fun e he hb heq=>by
        have h1:=I e he hb;rw[heq] at h1;rcases Nat.lt_or_ge i g.size with u|u
        · simp[u] at C h1;rw[C] at h1;cases h1
        · simp[Array.getElem?_eq_none u] at h1
      have K:=wpOp_put s (z j n s l B J) (fun cs b=>y i m cs b hi) (fun cs b=>y j n cs b s) F q h1;have L:∀k ok,ops[k]? =some ok->k≠i->(g.setIfInBounds j true).getD k true=false->
          (∀e∈ok.after,Region.binds md e=true->e.on≠i)->m.apart ops ok=true:=fun k ok hk M D N=>by
        refine z k ok hk M ?_ N;by_cases E:j=k
        · subst E;exact B
        · rw[getD_set_ne true E] at D;exact D
      refine wpOp_mono (fun a' w' x=>⟨x.2.1,G (g.setIfInBounds j true) a' w' L (ready_mono p (Ne.symm l)) x.1 ?_⟩) K;rw[Array.setIfInBounds_comm _ _ l];exact x.2.2
theorem Ah {i:Nat} {e:Oper} {v:Value} {fuel:Nat} {b:Array Bool} {a:Act} {w:World} (hi:ops[i]? =some e)
    (g:Region.noSelect ops=true) (hf:Region.free md ops b i=true) (j:(Region.ready md ops b).contains i=true)
    (k:Region.mX md ops b=true) (l:Region.oF md ops b ds i=true)
    (m:∀c a w,Q (.panic c) (a.put e.dst v) w->Q (.panic c) a w) (n:YieldsIf P ops S e v a) (hS:S w)
    (h:da P md ops Q S ds fuel (b.setIfInBounds i true) (a.put e.dst v) w):da P md ops Q S ds (fuel+1) b a w:=
  Af hi (Region.noSelect_spec g) m ops.size fuel b a w (Region.free_spec hi hf) (Region.z' k)
    (fun d hm o=>by have:=List.all_eq_true.1 l d hm;rw[o] at this;simpa using this) (by simpa using j) n hS h
theorem Ai {rs:List Nat} {fuel:Nat} {b:Array Bool} {a:Act} {w:World} (e:Region.ready md ops b=rs) (g:rs≠[])
    (h:∀i∈rs,wpOp P ops Q i (fun a' w'=>(i∉ds->S w->S w')/\da P md ops Q S ds fuel (b.setIfInBounds i true) a' w') a w):da P md ops Q S ds (fuel+1) b a w:=
  ⟨fun j=>absurd (e▸j) g,e▸h⟩
theorem Ak {b:Array Bool} {a:Act} {w:World} (e:Region.ready md ops b=[]) (h:Q .normal a w):
    ∀fuel,da P md ops Q S ds fuel b a w
  |0=>⟨e,h⟩
  |_+1=>⟨fun _=>h,by rw[e];simp⟩
theorem Am {id:Nat} {a:Act} {w:World} (hm:P.follows .mixedOrders=true)
    (h:da P .any ops Q S ds ops.size (Array.replicate ops.size false) a {w with drawn:=w.drawn+1}):(Code.region id ops true).wp P Q a w:=
  wp_region_any hm (tF _ _ _ _ h)
end
section
variable {P:Program} {ops:Array Oper} {Q:Exit->Act->World->Prop} {md:Region.Mode} {S:World->Prop} {ds:List Nat}
def hZ (P:Program) (md:Region.Mode) (ops:Array Oper) (Q:Exit->Act->World->Prop) (S:World->Prop) (ds:List Nat) (fuel:Nat) (b:Array Bool) (a:Act) (w:World) (rs:List Nat):Prop:=
  ∀i∈rs,wpOp P ops Q i (fun a' w'=>(i∉ds->S w->S w')/\da P md ops Q S ds fuel (b.setIfInBounds i true) a' w') a w
theorem hZ.nil {fuel:Nat} {b:Array Bool} {a:Act} {w:World}:hZ P md ops Q S ds fuel b a w []:=fun _ h=>by cases h
theorem hZ.cons {fuel:Nat} {e:Array Bool} {a:Act} {w:World} {i:Nat} {o:Oper} {rs:List Nat} (k:ops[i]? =some o) (hd:i∉ds)
    (h:∀b:Act->World->Prop,Shut (∀a w,S w->(S w->da P md ops Q S ds fuel (e.setIfInBounds i true) a w)->b a w)->if Region.wanted o (yielded ops a.tmps)=true then Oper.wp P o a w b Q else b (a.put o.dst undef) w)
    (l:hZ P md ops Q S ds fuel e a w rs):hZ P md ops Q S ds fuel e a w (i::rs):=fun j g=>by
  rcases List.mem_cons.1 g with rfl|g
  · exact wpOp_step k (fun b m=>h b (fun a w hS n=>m a w ⟨fun _ _=>hS,n hS⟩))
  · exact l j g
theorem hZ.Aq {fuel:Nat} {e:Array Bool} {a:Act} {w:World} {i:Nat} {o:Oper} {rs:List Nat} (k:ops[i]? =some o) (hd:i∈ds)
    (h:∀b:Act->World->Prop,Shut (∀a w,da P md ops Q S ds fuel (e.setIfInBounds i true) a w->b a w)->if Region.wanted o (yielded ops a.tmps)=true then Oper.wp P o a w b Q else b (a.put o.dst undef) w)
    (l:hZ P md ops Q S ds fuel e a w rs):hZ P md ops Q S ds fuel e a w (i::rs):=fun j g=>by
  rcases List.mem_cons.1 g with rfl|g
  · exact wpOp_step k (fun b m=>h b (fun a w n=>m a w ⟨fun hn=>absurd hd hn,n⟩))
  · exact l j g
theorem tG {rs:List Nat} {fuel:Nat} {b:Array Bool} {a:Act} {w:World} (e:Region.ready md ops b=rs) (g:rs≠[])
    (h:hZ P md ops Q S ds fuel b a w rs):da P md ops Q S ds (fuel+1) b a w:=Ai e g h
theorem qq {id n:Nat} {a:Act} {w:World} (l:Array Bool) (hm:P.follows .mixedOrders=true) (hn:ops.size=n) (b:Array.replicate n false=l) (hS:S w.drew)
    (h:S w.drew->da P .any ops Q S ds n l a w.drew):(Code.region id ops true).wp P Q a w:=by
  subst hn;subst b;exact Am hm (h hS)
def mY (md:Region.Mode) (ops:Array Oper) (ds:List Nat) (l l':Array Bool) (i:Nat):Bool:=
  Region.noSelect ops&&Region.free md ops l i&&(Region.ready md ops l).contains i&&Region.mX md ops l&&Region.oF md ops l ds i&&(l.setIfInBounds i true==l')
theorem kz {i:Nat} {N:Option Tmp} {b:Oper} {v:Value} {fuel:Nat} {l:Array Bool} {a:Act} {w:World} (l':Array Bool) (hi:ops[i]? =some b) (g:b.dst=N) (e:mY md ops ds l l' i=true)
    (j:∀c a w,Q (.panic c) (a.put b.dst v) w->Q (.panic c) a w) (k:YieldsIf P ops S b v a) (hS:S w) {a':Act} (m:a.put N v=a')
    (h:da P md ops Q S ds fuel l' a' w):da P md ops Q S ds (fuel+1) l a w:=by
  subst m;subst g;simp only[mY,Bool.and_eq_true,beq_iff_eq] at e;obtain⟨⟨⟨⟨⟨h1,n⟩,o⟩,p⟩,q⟩,r⟩:=e;subst r;exact Ah hi h1 n o p q j k hS h
def oG (md:Region.Mode) (ops:Array Oper) (l l':Array Bool) (i:Nat):Bool:=
  Region.noSelect ops&&Region.free md ops l i&&(Region.ready md ops l).contains i&&(l.setIfInBounds i true==l')
theorem As {i:Nat} {N:Option Tmp} {b:Oper} {v:Value} {fuel:Nat} {l:Array Bool} {a:Act} {w:World} (l':Array Bool) (hi:ops[i]? =some b) (g:b.dst=N) (e:oG md ops l l' i=true)
    (j:∀c a w,Q (.panic c) (a.put b.dst v) w->Q (.panic c) a w) (k:Yields P ops b v a) {a':Act} (m:a.put N v=a')
    (h:da P md ops Q S ds fuel l' a' w):da P md ops Q S ds (fuel+1) l a w:=by
  subst m;subst g;simp only[oG,Bool.and_eq_true,beq_iff_eq] at e;obtain⟨⟨⟨h1,n⟩,o⟩,p⟩:=e;subst p;exact Ag hi (Region.noSelect_spec h1) j fuel l a w (Region.free_spec hi n) (by simpa using o) k h
def mc (md:Region.Mode) (ops:Array Oper) (l l':Array Bool) (i:Nat):Bool:=(Region.ready md ops l==[i])&&(l.setIfInBounds i true==l')
theorem me {i:Nat} {N:Option Tmp} {b:Oper} {fuel:Nat} {l:Array Bool} {a:Act} {w:World} (l':Array Bool) (hi:ops[i]? =some b) (g:b.dst=N) (e:mc md ops l l' i=true) (hd:i∉ds)
    (h:∀K:Act->World->Prop,Shut (∀a' w',S w'->(S w'->da P md ops Q S ds fuel l' a' w')->K a' w')->if Region.wanted b (yielded ops a.tmps)=true then Oper.wp P b a w K Q else K (a.put N undef) w):
    da P md ops Q S ds (fuel+1) l a w:=by
  subst g;simp only[mc,Bool.and_eq_true,beq_iff_eq] at e;obtain⟨h1,j⟩:=e;subst j;exact tG h1 (by simp) (hZ.cons hi hd (fun K k=>h K k) hZ.nil)
theorem tH {i:Nat} {N:Option Tmp} {b:Oper} {fuel:Nat} {l:Array Bool} {a:Act} {w:World} (l':Array Bool) (hi:ops[i]? =some b) (g:b.dst=N) (e:mc md ops l l' i=true) (hd:i∈ds)
    (h:∀K:Act->World->Prop,Shut (∀a' w',da P md ops Q S ds fuel l' a' w'->K a' w')->if Region.wanted b (yielded ops a.tmps)=true then Oper.wp P b a w K Q else K (a.put N undef) w):
    da P md ops Q S ds (fuel+1) l a w:=by
  subst g;simp only[mc,Bool.and_eq_true,beq_iff_eq] at e;obtain⟨h1,j⟩:=e;subst j;exact tG h1 (by simp) (hZ.Aq hi hd (fun K k=>h K k) hZ.nil)
theorem qt {l:Array Bool} {a:Act} {w:World} {n:Nat} (b:(Region.ready md ops l==[])=true) (h:Q .normal a w):da P md ops Q S ds n l a w:=Ak (by simpa using b) h n
theorem mf {fuel:Nat} {l:Array Bool} {a a':Act} {w:World} (b:a=a') (h:da P md ops Q S ds fuel l a' w):da P md ops Q S ds fuel l a w:=by
  subst b;exact h
theorem Au {b:Oper} {N:Option Tmp} {a:Act} {w:World} {K:Act->World->Prop} (f:FuncId) (args:Array Value) (hw:Region.wanted b (yielded ops a.tmps)=true) (g:b.dst=N) (i:(execOp a.eval b).run P w= .ok (.enter f args) w)
    (h:Calls P f args w fun e w'=>∃v,e= .returned v/\K (a.put N v) w'):if Region.wanted b (yielded ops a.tmps)=true then Oper.wp P b a w K Q else K (a.put N undef) w:=by
  rw[if_pos hw];subst g;unfold Oper.wp;rw[i,Oper.upon_enter];refine h.mono fun e k j=>?_
  obtain⟨v,rfl,hk⟩:=j;exact hk
theorem tI {f:FuncId} {fn:Func} (hf:P.funcs[f]? =some fn) (a:(fn.name== "runtime.NumGoroutine")=false) (hb:fn.body.isSome=true) (args:Array Value) (w:World):(callFunc f args).run P w= .ok (.enter f args) w:=by
  have h1:fn.name≠ "runtime.NumGoroutine":=by simpa using a
  obtain⟨c,b⟩:=Option.isSome_iff_exists.1 hb;simp[callFunc,hf,h1,b]
theorem mZ {b:Oper} {N:Option Tmp} {a:Act} {w:World} {K:Act->World->Prop} {f:FuncId} {fn:Func} {g:Array Operand} {i:Array TypeId} (hf:P.funcs[f]? =some fn) (j:(fn.name== "runtime.NumGoroutine")=false) (hb:fn.body.isSome=true) (args:Array Value)
    (hw:Region.wanted b (yielded ops a.tmps)=true) (k:b.dst=N) (l:b.op= .call {callee:=.value (.func f),args:=g,argTypes:=i}) (m:g.map a.eval=args)
    (h:Calls P f args w fun e w'=>∃v,e= .returned v/\K (a.put N v) w'):if Region.wanted b (yielded ops a.tmps)=true then Oper.wp P b a w K Q else K (a.put N undef) w:=by
  refine Au f args hw k ?_ h;have he:=tI hf j hb args w;unfold execOp;simp[l,resolve,Deferred.ofValue,invoke,Act.eval,m,he]
theorem tJ {rest:List Oper} {b:Oper} {a:Act} {w:World} (N:Option Tmp) (hd:b.dst=N) (i:b.guard=none) {f:FuncId} {fn:Func} {g:Array Operand} {j:Array TypeId} (hf:P.funcs[f]? =some fn) (k:(fn.name== "runtime.NumGoroutine")=false) (hb:fn.body.isSome=true) (args:Array Value)
    (l:b.op= .call {callee:=.value (.func f),args:=g,argTypes:=j}) (m:g.map a.eval=args)
    (h:Calls P f args w fun e w'=>∃v,e= .returned v/\wpList P ops Q rest (a.put N v) w'):wpList P ops Q (b::rest) a w:=by
  refine wpList_plain i fun K n=>?_
  have he:=tI hf k hb args w;have o:(execOp a.eval b).run P w= .ok (.enter f args) w:=by
    unfold execOp;simp[l,resolve,Deferred.ofValue,invoke,Act.eval,m,he]
  unfold Oper.wp;rw[o,Oper.upon_enter];refine h.mono fun e q p=>?_
  obtain⟨v,rfl,hk⟩:=p;subst hd;exact n _ _ hk
theorem tK {b:Oper} {a:Act} {w w1:World} {K:Act->World->Prop} (hw:Region.wanted b (yielded ops a.tmps)=true) (e:b.dst=none) (g:(execOp a.eval b).run P w= .ok .skip w1)
    (h:K a w1):if Region.wanted b (yielded ops a.tmps)=true then Oper.wp P b a w K Q else K (a.put none undef) w:=by
  rw[if_pos hw];unfold Oper.wp;rw[g];show K (a.put b.dst undef) w1
  rw[e];exact h
theorem cH (n:Int):IntKind.i64.wrap n=Go.RowKit.wrap64 n:=by unfold Go.RowKit.wrap64;exact IntKind.wrap_i64 n
theorem cP (n:Int):IntKind.i32.wrap n=Go.RowKit.wrap32 n:=by unfold Go.RowKit.wrap32;exact IntKind.wrap_i32 n
end
end Go.Proofs.YtffdiakgjakngaaGreatW.PrintLast
end
section
namespace Go.Proofs.YtffdiakgjakngaaGreatW.PrintWords
open Go.RowKit
namespace Kd
section
variable {α:Type} {d:Kd α} {e base g o n cap:Nat} {ok okp:Nat->Prop} {w W:World} {v:Value} {xs:List α}
theorem Aw (h:d.Q e w base ok v xs) (hp:0<xs.length):∃g o cap,v= .slice (some ⟨g,o,none⟩) xs.length cap/\base<=g/\g<w.heap.size/\∃cells,w.heap[g]? =some (.cells cells e (0,0)):=by
  obtain⟨i,inner,b,j⟩:=h;rcases b.2 with⟨h1,_⟩|⟨g,off,cap,cur,rfl,hb,a,r⟩
  · omega
  · exact⟨g,off*d.sz,cap,rfl,hb,aC a,cur,a⟩
theorem Ay (h:d.Q e W base ok (.slice (some ⟨g,o,none⟩) n cap) xs) (z:α) (i:Int) (q:0<=i) (h1:i<n):
    ∃c,c.length=d.sz/\d.M W base (fun k=>ok k/\k≠g) (xs.getD i.toNat z) c/\(∀j u,c[j]? =some u->W.cell? ⟨g,o+i.toNat*d.sz+j,none⟩=some u)/\∀j,W.frozen? ⟨g,o+i.toNat*d.sz+j,none⟩=false:=by
  obtain⟨hn,r,hC⟩:=tt h;obtain⟨_,inner,l,m⟩:=h;have a:i.toNat<xs.length:=by omega
  have s:i.toNat*d.sz+d.sz<=inner.length:=by rw[m.1,<-Nat.succ_mul];exact Nat.mul_le_mul_right _ a
  have p:=m.2 i.toNat _ (List.getElem?_eq_getElem a);refine⟨(inner.drop (i.toNat*d.sz)).take d.sz,by rw[List.length_take,List.length_drop];omega,?_,fun j u hu=>?_,fun j=>?_⟩
  · rw[List.getD_eq_getElem?_getD,List.getElem?_eq_getElem a]
    exact d.cG (fun k hk=>⟨hk.1,fun he=>hk.2 (by rw[he];simp[Value.ownBlock])⟩) p
  · rw[List.getElem?_take] at hu
    split at hu
    · rw[List.getElem?_drop] at hu
      subst hn;obtain⟨ad,he,b⟩:=tl l (by omega);injection he with he
      subst he;have:=b _ u hu;rwa [iC,<-Nat.add_assoc] at this
    · cases hu
  · obtain⟨_,cells,b⟩:=lx l g (by simp[Value.ownBlock])
    exact bF b _
end
section
variable {α:Type} {enc:α->Value} {h1:∀x,(enc x).oneCell'=true} {e base g o n cap:Nat} {ok:Nat->Prop} {W:World} {xs:List α}
theorem Az (d:α) (h:(scalar enc h1).Q e W base ok (.slice (some ⟨g,o,none⟩) n cap) xs) (i:Int) (j:0<=i) (hi:i<n):W.cell? ⟨g,o+i.toNat,none⟩=some (enc (bM d xs i))/\W.frozen? ⟨g,o+i.toNat,none⟩=false:=by
  obtain⟨c,_,k,l,hf⟩:=Ay h d i j hi;have m:c=[enc (xs.getD i.toNat d)]:=k;subst m;have a:=l 0 _ rfl;have b:=hf 0;rw[show (scalar enc h1).sz=1 from rfl,Nat.mul_one,Nat.add_zero] at a b;exact⟨a,b⟩
end
end Kd
end Go.Proofs.YtffdiakgjakngaaGreatW.PrintWords
end
section
namespace Go.Proofs.YtffdiakgjakngaaGreatW.PrintWords
open Go.RowKit
namespace Kd
def tag {α:Type} (f:Nat->Nat) (d:Kd α):Kd (α×Nat) where
  sz:=d.sz
  E:=d.E
  K:=fun w x cs=>d.K w x.1 cs
  M:=fun w base ok x cs=>d.M w base (fun k=>ok k/\f k=x.2) x.1 cs
  dV:=fun h=>d.dV h
  dW:=fun h=>d.dW h
  g_:=fun hb h=>d.g_ hb h
  dg:=fun h=>d.dg h
  cG:=fun a h=>d.cG (fun k hk=>⟨a k hk.1,hk.2⟩) h
  eu:=fun h=>d.cG (fun _ hk=>⟨⟨hk.1.1,hk.2⟩,hk.1.2⟩) (d.eu h)
  eD:=fun hm h=>d.eD (fun k hk=>hm k hk.1) h
  hU:=fun hb h=>d.hU hb h
def raw (sz:Nat):Kd (List Value) where
  sz:=sz
  E:=[]
  K:=fun _ x cs=>cs=x/\cs.length=sz/\∀u∈cs,u.oneCell'=true
  M:=fun _ _ _ x cs=>cs=x/\cs.length=sz/\∀u∈cs,u.oneCell'=true
  dV:=fun h=>h.2.1
  dW:=fun h=>h.2.2
  g_:=fun _ h=>h
  dg:=fun h=>h
  cG:=fun _ h=>h
  eu:=fun h=>h
  eD:=fun _ h=>h
  hU:=fun _ h=>h
def S {α:Type} (d:Kd α) (e:Nat) (w:World) (base:Nat) (ok:Nat->Prop) (v:Value) (xs:List α):Prop:=∃f,(tag f d).R e w base ok v xs.zipIdx
section
variable {α β:Type} {d:Kd α} {d':Kd β} {e e':Nat} {w w1 W:World} {base b:Nat} {ok ok' okv oku:Nat->Prop} {u v:Value} {xs:List α} {ys:List β}
theorem kA {xs:List α} {j:Nat} {p:α} (h:xs[j]? =some p):xs.zipIdx[j]? =some (p,j):=by rw[List.getElem?_zipIdx,h,Nat.zero_add];rfl
theorem lB (h:S d e w base ok v xs):d.R e w base ok v xs:=by
  obtain⟨f,g,inner,a,b⟩:=h;rw[List.length_zipIdx] at a;exact⟨g,inner,a,by have:=b.1;rw[List.length_zipIdx] at this;exact this,fun j p i=>d.cG (fun _ hk=>hk.1) (b.2 j (p,j) (kA i))⟩
theorem mg {ad:Addr} {n cap:Nat} (h:d.R e w base ok (.slice (some ad) n cap) xs):∃g,ad=⟨g,0,none⟩:=by
  obtain⟨_,inner,i,j⟩:=h;rcases i.2 with⟨a,_⟩|⟨g,k,cur,a,_⟩
  · cases a
  · injection a with b _ _
    injection b with b
    exact⟨g,b⟩
theorem ia (b:d.E=[]) (h:d.R e w base ok v xs):d.R e w base (fun k=>some k=v.ownBlock) v xs:=by
  obtain⟨j,inner,g,i⟩:=h;refine⟨fun k hk=>hk.symm,inner,g,i.eM (fun p c hp=>d.cG (fun k hk=>?_) (d.eu hp))⟩;obtain⟨_,_,_,q,a,_⟩:=hk;rw[b] at a;cases a
theorem ic (d:Kd α) (e:Nat) (w:World) (base:Nat) (ok:Nat->Prop):S d e w base ok (.slice none 0 0) []:=⟨fun _=>0,dm _ _ _ _ _⟩
theorem lC (h:S d e w base ok v xs) (a:∀k,ok k->ok' k):S d e w base ok' v xs:=by
  obtain⟨f,h⟩:=h;exact⟨f,a_ h a⟩
theorem m_ (h:S d e w base ok v xs):S d e w base (fun k=>ok k/\base<=k/\k<w.heap.size/\∃q,q∈e::d.E/\∃cells,w.heap[k]? =some (.cells cells q (0,0))) v xs:=by
  obtain⟨f,h⟩:=h;exact⟨f,ef h⟩
theorem AA (h:S d e w base ok v xs) (hm:∀k,ok k->w1.heap[k]? =w.heap[k]?):S d e w1 base ok v xs:=by
  obtain⟨f,h⟩:=h;exact⟨f,fC h hm⟩
theorem qu (h:S d e w base ok v xs) (hm:∀k,ok k->k<w.heap.size->w1.heap[k]? =w.heap[k]?):S d e w1 base ok v xs:=
  lC (AA (m_ h) (fun k hk=>hm k hk.1 hk.2.2.1)) (fun _ hk=>hk.1)
theorem oH (h:S d e w base ok v xs) (hb:Below w.heap.size w w1):S d e w1 base ok v xs:=qu h (fun k _ hk=>hb.block k hk)
theorem qw (h:S d e w base ok v xs) (o:Obj):S d e (w.alloc o) base ok v xs:=oH h (ao (Below.refl _ _) o)
theorem tL (h:S d e w base ok v xs):S d e w.drew base ok v xs:=oH h (iA (Below.refl _ _))
theorem AB (h:S d e w base ok v xs) (m:Nat):S d e (w.drewN m) base ok v xs:=oH h (bN (Below.refl _ _) m)
theorem tM (h:S d e w base ok v xs) {row:Option Nat} (a:w.grownBy w1 row) (b:∀k,ok k->some k≠row):S d e w1 base ok v xs:=qu h (fun k g hk=>a.block k hk (b k g))
theorem AD (h:S d e w base ok v xs) {p:Addr} (a:∀k,ok k->k≠p.block) (u:Value):S d e (w.setCell p u) base ok v xs:=qu h (fun k b _=>Below.heap_setCell w p u k (a k b))
theorem AE (h:S d e w base ok v xs) {g t:Nat} {cells:Array Value} (hb:w.heap[g]? =some (.cells cells t (0,0))) (a:∀q,q∈e::d.E->q≠t):S d e w base (fun k=>ok k/\k≠g) v xs:=by
  obtain⟨f,h⟩:=h;exact⟨f,gM h hb a⟩
theorem qy (h:S d e w base ok v xs) {g t:Nat} {cells:Array Value} (hb:w.heap[g]? =some (.cells cells t (0,0))) (a:∀q,q∈e::d.E->q≠t) (j:Nat) (u:Value):S d e (w.setCell ⟨g,j,none⟩ u) base ok v xs:=
  lC (AD (p:=⟨g,j,none⟩) (AE h hb a) (fun _ hk=>hk.2) u) (fun _ hk=>hk.1)
theorem oI (h:S d e w base ok v xs):∀k,v.ownBlock=some k->∃cells,w.heap[k]? =some (.cells cells e (0,0)):=gN (lB h)
theorem AF (h:S d e w base ok v xs):∀k,v.ownBlock=some k->k<w.heap.size:=ba (lB h)
theorem AG {f a:Nat->Nat} {zs:List (α×Nat)} (h:(tag f d).R e w base ok v zs) (hf:∀k,ok k->k<w.heap.size->a k=f k):(tag a d).R e w base ok v zs:=by
  obtain⟨g,inner,i,b⟩:=ef h;exact⟨fun k hk=>(g k hk).1,inner,i,b.1,fun j p l=>d.cG (fun k hk=>⟨⟨hk.1.1.1,hk.1.2⟩,(hf k hk.1.1.1 hk.1.1.2.2.1).trans hk.2⟩) (b.2 j p l)⟩
end
section
variable {α β:Type} {d:Kd α} {d':Kd β} {e e' g:Nat} {w w1 W:World} {base b:Nat} {ok ok' okv oku:Nat->Prop} {u v:Value} {xs:List α} {ys:List β}
theorem AH (h:S d e w base ok v xs) {t:Nat} {cells:Array Value} (hb:w.heap[g]? =some (.cells cells t (0,0))) (a:e≠t):some g≠v.ownBlock:=dr (lB h) hb a
theorem qz (h:S d e w base ok v xs) (hp:0<xs.length):∃g cap,v= .slice (some ⟨g,0,none⟩) xs.length cap/\base<=g/\g<w.heap.size/\∃cells,w.heap[g]? =some (.cells cells e (0,0)):=fE (lB h) hp
theorem mh (h:S d e w base ok v xs):∃A c,v= .slice A xs.length c:=bh (lB h)
theorem tN (xs:List α) (p:α):(xs++[p]).zipIdx=xs.zipIdx++[(p,xs.length)]:=by rw[List.zipIdx_append];simp
end
section
open Classical in
theorem tO {α:Type} {d:Kd α} {e base:Nat} {okv:Nat->Prop} {w:World} {v:Value} {xs:List α} (h:S d e w base okv v xs) (m:Nat) (okp:Nat->Prop) (a:∀k,okp k->¬okv k):∃f,(∀k,okp k->f k=m)/\(tag f d).R e w base okv v xs.zipIdx:=by
  obtain⟨f,h⟩:=h;exact⟨fun k=>if okp k then m else f k,fun k hk=>if_pos hk,AG h (fun k hk _=>if_neg (fun b=>a k b hk))⟩
variable {P:Program} {ops:Array Oper} {rest:List Oper} {o:Oper} {a:Act} {Q:Exit->Act->World->Prop} {Kc:Act->World->Prop} {α:Type}
theorem AI (d:Kd α) {w0 W:World} (base:Nat) (j:o.guard=none) (s x:Operand) (t e:TypeId) (z:Value) (bytes:Nat)
    (l:o.op= .call {callee:=.builtin .append,args:=#[s,x],argTypes:=#[t,t]})
    (m:P.underlying t=some (.slice e)) (n:(P.info? e).map (fun i=>(i.zero,i.size,i.bytes))=some (some z,d.sz,bytes)) (q:z.cells.size=d.sz) (r:0<d.sz) (u:0<bytes)
    (v:Value) (xs:List α) (p:α) (cs:List Value) (ok okp:Nat->Prop) (w:a.eval s=v) (y:a.eval x= .slice (some ⟨W.heap.size,0,none⟩) 1 1) (hp:d.M W base okp p cs) (B:∀k,okp k->ok k/\some k≠v.ownBlock) (C:∀k,W.heap.size<=k->ok k)
    (D:S d e W base (fun k=>ok k/\¬okp k) v xs) (E:Below base w0 W) (F:base<=W.heap.size) (G:(xs.length+1)*bytes<=140737488355328)
    (h:∀v1 w1,S d e w1 base ok v1 (xs++[p])->Below base w0 w1->W.grownBy w1 v.ownBlock->(v1.ownBlock=v.ownBlock\/∃b,v1.ownBlock=some b/\W.heap.size<=b)->wpList P ops Q rest (a.put o.dst v1) w1):
    wpList P ops Q (o::rest) a (W.alloc (.cells cs.toArray e)):=by
  obtain⟨f,hf,H⟩:=tO D xs.length okp (fun _ hk I=>I.2 hk);refine l9 (tag f d) base j s x t e z bytes l m n q r u v xs.zipIdx (p,xs.length) cs ok okp w y (d.cG (fun k hk=>⟨hk,hf k hk⟩) hp) B C (a_ H (fun _ hk=>hk.1)) E F (by rw[List.length_zipIdx];exact G) ?_;intro v1 w1 g;rw[<-tN] at g;exact h v1 w1 ⟨f,g⟩
theorem AJ (d:Kd α) {w0 W:World} (base:Nat) (hw:Region.wanted o (yielded ops a.tmps)=true) (s x:Operand) (t e:TypeId) (z:Value) (bytes:Nat)
    (j:o.op= .call {callee:=.builtin .append,args:=#[s,x],argTypes:=#[t,t]})
    (l:P.underlying t=some (.slice e)) (m:(P.info? e).map (fun i=>(i.zero,i.size,i.bytes))=some (some z,d.sz,bytes)) (n:z.cells.size=d.sz) (q:0<d.sz) (r:0<bytes)
    (v:Value) (xs:List α) (p:α) (cs:List Value) (ok okp:Nat->Prop) (u:a.eval s=v) (w:a.eval x= .slice (some ⟨W.heap.size,0,none⟩) 1 1) (hp:d.M W base okp p cs) (y:∀k,okp k->ok k/\some k≠v.ownBlock) (B:∀k,W.heap.size<=k->ok k)
    (C:S d e W base (fun k=>ok k/\¬okp k) v xs) (D:Below base w0 W) (E:base<=W.heap.size) (F:(xs.length+1)*bytes<=140737488355328)
    (h:∀v1 w1,S d e w1 base ok v1 (xs++[p])->Below base w0 w1->W.grownBy w1 v.ownBlock->(v1.ownBlock=v.ownBlock\/∃b,v1.ownBlock=some b/\W.heap.size<=b)->Kc (a.put o.dst v1) w1):
    if Region.wanted o (yielded ops a.tmps)=true then Oper.wp P o a (W.alloc (.cells cs.toArray e)) Kc Q else Kc (a.put o.dst undef) (W.alloc (.cells cs.toArray e)):=by
  obtain⟨f,hf,G⟩:=tO C xs.length okp (fun _ hk H=>H.2 hk);refine qg (tag f d) base hw s x t e z bytes j l m n q r v xs.zipIdx (p,xs.length) cs ok okp u w (d.cG (fun k hk=>⟨hk,hf k hk⟩) hp) y B (a_ G (fun _ hk=>hk.1)) D E (by rw[List.length_zipIdx];exact F) ?_;intro v1 w1 g;rw[<-tN] at g;exact h v1 w1 ⟨f,g⟩
end
def kB {α:Type} (f:Nat->Nat) (d:Kd α) (i:Nat) (c:List Value):Kd (α×Nat) where
  sz:=d.sz
  E:=d.E
  K:=fun w x cs=>(x.2=i->cs=c/\cs.length=d.sz/\∀u∈cs,u.oneCell'=true)/\(x.2≠i->d.K w x.1 cs)
  M:=fun w base ok x cs=>(x.2=i->cs=c/\cs.length=d.sz/\∀u∈cs,u.oneCell'=true)/\(x.2≠i->d.M w base (fun k=>ok k/\f k=x.2) x.1 cs)
  dV:=fun {w x cs} h=>by
    by_cases a:x.2=i
    · exact(h.1 a).2.1
    · exact d.dV (h.2 a)
  dW:=fun {w x cs} h=>by
    by_cases a:x.2=i
    · exact(h.1 a).2.2
    · exact d.dW (h.2 a)
  g_:=fun hb h=>⟨h.1,fun a=>d.g_ hb (h.2 a)⟩
  dg:=fun h=>⟨h.1,fun a=>d.dg (h.2 a)⟩
  cG:=fun b h=>⟨h.1,fun a=>d.cG (fun k hk=>⟨b k hk.1,hk.2⟩) (h.2 a)⟩
  eu:=fun h=>⟨h.1,fun a=>d.cG (fun _ hk=>⟨⟨hk.1.1,hk.2⟩,hk.1.2⟩) (d.eu (h.2 a))⟩
  eD:=fun hm h=>⟨h.1,fun a=>d.eD (fun k hk=>hm k hk.1) (h.2 a)⟩
  hU:=fun hb h=>⟨h.1,fun a=>d.hU hb (h.2 a)⟩
def H {α:Type} (d:Kd α) (e:Nat) (w:World) (base:Nat) (ok:Nat->Prop) (v:Value) (xs:List α) (i:Int) (oki:Nat->Prop) (c:List Value):Prop:=
  (∀k,oki k->ok k)/\∃f,(kB f d i.toNat c).R e w base (fun k=>ok k/\¬oki k) v xs.zipIdx
section
variable {α β:Type} {d:Kd α} {e e' g n cap:Nat} {w w1 W:World} {base:Nat} {ok ok' oki okp:Nat->Prop} {u v:Value} {xs:List α} {i:Int} {c:List Value}
theorem tP (h:S d e W base ok (.slice (some ⟨g,0,none⟩) n cap) xs) (z:α) (i:Int) (C:0<=i) (h1:i<n):
    ∃(oki:Nat->Prop) (c:List Value),c.length=d.sz/\d.M W base oki (xs.getD i.toNat z) c/\(∀j u,c[j]? =some u->W.cell? ⟨g,i.toNat*d.sz+j,none⟩=some u)/\(∀k,oki k->ok k/\k≠g)/\H d e W base ok (.slice (some ⟨g,0,none⟩) n cap) xs i oki c:=by
  obtain⟨f,s⟩:=h;have hn:=(aH s).1;rw[List.length_zipIdx] at hn;have b:some g=(Value.slice (some ⟨g,0,none⟩) n cap).ownBlock:=by simp[Value.ownBlock]
  obtain⟨x,inner,v,a⟩:=s;have l:i.toNat<xs.length:=by omega
  have hlen:inner.length=xs.length*d.sz:=by have:=a.1;rw[List.length_zipIdx] at this;exact this
  have D:i.toNat*d.sz+d.sz<=inner.length:=by rw[hlen,<-Nat.succ_mul];exact Nat.mul_le_mul_right _ l
  have o:=a.2 i.toNat _ (kA (List.getElem?_eq_getElem l));have y:∀k,some k≠(Value.slice (some ⟨g,0,none⟩) n cap).ownBlock->k≠g:=fun k hk he=>hk (by rw[he];exact b)
  refine⟨fun k=>(ok k/\k≠g)/\f k=i.toNat,(inner.drop (i.toNat*d.sz)).take d.sz,by rw[List.length_take,List.length_drop];omega,?_,fun j u hu=>?_,fun k hk=>hk.1,fun k hk=>hk.1.1,f,fun k hk=>⟨x k hk,fun r=>r.1.2 ?_⟩,inner,v,a.1,fun m p hm=>?_⟩
  · rw[List.getD_eq_getElem?_getD,List.getElem?_eq_getElem l]
    exact d.cG (fun k hk=>⟨⟨hk.1.1,y k hk.1.2⟩,hk.2⟩) o
  · rw[List.getElem?_take] at hu
    split at hu
    · rw[List.getElem?_drop] at hu
      have:=v.cells (g:=g) b.symm _ u hu;rwa [add_plain] at this
    · cases hu
  · rw[<-b] at hk;injection hk with hk;exact hk.symm
  · have hold:=a.2 m p hm
    have E:p.2=m:=by
      rw[List.getElem?_zipIdx,Nat.zero_add] at hm;obtain⟨q,_,rfl⟩:=Option.map_eq_some_iff.1 hm;rfl
    refine⟨fun w=>?_,fun w=>d.cG (fun k hk=>⟨⟨⟨hk.1.1,fun r=>w ?_⟩,hk.1.2⟩,hk.2⟩) hold⟩
    · have B:m=i.toNat:=by omega
      subst B;exact⟨rfl,d.dV (d.dg o),d.dW (d.dg o)⟩
    · rw[<-hk.2];exact r.2
open Classical in
theorem tQ (h:H d e w base ok v xs i oki c) {x':α} (r:d.M w base okp x' c) (b:∀k,okp k->oki k):S d e w base ok v (xs.set i.toNat x'):=by
  obtain⟨s,f,l,inner,n,g⟩:=h;refine⟨fun k=>if oki k then i.toNat else f k,fun k hk=>(l k hk).1,inner,by rw[List.length_zipIdx,List.length_set];rw[List.length_zipIdx] at n;exact n,by have:=g.1;rw[List.length_zipIdx] at this;rw[List.length_zipIdx,List.length_set];exact this,fun m p hm=>?_⟩;rw[List.getElem?_zipIdx,Nat.zero_add] at hm;obtain⟨q,a,rfl⟩:=Option.map_eq_some_iff.1 hm;have o:m<xs.length:=by
    have:=(List.getElem?_eq_some_iff.1 a).1;rwa [List.length_set] at this
  by_cases j:m=i.toNat
  · subst j
    rw[List.getElem?_set_self o] at a;injection a with a
    subst a;have u:=((g.2 i.toNat _ (kA (List.getElem?_eq_getElem o))).1 rfl).1;show d.M w base _ x' ((inner.drop (i.toNat*d.sz)).take d.sz)
    rw[show (inner.drop (i.toNat*d.sz)).take d.sz=c from u];exact d.cG (fun k hk=>⟨⟨s k (b k hk),fun he=>(l k he.symm).2 (b k hk)⟩,if_pos (b k hk)⟩) r
  · rw[List.getElem?_set_ne (Ne.symm j)] at a
    exact d.cG (fun k hk=>⟨⟨hk.1.1.1,hk.1.2⟩,(if_neg hk.1.1.2).trans hk.2⟩) ((g.2 m (q,m) (kA a)).2 j)
theorem tR (h:H d e w base ok v xs i oki c) (hm:∀k,ok k->¬oki k->k<w.heap.size->w1.heap[k]? =w.heap[k]?):H d e w1 base ok v xs i oki c:=by
  obtain⟨a,f,h⟩:=h;exact⟨a,f,l6 h (fun k hk b=>hm k hk.1 hk.2 b)⟩
theorem tS (h:H d e w base ok v xs i oki c) {row:Option Nat} (a:w.grownBy w1 row) (b:∀k,row=some k->oki k):H d e w1 base ok v xs i oki c:=
  tR h (fun k _ hn g=>a.block k g (fun he=>hn (b k he.symm)))
theorem AK (h:H d e w base ok v xs i oki c) (hb:Below w.heap.size w w1):H d e w1 base ok v xs i oki c:=tR h (fun k _ _ a=>hb.block k a)
theorem AL (h:H d e w base ok v xs i oki c):H d e w.drew base ok v xs i oki c:=AK h (iA (Below.refl _ _))
theorem AM {okg:Nat->Prop} (h:H d e w base (fun k=>ok k/\¬okg k) v xs i oki c) (b:∀k,okg k->ok k):H d e w base ok v xs i (fun k=>oki k\/okg k) c:=by
  obtain⟨g,f,h⟩:=h;exact⟨fun k hk=>hk.elim (fun a=>(g k a).1) (b k),f,a_ h (fun k hk=>⟨hk.1.1,fun a=>a.elim hk.2 hk.1.2⟩)⟩
theorem AN {ad:Addr} (h:S d e W base ok (.slice (some ad) n cap) xs) (z:α) (i:Int) (b:0<=i) (h1:i<n):
    ∃(oki:Nat->Prop) (c:List Value),c.length=d.sz/\d.M W base oki (xs.getD i.toNat z) c/\(∀j u,c[j]? =some u->W.cell? (ad.add (i.toNat*d.sz+j))=some u)/\(∀k,oki k->ok k/\some k≠(Value.slice (some ad) n cap).ownBlock)/\
      ∀{w1:World} {row:Option Nat} {x':α},W.grownBy w1 row->(∀k,row=some k->oki k)->d.M w1 base oki x' c->S d e w1 base ok (.slice (some ad) n cap) (xs.set i.toNat x'):=by
  obtain⟨g,rfl⟩:=mg (lB h);obtain⟨oki,c,l,m,o,a,hH⟩:=tP h z i b h1;refine⟨oki,c,l,m,fun j u hu=>?_,fun k hk=>⟨(a k hk).1,fun he=>(a k hk).2 ?_⟩,fun p q r=>tQ (tS hH p q) r (fun _ hk=>hk)⟩
  · rw[iC,Nat.zero_add]
    exact o j u hu
  · simpa [Value.ownBlock] using he
theorem tT (h:S d e W base ok (.slice (some ⟨g,0,none⟩) n cap) xs) (z:α) (i:Int) (a:0<=i) (h1:i<n):
    ∃(oki:Nat->Prop) (c:List Value),c.length=d.sz/\d.M W base oki (xs.getD i.toNat z) c/\(∀j u,c[j]? =some u->W.cell? ⟨g,i.toNat*d.sz+j,none⟩=some u)/\(∀j,W.frozen? ⟨g,i.toNat*d.sz+j,none⟩=false)/\(∀k,oki k->ok k/\k≠g)/\H d e W base ok (.slice (some ⟨g,0,none⟩) n cap) xs i oki c:=by
  obtain⟨_,_,_,_,b⟩:=tx (lB h) z i a h1;obtain⟨oki,c,l,m,o,p,hH⟩:=tP h z i a h1;exact⟨oki,c,l,m,o,b,p,hH⟩
theorem AO (h:H d e W base ok (.slice (some ⟨g,0,none⟩) n cap) xs i oki c) (S:0<=i) (h1:i<n):
    ∃rows:List (List Value),rows.length=xs.length/\(raw d.sz).R e W base (fun _=>True) (.slice (some ⟨g,0,none⟩) n cap) rows/\c.length=d.sz/\(∀u∈c,u.oneCell'=true)/\(∀j u,c[j]? =some u->W.cell? ⟨g,i.toNat*d.sz+j,none⟩=some u)/\
      ∀w1 b,W.grownBy w1 (some g)->(raw d.sz).R e w1 base (fun _=>True) (.slice (some ⟨g,0,none⟩) n cap) (rows.set i.toNat b)->H d e w1 base ok (.slice (some ⟨g,0,none⟩) n cap) xs i oki b:=by
  obtain⟨G,f,x⟩:=h;have hn:=(aH x).1;rw[List.length_zipIdx] at hn;have y:some g=(Value.slice (some ⟨g,0,none⟩) n cap).ownBlock:=by simp[Value.ownBlock]
  obtain⟨I,inner,s,a⟩:=x;have z:i.toNat<xs.length:=by omega
  have hlen:inner.length=xs.length*d.sz:=by have:=a.1;rw[List.length_zipIdx] at this;exact this
  have J:∀k,some k≠(Value.slice (some ⟨g,0,none⟩) n cap).ownBlock->k≠g:=fun k hk he=>hk (by rw[he];exact y)
  have l:=(a.2 i.toNat _ (kA (List.getElem?_eq_getElem z))).1 rfl;rw[l.1] at l;have K:=((a.2 i.toNat _ (kA (List.getElem?_eq_getElem z))).1 rfl).1;refine⟨(List.range xs.length).map fun j=>(inner.drop (j*d.sz)).take d.sz,by rw[List.length_map,List.length_range],⟨fun _ _=>trivial,inner,?_,?_,fun j p B=>?_⟩,l.2.1,l.2.2,fun j u hu=>?_,fun w1 b L N=>?_⟩
  · rw[List.length_map,List.length_range];rw[List.length_zipIdx] at s;exact s
  · rw[List.length_map,List.length_range];exact hlen
  · rw[List.getElem?_map] at B
    obtain⟨T,O,rfl⟩:=Option.map_eq_some_iff.1 B;obtain⟨C,he⟩:=List.getElem?_eq_some_iff.1 O;rw[List.getElem_range] at he;subst he;rw[List.length_range] at C;have hm:=(kB f d i.toNat c).dg (a.2 j _ (kA (List.getElem?_eq_getElem C)));exact⟨rfl,(kB f d i.toNat c).dV hm,(kB f d i.toNat c).dW hm⟩
  · rw[<-K,List.getElem?_take] at hu
    split at hu
    · rw[List.getElem?_drop] at hu
      have:=s.cells (g:=g) y.symm _ u hu;rwa [add_plain] at this
    · cases hu
  · obtain⟨_,o,D,v⟩:=N
    have P:o.length=xs.length*d.sz:=by have:=v.1;rw[List.length_set,List.length_map,List.length_range] at this;exact this
    rw[List.length_set,List.length_map,List.length_range] at D;refine⟨G,f,I,o,by rw[List.length_zipIdx];exact D,by rw[List.length_zipIdx];exact P,fun m p hm=>?_⟩;rw[List.getElem?_zipIdx,Nat.zero_add] at hm;obtain⟨q,E,rfl⟩:=Option.map_eq_some_iff.1 hm;have F:m<xs.length:=(List.getElem?_eq_some_iff.1 E).1;have hold:=a.2 m (q,m) (kA E);refine⟨fun r=>?_,fun r=>?_⟩
    · have w:m=i.toNat:=r
      subst w;exact v.2 i.toNat b (List.getElem?_set_self (by rw[List.length_map,List.length_range];exact F))
    · have w:m≠i.toNat:=r
      have Q:=(v.2 m ((inner.drop (m*d.sz)).take d.sz) (by
        rw[List.getElem?_set_ne (Ne.symm w),List.getElem?_map,List.getElem?_eq_getElem (by rw[List.length_range];exact F),List.getElem_range];rfl)).1
      show d.M w1 base _ q ((o.drop (m*d.sz)).take d.sz)
      rw[show (o.drop (m*d.sz)).take d.sz=_ from Q];exact d.cG (fun k hk=>hk.1) (d.eD (w1:=w1) (fun k hk=>L.block k hk.2.2.1 (fun he=>J k hk.1.1.2 (by injection he))) (d.eu (hold.2 r)))
theorem AP (h:H d e W base ok (.slice (some ⟨g,0,none⟩) n cap) xs i oki c) (a:0<=i) (h1:i<n) {seg:List Value} {j:Nat} (l:j+seg.length<=d.sz) (m:∀q∈seg,q.oneCell'=true):
    H d e (W.setCells g (i.toNat*d.sz+j) seg) base ok (.slice (some ⟨g,0,none⟩) n cap) xs i oki (c.take j++seg++c.drop (j+seg.length))/\W.grownBy (W.setCells g (i.toNat*d.sz+j) seg) (some g):=by
  obtain⟨rows,_,o,p,b,r,s⟩:=AO h a h1;obtain⟨v,k⟩:=tz o i a h1 (c:=c) (seg:=seg) (j:=j) (x':=c.take j++seg++c.drop (j+seg.length)) (okp:=fun _=>False) p r l
    ⟨rfl,by
      show (c.take j++seg++c.drop (j+seg.length)).length=d.sz
      simp only[List.length_append,List.length_take,List.length_drop];omega,fun u hu=>by
      rcases List.mem_append.1 hu with hu|hu
      · rcases List.mem_append.1 hu with hu|hu
        · exact b u (List.mem_of_mem_take hu)
        · exact m u hu
      · exact b u (List.mem_of_mem_drop hu)⟩ (fun _ hk=>hk.elim)
  exact⟨s _ _ k v,k⟩
theorem AQ {okg:Nat->Prop} (hH:H d e W base (fun k=>ok k/\¬okg k) (.slice (some ⟨g,0,none⟩) n cap) xs i oki c) (m:0<=i) (h1:i<n) {seg:List Value} {j:Nat} (o:j+seg.length<=d.sz)
    {x':α} (a:d.M W base okp x' (c.take j++seg++c.drop (j+seg.length))) (b:∀k,okp k->oki k\/okg k) (h:∀k,okg k->ok k/\k≠g):
    S d e (W.setCells g (i.toNat*d.sz+j) seg) base ok (.slice (some ⟨g,0,none⟩) n cap) (xs.set i.toNat x')/\W.grownBy (W.setCells g (i.toNat*d.sz+j) seg) (some g):=by
  have p:∀k,oki k\/okg k->k≠g:=by
    intro k hk he;subst he;rcases hk with hk|hk
    · obtain⟨_,f,r⟩:=hH
      exact(r.1 k (by simp[Value.ownBlock])).2 hk
    · exact(h k hk).2 rfl
  obtain⟨s,l⟩:=AP (AM hH (fun k hk=>(h k hk).1)) m h1 o (fun q u=>d.dW (d.dg a) q (List.mem_append_left _ (List.mem_append_right _ u)));exact⟨tQ s (qe a (fun k hk v=>l.block k v (fun he=>p k (b k hk) (by injection he)))) b,l⟩
end
end Kd
end Go.Proofs.YtffdiakgjakngaaGreatW.PrintWords
end
section
namespace Go.Proofs.YtffdiakgjakngaaGreatW.PrintWords
open Go.RowKit
end Go.Proofs.YtffdiakgjakngaaGreatW.PrintWords
end
section
namespace Go.Proofs.YtffdiakgjakngaaGreatW.PrintWords
open Go.RowKit
end Go.Proofs.YtffdiakgjakngaaGreatW.PrintWords
end
section
namespace Go.Proofs.YtffdiakgjakngaaGreatW.PrintWords
open Go.RowKit
end Go.Proofs.YtffdiakgjakngaaGreatW.PrintWords
end
section
namespace Go.Proofs.YtffdiakgjakngaaGreatW.PrintWords
open Go.RowKit
end Go.Proofs.YtffdiakgjakngaaGreatW.PrintWords
end
section
namespace Go.Proofs.YtffdiakgjakngaaGreatW.PrintWords
open Go.RowKit
def eh (P:World->Prop) (W:World) (ok:Nat->Prop):Prop:=∀W':World,(∀k,ok k->k<W.heap.size->W'.heap[k]? =W.heap[k]?)->P W'
theorem AR {W W1:World} {k:Nat} (h:W1.heap[k]? =W.heap[k]?) (a:k<W.heap.size):k<W1.heap.size:=by
  rw[Array.getElem?_eq_getElem a] at h;exact(Array.getElem?_eq_some_iff.1 h).1
namespace eh
variable {P Q:World->Prop} {W W1:World} {ok ok':Nat->Prop}
theorem now (h:eh P W ok):P W:=h W (fun _ _ _=>rfl)
theorem mono (h:eh P W ok) (a:∀k,ok k->ok' k):eh P W ok':=fun W' b=>h W' (fun k hk e=>b k (a k hk) e)
theorem bound (h:eh P W ok):eh P W (fun k=>ok k/\k<W.heap.size):=fun W' b=>h W' (fun k hk a=>b k ⟨hk,a⟩ a)
theorem step (h:eh P W ok) (hm:∀k,ok k->k<W.heap.size->W1.heap[k]? =W.heap[k]?):eh P W1 ok:=fun W' b=>h W' (fun k hk a=>(b k hk (AR (hm k hk a) a)).trans (hm k hk a))
theorem AS (h:eh P W ok) (hb:Below W.heap.size W W1):eh P W1 (fun k=>ok k/\k<W.heap.size):=(h.bound).step (fun k _ a=>hb.block k a)
end eh
namespace Kd
def F {α:Type} (d:Kd α) (W:World) (ok:Nat->Prop) (A:Option Addr) (n:Nat) (xs:List α):Prop:=eh (fun W=>d.C W A n xs) W ok
def FK {α:Type} (d:Kd α) (W:World) (ok:Nat->Prop) (x:α) (c:List Value):Prop:=eh (fun W=>d.K W x c) W ok
section
variable {α β:Type} {d:Kd α} {e base n n' cc g N:Nat} {ok ok' okp S:Nat->Prop} {w w0 w1 W W1:World} {A A':Option Addr} {u v v1:Value} {xs:List α} {xs':List β} {d':Kd β} {x:α} {c:List Value}
theorem fF (h:F d W ok A n xs):d.C W A n xs:=eh.now h
theorem oJ (h:F d W ok A n xs) (a:∀k,ok k->ok' k):F d W ok' A n xs:=eh.mono h a
theorem AT (h:F d W ok A n xs):F d W (fun k=>ok k/\k<W.heap.size) A n xs:=eh.bound h
theorem qA (h:F d W ok A n xs) (hm:∀k,ok k->k<W.heap.size->W1.heap[k]? =W.heap[k]?):F d W1 ok A n xs:=eh.step h hm
theorem kC (h:F d W ok A n xs) (hb:Below W.heap.size W W1):F d W1 ok A n xs:=qA h (fun k _ a=>hb.block k a)
theorem AU (h:F d W ok A n xs) (m:Nat):F d (W.drewN m) ok A n xs:=kC h (bN (Below.refl _ _) m)
theorem AV (h:F d W ok A n xs):n<=9223372036854775807:=(fF h).2.1
theorem AW (h:F d W ok A n xs) (a:∀k,v.ownBlock=some k->W.heap.size<=k) (hb:Below W.heap.size W W1):F d W1 (fun k=>ok k/\some k≠v.ownBlock) A n xs:=
  oJ (eh.AS h hb) (fun k hk=>⟨hk.1,fun he=>by have:=a k he.symm;have:=hk.2;omega⟩)
theorem AX (h:F d W (fun k=>ok k/\some k≠v.ownBlock) A n xs) (e:W.grownBy W1 v.ownBlock) (a:v1.ownBlock=v.ownBlock\/∃b,v1.ownBlock=some b/\W.heap.size<=b):F d W1 (fun k=>ok k/\some k≠v1.ownBlock) A n xs:=by
  refine oJ (eh.step (AT h) (fun k hk g=>e.block k g hk.1.2)) (fun k hk=>⟨hk.1.1,?_⟩);rcases a with a|⟨b,hb,hle⟩
  · rw[a];exact hk.1.2
  · rw[hb]
    intro he;injection he with he
    have:=hk.2;omega
theorem AY (h:d.R e W base ok (.slice A n cc) xs):F d W ok A n xs:=fun W' b=>by
  have a:=aH (l6 h b);rw[a.1];exact a.2.2
theorem kD (h:FK d W ok x c):d.K W x c:=eh.now h
theorem lD (h:FK d W ok x c) (a:∀k,ok k->ok' k):FK d W ok' x c:=eh.mono h a
theorem tU (h:FK d W ok x c):FK d W (fun k=>ok k/\k<W.heap.size) x c:=eh.bound h
theorem mi (h:FK d W ok x c) (hm:∀k,ok k->k<W.heap.size->W1.heap[k]? =W.heap[k]?):FK d W1 ok x c:=eh.step h hm
theorem AZ (h:FK d W ok x c) (hb:Below W.heap.size W W1):FK d W1 ok x c:=mi h (fun k _ a=>hb.block k a)
theorem A_ (h:d.M W base ok x c):FK d W ok x c:=fun _ a=>d.dg (qe h a)
theorem Ba (W:World) (g:Nat):∃W':World,(∀k,k≠g->W'.heap[k]? =W.heap[k]?)/\∀a:Addr,a.block=g->W'.cell? a=none:=by
  refine⟨{W with heap:=W.heap.setIfInBounds g (.cells #[] 0)},fun k hk=>by simp[Ne.symm hk],fun a e=>?_⟩;subst e;by_cases b:a.block<W.heap.size
  · simp[World.cell?,b]
  · simp[World.cell?,b]
end
end Kd
end Go.Proofs.YtffdiakgjakngaaGreatW.PrintWords
end
section
namespace Go.Proofs.YtffdiakgjakngaaGreatW.PrintWords
open Go.RowKit
namespace Kd
def chunks (sz:Nat) (n:Nat) (inner:List Value):List (List Value):=(List.range n).map fun j=>(inner.drop (j*sz)).take sz
theorem kE (sz n:Nat) (inner:List Value):(chunks sz n inner).length=n:=by simp[chunks]
theorem Bb {sz n:Nat} {inner:List Value} {j:Nat} (a:j<n):(chunks sz n inner)[j]? =some ((inner.drop (j*sz)).take sz):=by simp[chunks,a]
theorem oK {sz n:Nat} {inner:List Value} {j:Nat} {c:List Value} (h:(chunks sz n inner)[j]? =some c):c=(inner.drop (j*sz)).take sz:=by
  have a:j<n:=by have:=(List.getElem?_eq_some_iff.1 h).1;rwa [kE] at this
  rw[Bb a] at h;injection h with h
  exact h.symm
theorem Bc {α:Type} {a:α->List Value->Prop} {sz:Nat} {xs:List α} {inner:List Value} (h:aT a sz xs inner) (e:∀x c,a x c->c.length=sz/\∀u∈c,u.oneCell'=true):aT (fun x cs=>cs=x/\cs.length=sz/\∀u∈cs,u.oneCell'=true) sz (chunks sz xs.length inner) inner:=by
  refine⟨by rw[kE];exact h.1,fun j p b=>?_⟩;have g:j<xs.length:=by have:=(List.getElem?_eq_some_iff.1 b).1;rwa [kE] at this
  have hp:=oK b;exact⟨hp.symm,e _ _ (h.2 j _ (List.getElem?_eq_getElem g))⟩
section
variable {α:Type} {d:Kd α} {e base n cc g:Nat} {ok ok' okp S:Nat->Prop} {w w1 W W1:World} {A:Option Addr} {u v v1:Value} {xs:List α} {x:α} {c:List Value}
theorem Be (h:F d W ok A n xs) (z:α) (i:Int) (b:0<=i) (h1:i<n):
    ∃ad c,A=some ad/\c.length=d.sz/\FK d W ok (xs.getD i.toNat z) c/\(∀j u,c[j]? =some u->W.cell? (ad.add (i.toNat*d.sz+j))=some u)/\(0<d.sz->ok ad.block):=by
  obtain⟨ad,c,rfl,s,G,g⟩:=l8 (fF h) z i b h1;have o:0<d.sz->ok ad.block:=by
    intro H;by_cases hk:ok ad.block
    · exact hk
    · obtain⟨W',v,w⟩:=Ba W ad.block
      obtain⟨x,p,he,y,_,l⟩:=l8 (h W' (fun k B _=>v k (fun e=>hk (e▸B)))) z i b h1;injection he with he
      subst he;have q:=l 0 _ (List.getElem?_eq_getElem (by omega));rw[w _ (qp _ _)] at q;cases q
  refine⟨ad,c,rfl,s,fun W' r=>?_,g,o⟩;obtain⟨x,p,he,y,C,l⟩:=l8 (h W' r) z i b h1;injection he with he
  subst he;have D:c=p:=by
    apply List.ext_getElem?
    intro j;by_cases I:j<d.sz
    · have hb:W'.heap[ad.block]? =W.heap[ad.block]? :=by
        have m:=g j _ (List.getElem?_eq_getElem (by omega));have a:=World.block_lt_of_cell? W _ m;rw[qp] at a;exact r _ (o (by omega)) a
      have m:=g j _ (List.getElem?_eq_getElem (by omega));have a:=l j _ (List.getElem?_eq_getElem (by omega));have E:W'.cell? (ad.add (i.toNat*d.sz+j))=W.cell? (ad.add (i.toNat*d.sz+j)):=by simp[World.cell?,qp,hb]
      rw[E,m] at a;rw[List.getElem?_eq_getElem (by omega),List.getElem?_eq_getElem (by omega)];exact a
    · rw[List.getElem?_eq_none (by omega),List.getElem?_eq_none (by omega)]
  rw[D];exact C
theorem Bg (h:F d W ok A n xs):fk (fun x c=>FK d W ok x c) d.sz W A n xs:=by
  obtain⟨g,hm,hn⟩:=fF h;refine⟨g,hm,fun hp=>?_⟩;obtain⟨ad,rfl,_⟩:=hn hp;refine⟨ad,rfl,fun j p b=>?_⟩;obtain⟨k,l⟩:=List.getElem?_eq_some_iff.1 b;obtain⟨m,c,he,i,a,e,_⟩:=Be h p (j:Int) (by omega) (by omega);injection he with he
  subst he;simp only[Int.toNat_natCast] at a e;rw[List.getD_eq_getElem?_getD,b] at a;exact⟨c,i,a,e⟩
def N {α:Type} (d:Kd α) (e:Nat) (w:World) (base:Nat) (ok:Nat->Prop) (v:Value) (xs:List α):Prop:=
  (∀k,v.ownBlock=some k->ok k)/\∃rows:List (List Value),rows.length=xs.length/\(raw d.sz).R e w base (fun k=>some k=v.ownBlock) v rows/\∀(j:Nat) (x:α) (c:List Value),xs[j]? =some x->rows[j]? =some c->FK d w (fun k=>ok k/\some k≠v.ownBlock) x c
theorem qB {sz:Nat} {rows:List (List Value)} (h:(raw sz).R e w base ok v rows):(raw sz).R e w base (fun k=>some k=v.ownBlock) v rows:=ia rfl h
theorem na {sz:Nat} {rows:List (List Value)} (h:(raw sz).R e w base ok v rows):(raw sz).R e w base (fun _=>True) v rows:=a_ h (fun _ _=>trivial)
theorem jP (h:d.R e w base ok v xs):N d e w base ok v xs:=by
  obtain⟨b,inner,g,a⟩:=h;refine⟨b,chunks d.sz xs.length inner,kE _ _ _,⟨fun k hk=>hk.symm,inner,by rw[kE];exact g,Bc a (fun x c hp=>⟨d.dV (d.dg hp),d.dW (d.dg hp)⟩)⟩,fun j x c i l=>?_⟩;rw[oK l];exact A_ (a.2 j x i)
theorem fV (d:Kd α) (e:Nat) (w:World) (base:Nat) (ok:Nat->Prop):N d e w base ok (.slice none 0 0) []:=jP (dm _ _ _ _ _)
theorem eE (h:N d e w base ok v xs) (a:∀k,ok k->ok' k):N d e w base ok' v xs:=by
  obtain⟨b,rows,g,i,hf⟩:=h;exact⟨fun k hk=>a k (b k hk),rows,g,i,fun j x c l m=>lD (hf j x c l m) (fun k hk=>⟨a k hk.1,hk.2⟩)⟩
theorem qC (h:N d e w base ok v xs):∀k,v.ownBlock=some k->k<w.heap.size:=by
  obtain⟨_,rows,_,a,_⟩:=h;exact ba a
theorem tV (h:N d e w base ok v xs):∀k,v.ownBlock=some k->base<=k:=by
  obtain⟨_,rows,_,a,_⟩:=h;exact dK a
theorem oL (h:N d e w base ok v xs):∀k,v.ownBlock=some k->∃cells,w.heap[k]? =some (.cells cells e (0,0)):=by
  obtain⟨_,rows,_,a,_⟩:=h;exact gN a
theorem Bh (h:N d e w base ok v xs) {t:Nat} {cells:Array Value} (hb:w.heap[g]? =some (.cells cells t (0,0))) (a:e≠t):some g≠v.ownBlock:=by
  obtain⟨_,rows,_,b,_⟩:=h;exact dr b hb a
theorem nc (h:N d e w base ok v xs):N d e w base (fun k=>ok k/\k<w.heap.size) v xs:=by
  have a:=qC h;obtain⟨b,rows,g,i,hf⟩:=h;exact⟨fun k hk=>⟨b k hk,a k hk⟩,rows,g,i,fun j x c l m=>lD (tU (hf j x c l m)) (fun k hk=>⟨⟨hk.1.1,hk.2⟩,hk.1.2⟩)⟩
theorem kF {base':Nat} (h:N d e w base ok v xs) (hb:base'<=base):N d e w base' ok v xs:=by
  obtain⟨a,rows,b,g,hf⟩:=h;exact⟨a,rows,b,bd g hb,hf⟩
theorem mj (h:N d e w base ok v xs) (hm:∀k,ok k->k<w.heap.size->w1.heap[k]? =w.heap[k]?):N d e w1 base ok v xs:=by
  obtain⟨b,rows,g,i,hf⟩:=h;exact⟨b,rows,g,l6 i (fun k hk a=>hm k (b k hk.symm) a),fun j x c l m=>mi (hf j x c l m) (fun k hk a=>hm k hk.1 a)⟩
theorem dF (h:N d e w base ok v xs) (hb:Below w.heap.size w w1):N d e w1 base ok v xs:=mj h (fun k _ hk=>hb.block k hk)
theorem e8 (h:N d e w base ok v xs) (o:Obj):N d e (w.alloc o) base ok v xs:=dF h (ao (Below.refl _ _) o)
theorem gO (h:N d e w base ok v xs):N d e w.drew base ok v xs:=dF h (iA (Below.refl _ _))
theorem gP (h:N d e w base ok v xs) (m:Nat):N d e (w.drewN m) base ok v xs:=dF h (bN (Below.refl _ _) m)
theorem tW (h:N d e w base ok v xs) {p:Addr} (a:∀k,ok k->k≠p.block) (u:Value):N d e (w.setCell p u) base ok v xs:=mj h (fun k b _=>Below.heap_setCell w p u k (a k b))
theorem Bi (h:N d e W base ok v xs) (a:∀k,u.ownBlock=some k->W.heap.size<=k) (hb:Below W.heap.size W w1):N d e w1 base (fun k=>ok k/\some k≠u.ownBlock) v xs:=
  eE (dF (nc h) hb) (fun k hk=>⟨hk.1,fun he=>by have:=a k he.symm;have:=hk.2;omega⟩)
theorem Bj (h:N d e W base (fun k=>ok k/\some k≠u.ownBlock) v xs) {u1:Value} (g:W.grownBy w1 u.ownBlock) (a:u1.ownBlock=u.ownBlock\/∃b,u1.ownBlock=some b/\W.heap.size<=b):N d e w1 base (fun k=>ok k/\some k≠u1.ownBlock) v xs:=by
  refine eE (mj (nc h) (fun k hk i=>g.block k i hk.1.2)) (fun k hk=>⟨hk.1.1,?_⟩);rcases a with a|⟨b,hb,hle⟩
  · rw[a];exact hk.1.2
  · rw[hb]
    intro he;injection he with he
    have:=hk.2;omega
theorem nf (h:N d e w base ok v xs):∃A c,v= .slice A xs.length c:=by
  obtain⟨_,rows,a,b,_⟩:=h;obtain⟨A,c,he⟩:=bh b;exact⟨A,c,by rw[he,a]⟩
theorem Bl (h:N d e w base ok v xs) (hp:0<xs.length):∃g cap,v= .slice (some ⟨g,0,none⟩) xs.length cap/\base<=g/\g<w.heap.size/\∃cells,w.heap[g]? =some (.cells cells e (0,0)):=by
  obtain⟨_,rows,a,b,_⟩:=h;rw[<-a] at hp⊢;exact fE b hp
theorem iR {n c:Nat} (h:N d e w base ok (.slice A n c) xs):n=xs.length/\n<=c/\d.C w A xs.length xs:=by
  obtain⟨_,rows,i,k,hf⟩:=h;obtain⟨hn,l,hC⟩:=aH k;refine⟨by omega,l,?_⟩;rw[i] at hC;refine⟨rfl,hC.2.1,fun hp=>?_⟩;obtain⟨ad,he,m⟩:=hC.2.2 hp;refine⟨ad,he,fun j p a=>?_⟩;have b:j<rows.length:=by have:=(List.getElem?_eq_some_iff.1 a).1;omega
  obtain⟨g,o,q,r⟩:=m j _ (List.getElem?_eq_getElem b);have hk:=kD (hf j p _ a (List.getElem?_eq_getElem b));refine⟨g,o,?_,r⟩;rw[show g=rows[j] from q.1];exact hk
theorem kG (h:N d e w base ok v xs):∃A c,v= .slice A xs.length c/\xs.length<=c/\d.C w A xs.length xs:=by
  obtain⟨A,c,rfl⟩:=nf h;exact⟨A,c,rfl,(iR h).2⟩
theorem qD {n:Nat} (h:N d e w base ok (.slice A n cc) xs):F d w ok A n xs:=fun W' b=>by
  have a:=iR (mj h b);rw[a.1];exact a.2.2
theorem qE {n cap:Nat} (h:N d e W base ok (.slice (some ⟨g,0,none⟩) n cap) xs) (z:α) (i:Int) (m:0<=i) (h1:i<n):
    ∃c,c.length=d.sz/\FK d W (fun k=>ok k/\k≠g) (xs.getD i.toNat z) c/\(∀j u,c[j]? =some u->W.cell? ⟨g,i.toNat*d.sz+j,none⟩=some u)/\∀j,W.frozen? ⟨g,i.toNat*d.sz+j,none⟩=false:=by
  obtain⟨_,rows,w,a,hf⟩:=h;have hn:=(aH a).1;obtain⟨c,o,p,q,r⟩:=tx a [] i m h1;have b:i.toNat<rows.length:=by omega
  have l:i.toNat<xs.length:=by omega
  have s:c=rows[i.toNat]:=by
    have v:=p.1;rwa [List.getD_eq_getElem?_getD,List.getElem?_eq_getElem b] at v
  refine⟨c,o,?_,q,r⟩;rw[List.getD_eq_getElem?_getD,List.getElem?_eq_getElem l];exact lD (hf _ _ _ (List.getElem?_eq_getElem l) (by rw[s];exact List.getElem?_eq_getElem b)) (fun k hk=>⟨hk.1,fun he=>hk.2 (by rw[he];simp[Value.ownBlock])⟩)
theorem oM {ad:Addr} {n cap:Nat} (h:N d e W base ok (.slice (some ad) n cap) xs) (z:α) (i:Int) (a:0<=i) (h1:i<n):
    ∃c,c.length=d.sz/\FK d W (fun k=>ok k/\some k≠(Value.slice (some ad) n cap).ownBlock) (xs.getD i.toNat z) c/\∀j u,c[j]? =some u->W.cell? (ad.add (i.toNat*d.sz+j))=some u:=by
  obtain⟨g,rfl⟩:∃g,ad=⟨g,0,none⟩:=by
    obtain⟨_,rows,_,b,_⟩:=h;exact mg b
  obtain⟨c,l,m,o,_⟩:=qE h z i a h1;refine⟨c,l,lD m (fun k hk=>⟨hk.1,fun he=>hk.2 (by simpa [Value.ownBlock] using he)⟩),fun j u hu=>?_⟩;rw[iC,Nat.zero_add];exact o j u hu
end
end Kd
end Go.Proofs.YtffdiakgjakngaaGreatW.PrintWords
end
section
namespace Go.Proofs.YtffdiakgjakngaaGreatW.PrintWords
open Go.RowKit
namespace Kd
section
variable {α:Type} {d:Kd α} {e base n cap g:Nat} {ok ok' okp:Nat->Prop} {w w1 W:World} {v v1:Value} {xs ys:List α}
theorem tX {rows news:List (List Value)} (n:∀k,v.ownBlock=some k->ok k) (m:rows.length=xs.length) (hf:∀(j:Nat) (x:α) (c:List Value),xs[j]? =some x->rows[j]? =some c->FK d W (fun k=>ok k/\some k≠v.ownBlock) x c)
    (p:news.length=ys.length) (q:∀(j:Nat) (x:α) (c:List Value),ys[j]? =some x->news[j]? =some c->FK d W okp x c) (r:∀k,okp k->ok k/\some k≠v.ownBlock) (s:∀k,W.heap.size<=k->ok k)
    (u:(raw d.sz).R e w1 base (fun _=>True) v1 (rows++news)) (w:W.grownBy w1 v.ownBlock) (a:v1.ownBlock=v.ownBlock\/∃b,v1.ownBlock=some b/\W.heap.size<=b):N d e w1 base ok v1 (xs++ys):=by
  have y:∀k,some k≠v.ownBlock->k<W.heap.size->some k≠v1.ownBlock:=by
    intro k hk g;rcases a with a|⟨b,hb,hle⟩
    · rw[a];exact hk
    · rw[hb]
      intro he;injection he with he
      omega
  have step:∀{x:α} {c:List Value} {o:Nat->Prop},FK d W o x c->(∀k,o k->ok k/\some k≠v.ownBlock)->FK d w1 (fun k=>ok k/\some k≠v1.ownBlock) x c:=by
    intro x c o z l;exact lD (mi (tU z) (fun k hk g=>w.block k g (l k hk.1).2)) (fun k hk=>⟨(l k hk.1).1,y k (l k hk.1).2 hk.2⟩)
  refine⟨fun k hk=>?_,rows++news,by rw[List.length_append,List.length_append,m,p],qB u,fun j x c h i=>?_⟩
  · rcases a with a|⟨b,hb,hle⟩
    · exact n k (a▸hk)
    · rw[hb] at hk
      injection hk with hk
      exact s k (by omega)
  · rcases Nat.lt_or_ge j xs.length with g|B
    · rw[List.getElem?_append_left g] at h
      rw[List.getElem?_append_left (by omega)] at i;exact step (hf j x c h i) (fun _ hk=>hk)
    · rw[List.getElem?_append_right B] at h
      rw[List.getElem?_append_right (by omega),m] at i;exact step (q _ x c h i) r
theorem Bm {x:α} {c:List Value} (h:FK d W ok x c):c=c/\c.length=d.sz/\∀u∈c,u.oneCell'=true:=⟨rfl,d.dV (kD h),d.dW (kD h)⟩
theorem Bn {rows:List (List Value)} {i:Int} {x':α} {h:List Value} (r:∀k,(Value.slice (some ⟨g,0,none⟩) n cap).ownBlock=some k->ok k) (s:rows.length=xs.length) (hf:∀(j:Nat) (x:α) (c:List Value),xs[j]? =some x->rows[j]? =some c->FK d W (fun k=>ok k/\some k≠(Value.slice (some ⟨g,0,none⟩) n cap).ownBlock) x c)
    (u:(raw d.sz).R e w1 base (fun _=>True) (.slice (some ⟨g,0,none⟩) n cap) (rows.set i.toNat h)) (o:W.grownBy w1 (some g)) (v:FK d W okp x' h) (l:∀k,okp k->ok k/\k≠g):N d e w1 base ok (.slice (some ⟨g,0,none⟩) n cap) (xs.set i.toNat x'):=by
  have p:some g=(Value.slice (some ⟨g,0,none⟩) n cap).ownBlock:=by simp[Value.ownBlock]
  refine⟨r,rows.set i.toNat h,by rw[List.length_set,List.length_set,s],qB u,fun j x c a b=>?_⟩;have w:j<xs.length:=by have:=(List.getElem?_eq_some_iff.1 a).1;rwa [List.length_set] at this
  by_cases q:j=i.toNat
  · subst q
    rw[List.getElem?_set_self w] at a;rw[List.getElem?_set_self (by omega)] at b;injection a with a
    injection b with b
    rw[<-a,<-b];exact lD (mi v (fun k hk m=>o.block k m (fun he=>(l k hk).2 (by injection he)))) (fun k hk=>⟨(l k hk).1,fun he=>(l k hk).2 (by rw[<-p] at he;injection he)⟩)
  · rw[List.getElem?_set_ne (Ne.symm q)] at a b
    exact mi (hf j x c a b) (fun k hk m=>o.block k m (by rw[p];exact hk.2))
theorem Bo {A:Option Addr} {m c:Nat} (h:N d e w base ok (.slice A n c) xs) (hm:m<=xs.length):N d e w base ok (.slice A m c) (xs.take m):=by
  obtain⟨g,rows,i,l,hf⟩:=h;have hb:∀x y:Nat,(Value.slice A x c).ownBlock=(Value.slice A y c).ownBlock:=by
    intro x y;cases A<;>rfl
  refine⟨fun k hk=>g k (by rw[hb _ m];exact hk),rows.take m,by rw[List.length_take,List.length_take,i],qB (zF (na l) (by omega)),fun j x o a b=>?_⟩;rw[List.getElem?_take] at a b;split at a
  · rename_i p
    rw[if_pos p] at b;rw[hb m n];exact hf j x o a b
  · cases a
theorem Bp (h:N d e W base ok (.slice (some ⟨g,0,none⟩) n cap) xs) (i:Int) (l:0<=i) (h1:i<n) {c seg:List Value} {j:Nat} (m:c.length=d.sz) (o:∀j u,c[j]? =some u->W.cell? ⟨g,i.toNat*d.sz+j,none⟩=some u)
    (p:j+seg.length<=d.sz) {x':α} (a:FK d W okp x' (c.take j++seg++c.drop (j+seg.length))) (q:∀k,okp k->ok k/\k≠g):
    N d e (W.setCells g (i.toNat*d.sz+j) seg) base ok (.slice (some ⟨g,0,none⟩) n cap) (xs.set i.toNat x')/\W.grownBy (W.setCells g (i.toNat*d.sz+j) seg) (some g):=by
  obtain⟨r,rows,s,v,hf⟩:=h;obtain⟨w,b⟩:=tz (na v) i l h1 (c:=c) (seg:=seg) (j:=j) (x':=c.take j++seg++c.drop (j+seg.length)) (okp:=fun _=>False) m o p ⟨rfl,d.dV (kD a),d.dW (kD a)⟩ (fun _ hk=>hk.elim);exact⟨Bn r s hf w b a q,b⟩
theorem Bq {a:α->List Value->Prop} {sz m:Nat} {A:Option Addr} (h:fk a sz W A m ys) (o:∀x c,a x c->c.length=sz/\∀u∈c,u.oneCell'=true):
    ∃news:List (List Value),news.length=ys.length/\fk (fun x cs=>cs=x/\cs.length=sz/\∀u∈cs,u.oneCell'=true) sz W A m news/\∀(j:Nat) (x:α) (c:List Value),ys[j]? =some x->news[j]? =some c->a x c:=by
  rcases Nat.eq_zero_or_pos m with g|hp
  · have q:ys=[]:=List.eq_nil_of_length_eq_zero (h.1.trans g)
    subst q;exact⟨[],rfl,⟨g▸rfl,h.2.1,fun hp=>by omega⟩,fun j x c b=>by simp at b⟩
  · obtain⟨ad,rfl,_⟩:=h.2.2 hp
    obtain⟨inner,k,r⟩:=fk.tc h;refine⟨chunks sz ys.length inner,kE _ _ _,⟨by rw[kE];exact h.1,h.2.1,fun _=>⟨ad,rfl,fun j p l=>?_⟩⟩,fun j x c b s=>?_⟩
    · have v:j<ys.length:=by have:=(List.getElem?_eq_some_iff.1 l).1;rwa [kE] at this
      have n:=oK l;have e:=o _ _ (k.2 j _ (List.getElem?_eq_getElem v));rw[<-n] at e;refine⟨p,e.1,⟨rfl,e⟩,fun i u hu=>?_⟩;have w:inner[j*sz+i]? =some u:=by
        rw[n,List.getElem?_take] at hu;split at hu
        · rw[List.getElem?_drop] at hu
          exact hu
        · cases hu
      exact r _ u w
    · rw[oK s]
      exact k.2 j x b
end
section
variable {P:Program} {ops:Array Oper} {rest:List Oper} {o:Oper} {a:Act} {Q:Exit->Act->World->Prop} {Kc:Act->World->Prop} {α:Type}
theorem oN (d:Kd α) {w0 W:World} (base:Nat) (r:o.guard=none) (s x:Operand) (t e:TypeId) (z:Value) (bytes:Nat)
    (u:o.op= .call {callee:=.builtin .append,args:=#[s,x],argTypes:=#[t,t]})
    (w:P.underlying t=some (.slice e)) (B:(P.info? e).map (fun i=>(i.zero,i.size,i.bytes))=some (some z,d.sz,bytes)) (C:z.cells.size=d.sz) (D:0<d.sz) (E:0<bytes)
    (v:Value) (xs:List α) (p:α) (cs:List Value) (ok okp:Nat->Prop) (F:a.eval s=v) (G:a.eval x= .slice (some ⟨W.heap.size,0,none⟩) 1 1) (hp:FK d W okp p cs) (H:∀k,okp k->ok k/\some k≠v.ownBlock) (I:∀k,W.heap.size<=k->ok k)
    (J:N d e W base ok v xs) (K:Below base w0 W) (L:base<=W.heap.size) (M:(xs.length+1)*bytes<=140737488355328)
    (h:∀v1 w1,N d e w1 base ok v1 (xs++[p])->Below base w0 w1->W.grownBy w1 v.ownBlock->(v1.ownBlock=v.ownBlock\/∃b,v1.ownBlock=some b/\W.heap.size<=b)->wpList P ops Q rest (a.put o.dst v1) w1):
    wpList P ops Q (o::rest) a (W.alloc (.cells cs.toArray e)):=by
  obtain⟨O,rows,l,R,hf⟩:=J;refine l9 (raw d.sz) base r s x t e z bytes u w B C D E v rows cs cs (fun _=>True) (fun _=>False) F G (Bm hp) (fun _ hk=>hk.elim) (fun _ _=>trivial) (na R) K L (by rw[l];exact M) ?_;intro v1 w1 S hb m n;exact h v1 w1 (tX O l hf (ys:=[p]) (news:=[cs]) rfl (fun j y c g q=>by
    rcases j with _|j
    · simp only[List.getElem?_cons_zero,Option.some.injEq] at g q
      rw[<-g,<-q];exact hp
    · simp at g) H I S m n) hb m n
theorem tY (d:Kd α) {w0 W:World} (base:Nat) (n:o.guard=none) (s x:Operand) (t e:TypeId) (z:Value) (bytes:Nat)
    (p:o.op= .call {callee:=.builtin .append,args:=#[s,x],argTypes:=#[t,t]})
    (q:P.underlying t=some (.slice e)) (r:(P.info? e).map (fun i=>(i.zero,i.size,i.bytes))=some (some z,d.sz,bytes)) (u:z.cells.size=d.sz) (w:0<d.sz) (B:0<bytes)
    (v:Value) (xs ys:List α) (A:Option Addr) (m c:Nat) (ok okp:Nat->Prop) (C:a.eval s=v) (D:a.eval x= .slice A m c)
    (E:N d e W base ok v xs) (G:F d W okp A m ys) (H:∀k,okp k->ok k/\some k≠v.ownBlock) (I:∀k,W.heap.size<=k->ok k)
    (J:Below base w0 W) (K:base<=W.heap.size) (L:(xs.length+m)*bytes<=140737488355328)
    (h:∀v1 w1,N d e w1 base ok v1 (xs++ys)->Below base w0 w1->W.grownBy w1 v.ownBlock->(v1.ownBlock=v.ownBlock\/∃b,v1.ownBlock=some b/\W.heap.size<=b)->wpList P ops Q rest (a.put o.dst v1) w1):
    wpList P ops Q (o::rest) a W:=by
  obtain⟨M,rows,g,O,hf⟩:=E;obtain⟨news,R,S,T⟩:=Bq (Bg G) (fun y c hk=>⟨d.dV (kD hk),d.dW (kD hk)⟩);refine tA (raw d.sz) base n s x t e z bytes p q r u w B v rows news A m c (fun _=>True) (fun _=>False) C D (na O) S (fun _ _ hk=>hk) (fun _ hk=>hk.elim) (fun _ _=>trivial) J K (by rw[g];exact L) ?_;intro v1 w1 U hb j l;exact h v1 w1 (tX M g hf R T H I U j l) hb j l
end
end Kd
end Go.Proofs.YtffdiakgjakngaaGreatW.PrintWords
end
section
namespace Go.Proofs.YtffdiakgjakngaaGreatW.PrintMore
open Go.RowKit Go.Proofs.YtffdiakgjakngaaGreatW.PrintWords
theorem jQ (k k':IntKind) (x y:Int):Builtin.max2 (.int k x) (.int k' y)=pure (.int k (if x<y then y else x)):=by simp only[Builtin.max2,gt_iff_lt]
theorem jR (k k':IntKind) (x y:Int):Builtin.min2 (.int k x) (.int k' y)=pure (.int k (if y<x then y else x)):=by simp only[Builtin.min2]
theorem jS (e:Array TypeId) (ty:TypeId) (a b:Value):Builtin.max_ e ty #[a,b]=(Builtin.max2 a b>>=fun s=>pure s):=by simp only[Builtin.max_,List.foldlM_cons,List.foldlM_nil]
theorem jT (e:Array TypeId) (ty:TypeId) (a b:Value):Builtin.min_ e ty #[a,b]=(Builtin.min2 a b>>=fun s=>pure s):=by simp only[Builtin.min_,List.foldlM_cons,List.foldlM_nil]
theorem ng (e:Array TypeId) (ty:TypeId) (a b c:Value):Builtin.max_ e ty #[a,b,c]=(Builtin.max2 a b>>=fun s=>Builtin.max2 s c>>=fun s=>pure s):=by simp only[Builtin.max_,List.foldlM_cons,List.foldlM_nil]
theorem nh (e:Array TypeId) (ty:TypeId) (a b c:Value):Builtin.min_ e ty #[a,b,c]=(Builtin.min2 a b>>=fun s=>Builtin.min2 s c>>=fun s=>pure s):=by simp only[Builtin.min_,List.foldlM_cons,List.foldlM_nil]
theorem ni (e:Array TypeId) (ty:TypeId) (a b c d:Value):Builtin.max_ e ty #[a,b,c,d]=(Builtin.max2 a b>>=fun s=>Builtin.max2 s c>>=fun s=>Builtin.max2 s d>>=fun s=>pure s):=by simp only[Builtin.max_,List.foldlM_cons,List.foldlM_nil]
theorem nj (e:Array TypeId) (ty:TypeId) (a b c d:Value):Builtin.min_ e ty #[a,b,c,d]=(Builtin.min2 a b>>=fun s=>Builtin.min2 s c>>=fun s=>Builtin.min2 s d>>=fun s=>pure s):=by simp only[Builtin.min_,List.foldlM_cons,List.foldlM_nil]
end Go.Proofs.YtffdiakgjakngaaGreatW.PrintMore
namespace Go.Proofs.YtffdiakgjakngaaGreatW.PrintWords
open Go.RowKit
section
variable {P:Program} {ops:Array Oper} {rest:List Oper} {o:Oper} {a:Act} {Q:Exit->Act->World->Prop} {W:World}
theorem aJ {f:FuncId} {b:Array Operand} {e:Array TypeId} (_ho:o.op= .call {callee:=.value (.func f),args:=b,argTypes:=e}) (h:wpList P ops Q (o::rest) a W):wpList P ops Q (o::rest) a W:=h
theorem qF {b:Builtin} {xs:Array Operand} {e:Array TypeId} (_ho:o.op= .call {callee:=.builtin b,args:=xs,argTypes:=e}) (h:wpList P ops Q (o::rest) a W):wpList P ops Q (o::rest) a W:=h
end
def mx (a b:Int):Int:=if a<b then b else a
def mn (a b:Int):Int:=if b<a then b else a
theorem tZ (w:World) (n:Nat):w.drewN n=w.drewN n:=rfl
namespace Kd
section
variable {α:Type} {d:Kd α} {e base:Nat} {ok:Nat->Prop} {W w1:World} {v:Value} {xs:List α}
theorem iS (h:d.R e W base ok v xs) (a:d.E=[]) {row:Option Nat} (b:W.grownBy w1 row) (g:row≠v.ownBlock):d.R e w1 base ok v xs:=
  a_ (l7 (ia a h) b (fun _ hk i=>g (i.symm.trans hk))) (fun k hk=>h.1 k hk.symm)
end
section
variable {α:Type} {d:Kd α} {e base b b' g N:Nat} {ok ok1:Nat->Prop} {W W2 w1:World} {u v:Value} {xs ys:List α} {S:Nat->Prop}
theorem t_ (a:d.E=[]) (h:d.R e W base ok1 v xs) (b:∀k,v.ownBlock=some k->ok k):d.R e W base ok v xs:=a_ (ia a h) (fun k hk=>b k hk.symm)
end
end Kd
namespace Kd
def V {α:Type} (d:Kd α) (_e:Nat) (W:World) (_base:Nat) (ok:Nat->Prop) (v:Value) (xs:List α):Prop:=∃A c,v= .slice A xs.length c/\xs.length<=c/\F d W ok A xs.length xs
section
variable {α β:Type} {d:Kd α} {e base base' n m c g N' lo hi:Nat} {ok ok' S:Nat->Prop} {w W w1:World} {A:Option Addr} {ad:Addr} {u v v1:Value} {xs:List α}
theorem oO (h:V d e W base ok v xs) (hF:∀A,F d W ok A xs.length xs->F d w1 ok' A xs.length xs):V d e w1 base' ok' v xs:=by
  obtain⟨A,c,a,b,hf⟩:=h;exact⟨A,c,a,b,hF A hf⟩
theorem qG (a:xs.length<=c) (hf:F d W ok A xs.length xs):V d e W base ok (.slice A xs.length c) xs:=⟨A,c,rfl,a,hf⟩
theorem t' (h:V d e W base ok v xs) (a:∀k,ok k->ok' k):V d e W base ok' v xs:=oO h (fun _ hf=>oJ hf a)
theorem mo (h:V d e W base ok v xs) (m:Nat):V d e (W.drewN m) base ok v xs:=oO h (fun _ hf=>AU hf m)
theorem Br (h:V d e W base (fun k=>ok k/\some k≠u.ownBlock) v xs) (a:W.grownBy w1 u.ownBlock) (g:v1.ownBlock=u.ownBlock\/∃b,v1.ownBlock=some b/\W.heap.size<=b):V d e w1 base (fun k=>ok k/\some k≠v1.ownBlock) v xs:=oO h (fun _ hf=>AX hf a g)
theorem ub (h:V d e W base (fun k=>ok k/\some k≠v.ownBlock) u xs) (a:W.grownBy w1 v.ownBlock) (g:v1.ownBlock=v.ownBlock\/∃b,v1.ownBlock=some b/\W.heap.size<=b):V d e w1 base (fun k=>ok k/\some k≠v1.ownBlock) u xs:=Br h a g
theorem qH (h:N d e W base (fun k=>ok k/\some k≠v.ownBlock) u xs) (a:W.grownBy w1 v.ownBlock) (g:v1.ownBlock=v.ownBlock\/∃b,v1.ownBlock=some b/\W.heap.size<=b):N d e w1 base (fun k=>ok k/\some k≠v1.ownBlock) u xs:=Bj h a g
theorem oP (h:V d e W base ok v xs) (a:∀k,u.ownBlock=some k->W.heap.size<=k) (hb:Below W.heap.size W w1):V d e w1 base (fun k=>ok k/\some k≠u.ownBlock) v xs:=oO h (fun _ hf=>AW hf a hb)
theorem lE {l:List α} {cs:List Value} (h:FK (Kd.slice e d) W ok l cs):∃A c,cs=[.slice A l.length c]/\l.length<=c/\F d W ok A l.length l:=by
  obtain⟨A,c,rfl,a,_⟩:=kD h;refine⟨A,c,rfl,a,fun W' b=>?_⟩;obtain⟨A',j,he,_,g⟩:=h W' b;injection he with he _
  injection he with i _ _
  rw[i];exact g
theorem oQ {l:List α} (a:l.length<=c) (hf:F d W ok A l.length l):FK (Kd.slice e d) W ok l [.slice A l.length c]:=fun W' b=>⟨A,c,rfl,a,hf W' b⟩
theorem Bs {k:IntKind} {l:List Int} (h:(Kd.int k).C w (some ad) n l) (i:Int) (a:0<=i) (h1:i<n):w.cell? (ad.add i.toNat)=some (.int k (rd l i)):=by
  obtain⟨e,he,b⟩:=bJ h i a h1;injection he with he
  subst he;exact b
theorem Bt {M:Nat->Prop} (h:d.R e w1 W.heap.size ok v xs) (hle:w.heap.size<=W.heap.size) (a:∀k,w.heap.size<=k->M k):d.R e w1 W.heap.size (fun k=>M k/\ok k) v xs:=a_ (ef h) (fun k hk=>⟨a k (Nat.le_trans hle hk.2.1),hk.1⟩)
end
end Kd
end Go.Proofs.YtffdiakgjakngaaGreatW.PrintWords
end
section
namespace Go.Proofs.YtffdiakgjakngaaGreatW.PrintLast
open Go.Proofs.YtffdiakgjakngaaGreatW.PrintWords (Aside0)
def mq (md:Region.Mode) (o:Oper):List Nat:=(o.after.toList.filter (fun e=>Region.binds md e)).map (fun e=>e.on)
def qI (md:Region.Mode) (ops:Array Oper) (i:Nat) (b:Oper):List Nat:=(List.range ops.size).filter fun j=> !(j==i)&&match ops[j]? with
  |some a=> !(a.after.any (fun e=>Region.binds md e&&e.on==i)||b.apart ops a)
  |none=>false
def dX (md:Region.Mode) (ops:Array Oper):Bool×List (List Nat×List Nat):=(Region.noSelect ops,(List.range ops.size).map fun i=>match ops[i]? with
  |some o=>(mq md o,qI md ops i o)
  |none=>([],[]))
def kH (T:List (List Nat×List Nat)) (l:List Bool) (i:Nat):Bool:= !l.getD i true&&match T[i]? with
  |some r=>r.1.all (fun j=>l.getD j false)
  |none=>false
def nk (T:List (List Nat×List Nat)) (l:List Bool):List Nat:=(List.range T.length).filter (kH T l)
def nm (T:List (List Nat×List Nat)) (l:List Bool) (i:Nat):Bool:=match T[i]? with
  |some r=>r.2.all (fun j=>l.getD j true)
  |none=>false
def oR (T:List (List Nat×List Nat)) (l:List Bool):Bool:=(List.range T.length).all fun j=> !l.getD j false||match T[j]? with
  |some r=>r.1.all (fun k=>l.getD k false)
  |none=>true
def mr (T:List (List Nat×List Nat)) (i:Nat):Nat->Nat->Bool
  |0,_=>false
  |fuel+1,d=>match T[d]? with
    |some r=>r.1.any fun j=>j==i||mr T i fuel j
    |none=>false
def oS (T:List (List Nat×List Nat)) (l:List Bool) (ds:List Nat) (i:Nat):Bool:=ds.all fun d=>l.getD d true||mr T i T.length d
section
variable {md:Region.Mode} {ops:Array Oper} {T:Bool×List (List Nat×List Nat)} {l l' li lj lk:Array Bool} {ds:List Nat} {i j k:Nat}
theorem gd (l:Array Bool) (j:Nat) (b:Bool):l.getD j b=l.toList.getD j b:=by simp[Array.getD_eq_getD_getElem?,List.getD_eq_getElem?_getD]
theorem ud (o:Oper) (p:Nat->Bool):o.after.all (fun e=> !Region.binds md e||p e.on)=(mq md o).all p:=by
  unfold mq;rw[<-Array.all_toList];induction o.after.toList with
  |nil=>rfl
  |cons e r a=>
    rw[List.all_cons,a,List.filter_cons];cases h:Region.binds md e<;>simp
theorem Bu (o:Oper) (p:Nat->Bool):o.after.any (fun e=>Region.binds md e&&p e.on)=(mq md o).any p:=by
  unfold mq;rw[<-Array.any_toList];induction o.after.toList with
  |nil=>rfl
  |cons e r a=>
    rw[List.any_cons,a,List.filter_cons];cases h:Region.binds md e<;>simp
theorem oT:(dX md ops).2.length=ops.size:=by simp[dX]
theorem oU {o:Oper} (h:ops[i]? =some o):(dX md ops).2[i]? =some (mq md o,qI md ops i o):=by
  have hi:=(Array.getElem?_eq_some_iff.1 h).1;unfold dX;rw[List.getElem?_map,List.getElem?_range hi,Option.map_some,h]
theorem oV (h:ops[i]? =none):(dX md ops).2[i]? =none:=by
  have hi:ops.size<=i:=Array.getElem?_eq_none_iff.1 h;exact List.getElem?_eq_none (by rw[oT];exact hi)
theorem Bv:kH (dX md ops).2 l.toList i=(!l.getD i true&&((ops[i]?).map (·.after.all fun e=> !Region.binds md e||l.getD e.on false)).getD false):=by
  unfold kH;rw[gd];cases h:ops[i]? with
  |none=>rw[oV h];rfl
  |some o=>
    rw[oU h];simp only[Option.map_some,Option.getD_some];rw[<-ud];simp only[gd]
theorem qJ:Region.ready md ops l=nk (dX md ops).2 l.toList:=by
  unfold Region.ready nk;rw[oT];refine List.filter_congr (fun i _=>?_);rw[Bv]
theorem ue:Region.free md ops l i=nm (dX md ops).2 l.toList i:=by
  unfold Region.free nm;cases h:ops[i]? with
  |none=>rw[oV h]
  |some b=>
    rw[oU h];simp only[qI];rw[List.all_filter];congr 1
    funext j
    rw[gd];cases g:ops[j]? with
    |none=>cases (j==i)<;>cases (l.toList.getD j true)<;>simp
    |some a=>
      cases (j==i)<;>cases (l.toList.getD j true)<;>cases (a.after.any (fun e=>Region.binds md e&&e.on==i)||b.apart ops a)<;>simp_all
theorem Bw:Region.mX md ops l=oR (dX md ops).2 l.toList:=by
  unfold Region.mX oR;rw[oT];congr 1
  funext j
  rw[gd];cases h:ops[j]? with
  |none=>rw[oV h]
  |some o=>
    rw[oU h];simp only;rw[<-ud];simp only[gd]
theorem uf:∀(fuel d:Nat),Region.iD md ops i fuel d=mr (dX md ops).2 i fuel d
  |0,_=>rfl
  |fuel+1,d=>by
    unfold Region.iD mr;cases h:ops[d]? with
    |none=>rw[oV h]
    |some o=>
      rw[oU h];simp only;rw[<-Bu];congr 1
      funext e
      rw[uf fuel]
theorem Bx:Region.oF md ops l ds i=oS (dX md ops).2 l.toList ds i:=by
  unfold Region.oF oS;rw[oT];congr 1
  funext d
  rw[gd,uf]
theorem ug (h:kH T.2 l.toList i=true) (b:dX md ops=T):(Region.ready md ops l).contains i=true:=by
  subst b;rw[qJ];unfold nk;rw[List.contains_iff_mem,List.mem_filter,List.mem_range];refine⟨?_,h⟩;unfold kH at h;rw[Bool.and_eq_true] at h;cases a:(dX md ops).2[i]? with
  |none=>rw[a] at h;simp at h
  |some r=>exact(List.getElem?_eq_some_iff.1 a).1
theorem qK (h:(l.toList.set i true==l'.toList)=true):(l.setIfInBounds i true==l')=true:=by
  rw[beq_iff_eq] at h⊢;apply Array.ext'
  rw[Array.toList_setIfInBounds];exact h
def qL (T:Bool×List (List Nat×List Nat)) (l l':List Bool) (i:Nat):Bool:=T.1&&nm T.2 l i&&kH T.2 l i&&(l.set i true==l')
theorem By (a:dX md ops=T) (h:qL T l.toList l'.toList i=true):oG md ops l l' i=true:=by
  simp only[qL,Bool.and_eq_true] at h;obtain⟨⟨⟨h1,b⟩,e⟩,g⟩:=h;have j:=ug e a;have k:=qK g;subst a;simp only[oG,Bool.and_eq_true];exact⟨⟨⟨h1,by rw[ue];exact b⟩,j⟩,k⟩
def qM (T:Bool×List (List Nat×List Nat)) (ds:List Nat) (l l':List Bool) (i:Nat):Bool:=T.1&&nm T.2 l i&&kH T.2 l i&&oR T.2 l&&oS T.2 l ds i&&(l.set i true==l')
theorem Bz (a:dX md ops=T) (h:qM T ds l.toList l'.toList i=true):mY md ops ds l l' i=true:=by
  simp only[qM,Bool.and_eq_true] at h;obtain⟨⟨⟨⟨⟨h1,b⟩,e⟩,g⟩,j⟩,k⟩:=h;have m:=ug e a;have n:=qK k;subst a;simp only[mY,Bool.and_eq_true];exact⟨⟨⟨⟨⟨h1,by rw[ue];exact b⟩,m⟩,by rw[Bw];exact g⟩,by rw[Bx];exact j⟩,n⟩
theorem kI (a:dX md ops=T) (h:(nk T.2 l.toList==[i]&&l.toList.set i true==l'.toList)=true):mc md ops l l' i=true:=by
  simp only[Bool.and_eq_true] at h;obtain⟨h1,b⟩:=h;subst a;simp only[mc,Bool.and_eq_true];exact⟨by rw[qJ];exact h1,qK b⟩
theorem qN (a:dX md ops=T) (h:(nk T.2 l.toList==[])=true):(Region.ready md ops l==[])=true:=by
  subst a;rw[qJ];exact h
def lF (B:List Nat) (d:Nat):List Nat->Nat
  |[]=>0
  |n::r=>(2 ^ n|||(if n<d then B.getD n 0 else 0))|||lF B d r
def lG (T:List (List Nat×List Nat)) (B:List Nat):Bool:=(List.range T.length).all fun d=>match T[d]? with
  |some r=>(B.getD d 0|||lF B d r.1)==lF B d r.1
  |none=>false
theorem uh {B:List Nat} {d i:Nat}:∀{ns:List Nat},(lF B d ns).testBit i=true->∃n∈ns,n=i\/(n<d/\(B.getD n 0).testBit i=true)
  |[],h=>by simp[lF] at h
  |n::r,h=>by
    unfold lF at h;rw[Nat.testBit_or,Nat.testBit_or,Bool.or_eq_true,Bool.or_eq_true] at h;rcases h with (h|h)|h
    · rw[Nat.testBit_two_pow] at h
      exact⟨n,List.mem_cons_self,.inl (by simpa using h)⟩
    · by_cases hn:n<d
      · rw[if_pos hn] at h
        exact⟨n,List.mem_cons_self,.inr ⟨hn,h⟩⟩
      · rw[if_neg hn] at h
        simp at h
    · obtain⟨m,hm,a⟩:=uh h
      exact⟨m,List.mem_cons_of_mem _ hm,a⟩
theorem ui {T:List (List Nat×List Nat)} {B:List Nat} (b:lG T B=true):∀(fuel d:Nat),d<fuel->d<T.length->(B.getD d 0).testBit i=true->mr T i fuel d=true
  |0,d,h,_,_=>by omega
  |fuel+1,d,h,hd,hb=>by
    have h1:=List.all_eq_true.1 b d (List.mem_range.2 hd);cases a:T[d]? with
    |none=>rw[a] at h1;simp at h1
    |some r=>
      rw[a] at h1;simp only[beq_iff_eq] at h1;have e:(lF B d r.1).testBit i=true:=by rw[<-h1,Nat.testBit_or,hb,Bool.true_or]
      obtain⟨n,hn,g⟩:=uh e;unfold mr;rw[a];simp only;rw[List.any_eq_true];refine⟨n,hn,?_⟩;rcases g with rfl|⟨k,j⟩
      · simp
      · rw[ui b fuel n (by omega) (by omega) j,Bool.or_true]
def uj (T:List (List Nat×List Nat)) (B:List Nat) (l:List Bool) (ds:List Nat) (i:Nat):Bool:=ds.all fun d=>l.getD d true||(decide (d<T.length)&&(B.getD d 0).testBit i)
def uk (T:Bool×List (List Nat×List Nat)) (B:List Nat) (ds:List Nat) (l l':List Bool) (i:Nat):Bool:=T.1&&nm T.2 l i&&kH T.2 l i&&oR T.2 l&&uj T.2 B l ds i&&(l.set i true==l')
theorem kJ {B:List Nat} (g:dX md ops=T) (j:lG T.2 B=true) (h:uk T B ds l.toList l'.toList i=true):mY md ops ds l l' i=true:=by
  refine Bz g ?_;simp only[uk,qM,Bool.and_eq_true] at h⊢;obtain⟨⟨⟨⟨⟨h1,k⟩,m⟩,n⟩,b⟩,o⟩:=h;refine⟨⟨⟨⟨⟨h1,k⟩,m⟩,n⟩,?_⟩,o⟩;unfold uj at b;unfold oS;rw[List.all_eq_true] at b⊢;intro d hd;have a:=b d hd;rw[Bool.or_eq_true,Bool.and_eq_true,decide_eq_true_eq] at a;rcases a with a|⟨e,p⟩
  · rw[a,Bool.true_or]
  · rw[ui j _ d e e p,Bool.or_true]
theorem qO {P:Program} {Q:Exit->Act->World->Prop} {S:World->Prop} {n:Nat} {a:Act} {w:World} {B:List Nat} (b:dX md ops=T) (e:lG T.2 B=true) (h:Aside0 (dX md ops=T)->Aside0 (lG T.2 B=true)->da P md ops Q S ds n l a w):da P md ops Q S ds n l a w:=h ⟨b⟩ ⟨e⟩
end
def ju:Code->Nat->Option (Array Oper)
  | .region id ops _,k=>if id==k then some ops else none
  | .seq a b,k=>match ju a k with
    |some o=>some o
    |none=>ju b k
  | .cond _ a b,k=>match ju a k with
    |some o=>some o
    |none=>ju b k
  | .block _ c,k=>ju c k
  | .loop c,k=>ju c k
  | .scope c,k=>ju c k
  | .rangeFunc _ _ a b,k=>match ju a k with
    |some o=>some o
    |none=>ju b k
  |_,_=>none
def opsOf (f:Func) (k:Nat):Array Oper:=((f.body.bind fun c=>ju c k)).getD #[]
end Go.Proofs.YtffdiakgjakngaaGreatW.PrintLast
end
section
end
section
namespace Go.Proofs.YtffdiakgjakngaaGreatW.PrintWords
open Go.RowKit
end Go.Proofs.YtffdiakgjakngaaGreatW.PrintWords
end
section
namespace Go.Proofs.YtffdiakgjakngaaGreatW.PrintWords
open Go.RowKit
end Go.Proofs.YtffdiakgjakngaaGreatW.PrintWords
end
section
namespace Go.Proofs.YtffdiakgjakngaaGreatW.PrintWords
open Go.RowKit
end Go.Proofs.YtffdiakgjakngaaGreatW.PrintWords
end
section
namespace Go.Proofs.YtffdiakgjakngaaGreatW.PrintWords
theorem aT.one {α:Type} {R:α->List Value->Prop} {ps:List α} {cs:List Value} {p:α} {v:Value} (hp:R p [v]) (h:aT R 1 ps cs):aT R 1 (p::ps) (v::cs):=by
  refine⟨by simp[h.1],fun j q a=>?_⟩;cases j with
  |zero=>
    simp only[List.getElem?_cons_zero,Option.some.injEq] at a;subst a;simpa using hp
  |succ j=>
    simp only[List.getElem?_cons_succ] at a;have h1:=h.2 j q a;simpa [Nat.mul_one] using h1
theorem aT.front {α:Type} {R:α->List Value->Prop} {size:Nat} {ps:List α} {cs c all:List Value} {p:α} (hp:R p c) (b:c.length=size) (h:aT R size ps cs) (e:c++cs=all):aT R size (p::ps) all:=by
  subst e;refine⟨by rw[List.length_append,b,h.1,List.length_cons,Nat.succ_mul,Nat.add_comm],fun j q a=>?_⟩;cases j with
  |zero=>
    simp only[List.getElem?_cons_zero,Option.some.injEq] at a;subst a;rw[Nat.zero_mul,List.drop_zero,List.take_append_of_le_length (by omega),List.take_of_length_le (by omega)];exact hp
  |succ j=>
    simp only[List.getElem?_cons_succ] at a;have h1:=h.2 j q a;rw[Nat.succ_mul,List.drop_append,List.drop_of_length_le (by rw[b];exact Nat.le_add_left _ _),List.nil_append,b,Nat.add_sub_cancel];exact h1
theorem aT.c3 {α:Type} {R:α->List Value->Prop} {ps:List α} {cs:List Value} {p:α} {a b e:Value} (hp:R p [a,b,e]) (h:aT R 3 ps cs):aT R 3 (p::ps) (a::b::e::cs):=aT.front hp rfl h rfl
end Go.Proofs.YtffdiakgjakngaaGreatW.PrintWords
end
section
end
section
namespace Go.Proofs.YtffdiakgjakngaaGreatW.PrintWords
open Go.RowKit
end Go.Proofs.YtffdiakgjakngaaGreatW.PrintWords
end
section
namespace Go.Proofs.YtffdiakgjakngaaGreatW.PrintWords
open Go.RowKit
section
variable {P:Program} {ops:Array Oper} {rest:List Oper} {o:Oper} {a:Act} {Q:Exit->Act->World->Prop} {W:World}
theorem ei (hw:Region.wanted o (yielded ops a.tmps)=true) (h:wpList P ops Q ({o with guard:=none}::rest) a W):wpList P ops Q (o::rest) a W:=by
  have h1:Region.wanted {o with guard:=none} (yielded ops a.tmps)=true:=rfl;unfold wpList at h⊢;rw[if_pos h1] at h;rw[if_pos hw];exact h
end
end Go.Proofs.YtffdiakgjakngaaGreatW.PrintWords
end


namespace Go.Proofs.YtffdiakgjakngaaGreat.P
open Go.RowKit Go.Proofs.YtffdiakgjakngaaGreatW.PrintWords Go.Proofs.YtffdiakgjakngaaGreatW.PrintLast Go.Proofs.YtffdiakgjakngaaGreatW.PrintMore
set_option linter.unusedVariables false
set_option linter.unusedSimpArgs false
set_option maxHeartbeats 8000000
set_option maxRecDepth 100000
section
section
variable {w W W0 W':World}
theorem zB (h:Below w.heap.size w W:=by repeat(first|(with_reducible first|exact Aside0.out (by assumption)|apply ao|apply bN|apply bR|refine dL ?_ (Aside0.out (by assumption)))|exact Aside0.out (by assumption))):Below w.heap.size w W:=h
theorem zS (a:Aside0 (Below w.heap.size w W0)) (hb:Below W.heap.size W W') (h:Below w.heap.size w W:=by repeat(first|(with_reducible first|exact Aside0.out (by assumption)|apply ao|apply bN|apply bR|refine dL ?_ (Aside0.out (by assumption)))|exact Aside0.out (by assumption))):Aside0 (Below w.heap.size w W'):=⟨aW h hb⟩
theorem zG {g:Nat} (b:Aside0 (Below w.heap.size w W0)) (a:g=W.heap.size) (h:Below w.heap.size w W:=by repeat(first|(with_reducible first|exact Aside0.out (by assumption)|apply ao|apply bN|apply bR|refine dL ?_ (Aside0.out (by assumption)))|exact Aside0.out (by assumption))):Aside0 (w.heap.size<=g):=⟨by rw[a];exact bH h⟩
theorem zK {g:Nat} {o:Obj} (h:Aside0 (W0.heap[g]? =some o)) (c:W0.heap[g]? =some o->W.heap[g]? =some o:=by intro h;(with_reducible repeat(first|refine iB ?_ _|refine eZ ?_|refine au ?_ _));exact h):W.heap[g]? =some o:=c h.out
theorem zk {g:Nat} {o:Obj} (h:W0.heap[g]? =some o) (c:W0.heap[g]? =some o->W.heap[g]? =some o:=by intro h;(with_reducible repeat(first|refine iB ?_ _|refine eZ ?_|refine au ?_ _));exact h):W.heap[g]? =some o:=c h
theorem zb {g:Nat} {o:Obj} (h:Aside0 (W0.heap[g]? =some o)) (hb:Below W.heap.size W W') (c:W0.heap[g]? =some o->W.heap[g]? =some o:=by intro h;(with_reducible repeat(first|refine iB ?_ _|refine eZ ?_|refine au ?_ _));exact h):Aside0 (W'.heap[g]? =some o):=⟨aD (c h.out) hb⟩
section
variable {α:Type} {d:Kd α} {e base:Nat} {ok:Nat->Prop} {v:Value} {xs:List α} {A:Option Addr} {n:Nat}
theorem zR (h:Aside0 (d.R e W0 base ok v xs)) (c:d.R e W0 base ok v xs->d.R e W base ok v xs:=by intro h;(with_reducible repeat(first|apply Kd.aM|apply Kd.bs|apply Kd.bj));exact h):d.R e W base ok v xs:=c h.out
theorem zN (h:Aside0 (d.N e W0 base ok v xs)) (c:d.N e W0 base ok v xs->d.N e W base ok v xs:=by intro h;(with_reducible repeat(first|apply Kd.e8|apply Kd.gP|apply Kd.gO));exact h):d.N e W base ok v xs:=c h.out
theorem bp (h:Aside0 (d.R e W0 base ok v xs)) (hb:Below W.heap.size W W') (c:d.R e W0 base ok v xs->d.R e W base ok v xs:=by intro h;(with_reducible repeat(first|apply Kd.aM|apply Kd.bs|apply Kd.bj));exact h):Aside0 (d.R e W' base ok v xs):=⟨Kd.cY (c h.out) hb⟩
theorem BA (h:Aside0 (d.N e W0 base ok v xs)) (hb:Below W.heap.size W W') (c:d.N e W0 base ok v xs->d.N e W base ok v xs:=by intro h;(with_reducible repeat(first|apply Kd.e8|apply Kd.gP|apply Kd.gO));exact h):Aside0 (d.N e W' base ok v xs):=⟨Kd.dF (c h.out) hb⟩
section
variable {β:Type} {d2:Kd β} {e2:Nat} {ok2:Nat->Prop} {u:Value} {ys:List β} {w2:World}
theorem bS (h:Aside0 (d.R e W0 base ok v xs)) (hb:d2.R e2 w2 W.heap.size ok2 u ys) (a:Below W.heap.size W W') (c:d.R e W0 base ok v xs->d.R e W base ok v xs:=by intro h;(with_reducible repeat(first|apply Kd.aM|apply Kd.bs|apply Kd.bj));exact h):Aside0 (d.R e W' base (fun k=>ok k/\some k≠u.ownBlock) v xs):=⟨Kd.tu (c h.out) (Kd.dK hb) a⟩
theorem ie (h:Aside0 (d.N e W0 base ok v xs)) (hb:d2.R e2 w2 W.heap.size ok2 u ys) (a:Below W.heap.size W W') (c:d.N e W0 base ok v xs->d.N e W base ok v xs:=by intro h;(with_reducible repeat(first|apply Kd.e8|apply Kd.gP|apply Kd.gO));exact h):Aside0 (d.N e W' base (fun k=>ok k/\some k≠u.ownBlock) v xs):=⟨Kd.Bi (c h.out) (Kd.dK hb) a⟩
end
theorem zC (h:d.C W0 A n xs) (c:d.C W0 A n xs->d.C W A n xs:=by intro h;repeat(first|exact h|(with_reducible refine Kd.bz ?_ _)|(with_reducible refine Kd.gy ?_ _)|(with_reducible refine Kd.fD ?_))):d.C W A n xs:=c h
end
section
variable {g:Nat} {a b c:Value} {l:List Value} {t:TypeId}
theorem z0 (h:Aside0 (W.heap[g]? =some (.cells (List.toArray (a::l)) t (0,0)))):W.cell? ⟨g,0,none⟩=some a:=(ah h.out 0).trans rfl
theorem z1 (h:Aside0 (W.heap[g]? =some (.cells (List.toArray (a::b::l)) t (0,0)))):W.cell? ⟨g,1,none⟩=some b:=(ah h.out 1).trans rfl
theorem z2 (h:Aside0 (W.heap[g]? =some (.cells (List.toArray (a::b::c::l)) t (0,0)))):W.cell? ⟨g,2,none⟩=some c:=(ah h.out 2).trans rfl
theorem aA (h:Aside0 (W.heap[g]? =some (.cells #[a,b] t (0,0)))):W.cell? ⟨g,0,none⟩=some a/\W.cell? ⟨g,1,none⟩=some b/\W.frozen? ⟨g,0,none⟩=false/\W.frozen? ⟨g,1,none⟩=false:=⟨z0 h,z1 h,bF h.out 0,bF h.out 1⟩
theorem cA (h:Aside0 (W.heap[g]? =some (.cells #[a,b,c] t (0,0)))):W.cell? ⟨g,0,none⟩=some a/\W.cell? ⟨g,1,none⟩=some b/\W.cell? ⟨g,2,none⟩=some c/\W.frozen? ⟨g,0,none⟩=false/\W.frozen? ⟨g,1,none⟩=false/\W.frozen? ⟨g,2,none⟩=false:=⟨z0 h,z1 h,z2 h,bF h.out 0,bF h.out 1,bF h.out 2⟩
end
end
theorem zE {p:Prop} (h:p:=by first|rfl|(simp[fG,fH]<;>rfl)|(simp[*,fG,fH]<;>rfl)):p:=h
theorem zT {p:Prop} (h:p:=by first|rfl|(simp;done)|(simp[*];done)):p:=h
section
variable {P:Program} {ops:Array Oper} {Q:Exit->Act->World->Prop}
theorem zL {rest:List Oper} {b:Oper} {a:Act} {w:World} {f:FuncId} {fn:Func} {g:Array Operand} {i:Array TypeId} (N:Option Tmp) (hf:P.funcs[f]? =some fn) (args:Array Value)
  (h:Calls P f args w fun e w'=>∃v,e= .returned v/\wpList P ops Q rest (a.put N v) w') (hd:b.dst=N:=by exact rfl) (j:b.guard=none:=by exact rfl) (k:(fn.name== "runtime.NumGoroutine")=false:=by kernel_rfl) (hb:fn.body.isSome=true:=by exact rfl)
  (l:b.op= .call {callee:=.value (.func f),args:=g,argTypes:=i}:=by exact rfl) (m:g.map a.eval=args:=by(try simp only[List.map_toArray,List.map_cons,List.map_nil]);first|done|rfl|(simp only[List.length_drop,List.length_take];rfl)):wpList P ops Q (b::rest) a w:=
 tJ N hd j hf k hb args l m h
theorem zX {rest:List Oper} {o:Oper} {a:Act} {W:World} (N:Tmp) (cs:Array Value) (t:TypeId)
  (h:∀g,g=W.heap.size->∀w1,w1.heap[g]? =some (.cells cs t (0,0))->Below W.heap.size W w1->wpList P ops Q rest (a.put o.dst (.pointer (some ⟨g,0,none⟩))) w1) (b:o.guard=none:=by exact rfl) (hd:o.dst=some N:=by exact rfl)
  (e:(execOp a.eval o).run P W= .ok (.value (.pointer (some ⟨W.heap.size,0,none⟩))) (W.alloc (.cells cs t (0,0))):=by first|(go_simp;done)|(go_simp;rfl)):wpList P ops Q (o::rest) a W:=zY b hd e h
end
theorem zo {α β:Type} {x:Option α} {f:α->Option β} {r:β} (h:x.bind f=some r):∃a,Aside0 (x=some a)/\f a=some r:=(Option.bind_eq_some_iff.1 h).imp fun _ k=>⟨⟨k.1⟩,k.2⟩
theorem zi {α:Type} {a b r:α} (h:(if true=true then a else b)=r):a=r:=h
theorem zj {α:Type} {a b r:α} (h:(if false=true then a else b)=r):b=r:=h
theorem bT {a b:Int} (h:a=b):(a==b)=true/\(a != b)=false:=⟨beq_iff_eq.2 h,bne_eq_false_iff_eq.2 h⟩
theorem bU {a b:Int} (h:¬a=b):(a==b)=false/\(a != b)=true:=⟨beq_eq_false_iff_ne.2 h,bne_iff_ne.2 h⟩
theorem zh {α:Type} {a b:α} (e:a=b) {p q:Prop} (H:p) (h:a=b->p->q:=by intro e H;first|(rw[e];with_reducible exact H)|(have z:=(Option.bind_some _ _).symm.trans H;rw[e];with_reducible exact z)|(have z:=(Option.bind_some _ _).symm.trans H;with_reducible exact z)|with_reducible exact H|(rw[e];exact H)|exact H):q:=h e H
abbrev aQ:=@Option.some.inj
abbrev bu:=@World.block_lt_of_cell?
abbrev aX:=@List.getD_eq_getElem?_getD
abbrev bB:=@List.getElem?_eq_getElem
abbrev aG:=@Int.toNat_natCast
abbrev a7:=@heap_alloc_new
abbrev aq:=@Below.refl
abbrev aI:=@Nat.le_refl
theorem zA {p:Prop} (h:p):Aside0 p:=⟨h⟩
theorem ay {p:Prop} [h:Decidable p] (k:p):decide p=true:=decide_eq_true k
theorem aZ {p:Prop} [h:Decidable p] (k:¬p):decide p=false:=decide_eq_false k
theorem aw {p:Prop} [h:Decidable p] (k:decide p=true):p:=of_decide_eq_true k
section
variable {P:Program} {ops:Array Oper} {Q:Exit->Act->World->Prop} {md:Region.Mode} {S:World->Prop} {ds:List Nat}
def pf (n b s k:Nat):Array Bool:=((List.range n).map fun i=>b.testBit i||decide (s<=i)&&decide (i<k)).toArray
theorem zs {fuel:Nat} {l:Array Bool} {a:Act} {w:World} (n b s:Nat) (e:l=pf n b s s) (h:da P md ops Q S ds fuel (pf n b s s) a w):da P md ops Q S ds fuel l a w:=by rw[e];exact h
theorem zn {T:Bool×List (List Nat×List Nat)} {e:Oper} {v:Value} {m:Tmp} {fuel n b s k j:Nat} {a:Act} {w:World} (g:k+1=j) (i:Aside0 (dX md ops=T)) (hi:ops[k]? =some e) (l:e.dst=some m) (o:qL T (pf n b s k).toList (pf n b s j).toList k=true)
  (p:Yields P ops e v a) {a':Act} (q:a.put (some m) v=a') (h:da P md ops Q S ds fuel (pf n b s j) a' w) (r:∀c a w,Q (.panic c) (a.put e.dst v) w->Q (.panic c) a w:=by exact fun _ _ _ h=>h):da P md ops Q S ds (fuel+1) (pf n b s k) a w:=by
 subst g;exact As (N:=some m) _ hi l (By i.out o) r p q h
end
end
def um:Option Int->Value
 |none=>.nilIface
 |some c=>.iface 0 (.int .i64 c)
theorem fG:um none= .nilIface:=rfl
theorem fH (c:Int):um (some c)= .iface 0 (.int .i64 c):=rfl
theorem gz:(Tryz.prog.info? 3).map (fun i=>(i.zero,i.size,i.bytes))=some (some (.int .i64 0),1,8):=by kernel_rfl
theorem mu:(Tryz.prog.info? 4).map (fun i=>(i.zero,i.size,i.bytes))=some (some (.bool false),1,1):=by kernel_rfl
theorem jU:(Tryz.prog.info? 25).map (fun i=>(i.zero,i.size,i.bytes))=some (some (.slice none 0 0),1,24):=by kernel_rfl
theorem qP:(Tryz.prog.info? 26).map (fun i=>(i.zero,i.size,i.bytes))=some (some (.slice none 0 0),1,24):=by kernel_rfl
theorem BB:(Tryz.prog.info? 83).map (fun i=>(i.zero,i.size,i.bytes))=some (some (.agg #[(.int .i64 0),(.int .i64 0),(.int .i64 0)]),3,24):=by kernel_rfl
structure S83 where
 f0:Int
 f1:Int
 f2:Int
def uo:S83:=⟨(0:Int),(0:Int),(0:Int)⟩
def aN:Kd S83:=Kd.zl (Kd.pair (Kd.int .i64) (Kd.pair (Kd.int .i64) (Kd.int .i64))) (fun x:S83=>(x.f0,x.f1,x.f2))
theorem BC {w:World} {x:S83} {cs:List Value} (h:aN.K w x cs):cs=[.int .i64 x.f0,.int .i64 x.f1,.int .i64 x.f2]:=by
 obtain⟨_,_,rfl,rfl,⟨_,_,rfl,rfl,rfl⟩⟩:=h;exact rfl
theorem BD (w:World) (x:S83):aN.K w x [.int .i64 x.f0,.int .i64 x.f1,.int .i64 x.f2]:=⟨[.int .i64 x.f0],[.int .i64 x.f1,.int .i64 x.f2],rfl,rfl,⟨[.int .i64 x.f1],[.int .i64 x.f2],rfl,rfl,rfl⟩⟩
theorem jv (w:World) (base:Nat) (ok:Nat->Prop) (x:S83):aN.M w base ok x [.int .i64 x.f0,.int .i64 x.f1,.int .i64 x.f2]:=⟨[.int .i64 x.f0],[.int .i64 x.f1,.int .i64 x.f2],rfl,rfl,⟨[.int .i64 x.f1],[.int .i64 x.f2],rfl,rfl,rfl⟩⟩
def af (xs:List S83) (i:Int):S83:=xs.getD i.toNat uo
theorem eN {w:World} {A:Option Addr} {n:Nat} {xs:List S83} (h:Kd.C aN w A n xs) (i:Int) (b:0<=i) (h1:i<n):∃ad,A=some ad/\w.cell? (ad.add (i.toNat*3))=some (.int .i64 (af xs i).f0)/\w.cell? ⟨(ad.add (i.toNat*3)).block,(ad.add (i.toNat*3)).off+1,none⟩=some (.int .i64 (af xs i).f1)/\w.cell? ⟨(ad.add (i.toNat*3)).block,(ad.add (i.toNat*3)).off+2,none⟩=some (.int .i64 (af xs i).f2):=by
 obtain⟨ad,c,e,_,g,k⟩:=Kd.l8 h uo i b h1;have a:∀j u,c[j]? =some u->w.cell? (ad.add (i.toNat*3+j))=some u:=k;obtain rfl:=BC g;exact⟨ad,e,a 0 _ rfl,by rw[<-qc _ _ 1 (by omega)];exact a 1 _ rfl,by rw[<-qc _ _ 2 (by omega)];exact a 2 _ rfl⟩
def a6 (xs:List (List Int)) (i:Int):(List Int):=xs.getD i.toNat ([]:List Int)
theorem gQ {w:World} {A:Option Addr} {n:Nat} {xs:List (List Int)} (h:Kd.C (Kd.slice 3 (Kd.int .i64)) w A n xs) (i:Int) (a:0<=i) (h1:i<n):∃ad A0 c0,A=some ad/\w.cell? (ad.add i.toNat)=some (.slice A0 (a6 xs i).length c0)/\(a6 xs i).length<=c0/\(Kd.int .i64).C w A0 (a6 xs i).length (a6 xs i):=by
 obtain⟨ad,c,e,_,b,g⟩:=Kd.l8 h ([]:List Int) i a h1;have k:∀j u,c[j]? =some u->w.cell? (ad.add (i.toNat*1+j))=some u:=g;obtain⟨A0,c0,rfl,l0,g0⟩:=b;exact⟨ad,A0,c0,e,by have l:=k 0 _ rfl;rwa [Nat.mul_one,Nat.add_zero] at l,l0,g0⟩
def dn (f:Nat->Nat->Int) (x:S83):Nat->Nat->Int:=if x.f0=x.f1 then f else fun a b=>if a=x.f1.toNat/\b=x.f0.toNat then x.f2 else if a=x.f0.toNat/\b=x.f1.toNat then x.f2 else f a b
def ae (E:List S83):Nat->Nat->Int:=E.foldl dn (fun _ _=>0)
theorem uq (E:List S83) (k:Nat) (h:k<E.length):ae (E.take (k+1))=dn (ae (E.take k)) (af E k):=by
 unfold ae;rw[List.take_succ_eq_append_getElem h,List.foldl_append];simp[af,aX,bB h]
def ez (n:Nat) (E:List S83):Prop:=∀x∈E,0<=x.f0/\x.f0<n/\0<=x.f1/\x.f1<n/\1<=x.f2/\x.f2<=50
theorem ez.get {n:Nat} {E:List S83} (h:ez n E) (k:Nat) (hk:k<E.length):0<=(af E k).f0/\(af E k).f0<n/\0<=(af E k).f1/\(af E k).f1<n/\1<=(af E k).f2/\(af E k).f2<=50:=by
 have e:af E k=E[k]:=by simp[af,aX,bB hk]
 rw[e];exact h _ (List.getElem_mem hk)
theorem ur {n:Nat}:∀(E:List S83) (f:Nat->Nat->Int),(∀x∈E,1<=x.f2/\x.f2<=50)->(∀i j,0<=f i j/\f i j<=50)->∀i j,0<=E.foldl dn f i j/\E.foldl dn f i j<=50
 |[],f,_,hf=>hf
 |x::E,f,h,hf=>by
  refine ur (n:=n) E _ (fun y b=>h y (List.mem_cons_of_mem _ b)) ?_;intro i j;have e:=h x (List.mem_cons_self ..);have a:=hf i j;unfold dn;split
  ·exact a
  ·dsimp only
   split
   ·omega
   ·split
    ·omega
    ·exact a
theorem ez.times {n:Nat} {E:List S83} (h:ez n E) (i j:Nat):0<=ae E i j/\ae E i j<=50:=ur (n:=n) E _ (fun x a=>⟨(h x a).2.2.2.2.1,(h x a).2.2.2.2.2⟩) (fun _ _=>by simp) i j
def iT (n:Int) (E:List S83):Bool:=E.all fun x=>decide (0<=x.f0/\x.f0<n/\0<=x.f1/\x.f1<n/\1<=x.f2/\x.f2<=50)
theorem iE {n:Nat} {E:List S83} (h:iT n E=true):ez n E:=fun x a=>by simpa using List.all_eq_true.1 h x a
theorem uu:(Tryz.prog.info? 205).map (fun i=>(i.zero,i.size,i.bytes))=some (some (.agg #[.int .i64 0,.int .i64 0]),2,16):=by kernel_rfl
def cZ (E:List S83):Nat->Nat
 |0=>0
 |i+1=>cZ E i+(af E i).f2.toNat
def e9 (E:List S83):Bool:=decide (E.length<=40)&&E.all fun x=>decide (1<=x.f2/\x.f2<=50)
theorem oW {E:List S83} (h:∀k,k<E.length->1<=(af E k).f2/\(af E k).f2<=50):∀i,i<=E.length->cZ E i<=50*i
 |0,_=>by simp[cZ]
 |i+1,hi=>by
  have h1:=oW h i (by omega);have a:=h i (by omega);simp only[cZ];omega
theorem qQ {E:List S83} (h:e9 E=true):E.length<=40/\∀k,k<E.length->1<=(af E k).f2/\(af E k).f2<=50:=by
 simp only[e9,Bool.and_eq_true,decide_eq_true_eq,List.all_eq_true] at h;refine⟨h.1,fun k hk=>?_⟩;have e:af E k=E[k]:=by simp[af,aX,bB hk]
 rw[e];exact h.2 _ (List.getElem_mem hk)
def mw.f (N:Int) (E:List S83):Option Int:=if e9 E=true then some (cZ E E.length:Nat) else none
theorem BE (N:Int) (A0:Option Addr) (c0:Nat) (E:List S83) (w:World) (S:Kd.C aN w A0 E.length E) (H:e9 E=true):
  Calls Tryz.prog 130 #[.agg #[.int .i64 N,.slice A0 E.length c0]] w fun e w'=>∃A c,e= .returned (.slice A (cZ E E.length) c)/\Below w.heap.size w w':=by
 have hu:=Tryz.underlying24;have aB:=Tryz.underlying83;obtain⟨hlen,hm⟩:=qQ H;have aY:=fun i hi=>oW hm i hi
 have T:=zA hm;have U:=zA aY;clear hm aY H;obtain⟨i0,I,J,K,L⟩:=info_parts uu;have V:=zA I;have W:=zA J;have X:=zA K;have Y:=zA L;clear I J K L;go_enter Tryz.func130,Tryz.ntmps130
 go_wp2;have u:(w.alloc (.cells #[.int .i64 N,.slice A0 E.length c0] 24)).heap[w.heap.size]? =some (.cells #[.int .i64 N,.slice A0 E.length c0] 24 (0,0)):=by simpa using a7 w _
 have y:=ao (aq w.heap.size w) (.cells #[.int .i64 N,.slice A0 E.length c0] 24);have Z:w.heap.size<=w.heap.size:=aI _;generalize z:w.heap.size=gb at u Z⊢;rw[z] at y;generalize (w.alloc (.cells #[.int .i64 N,.slice A0 E.length c0] 24))=W0 at u y⊢;go_loopw [3,4] (fun v i wr=>∃(k:Nat) (xs:List Value),k<=E.length/\i= .int .i64 k/\Aside0 (wr.ownsRow gb 205 2 v (cZ E k) xs)/\Aside0 (wr.heap[gb]? =some (.cells #[.int .i64 N,.slice A0 E.length c0] 24 (0,0)))/\Aside0 (Below gb w wr)) (fun _ i _=>E.length- (intOf i).toNat)
 case atStart=>exact⟨0,[],Nat.zero_le _,rfl,⟨s6 _ _ _ _⟩,⟨u⟩,⟨y⟩⟩
 case round=>
  obtain⟨k,xs,hk,rfl,h,g,l⟩:=hrel;have B:wr.cell? ⟨gb,0,none⟩=some (.int .i64 N):=(ah g.out 0).trans rfl;have D:wr.cell? ⟨gb,1,none⟩=some (.slice A0 E.length c0):=(ah g.out 1).trans rfl;by_cases F:k<E.length
  ·obtain⟨M,rfl⟩:∃M:World,M=wr:=⟨_,rfl⟩
   have O:=T.out k F;have s:cZ E (k+1)=cZ E k+(af E k).f2.toNat:=rfl;have aa:=U.out (k+1) (by omega);have P:=Lib.hid s;obtain⟨ad,rfl,n,o,q⟩:=eN S k (by omega) (by omega);rw[aG] at n o q;generalize af E k=x at O n o q P s;obtain⟨a,b,m⟩:=x;simp only at O n o q;obtain⟨m,rfl⟩:=Int.eq_ofNat_of_zero_le (show 0<=m by omega);simp only[aG] at s;have aF:cZ E k+m<=2000:=by omega
   have aL:(0:Int)<=(k:Int):=by omega
   have aO:(k:Int)<(E.length:Int):=by omega
   have ab:=zA n;have am:=zA o;have an:=zA q;have G:(ad.add (k*3)).block<gb:=by rw[<-z];exact bu w _ n
   clear n o q s aa;go_wp2;go_loopw [3,5] (fun v i wr=>∃(j:Nat) (xs:List Value),j<=m/\i= .int .i64 j/\Aside0 (wr.ownsRow gb 205 2 v (cZ E k+j) xs)/\Aside0 (wr.heap[gb]? =some (.cells #[.int .i64 N,.slice (some ad) E.length c0] 24 (0,0)))/\Aside0 (Below gb w wr)) (fun _ i _=>m- (intOf i).toNat)
   case atStart=>exact⟨0,xs,Nat.zero_le _,rfl,h,g,l⟩
   case round=>
    clear B D h g l;obtain⟨j,ys,hj,rfl,h,g,l⟩:=hrel;have B:wr.cell? ⟨gb,0,none⟩=some (.int .i64 N):=(ah g.out 0).trans rfl;have D:wr.cell? ⟨gb,1,none⟩=some (.slice (some ad) E.length c0):=(ah g.out 1).trans rfl;have n:=(l.out.cell (p:=ad.add (k*3)) G).trans ab.out;have o:=(l.out.cell (p:=⟨(ad.add (k*3)).block,(ad.add (k*3)).off+1,none⟩) G).trans am.out;have q:=(l.out.cell (p:=⟨(ad.add (k*3)).block,(ad.add (k*3)).off+2,none⟩) G).trans an.out;by_cases aR:j<m
    ·have Q:u3.ownBlock≠some gb:=fun e=>s_ h.out g.out (by decide) e.symm
     have R:u3.ownBlock≠some (ad.add (k*3)).block:=fun e=>by have:=jM h.out _ e;omega
     have lg:gb<wr.heap.size:=aC g.out;have la:(ad.add (k*3)).block<wr.heap.size:=by omega
     go_wp2;go_region_held3 (fun w'=>w'.cell? ⟨gb,1,none⟩=some (.slice (some ad) E.length c0)/\w'.cell? (ad.add (k*3))=some (.int .i64 a)/\w'.cell? ⟨(ad.add (k*3)).block,(ad.add (k*3)).off+1,none⟩=some (.int .i64 b))
      (first
       |go_keep
       |(
         go_split_ands
         refine⟨?_,?_,?_⟩
         ·(rw[r.cell_far ⟨gb,1,none⟩ (by simp;omega) (Ne.symm Q)];assumption)
         ·(rw[r.cell_far (ad.add (k*3)) (by simp;omega) (Ne.symm R)];assumption)
         ·(rw[r.cell_far ⟨(ad.add (k*3)).block,(ad.add (k*3)).off+1,none⟩ (by simp;omega) (Ne.symm R)];assumption)))
      ((refine step_append_lies _ (by rfl) _ _ _ (by rfl) gb 205 i0 _ 2 16 Tryz.underlying156 V.out W.out X.out Y.out rfl (by omega) u3 (cZ E k+j) ys (by rfl) ((h.out.alloc _).drew) ⟨wr.heap.size,0,none⟩ 1 1 [.int .i64 a,.int .i64 b] (by rfl) (by rfl) (World.news_of_block (cs:=#[.int .i64 a,.int .i64 b]) (t:=205) (fr:=(0,0)) (a7 wr _)) (by simp[Value.oneCell']) (by omega) (by unfold maxLen;omega) (by omega) (by simp;omega) (wr.heap.size+1) (by simp) ?_;intro gg cap w1 ap r ar F))
     have n1:=zA (dc (eZ (au g.out _)) r (Ne.symm Q));have n2:=zA (Below.grown (bR (l.out.alloc (by omega) _)) r (by simp;omega) (jM h.out));clear r ar F n o q B D;go_wp2;go_roundw
     case rel=>exact⟨j+1,_,by omega,by go_num,⟨by rw[<-Nat.add_assoc];exact ap⟩,n1,n2⟩
     case measure=>(show m- ((j:Int)+1).toNat<m- ((j:Int)).toNat;omega)
    ·obtain rfl:j=m:=by omega
     go_wp2;exact⟨⟨k+1,ys,by omega,by go_num,⟨by rw[P.out,aG];exact h.out⟩,g,l⟩,(show E.length- ((k:Int)+1).toNat<E.length- ((k:Int)).toNat by omega)⟩
  ·obtain rfl:k=E.length:=by omega
   go_wp2;go_ret;obtain⟨A,c,rfl⟩:=s8 h.out;exact⟨A,c,rfl,by rw[z];exact l.out⟩
theorem mw.calls (b:Int) (g:Option Addr) (i:Nat) (a:List (S83)) (r:Int) (w:World) (j:Kd.C aN w g a.length a) (m:a.length<=i) (h:mw.f b a=some r):
  Calls Tryz.prog 73 #[.agg #[.int .i64 b,.slice g a.length i]] w fun e w'=>e= .returned (.int .i64 r)/\Below w.heap.size w w':=by
 unfold mw.f at h;split at h
 case isFalse=>cases h
 rename_i k;injection h with h
 subst h;go_enter Tryz.func73,Tryz.ntmps73
 go_wp2_with (first|(go_at_call 130;refine(BE b g i a _ (Kd.bz j _) k).mono ?_;rintro e w1 ⟨A,c,rfl,hb⟩;have l:=zA (aW (ao (aq w.heap.size w) _) hb);clear hb))
 go_ret;exact⟨rfl,l.out⟩
section
structure oX (cs:Array Value) (n:Int) (times:Nat->Nat->Int) (chips:Value) (burnt:Nat->Bool):Prop where
 size:cs.size=158
 n:cs[0]? =some (.int .i64 n)
 times:∀i j,i<12->j<12->cs[1+i*12+j]? =some (.int .i64 (times i j))
 chips:cs[145]? =some chips
 burnt:∀i,i<12->cs[146+i]? =some (.bool (burnt i))
def cQ (w:World) (g:Nat) (n:Int) (times:Nat->Nat->Int) (chips:Value) (burnt:Nat->Bool):Prop:=
 ∃cs:Array Value,w.heap[g]? =some (.cells cs 252 (0,0))/\oX cs n times chips burnt
namespace cQ
variable {w w':World} {g:Nat} {n:Int} {times:Nat->Nat->Int} {chips:Value} {burnt:Nat->Bool}
theorem lt (h:cQ w g n times chips burnt):g<w.heap.size:=by
 obtain⟨cs,hb,_⟩:=h;exact(Array.getElem?_eq_some_iff.1 hb).1
theorem cellAt {cs:Array Value} {k:Nat} {v:Value} (hb:w.heap[g]? =some (.cells cs 252 (0,0))) (a:cs[k]? =some v):w.cell? ⟨g,k,none⟩=some v:=(ah hb k).trans a
theorem oY (h:cQ w g n times chips burnt):w.cell? ⟨g,0,none⟩=some (.int .i64 n):=by
 obtain⟨cs,hb,a⟩:=h;exact cellAt hb a.n
theorem nn (h:cQ w g n times chips burnt) (i j:Nat) (hi:i<12) (a:j<12):w.cell? ⟨g,1+i*12+j,none⟩=some (.int .i64 (times i j)):=by
 obtain⟨cs,hb,b⟩:=h;exact cellAt hb (b.times i j hi a)
theorem BF (h:cQ w g n times chips burnt):w.cell? ⟨g,145,none⟩=some chips:=by
 obtain⟨cs,hb,a⟩:=h;exact cellAt hb a.chips
theorem my (h:cQ w g n times chips burnt) (i:Nat) (hi:i<12):w.cell? ⟨g,146+i,none⟩=some (.bool (burnt i)):=by
 obtain⟨cs,hb,a⟩:=h;exact cellAt hb (a.burnt i hi)
theorem frozen (h:cQ w g n times chips burnt) (k:Nat):w.frozen? ⟨g,k,none⟩=false:=by
 obtain⟨cs,hb,_⟩:=h;exact bF hb k
theorem below (h:cQ w g n times chips burnt) (hb:Below w.heap.size w w'):cQ w' g n times chips burnt:=by
 obtain⟨cs,a,b⟩:=h;exact⟨cs,aD a hb,b⟩
theorem drew (h:cQ w g n times chips burnt):cQ w.drew g n times chips burnt:=h
theorem fl (h:cQ w g n times chips burnt) {α:Type} {d:Kd α} {e base:Nat} {ok:Nat->Prop} {v:Value} {xs:List α} (a:d.R e w base ok v xs) (b:∀q,q∈e::d.E->q≠252) (j:Nat) (u:Value):d.R e (w.setCell ⟨g,j,none⟩ u) base ok v xs:=by
 obtain⟨cs,hb,_⟩:=h;exact Kd.fl a hb b j u
theorem drewN (h:cQ w g n times chips burnt) (m:Nat):cQ (w.drewN m) g n times chips burnt:=h
theorem uw (h:cQ w g n times chips burnt) (i:Nat) (hi:i<12) (b:Bool):cQ (w.setCell ⟨g,146+i,none⟩ (.bool b)) g n times chips (fun j=>if j=i then b else burnt j):=by
 obtain⟨cs,l,a⟩:=h;refine⟨cs.setIfInBounds (146+i) (.bool b),by simpa using bV l (146+i) (.bool b),?_,?_,?_,?_,?_⟩
 ·simp[a.size]
 ·rw[Array.getElem?_setIfInBounds_ne (by omega)];exact a.n
 ·intro k j hk m
  rw[Array.getElem?_setIfInBounds_ne (by omega)];exact a.times k j hk m
 ·rw[Array.getElem?_setIfInBounds_ne (by omega)];exact a.chips
 ·intro k hk
  have o:=a.size;by_cases e:k=i
  ·subst e
   rw[Array.getElem?_setIfInBounds_self_of_lt (by omega)];simp
  ·rw[Array.getElem?_setIfInBounds_ne (by omega),if_neg e];exact a.burnt k hk
theorem np (h:cQ w g n times chips burnt) (i j:Nat) (hi:i<12) (q:j<12) (x:Int):cQ (w.setCell ⟨g,1+i*12+j,none⟩ (.int .i64 x)) g n (fun a b=>if a=i/\b=j then x else times a b) chips burnt:=by
 obtain⟨cs,o,m⟩:=h;refine⟨cs.setIfInBounds (1+i*12+j) (.int .i64 x),by simpa using bV o (1+i*12+j) (.int .i64 x),?_,?_,?_,?_,?_⟩
 ·simp[m.size]
 ·rw[Array.getElem?_setIfInBounds_ne (by omega)];exact m.n
 ·intro k l hk p
  have r:=m.size;by_cases e:k=i/\l=j
  ·obtain⟨rfl,rfl⟩:=e
   rw[Array.getElem?_setIfInBounds_self_of_lt (by omega)];simp
  ·rw[Array.getElem?_setIfInBounds_ne (by omega),if_neg e];exact m.times k l hk p
 ·rw[Array.getElem?_setIfInBounds_ne (by omega)];exact m.chips
 ·intro k hk
  rw[Array.getElem?_setIfInBounds_ne (by omega)];exact m.burnt k hk
end cQ
theorem BG {k:IntKind} {a b:Int} (h:a=b):Ending.returned (.int k a)= .returned (.int k b):=by rw[h]
def cM (times:Nat->Nat->Int) (burnt:Nat->Bool) (v:Nat):Nat->Int
 |0=>0
 |u+1=>cM times burnt v u+(if burnt u then times v u else 0)
theorem oZ {times:Nat->Nat->Int} {burnt:Nat->Bool} (h:∀i j,0<=times i j/\times i j<=50) (v:Nat):∀u:Nat,0<=cM times burnt v u/\cM times burnt v u<=50*u
 |0=>by simp[cM]
 |u+1=>by
  have h1:=oZ h v u (burnt:=burnt);have a:=h v u;simp only[cM];split<;>omega
theorem BH (g:Nat) (n v:Nat) (times:Nat->Nat->Int) (chips:Value) (burnt:Nat->Bool) (w:World) (hn:n<=12) (p:v<12) (h:∀i j,0<=times i j/\times i j<=50) (hw:cQ w g n times chips burnt):
  Calls Tryz.prog 227 #[.pointer (some ⟨g,0,none⟩),.int .i64 v] w fun e w'=>e= .returned (.int .i64 (cM times burnt v n))/\w=w':=by
 have q:=hw.oY;go_enter Tryz.func227,Tryz.ntmps227
 go_wp2;go_loop [5,6,11] (fun s _ u=>∃k:Nat,k<=n/\u= .int .i64 k/\s= .int .i64 (cM times burnt v k)) (fun _ _ u=>n- (intOf u).toNat)
 case atStart=>exact⟨0,Nat.zero_le _,rfl,rfl⟩
 case round=>
  obtain⟨k,hk,rfl,rfl⟩:=hrel;have hb:=oZ (burnt:=burnt) h v k;by_cases r:k<n
  ·have l:=hw.my k (by omega)
   have x:=hw.nn v k p (by omega);have y:=h v k;have m:cM times burnt v (k+1)=cM times burnt v k+(if burnt k then times v k else 0):=rfl;have o:=Lib.hid m;clear m;cases a:burnt k with
   |true=>
    rw[a] at l;have b:=Lib.hid a;clear a;go_wp2;go_round
    case rel=>exact⟨k+1,by omega,by go_num,by rw[o.out,b.out];rfl⟩
    case measure=>simp[intOf];omega
   |false=>
    rw[a] at l;have b:=Lib.hid a;clear a;go_wp2;go_round
    case rel=>exact⟨k+1,by omega,by go_num,by rw[o.out,b.out];simp⟩
    case measure=>simp[intOf];omega
  ·go_wp2
   go_ret;exact⟨BG (by rw[show k=n from by omega]),rfl⟩
theorem BI (g:Nat) (n v:Nat) (times:Nat->Nat->Int) (chips:Value) (burnt:Nat->Bool) (w:World) (a:v<12) (hw:cQ w g n times chips burnt) (hb:burnt v=true):
  Calls Tryz.prog 226 #[.pointer (some ⟨g,0,none⟩),.int .i64 v] w fun e w'=>e= .returned (.bool false)/\az w w':=by
 have b:=hw.my v a;rw[hb] at b;clear hb;have h:(0:Int)<=(v:Int):=by omega
 have i:(v:Int)<12:=by omega
 go_enter Tryz.func226,Tryz.ntmps226
 go_wp2_with fail
 go_quiet (fail)
 go_wp2;go_ret;exact⟨rfl,by repeat(first|exact az.refl _|apply az.step)⟩
theorem BJ (g:Nat) (n v:Nat) (times:Nat->Nat->Int) (A:Option Addr) (c:Nat) (l:List Int) (burnt:Nat->Bool) (w:World) (hn:n<=12) (a:v<12) (p:v<l.length) (k:∀i j,0<=times i j/\times i j<=50) (hw:cQ w g n times (.slice A l.length c) burnt) (b:Kd.C (Kd.int .i64) w A l.length l) (hb:burnt v=false):
  Calls Tryz.prog 226 #[.pointer (some ⟨g,0,none⟩),.int .i64 v] w fun e w'=>e= .returned (.bool (decide (rd l v<cM times burnt v n)))/\az w w':=by
 have m:=hw.my v a;have q:=hw.BF;rw[hb] at m;clear hb;have r:=b.2.1;obtain⟨ad,rfl,o⟩:=Kd.bJ b v (by omega) (by omega);rw[aG] at o;have s:(0:Int)<=(v:Int):=by omega
 have u:(v:Int)<(l.length:Int):=by omega
 have x:(v:Int)<12:=by omega
 go_enter Tryz.func226,Tryz.ntmps226
 go_wp2_with fail
 go_quiet ((go_at_call 227;refine Calls.quiet_of_same ((BH g n v times _ burnt (w.drewN _) hn a k (hw.drewN _)).mono (fun e w' h=>⟨h.1,h.2.symm⟩))))
 go_wp2;go_ret;exact⟨rfl,by repeat(first|exact az.refl _|apply az.step)⟩
def gA (burnt:Nat->Bool):Nat->List Int
 |0=>[]
 |u+1=>gA burnt u++(if burnt u then[] else[(u:Int)])
theorem ux (burnt:Nat->Bool):∀u,(gA burnt u).length<=u
 |0=>by simp[gA]
 |u+1=>by
  have:=ux burnt u;simp only[gA,List.length_append];split<;>simp<;>omega
theorem BL (g:Nat) (n:Nat) (times:Nat->Nat->Int) (chips:Value) (burnt:Nat->Bool) (w:World) (hn:n<=12) (hw:cQ w g n times chips burnt):
  Calls Tryz.prog 222 #[.pointer (some ⟨g,0,none⟩)] w fun e w'=>∃l:Value,e= .returned l/\Kd.R (Kd.int .i64) 3 w' w.heap.size (fun _=>True) l (gA burnt n)/\Below w.heap.size w w':=by
 have r:=hw.oY;go_enter Tryz.func222,Tryz.ntmps222
 go_wp2;go_loopw [3,4,9] (fun s _ u wr=>∃k:Nat,k<=n/\u= .int .i64 k/\Aside0 (Kd.R (Kd.int .i64) 3 wr w.heap.size (fun _=>True) s (gA burnt k))/\Aside0 (Below w.heap.size w wr)) (fun _ _ u _=>n- (intOf u).toNat)
 case atStart=>exact⟨0,Nat.zero_le _,rfl,⟨Kd.dm _ _ _ _ _⟩,⟨aq _ _⟩⟩
 case round=>
  obtain⟨k,hk,rfl,h,b⟩:=hrel;have hlen:=ux burnt k;by_cases y:k<n
  ·have i:=hw.below b.out
   have m:=i.my k (by omega);have r:=i.oY;clear i;have o:gA burnt (k+1)=gA burnt k++(if burnt k then[] else[(k:Int)]):=rfl;have p:=Lib.hid o;clear o;cases a:burnt k with
   |true=>
    rw[a] at m;have j:=Lib.hid a;clear a;go_wp2;go_roundw
    case rel=>exact⟨k+1,by omega,by go_num,⟨by rw[p.out,j.out];simpa using h.out⟩,b⟩
    case measure=>simp[intOf];omega
   |false=>
    rw[a] at m;have j:=Lib.hid a;clear a;go_wp2_with (at_builtin;refine Kd.l9 (Kd.int .i64) (w0:=w) w.heap.size rfl (.tmp 19) (.tmp 21) 25 3 (.int .i64 0) 8 rfl Tryz.underlying25 gz rfl (by decide) (by omega) _ (gA burnt k) (k:Int) [.int .i64 k] (fun _=>True) (fun _=>False) rfl rfl rfl (fun _ hk=>hk.elim) (fun _ _=>trivial) h.out b.out b.out.size (by omega) ?_;intro v1 w1 q hb _ _;have v:=zA q;have x:=zA hb;clear q hb)
    go_roundw
    case rel=>exact⟨k+1,by omega,by go_num,⟨by rw[p.out,j.out];exact v.out⟩,x⟩
    case measure=>simp[intOf];omega
  ·go_wp2
   go_ret;obtain rfl:k=n:=by omega
   exact⟨_,rfl,h.out,b.out⟩
end
end Go.Proofs.YtffdiakgjakngaaGreat.P
namespace Go.Proofs.YtffdiakgjakngaaGreat.P
open Go Go.RowKit
set_option linter.unusedVariables false
set_option linter.unusedSimpArgs false
set_option maxHeartbeats 8000000
set_option maxRecDepth 100000
section
def Bk (l:Nat) (A B:World):Prop:=∃o a,A.heap[l]? =some o/\o.isCells=false/\B=A.putObj l a
theorem Bk.cells {l:Nat} {A B:World} (h:Bk l A B) {k:Nat} {cs:Array Value} {t:TypeId} {fr:Nat×Nat} (hk:A.heap[k]? =some (.cells cs t fr)):B.heap[k]? =some (.cells cs t fr):=by
 obtain⟨o,e,a,b,rfl⟩:=h;rw[World.putObj_heap_other]; · exact hk
 rintro rfl;rw[a] at hk;injection hk with hk;subst hk;simp[Obj.isCells] at b
theorem Bk.size {l:Nat} {A B:World} (h:Bk l A B):B.heap.size=A.heap.size:=by
 obtain⟨o,a,b,e,rfl⟩:=h;simp[World.putObj]
theorem Bk.heap {l:Nat} {A B:World} (h:Bk l A B) (k:Nat) (hk:k≠l):B.heap[k]? =A.heap[k]? :=by
 obtain⟨o,a,b,e,rfl⟩:=h;exact World.putObj_heap_other hk
theorem Bk.below {l:Nat} {A B:World} (h:Bk l A B) (n:Nat) (hn:n<=l):Below n A B:=by
 obtain⟨o,a,b,g,rfl⟩:=h;exact(aq n A).grown (grownBy_putObj' A l a) (by have:=(Array.getElem?_eq_some_iff.1 b).1;omega) (fun k e=>by cases e;omega)
def cB (n:Nat) (A B:World):Prop:=∀k o,n<=k->k<n+2->A.heap[k]? =some o->o.isCells=false->B.heap[k]? =some o
theorem cB.refl (n:Nat) (A:World):cB n A A:=fun _ _ _ _ h _=>h
theorem cB.trans {n:Nat} {A B C:World} (h:cB n A B) (k:cB n B C):cB n A C:=fun j o h1 a e b=>k j o h1 a (h j o h1 a e b) b
def qR {σ α:Type} (nw:Nat) (a:World->World->Prop) (I:List α->World->Prop) (b:Code->List α->World->Prop) (xs:List α) (W:World):Exit->Act->World->Prop
 | .normal,_,W'=>cB nw W W'/\a W W'/\I xs W'
 | .ret,_,W'=>cB nw W W'/\b .ret xs W'
 |_,_,_=>False
variable {F:Fence} {n:Nat} {P:Program}
def jw {σ α:Type} (F:Fence) (n:Nat) (P:Program) (gf:Nat) (lb:Array Value) (bW:α->Array Value) (Start:σ->World->World->Prop) (a:σ->World->World->Prop) (g:σ->α->World->World->Prop) (h:σ->World->World->Prop) (S:σ->List α->World->Prop) (i:σ->List α->World->Prop) (j:List α->Prop) (W:World):Prop:=
 ∀(l:Nat) (J Jx:σ->List α->World->Prop),(∀s pre A B,J s pre A->a s A B->J s pre B)->(∀s pre A B,Jx s pre A->a s A B->Jx s pre B)->
  (∀s W1,Start s W W1->J s [] W1)->
  (∀s pre x b W1,J s pre b->g s x b W1->j pre->YieldAt F (n-1) P l (bW x) W1 fun e W'=>
   (e= .returned (.bool true)/\J s (pre++[x]) W'/\h s W1 W')\/(e= .returned (.bool false)/\Jx s (pre++[x]) W'))->
  CallsIn F n P gf (#[.func (.yield l) #[] #[]]++lb) W fun e W'=>(∃v,e= .returned v)/\((∃s xs,S s xs W'/\J s xs W')\/(∃s pre,i s pre W'/\Jx s pre W'))
theorem iU {σ α:Type} {g:Operand} {ps:Array Tmp} {assign body:Code} {Q:Exit->Act->World->Prop} {a:Act} {w:World}
  (ap:F.round=none) (h1:1<=n) {gf:Nat} {lb:Array Value} (hg:a.eval g= .func (.func gf) #[] lb) (av:F.fn gf) (eg:∀args w,(callFunc gf args).run P w= .ok (.enter gf args) w)
  {bW:α->Array Value} {Start:σ->World->World->Prop} {J:σ->World->World->Prop} {O:σ->α->World->World->Prop} {L:σ->World->World->Prop} {S Z:σ->List α->World->Prop} {Bd:List α->Prop}
  (aF:∀o,jw F (n-1) P gf lb bW Start J O L S Z Bd ((w.alloc (.deferred (some []))).alloc (.loop o))) (aL:∀x,(bW x).size=ps.size)
  (m:σ->Prop) (aO:∀o s W1,Start s ((w.alloc (.deferred (some []))).alloc (.loop o)) W1->m s/\cB w.heap.size ((w.alloc (.deferred (some []))).alloc (.loop o)) W1)
  (M:∀s A B,m s->J s A B->cB w.heap.size A B) (aP:∀s x A B,m s->O s x A B->cB w.heap.size A B)
  (I:σ->List α->World->Prop) (u:Code->σ->List α->World->Prop)
  (aR:∀s pre A B,m s->I s pre A->J s A B->I s pre B) (aS:∀c s pre A B,m s->u c s pre A->J s A B->u c s pre B)
  (a0:∀s pre A B,I s pre A->Bk (w.heap.size+1) A B->I s pre B) (a1:∀c s pre A B,u c s pre A->Bk (w.heap.size+1) A B->u c s pre B)
  (a2:∀s A B C D,Bk (w.heap.size+1) A B->L s B C->Bk (w.heap.size+1) C D->L s A D)
  (h0:∀o s W1,Start s ((w.alloc (.deferred (some []))).alloc (.loop o)) W1->I s [] W1) (a₁:α->Act)
  (a5:∀(l:Nat) (x:α) (W:World) (K:Act->World->Prop),K (a₁ x) W->
   assign.wpIn (F.inRound l) (n-1-1) P (Exit.then K (fun _ _ _=>False)) {tmps:=(ps.zip (bW x)).foldl (fun t (p,v)=>t.setIfInBounds p v) a.tmps,defers:=[]} W)
  (a9:∀(l:Nat) (s:σ) (pre:List α) (x:α) (G W1 W:World),m s->I s pre G->O s x G W1->Bd pre->Bk (w.heap.size+1) W1 W->body.wpIn (F.inRound l) (n-1-1) P (qR (σ:=σ) w.heap.size (L s) (I s) (fun c=>u c s) (pre++[x]) W) (a₁ x) W)
  (be:∀(s:σ) (xs:List α) (W W':World),m s->S s xs W->I s xs W->Bk (w.heap.size+1) W W'->W'.heap[w.heap.size]? =some (.deferred (some []))->Q .normal {a with defers:={target:=.collected w.heap.size,args:=#[]}::a.defers} W')
  (bf:∀(c:Code) (s:σ) (pre:List α) (W W':World),m s->Z s pre W->u c s pre W->Bk (w.heap.size+1) W W'->W'.heap[w.heap.size]? =some (.deferred (some []))->c.wpIn F n P Q {a with defers:={target:=.collected w.heap.size,args:=#[]}::a.defers} W'):
  (Code.rangeFunc g ps assign body).wpIn F n P Q a w:=by
 refine wpIn_rangeFunc ?_;intro fn bg;rw[ap];obtain⟨rec,q⟩:∃rec:LoopState->Option Code->Loop,rec=fun st pe=>{state:=st,pending:=pe,fn,tmps:=a.tmps,params:=ps,assign,body,defers:=w.heap.size}:=⟨_,rfl⟩
 obtain⟨W1,y⟩:∃W1,(w.alloc (.deferred (some []))).alloc (.loop (rec .ready none))=W1:=⟨_,rfl⟩;have bk:W1.heap[w.heap.size+1]? =some (.loop (rec .ready none)):=by
  rw[<-y];have:=World.alloc_heap_new (w.alloc (.deferred (some []))) (.loop (rec .ready none));rwa [World.size_alloc] at this
 have bn:W1.heap[w.heap.size]? =some (.deferred (some [])):=by
  rw[<-y];exact(Below.heap_alloc _ _ _ (by simp)).trans (World.alloc_heap_new w _)
 refine⟨w.heap.size+1,[{target:=.collected w.heap.size,args:=#[]}],W1,{target:=.fn (.func gf) lb,args:=#[.func (.yield (w.heap.size+1)) #[] #[]]},W1,gf,
  #[.func (.yield (w.heap.size+1)) #[] #[]]++lb,W1,?_,?_,?_,?_,fun _=>h1,?_⟩
 ·rw[<-y,q];exact run_enterLoop_outer _ _ _ _ _
 ·simp only[resolve,hg]
  simp[go_sem]
 ·intro f' ad;simp[Target.leads] at ad;subst ad;exact av
 ·simp[invoke,go_sem,eg]
 ·have hs:=aF (rec .ready none)
  rw[y] at hs;have ld:∀{A B:World} {r:Loop},cB w.heap.size A B->A.heap[w.heap.size+1]? =some (.loop r)->B.heap[w.heap.size+1]? =some (.loop r):=fun h R=>h _ _ (by omega) (by omega) R rfl
  have H:∀{A B:World},cB w.heap.size A B->A.heap[w.heap.size]? =some (.deferred (some []))->B.heap[w.heap.size]? =some (.deferred (some [])):=fun h R=>h _ _ (by omega) (by omega) R rfl
  refine(hs (w.heap.size+1)
   (fun s pre W=>m s/\I s pre W/\W.heap[w.heap.size+1]? =some (.loop (rec .ready none))/\W.heap[w.heap.size]? =some (.deferred (some [])))
   (fun s pre W=>m s/\∃c,u c s pre W/\W.heap[w.heap.size+1]? =some (.loop (rec .done (some c)))/\W.heap[w.heap.size]? =some (.deferred (some [])))
   (fun s pre A B h j=>⟨h.1,aR s pre A B h.1 h.2.1 j,ld (M s A B h.1 j) h.2.2.1,H (M s A B h.1 j) h.2.2.2⟩)
   (fun s pre A B h j=>by
    obtain⟨b,c,hc,i,hk⟩:=h;exact⟨b,c,aS c s pre A B b hc j,ld (M s A B b j) i,H (M s A B b j) hk⟩)
   (fun s W2 j=>by
    rw[<-y] at j;have hk:=aO (rec .ready none) s W2 j;have z:=hk.2;rw[y] at z;exact⟨hk.1,h0 _ s W2 j,ld z bk,H z bn⟩)
   ?_).mono ?_
  ·rintro s pre x G W ⟨b,hi,bv,bw⟩ ak bx
   have z:=aP s x G W b ak;have i:=ld z bv;have hk:=H z bw;have b0:w.heap.size+1<W.heap.size:=(Array.getElem?_eq_some_iff.1 i).1;have hy:=run_yield (P:=P) (args:=bW x) i (by rw[q];exact aL x);rw[q] at hy;have an:Bk (w.heap.size+1) W (W.putObj (w.heap.size+1) (.loop {rec .ready none with state:=.busy})):=⟨_,_,i,rfl,rfl⟩;refine⟨fn,_,assign,body,hy,roundIn_of_wpIn bg (a5 _ x W _ ⟨_,run_beginRound i (by rw[q]),?_⟩)⟩;have b1:(W.putObj (w.heap.size+1) (.loop {rec .ready none with state:=.busy})).heap[w.heap.size+1]? =some (.loop {rec .ready none with state:=.busy}):=World.putObj_heap_same b0;have b2:(W.putObj (w.heap.size+1) (.loop {rec .ready none with state:=.busy})).heap[w.heap.size]? =some (.deferred (some [])):=(World.putObj_heap_other (by omega)).trans hk;refine wpIn_mono (a9 _ s pre x G W _ b hi ak bx an) ?_;have fin:∀(jump:Option Code) (k:World),cB w.heap.size (W.putObj (w.heap.size+1) (.loop {rec .ready none with state:=.busy})) k->
     (Instr.endRound (w.heap.size+1) jump).run P k= .ok (.bool jump.isNone) (k.putObj (w.heap.size+1) (.loop (rec (if jump.isNone then .ready else .done) jump)))/\
     Bk (w.heap.size+1) k (k.putObj (w.heap.size+1) (.loop (rec (if jump.isNone then .ready else .done) jump)))/\
     (k.putObj (w.heap.size+1) (.loop (rec (if jump.isNone then .ready else .done) jump))).heap[w.heap.size+1]? =some (.loop (rec (if jump.isNone then .ready else .done) jump))/\
     (k.putObj (w.heap.size+1) (.loop (rec (if jump.isNone then .ready else .done) jump))).heap[w.heap.size]? =some (.deferred (some [])):=fun jump k E=>by
    have T:=ld E b1;have:=run_endRound (P:=P) jump T;rw[q] at this⊢;exact⟨this,⟨_,_,T,rfl,rfl⟩,World.putObj_heap_same (Array.getElem?_eq_some_iff.1 T).1,(World.putObj_heap_other (by omega)).trans (H E b2)⟩
   rintro e a3 k hp;cases e with
   |normal=>
    obtain⟨E,b3,U⟩:=hp;obtain⟨V,N,X,Y⟩:=fin none k E;exact⟨_,_,V,.inl ⟨rfl,⟨b,a0 s _ _ _ U N,X,Y⟩,a2 s _ _ _ _ an b3 N⟩⟩
   |ret=>
    obtain⟨E,U⟩:=hp;obtain⟨V,N,X,Y⟩:=fin (some .ret) k E;exact⟨_,_,V,.inr ⟨rfl,b,.ret,a1 _ s _ _ _ U N,X,Y⟩⟩
   |exit id=>exact hp.elim
   |goto t=>exact hp.elim
   |panic ch=>exact hp.elim
   |outgrown=>exact hp.elim
  ·rintro e W2 ⟨⟨v,rfl⟩,(⟨s,xs,hS,b,hi,i,hk⟩|⟨s,pre,b4,b,c,hi,i,hk⟩)⟩
   ·exact⟨none,_,by have:=run_endLoop (P:=P) i (by rw[q];simp);rw[q] at this;exact this,be s xs W2 _ b hS hi ⟨_,_,i,rfl,rfl⟩ ((World.putObj_heap_other (by omega)).trans hk)⟩
   ·exact⟨some c,_,by have:=run_endLoop (P:=P) i (by rw[q];simp);rw[q] at this;exact this,bf c s pre W2 _ b b4 hi ⟨_,_,i,rfl,rfl⟩ ((World.putObj_heap_other (by omega)).trans hk)⟩
end
end Go.Proofs.YtffdiakgjakngaaGreat.P
namespace Go.Proofs.YtffdiakgjakngaaGreat.P
open Go.RowKit Go.Proofs.YtffdiakgjakngaaGreatW.PrintWords Go.Proofs.YtffdiakgjakngaaGreatW.PrintLast Go.Proofs.YtffdiakgjakngaaGreatW.PrintMore
set_option linter.unusedVariables false
set_option linter.unusedSimpArgs false
set_option maxHeartbeats 8000000
set_option maxRecDepth 100000
section
def jV (n:Nat) (c:(Nat->Bool)->Nat->Bool) (b:Nat->Bool):Option Nat:=(List.range n).find? (fun v=>c b v)
def ej (b:Nat->Bool) (v:Nat):Nat->Bool:=fun u=>if u=v then true else b u
def dY (n:Nat) (b:Nat->Bool):Nat:=(List.range n).countP (fun v=> !b v)
def fW (n:Nat) (c:(Nat->Bool)->Nat->Bool):Nat->(Nat->Bool)->List Nat
 |0,_=>[]
 |f+1,b=>match jV n c b with
  |none=>[]
  |some v=>v::fW n c f (ej b v)
def eF (n:Nat) (c:(Nat->Bool)->Nat->Bool) (b:Nat->Bool):List Nat:=fW n c (dY n b) b
def cN (b:Nat->Bool) (l:List Nat):Nat->Bool:=l.foldl ej b
theorem o5 (b:Nat->Bool) (l:List Nat) (v:Nat):cN b (l++[v])=ej (cN b l) v:=by simp[cN]
theorem nt {n:Nat} {b:Nat->Bool} {v:Nat} (g:v<n) (hb:b v=false):dY n b=dY n (ej b v)+1:=by
 unfold dY;induction n with
 |zero=>omega
 |succ n a=>
  rw[List.range_succ,List.countP_append,List.countP_append];by_cases e:v=n
  ·subst e
   have h1:(List.range v).countP (fun u=> !b u)=(List.range v).countP (fun u=> !ej b v u):=List.countP_congr (fun u hu=>by have:=List.mem_range.1 hu;simp[ej,show u≠v from by omega]);rw[h1];simp[ej,hb]
  ·have:=a (by omega)
   rw[this];simp[ej,show n≠v from by omega];omega
theorem uy (n:Nat) (b:Nat->Bool):dY n b<=n:=by
 unfold dY;exact Nat.le_trans List.countP_le_length (by simp)
theorem BM {n:Nat} {c:(Nat->Bool)->Nat->Bool} {b:Nat->Bool} (h:∀v,v<n->c b v=false):eF n c b=[]:=by
 have:jV n c b=none:=by
  unfold jV;rw[List.find?_eq_none];intro v a;simp[h v (List.mem_range.1 a)]
 unfold eF;cases dY n b<;>simp[fW,this]
theorem BN {n:Nat} {c:(Nat->Bool)->Nat->Bool} (g:∀b v,c b v=true->b v=false) {b:Nat->Bool} {v:Nat} (a:v<n) (e:c b v=true) (h:∀u,u<v->c b u=false):eF n c b=v::eF n c (ej b v):=by
 have i:jV n c b=some v:=by
  unfold jV;rw[List.find?_eq_some_iff_append];refine⟨e,(List.range n).take v,(List.range n).drop (v+1),?_,?_⟩
  ·have h1:(List.range n)[v]'(by simpa using a)=v:=by simp
   conv=>lhs;rw[<-List.take_append_drop v (List.range n)]
   rw[List.drop_eq_getElem_cons (by simpa using a),h1]
  ·intro u hu
   have k:u<v:=by
    rw[List.mem_take_iff_getElem] at hu;obtain⟨j,l,rfl⟩:=hu;simp at l⊢;omega
   simp[h u k]
 have m:=nt a (g b v e);unfold eF;rw[m];simp only[fW,i]
def cC (n:Nat) (times:Nat->Nat->Int) (l:List Int) (b:Nat->Bool) (v:Nat):Bool:= !b v&&decide (rd l v<cM times b v n)
theorem ny {n:Nat} {times:Nat->Nat->Int} {l:List Int} (b:Nat->Bool) (v:Nat) (h:cC n times l b v=true):b v=false:=by
 unfold cC at h;cases hb:b v<;>simp_all
theorem BO (g:Nat) (n v:Nat) (times:Nat->Nat->Int) (A:Option Addr) (c:Nat) (l:List Int) (burnt:Nat->Bool) (w:World) (hn:n<=12) (a:v<12) (b:v<l.length) (h:∀i j,0<=times i j/\times i j<=50) (hw:cQ w g n times (.slice A l.length c) burnt) (k:Kd.C (Kd.int .i64) w A l.length l):
  Calls Tryz.prog 226 #[.pointer (some ⟨g,0,none⟩),.int .i64 v] w fun e w'=>e= .returned (.bool (cC n times l burnt v))/\az w w':=by
 unfold cC;cases hb:burnt v with
 |true=>simpa using BI g n v times _ burnt w a hw hb
 |false=>simpa using BJ g n v times A c l burnt w hn a b h hw k hb
attribute [local go_sem] Oper.semAt_some
theorem uz {w w1:World} (h:az w w1) (r:Option Nat):w.grownBy w1 r:=jL h.below r
theorem BP {w w1:World} {g j:Nat} {v:Value} (h:w.grownBy w1 (some g)):w.grownBy (w1.setCell ⟨g,j,none⟩ v) (some g):=
 have hb:=(aq 0 w1).setCell (p:=⟨g,j,none⟩) (Nat.zero_le _) v;h.trans ⟨hb.os,hb.tape,hb.output,hb.size,fun k _ hk=>Below.heap_setCell _ _ _ _ (fun e=>hk (by rw[e]))⟩
theorem cQ.of_heap {w w':World} {g:Nat} {n:Int} {times:Nat->Nat->Int} {chips:Value} {burnt:Nat->Bool} (h:cQ w g n times chips burnt) (e:w'.heap[g]? =w.heap[g]?):cQ w' g n times chips burnt:=by
 obtain⟨cs,hb,a⟩:=h;exact⟨cs,e.trans hb,a⟩
theorem dM {w:World} {b:Nat} {v:Value} {t:TypeId} (h:w.heap[b]? =some (.cells #[v] t (0,0))):w.cell? ⟨b,0,none⟩=some v:=(ah h 0).trans rfl
theorem BQ (g b n:Nat) (times:Nat->Nat->Int) (A:Option Addr) (c:Nat) (l:List Int) (a:Nat->Bool) (W:World) (base:Nat) (hn:n<=12) (hl:n<=l.length) (ht:∀i j,0<=times i j/\times i j<=50) (aF:b≠g)
  (hW:cQ W g n times (.slice A l.length c) a) (aO:W.heap[b]? =some (.cells #[.pointer (some ⟨g,0,none⟩)] 245 (0,0))) (hr:Kd.R (Kd.int .i64) 3 W base (fun k=>some k=(Value.slice A l.length c).ownBlock) (.slice A l.length c) l):
  jw (σ:=Unit) Fence.wide 9 Tryz.prog 225 #[.pointer (some ⟨b,0,none⟩)] (fun v:Nat=>#[.int .i64 v]) (fun _ W W1=>W1=W) (fun _ A B=>A.grownBy B (some g)) (fun _ _ A B=>A.grownBy B (some g))
   (fun _ X Y=>∀k,(k=g\/k=b\/some k=(Value.slice A l.length c).ownBlock)->Y.heap[k]? =X.heap[k]?)
   (fun _ xs W'=>xs=eF n (cC n times l) a/\cQ W' g n times (.slice A l.length c) (cN a xs)) (fun _ _ _=>True) (fun pre=>pre.length<n) W:=by
 intro lp J Jx K L M N;have aR:=zA K;have b2:=zA L;have hY:=zA N;have a0:=M () W rfl;clear K L M N;refine callsIn_of_wp Tryz.func225 rfl trivial ?_ rfl;simp only[Tryz.ntmps225,List.size_toArray,List.length_cons,List.length_nil,Nat.reduceAdd,Nat.reduceSub,Array.replicate_succ,Array.replicate_zero,List.push_toArray,List.append_toArray,List.nil_append,List.cons_append];gi_wp2;gi_loopg [3] (13*dY n a+n) (fun kq v wr=>∃(pre:List Nat) (u:Nat),v= .int .i64 u/\u<=n/\Aside0 (J () pre wr)/\Aside0 (cQ wr g n times (.slice A l.length c) (cN a pre))/\Aside0 (wr.heap[b]? =some (.cells #[.pointer (some ⟨g,0,none⟩)] 245 (0,0)))/\Aside0 (Kd.R (Kd.int .i64) 3 wr base (fun k=>some k=(Value.slice A l.length c).ownBlock) (.slice A l.length c) l)/\Aside0 (∀x,x<u->cC n times l (cN a pre) x=false)/\Aside0 (eF n (cC n times l) a=pre++eF n (cC n times l) (cN a pre))/\Aside0 (kq=13*dY n (cN a pre)+(n-u))/\Aside0 (pre.length+dY n (cN a pre)=dY n a))
 case atStart=>exact⟨[],0,rfl,Nat.zero_le _,⟨a0⟩,⟨hW⟩,⟨aO⟩,⟨hr⟩,⟨fun x O=>by omega⟩,⟨by simp[cN]⟩,⟨by simp[cN]⟩,⟨by simp[cN]⟩⟩
 case round=>
  obtain⟨pre,u,rfl,hu,y,h,z,D,E,F,P,G⟩:=hrel;have a2:=dM z.out;have b3:=h.out.oY;by_cases Q:u<n
  ·have S:Kd.C (Kd.int .i64) wr A l.length l:=by
    obtain⟨A',c',e,_,hC⟩:=Kd.ot D.out;injection e with e1 e2 e3
    rw[e1];exact hC
   have q:=zA (BO g n u times A c l (cN a pre) wr hn (by omega) (by omega) ht h.out S);clear S;cases o:cC n times l (cN a pre) u with
   |false=>
    rw[o] at q;have T:=Lib.hid o;clear o;gi_wp2_with (refine⟨trivial,?_⟩;gi_at_call 226;refine(callsIn_wide.2 q.out).mono ?_;rintro e w1 ⟨rfl,p⟩;have U:=zA p;clear p)
    gi_roundg (13*dY n (cN a pre)+(n- (u+1)))
    case measure=>rw[P.out];omega
    case rel=>
     obtain⟨m,rfl⟩:=U.out.out;refine⟨pre,u+1,by go_num,by omega,⟨aR.out () pre wr _ y.out (uz U.out _)⟩,h,z,D,⟨fun x O=>?_⟩,F,⟨rfl⟩,G⟩;by_cases e:x=u
     ·rw[e];exact T.out
     ·exact E.out x (by omega)
   |true=>
    rw[o] at q;have V:=ny _ _ o;have r:=nt Q V;have Z:=BN ny Q o E.out;have H:=Lib.hid r;have a4:=Lib.hid Z;have T:=Lib.hid o;clear o V r Z;have HG:Aside0 (∀w1,az wr w1->w1.cell? ⟨b,0,none⟩=some (.pointer (some ⟨g,0,none⟩))/\w1.cell? ⟨g,146+u,none⟩=some (.bool (cN a pre u))/\w1.frozen? ⟨g,146+u,none⟩=false/\
      cQ (w1.setCell ⟨g,146+u,none⟩ (.bool true)) g n times (.slice A l.length c) (cN a (pre++[u]))/\(w1.setCell ⟨g,146+u,none⟩ (.bool true)).heap[b]? =some (.cells #[.pointer (some ⟨g,0,none⟩)] 245 (0,0))/\
      Kd.R (Kd.int .i64) 3 (w1.setCell ⟨g,146+u,none⟩ (.bool true)) base (fun k=>some k=(Value.slice A l.length c).ownBlock) (.slice A l.length c) l/\wr.grownBy (w1.setCell ⟨g,146+u,none⟩ (.bool true)) (some g)):=by
     refine⟨fun w1 p=>?_⟩;obtain⟨m,rfl⟩:=p.out;refine⟨a2,h.out.my u (by omega),h.out.frozen _,?_,?_,?_,BP (uz p _)⟩
     ·rw[o5];exact(h.out.drewN m).uw u (by omega) true
     ·exact aE (w:=wr.drewN m) z.out aF _
     ·exact(h.out.drewN m).fl (Kd.bs D.out m) (by decide) (146+u) (.bool true)
    gi_wp2_with (refine⟨trivial,?_⟩;gi_at_call 226;refine(callsIn_wide.2 q.out).mono ?_;rintro e w1 ⟨rfl,p⟩;obtain⟨q1,q2,q3,ag,ak,am,I⟩:=HG.out w1 p;have a9:=zA ag;have be:=zA ak;have bf:=zA am;have b6:=zA I;obtain⟨fn,tmps,b_,b',hy,ap⟩:=hY.out () pre u wr _ y.out I (by have:=G.out;have:=H.out;have:=uy n a;omega);have bg:=zA ap;clear p ag ak am I ap)
    refine bg.out.mono ?_;rintro e W3 (⟨rfl,ar,s⟩|⟨rfl,av⟩)
    ·have bi:=zA (a9.out.of_heap (s g (.inl rfl)))
     have bk:=zA ((s b (.inr (.inl rfl))).trans be.out);have bn:=zA (Kd.fC bf.out (fun k hk=>s k (.inr (.inr hk))));have bo:=zA ar;clear ar s hy q1 q2 q3;gi_wp2;gi_roundg (13*dY n (cN a (pre++[u]))+n)
     case measure=>rw[P.out,H.out,o5];omega
     case rel=>
      refine⟨pre++[u],0,rfl,by omega,bo,bi,bk,bn,⟨fun x O=>by omega⟩,⟨?_⟩,⟨rfl⟩,⟨by have:=G.out;have:=H.out;rw[o5];simp;omega⟩⟩;rw[F.out,a4.out,o5];simp
    ·clear hy q1 q2 q3
     have bv:=zA av;clear av;gi_wp2;refine bodyPost_ret (results_none rfl _ _ _) rfl ?_;exact⟨⟨_,rfl⟩,.inr ⟨(),pre++[u],trivial,bv.out⟩⟩
  ·have r:u=n:=by omega
   subst r;gi_wp2;go_end0;exact⟨⟨_,rfl⟩,.inl ⟨(),pre,⟨by rw[F.out,BM E.out];simp,h.out⟩,y.out⟩⟩
end
section
section
variable {F:Fence} {n:Nat} {P:Program} {ops:Array Oper} {rest:List Oper} {o:Oper} {a:Act} {Q:Exit->Act->World->Prop} {α:Type}
theorem o6 (d:Kd α) {w0 W:World} (base:Nat) (y:o.guard=none) (s x:Operand) (t e:TypeId) (z:Value) (bytes:Nat)
  (j:o.op= .call {callee:=.builtin .append,args:=#[s,x],argTypes:=#[t,t]})
  (B:P.underlying t=some (.slice e)) (C:(P.info? e).map (fun i=>(i.zero,i.size,i.bytes))=some (some z,d.sz,bytes)) (D:z.cells.size=d.sz) (E:0<d.sz) (G:0<bytes)
  (v:Value) (xs:List α) (p:α) (cs:List Value) (ok okp:Nat->Prop) (H:a.eval s=v) (I:a.eval x= .slice (some ⟨W.heap.size,0,none⟩) 1 1) (hp:d.M W base okp p cs) (J:∀k,okp k->ok k/\some k≠v.ownBlock) (L:∀k,W.heap.size<=k->ok k)
  (N:d.R e W base ok v xs) (O:Below base w0 W) (S:base<=W.heap.size) (l:(xs.length+1)*bytes<=140737488355328)
  (h:∀v1 w1,d.R e w1 base ok v1 (xs++[p])->Below base w0 w1->W.grownBy w1 v.ownBlock->(v1.ownBlock=v.ownBlock\/∃b,v1.ownBlock=some b/\W.heap.size<=b)->wpListIn F n P ops Q rest (a.put o.dst v1) w1):
  wpListIn F n P ops Q (o::rest) a (W.alloc (.cells cs.toArray e)):=by
 obtain⟨T,inner,m,U⟩:=N;have V:cs.length=d.sz:=d.dV (d.dg hp);have h1:=d.dW (d.dg hp);obtain⟨i0,hi,q⟩:=Option.map_eq_some_iff.1 C;simp only[Prod.mk.injEq] at q;obtain⟨X,Y,Z⟩:=q;have hlen:xs.length+1<=140737488355328:=Nat.le_trans (Nat.le_mul_of_pos_right _ G) l;refine wpListIn_plain y fun K aa=>?_
 obtain⟨v1,w1,ab,ad,r,_,g⟩:=run_append_own_at (P:=P) (W.alloc (.cells cs.toArray e)) base t o.type e i0 z d.sz bytes B hi X Y Z D E v xs.length inner (m.alloc _) ⟨W.heap.size,0,none⟩ 1 1 cs (by rw[V];simp)
  (by simpa using World.news_of_block (cs:=cs.toArray) (t:=e) (fr:=(0,0)) (a7 W (.cells cs.toArray e))) h1 (by simp only[maxLen];omega) l (by simp;omega)
 have u:W.grownBy w1 v.ownBlock:=World.grownBy.trans (World.grownBy_alloc W _ _) r;have w:v1.ownBlock=v.ownBlock\/∃b,v1.ownBlock=some b/\W.heap.size<=b:=by
  rcases g with g|g
  ·exact .inl g
  ·exact .inr ⟨_,g,by simp⟩
 unfold Oper.wpIn;refine⟨?_,?_⟩
 ·simp[Oper.about,j,resolve,Target.leads,Sem.run_pure]
 ·rw[Oper.semAt_plain F _ _ (by rw[j];intro c ag;cases ag)]
  simp[execOp,j,resolve,invoke,builtin,H,I,ab,Result.andThen];exact aa _ _ (h v1 w1 (Kd.qf T U hp J L ad u w) ((O.alloc S _).grown r (by simp;omega) (jM m)) u w)
end
theorem o7 {α:Type} {d:Kd α} {e base nw:Nat} {ok:Nat->Prop} {v:Value} {xs:List α} {W w1:World} (g:d.R e W base ok v xs) (h:W.grownBy w1 v.ownBlock):cB nw W w1:=fun k o h1 j b i=>by
 refine(h.block k (Array.getElem?_eq_some_iff.1 b).1 (fun e=>?_)).trans b;obtain⟨cells,a⟩:=Kd.gN g k e.symm;rw[b] at a;injection a with a;subst a;simp[Obj.isCells] at i
theorem fI {nw bo j:Nat} (W:World) (v:Value) (h:bo<nw):cB nw W (W.setCell ⟨bo,j,none⟩ v):=fun k o h1 b a e=>by
 rw[Below.heap_setCell _ _ _ _ (by simp;omega)];exact a
theorem di {nw:Nat} {W w1:World} (h:Below W.heap.size W w1):cB nw W w1:=fun k o h1 b a e=>(h.block k (Array.getElem?_eq_some_iff.1 a).1).trans a
theorem dD {α:Type} {d:Kd α} {e base l:Nat} {ok:Nat->Prop} {v:Value} {xs:List α} {A B:World} (h:d.R e A base ok v xs) (hb:Bk l A B):d.R e B base ok v xs:=
 Kd.a_ (Kd.fC (Kd.ef h) (fun k hk=>by obtain⟨_,_,_,q,_,cells,a⟩:=hk;exact(hb.cells a).trans a.symm)) (fun k hk=>hk.1)
theorem uA (A:Option Addr) (m a c:Nat):(Value.slice A m c).ownBlock=(Value.slice A a c).ownBlock:=by cases A<;>rfl
theorem jx {F:Fence} {n:Nat} {P:Program} {fn:Func} {R:Ending->World->Prop} {a:Act} {w:World} {D:Nat} {v:Value} (hd:a.defers=[{target:=.collected D,args:=#[]}]) (b:w.heap[D]? =some (.deferred (some [])))
  (e:(results fn a.tmps).run P (w.putObj D (.deferred none))= .ok v (w.putObj D (.deferred none))) (g:R (.returned v) (w.putObj D (.deferred none))):bodyPostM F n P fn R .ret a w:=by
 show LeavesInM F n P fn a.tmps R a.defers .returning w
 rw[hd];exact⟨by simp,.inl ⟨_,_,rfl,run_takeDeferred b,⟨_,e,g⟩⟩⟩
theorem BR {F:Fence} {n:Nat} {P:Program} {c:Code} {K:Act->World->Prop} {Q:Exit->Act->World->Prop} {a:Act} {w:World} (h:c.wpIn F n P (Exit.then K (fun _ _ _=>False)) a w):c.wpIn F n P (Exit.then K Q) a w:=
 wpIn_mono h (fun e a w h=>by cases e<;>first|exact h|exact h.elim)
end
def fX.f (a0:Int) (a:Int):Option (Bool):=if a>=0 then(some (decide (a<a0))) else(some false)
theorem fX.calls (a0:Int) (a:Int) (r:Bool) (w:World) (h:fX.f a0 a=some r):
  Calls Tryz.prog 121 #[.int .i64 a0,.int .i64 a] w fun e w'=>e= .returned (.bool r)/\az w w':=by
 have H:(if a>=0 then(some (decide (a<a0))) else(some false))=some r:=h;clear h;by_cases c3:a>=0
 ·rw[if_pos c3] at H
  have b:=ay c3;clear c3;obtain rfl:=aQ H;go_enter Tryz.func121,Tryz.ntmps121
  go_wp2;go_ret;exact⟨zT,by repeat(first|exact az.refl _|apply az.step)⟩
 ·rw[if_neg c3] at H
  have b:=aZ c3;clear c3;obtain rfl:=aQ H;go_enter Tryz.func121,Tryz.ntmps121
  go_wp2;go_ret;exact⟨zT,by repeat(first|exact az.refl _|apply az.step)⟩
def cmp_isNaN_int.f (a0:Int):Option (Bool):=some (a0 != a0)
theorem cmp_isNaN_int.calls (a0:Int) (r:Bool) (w:World) (h:cmp_isNaN_int.f a0=some r):
  Calls Tryz.prog 164 #[.int .i64 a0] w fun e w'=>e= .returned (.bool r)/\az w w':=by
 have H:(some (a0 != a0))=some r:=h;clear h;obtain rfl:=aQ H;go_enter Tryz.func164,Tryz.ntmps164
 go_wp2;go_ret;exact⟨zT,by repeat(first|exact az.refl _|apply az.step)⟩
def iF.f (a0:Int) (a:Int):Option (Int):=(cmp_isNaN_int.f a0).bind fun t200=>((cmp_isNaN_int.f a).bind fun t201=>(if t200=true then(if t201=true then(some 0) else(some (-1))) else(if t201=true then(some 1) else(if a0<a then(some (-1)) else(if a0>a then(some 1) else(some 0))))))
theorem iF.calls (a0:Int) (a:Int) (r:Int) (w:World) (h:iF.f a0 a=some r):
  Calls Tryz.prog 107 #[.int .i64 a0,.int .i64 a] w fun e w'=>e= .returned (.int .i64 r)/\az w w':=by
 unfold iF.f at h;have H:=h;clear h;obtain⟨t200,g,H⟩:=zo H;obtain⟨t201,i,H⟩:=zo H;by_cases l:t200=true
 ·subst l
  replace H:=zi H;by_cases m:t201=true
  ·subst m
   replace H:=zi H;obtain rfl:=aQ H;go_enter Tryz.func107,Tryz.ntmps107
   go_wp2_with (first|((with_reducible refine aJ (f:=164) rfl ?_);refine zL (some 8) Tryz.func164 #[.int .i64 a0] ?_;(with_reducible refine(cmp_isNaN_int.calls a0 true _ g.out).mono ?_);rintro e w' ⟨rfl,⟨b,rfl⟩⟩;refine⟨_,rfl,?_⟩)|((with_reducible refine aJ (f:=164) rfl ?_);refine zL (some 10) Tryz.func164 #[.int .i64 a] ?_;(with_reducible refine(cmp_isNaN_int.calls a true _ i.out).mono ?_);rintro e w' ⟨rfl,⟨b,rfl⟩⟩;refine⟨_,rfl,?_⟩))
   go_ret;exact⟨zT,by repeat(first|exact az.refl _|apply az.step)⟩
  ·replace m:=Bool.eq_false_iff.mpr m
   subst m;replace H:=zj H;obtain rfl:=aQ H;go_enter Tryz.func107,Tryz.ntmps107
   go_wp2_with (first|((with_reducible refine aJ (f:=164) rfl ?_);refine zL (some 8) Tryz.func164 #[.int .i64 a0] ?_;(with_reducible refine(cmp_isNaN_int.calls a0 true _ g.out).mono ?_);rintro e w' ⟨rfl,⟨b,rfl⟩⟩;refine⟨_,rfl,?_⟩)|((with_reducible refine aJ (f:=164) rfl ?_);refine zL (some 10) Tryz.func164 #[.int .i64 a] ?_;(with_reducible refine(cmp_isNaN_int.calls a false _ i.out).mono ?_);rintro e w' ⟨rfl,⟨b,rfl⟩⟩;refine⟨_,rfl,?_⟩))
   go_ret;exact⟨zT,by repeat(first|exact az.refl _|apply az.step)⟩
 ·replace l:=Bool.eq_false_iff.mpr l
  subst l;replace H:=zj H;by_cases n:t201=true
  ·subst n
   replace H:=zi H;obtain rfl:=aQ H;go_enter Tryz.func107,Tryz.ntmps107
   go_wp2_with (first|((with_reducible refine aJ (f:=164) rfl ?_);refine zL (some 8) Tryz.func164 #[.int .i64 a0] ?_;(with_reducible refine(cmp_isNaN_int.calls a0 false _ g.out).mono ?_);rintro e w' ⟨rfl,⟨b,rfl⟩⟩;refine⟨_,rfl,?_⟩)|((with_reducible refine aJ (f:=164) rfl ?_);refine zL (some 10) Tryz.func164 #[.int .i64 a] ?_;(with_reducible refine(cmp_isNaN_int.calls a true _ i.out).mono ?_);rintro e w' ⟨rfl,⟨b,rfl⟩⟩;refine⟨_,rfl,?_⟩))
   go_ret;exact⟨zT,by repeat(first|exact az.refl _|apply az.step)⟩
  ·replace n:=Bool.eq_false_iff.mpr n
   subst n;replace H:=zj H;by_cases j:a0<a
   ·rw[if_pos j] at H
    have o:=ay j;clear j;obtain rfl:=aQ H;go_enter Tryz.func107,Tryz.ntmps107
    go_wp2_with (first|((with_reducible refine aJ (f:=164) rfl ?_);refine zL (some 8) Tryz.func164 #[.int .i64 a0] ?_;(with_reducible refine(cmp_isNaN_int.calls a0 false _ g.out).mono ?_);rintro e w' ⟨rfl,⟨b,rfl⟩⟩;refine⟨_,rfl,?_⟩)|((with_reducible refine aJ (f:=164) rfl ?_);refine zL (some 10) Tryz.func164 #[.int .i64 a] ?_;(with_reducible refine(cmp_isNaN_int.calls a false _ i.out).mono ?_);rintro e w' ⟨rfl,⟨b,rfl⟩⟩;refine⟨_,rfl,?_⟩))
    go_ret;exact⟨zT,by repeat(first|exact az.refl _|apply az.step)⟩
   ·rw[if_neg j] at H
    have o:=aZ j;clear j;by_cases k:a0>a
    ·rw[if_pos k] at H
     have p:=ay k;clear k;obtain rfl:=aQ H;go_enter Tryz.func107,Tryz.ntmps107
     go_wp2_with (first|((with_reducible refine aJ (f:=164) rfl ?_);refine zL (some 8) Tryz.func164 #[.int .i64 a0] ?_;(with_reducible refine(cmp_isNaN_int.calls a0 false _ g.out).mono ?_);rintro e w' ⟨rfl,⟨b,rfl⟩⟩;refine⟨_,rfl,?_⟩)|((with_reducible refine aJ (f:=164) rfl ?_);refine zL (some 10) Tryz.func164 #[.int .i64 a] ?_;(with_reducible refine(cmp_isNaN_int.calls a false _ i.out).mono ?_);rintro e w' ⟨rfl,⟨b,rfl⟩⟩;refine⟨_,rfl,?_⟩))
     go_ret;exact⟨zT,by repeat(first|exact az.refl _|apply az.step)⟩
    ·rw[if_neg k] at H
     have p:=aZ k;clear k;obtain rfl:=aQ H;go_enter Tryz.func107,Tryz.ntmps107
     go_wp2_with (first|((with_reducible refine aJ (f:=164) rfl ?_);refine zL (some 8) Tryz.func164 #[.int .i64 a0] ?_;(with_reducible refine(cmp_isNaN_int.calls a0 false _ g.out).mono ?_);rintro e w' ⟨rfl,⟨b,rfl⟩⟩;refine⟨_,rfl,?_⟩)|((with_reducible refine aJ (f:=164) rfl ?_);refine zL (some 10) Tryz.func164 #[.int .i64 a] ?_;(with_reducible refine(cmp_isNaN_int.calls a false _ i.out).mono ?_);rintro e w' ⟨rfl,⟨b,rfl⟩⟩;refine⟨_,rfl,?_⟩))
     go_ret;exact⟨zT,by repeat(first|exact az.refl _|apply az.step)⟩
def dt.l0:Nat->Int->List Int->Int->Int->Option (Int)
 |0,_,_,_,_=>none
 |k+1,x3,b,e,a=>if a<e then(if 0<=a then(if a<(b.length:Int) then(if(rd b a)=x3 then(dt.l0 k x3 b e (wrap64 (a+1))) else(some (rd b a))) else(none)) else(none)) else(some x3)
def dt.f (k:Nat) (l0:List Int):Option (Int):=dt.l0 k 0 l0 (l0.length:Int) 0
theorem dt.cD:∀k,(∀a b e g,ai (dt.l0 k a b e g) (dt.l0 (k+1) a b e g))
 |0=>fun _ _ _ _ r h=>by simp[dt.l0] at h
 |k+1=>by
  have i:=dt.cD k
  ·intro a b e g
   unfold dt.l0;with_reducible repeat' first|exact i _ _ _ _|exact ai.refl _|exact ai.none _|refine ai.ite ?_ ?_|refine ai.bind ?_ (fun _=>?_)
theorem dt.mono:∀a0 k,ai (dt.f k a0) (dt.f (k+1) a0):=by
 intro a0 k;have a:=dt.cD k;unfold dt.f;with_reducible repeat' first|exact a _ _ _ _|exact ai.refl _|exact ai.none _|refine ai.ite ?_ ?_|refine ai.bind ?_ (fun _=>?_)
theorem dt.calls (k:Nat) (A0:Option Addr) (c0:Nat) (l0:List Int) (r:Int) (w:World) (n:Kd.C (Kd.int .i64) w A0 l0.length l0) (o:l0.length<=c0) (h:dt.f k l0=some r):
  Calls Tryz.prog 177 #[.slice A0 l0.length c0] w fun e w'=>e= .returned (.int .i64 r)/\az w w':=by
 have p:=zA n;have E:=zA o;clear n o;have H:(dt.l0 k 0 l0 (l0.length:Int) 0)=some r:=h;clear h;have j:=zA H;clear H;go_enter Tryz.func177,Tryz.ntmps177
 go_wp2;go_loopg [8] k (fun q u w'=>∃(a:Int),u= .int .i64 a/\Aside0 (dt.l0 q 0 l0 (l0.length:Int) a=some r)/\Aside0 (q<=k)/\az w w')
 case atStart=>exact⟨(0),zT,j,⟨aI _⟩,by repeat(first|exact az.refl _|apply az.step)⟩
 case round=>
  clear j;obtain⟨a,rfl,l,s,⟨m1,rfl⟩⟩:=hrel;cases gk with
  |zero=>exact absurd l.out (by simp[dt.l0])
  |succ v=>
   have H:=l.out;clear l;simp only[dt.l0] at H;by_cases c2:a<(l0.length:Int)
   ·rw[if_pos c2] at H
    have x:=ay c2;clear c2;by_cases c3:0<=a
    ·rw[if_pos c3] at H
     have F:=ay c3;clear c3;by_cases c4:a<(l0.length:Int)
     ·rw[if_pos c4] at H
      have G:=ay c4;clear c4;by_cases i:(rd l0 a)=0
      ·rw[if_pos i] at H
       obtain⟨y,z⟩:=bT i;clear i;have j:=zA H;clear H;have b:0<=(a:Int):=aw ‹_›;have g:a<(l0.length:Int):=aw ‹_›;obtain⟨B,m,D⟩:=Kd.bJ p.out a b g;cases m;replace b:=eq_true b;replace g:=eq_true g;go_wp2;go_roundg v
       case measure=>have:=s.out;omega
       case rel=>exact⟨(wrap64 (a+1)),zT,j,⟨by have:=s.out;omega⟩,by repeat(first|exact az.refl _|apply az.step)⟩
      ·rw[if_neg i] at H
       obtain⟨y,z⟩:=bU i;obtain rfl:=aQ H;have b:0<=(a:Int):=aw ‹_›;have g:a<(l0.length:Int):=aw ‹_›;obtain⟨B,m,D⟩:=Kd.bJ p.out a b g;cases m;replace b:=eq_true b;replace g:=eq_true g;go_wp2;go_ret;exact⟨zT,by repeat(first|exact az.refl _|apply az.step)⟩
     ·rw[if_neg c4] at H
      exact absurd H (by simp)
    ·rw[if_neg c3] at H
     exact absurd H (by simp)
   ·rw[if_neg c2] at H
    have x:=aZ c2;clear c2;obtain rfl:=aQ H;go_wp2;go_ret;exact⟨zT,by repeat(first|exact az.refl _|apply az.step)⟩
def dN.f (k:Nat) (a:Int) (b:Int) (e:Int) (g:Int):Option (Int):=(iF.f a e).bind fun t205=>((iF.f b g).bind fun t206=>((dt.f k (([t205,t206]:List Int))).bind fun t210=>(some t210)))
theorem dN.mono:∀a0 a a2 a3 k,ai (dN.f k a0 a a2 a3) (dN.f (k+1) a0 a a2 a3):=by
 intro a0 a a2 a3 k;unfold dN.f;with_reducible repeat' first|exact dt.mono _ _|exact ai.refl _|exact ai.none _|refine ai.ite ?_ ?_|refine ai.bind ?_ (fun _=>?_)
def dN.T1:Bool×List (List Nat×List Nat):=(true,[([],[]),([0],[0]),([],[]),([2],[2]),([1,3],[1,3]),([],[]),([5],[5]),([],[]),([7],[7]),([6,8,4],[6,8]),([4,9],[4,9]),([10,9],[10]),([11,11,0,1,2,3,4,5,6,7,8,9,10,11],[11])])
def dN.B1:List Nat:=[0,1,0,4,15,0,32,0,128,511,1023,2047,4095]
theorem dN.BS:dX .any (opsOf Tryz.f122 1)=dN.T1:=by kernel_rfl
theorem dN.BU:lG dN.T1.2 dN.B1=true:=by kernel_rfl
theorem dN.calls (k:Nat) (p:Int) (q:Int) (s:Int) (u:Int) (r:Int) (w:World) (h:dN.f k p q s u=some r):
  Calls Tryz.prog 122 #[.agg #[.int .i64 p,.int .i64 q],.agg #[.int .i64 s,.int .i64 u]] w fun e w'=>e= .returned (.int .i64 r)/\Below w.heap.size w w':=by
 have ag:=Tryz.underlying116;have l:=zA (aq w.heap.size w);unfold dN.f at h;have H:=h;clear h;obtain⟨t205,Q,H⟩:=zo H;obtain⟨t206,R,H⟩:=zo H;obtain⟨D,E⟩:∃T:List Int,T=(([t205,t206]:List Int)):=⟨_,rfl⟩;replace H:((dt.f k D).bind fun t210=>(some t210))=some r:=zh E H;have I:=zA E;clear E;obtain⟨t210,U,H⟩:=zo H;obtain rfl:=aQ H;go_enter Tryz.func122,Tryz.ntmps122
 try go_wp2_with (first|((with_reducible refine aU (N:=2) rfl ?_);refine zX 2 #[.int .i64 p,.int .i64 q] 116 ?_;intro x hg w6 y hb;have a:=zA (y);have am:=zG l hg;have an:=zG l hg;replace l:=zS l hb;clear hb y hg)|((with_reducible refine aU (N:=3) rfl ?_);refine zX 3 #[.int .i64 s,.int .i64 u] 116 ?_;intro B hg V y hb;have b:=zA (y);have ap:=zG l hg;have ar:=zG l hg;replace l:=zS l hb;have av:=zA ((by rw[hg];exact Nat.ne_of_lt (aC (g:=x) (o:=.cells #[.int .i64 p,.int .i64 q] 116 (0,0)) (zK a)):x≠B));have aB:=zA ((by rw[hg];exact Nat.ne_of_gt (aC (g:=x) (o:=.cells #[.int .i64 p,.int .i64 q] 116 (0,0)) (zK a)):B≠x));replace a:=zb a hb;clear hb y hg))
 replace a:=zA (eZ a.out);replace b:=zA (eZ b.out);replace l:=zA (bR l.out);refine qq (n:=13) (S:=fun w'=>w'.cell? ⟨x,0,none⟩=some (.int .i64 p)/\w'.cell? ⟨x,1,none⟩=some (.int .i64 q)/\w'.cell? ⟨B,0,none⟩=some (.int .i64 s)/\w'.cell? ⟨B,1,none⟩=some (.int .i64 u)) (ds:=[]) #[false,false,false,false,false,false,false,false,false,false,false,false,false] (by kernel_rfl) rfl rfl ⟨(ah a.out 0).trans rfl,(ah a.out 1).trans rfl,(ah b.out 0).trans rfl,(ah b.out 1).trans rfl⟩ (fun hHeld=>?_);refine qO dN.BS dN.BU (fun j C=>?_);generalize V.drew=w8 at a b l hHeld⊢;refine zs 13 0 0 (by kernel_rfl) ?_;refine zn (v:=?_) (a':=?_) (by simp only[Nat.reduceAdd];rfl) j rfl rfl (by kernel_rfl) (Or.inl ⟨by rfl,?_⟩) ?_ ?_;rotate_left;(focus (intro w';go_simp;with_reducible rfl));rotate_left;(focus (simp only[Act.put,List.setIfInBounds_toArray,List.set_cons_zero,List.set_cons_succ,cH,cP];rfl))
 refine zs 13 1 2 (by kernel_rfl) ?_;refine zn (v:=?_) (a':=?_) (by simp only[Nat.reduceAdd];rfl) j rfl rfl (by kernel_rfl) (Or.inl ⟨by rfl,?_⟩) ?_ ?_;rotate_left;(focus (intro w';go_simp;with_reducible rfl));rotate_left;(focus (simp only[Act.put,List.setIfInBounds_toArray,List.set_cons_zero,List.set_cons_succ,cH,cP];rfl))
 refine zs 13 5 5 (by kernel_rfl) ?_;refine zn (v:=?_) (a':=?_) (by simp only[Nat.reduceAdd];rfl) j rfl rfl (by kernel_rfl) (Or.inl ⟨by rfl,?_⟩) ?_ ?_;rotate_left;(focus (intro w';go_simp;with_reducible rfl));rotate_left;(focus (simp only[Act.put,List.setIfInBounds_toArray,List.set_cons_zero,List.set_cons_succ,cH,cP];rfl))
 refine zs 13 37 7 (by kernel_rfl) ?_;refine zn (v:=?_) (a':=?_) (by simp only[Nat.reduceAdd];rfl) j rfl rfl (by kernel_rfl) (Or.inl ⟨by rfl,?_⟩) ?_ ?_;rotate_left;(focus (intro w';go_simp;with_reducible rfl));rotate_left;(focus (simp only[Act.put,List.setIfInBounds_toArray,List.set_cons_zero,List.set_cons_succ,cH,cP];rfl))
 refine kz (i:=1) (N:=some 6) (v:=?_) (a':=?_) #[true,true,true,false,false,true,false,true,false,false,false,false,false] rfl rfl (kJ j.out C.out (by kernel_rfl)) (fun _ _ _ h=>h) (Or.inl ⟨by rfl,?_⟩) hHeld ?_ ?_;rotate_left
 ·rintro w' ⟨s0,s1,s2,F⟩
  go_simp
  with_reducible rfl
 rotate_left
 ·simp only[Act.put,List.setIfInBounds_toArray,List.set_cons_zero,List.set_cons_succ,cH,cP]
  rfl
 refine kz (i:=3) (N:=some 8) (v:=?_) (a':=?_) #[true,true,true,true,false,true,false,true,false,false,false,false,false] rfl rfl (kJ j.out C.out (by kernel_rfl)) (fun _ _ _ h=>h) (Or.inl ⟨by rfl,?_⟩) hHeld ?_ ?_;rotate_left
 ·rintro w' ⟨s0,s1,s2,F⟩
  go_simp
  with_reducible rfl
 rotate_left
 ·simp only[Act.put,List.setIfInBounds_toArray,List.set_cons_zero,List.set_cons_succ,cH,cP]
  rfl
 refine kz (i:=6) (N:=some 11) (v:=?_) (a':=?_) #[true,true,true,true,false,true,true,true,false,false,false,false,false] rfl rfl (kJ j.out C.out (by kernel_rfl)) (fun _ _ _ h=>h) (Or.inl ⟨by rfl,?_⟩) hHeld ?_ ?_;rotate_left
 ·rintro w' ⟨s0,s1,s2,F⟩
  go_simp
  with_reducible rfl
 rotate_left
 ·simp only[Act.put,List.setIfInBounds_toArray,List.set_cons_zero,List.set_cons_succ,cH,cP]
  rfl
 refine kz (i:=8) (N:=some 13) (v:=?_) (a':=?_) #[true,true,true,true,false,true,true,true,true,false,false,false,false] rfl rfl (kJ j.out C.out (by kernel_rfl)) (fun _ _ _ h=>h) (Or.inl ⟨by rfl,?_⟩) hHeld ?_ ?_;rotate_left
 ·rintro w' ⟨s0,s1,s2,F⟩
  go_simp
  with_reducible rfl
 rotate_left
 ·simp only[Act.put,List.setIfInBounds_toArray,List.set_cons_zero,List.set_cons_succ,cH,cP]
  rfl
 refine me (i:=4) (N:=some 9) #[true,true,true,true,true,true,true,true,true,false,false,false,false] rfl rfl (kI j.out (by kernel_rfl)) (by decide) (fun K m=>?_);refine mZ Tryz.func107 (by kernel_rfl) rfl #[.int .i64 p,.int .i64 s] (by rfl) rfl rfl (by(try simp only[List.map_toArray,List.map_cons,List.map_nil]);first|done|rfl|(simp only[List.length_drop,List.length_take];rfl)) ?_;with_reducible refine(iF.calls p s t205 _ Q.out).mono ?_
 rintro e w' ⟨rfl,⟨J,rfl⟩⟩;refine⟨_,rfl,?_⟩;refine m.out _ _ ⟨(ah a.out 0).trans rfl,(ah a.out 1).trans rfl,(ah b.out 0).trans rfl,(ah b.out 1).trans rfl⟩ (fun hHeld=>?_);clear m K;refine mf (a':=?_) ?_ ?_;rotate_left
 ·show Act.put _ (some 9) _=_
  simp only[Act.put,List.setIfInBounds_toArray,List.set_cons_zero,List.set_cons_succ,cH,cP];rfl
 refine me (i:=9) (N:=some 14) #[true,true,true,true,true,true,true,true,true,true,false,false,false] rfl rfl (kI j.out (by kernel_rfl)) (by decide) (fun K m=>?_);refine mZ Tryz.func107 (by kernel_rfl) rfl #[.int .i64 q,.int .i64 u] (by rfl) rfl rfl (by(try simp only[List.map_toArray,List.map_cons,List.map_nil]);first|done|rfl|(simp only[List.length_drop,List.length_take];rfl)) ?_;with_reducible refine(iF.calls q u t206 _ R.out).mono ?_
 rintro e w' ⟨rfl,⟨J,rfl⟩⟩;refine⟨_,rfl,?_⟩;refine m.out _ _ ⟨(ah a.out 0).trans rfl,(ah a.out 1).trans rfl,(ah b.out 0).trans rfl,(ah b.out 1).trans rfl⟩ (fun hHeld=>?_);clear m K;refine mf (a':=?_) ?_ ?_;rotate_left
 ·show Act.put _ (some 14) _=_
  simp only[Act.put,List.setIfInBounds_toArray,List.set_cons_zero,List.set_cons_succ,cH,cP];rfl
 refine me (i:=10) (N:=some 15) #[true,true,true,true,true,true,true,true,true,true,true,false,false] rfl rfl (kI j.out (by kernel_rfl)) (by decide) (fun K m=>?_);refine Kd.z7 (Kd.int .i64) _ 3 ?hg (N:=15) ?hd (xs:=([t205,t206]:List Int)) (inner:=[.int .i64 t205,.int .i64 t206]) (ok:=fun _=>True) (okp:=fun _=>True) ?hr ?hp (fun _ hk=>hk) trivial (aq _ _) (aI _) (by simp) ?_;(case hd=>rfl);(case hg=>rfl);(case hr=>first|(go_simp;done)|(go_simp;rfl));(case hp=>exact(aT.one (show Kd.M (Kd.int .i64) _ _ _ t205 [.int .i64 t205] from rfl) (aT.one (show Kd.M (Kd.int .i64) _ _ _ t206 [.int .i64 t206] from rfl) (aT.none _ _))));intro v208 w9 z hb W X;clear W X
 (first|rw[<-I.out] at z|(simp only[Int.reduceToNat] at z;rw[<-I.out] at z))
 have G:=zA (Kd.bd z (bH zB));replace a:=zb a hb;replace b:=zb b hb;replace l:=zS l hb;clear hb z;obtain⟨Y,Z,L⟩:=Kd.bh G.out
 (first|subst L|(injection L with O aa P;have ab:=O.symm;have ad:=P.symm;clear O aa P;subst ab;subst ad))
 refine m.out _ _ ⟨(ah a.out 0).trans rfl,(ah a.out 1).trans rfl,(ah b.out 0).trans rfl,(ah b.out 1).trans rfl⟩ (fun hHeld=>?_);clear m K;refine mf (a':=?_) ?_ ?_;rotate_left
 ·show Act.put _ (some 15) _=_
  simp only[Act.put,List.setIfInBounds_toArray,List.set_cons_zero,List.set_cons_succ,cH,cP];rfl
 refine me (i:=11) (N:=some 16) #[true,true,true,true,true,true,true,true,true,true,true,true,false] rfl rfl (kI j.out (by kernel_rfl)) (by decide) (fun K m=>?_);refine mZ Tryz.func177 (by kernel_rfl) rfl #[.slice Y D.length Z] (by rfl) rfl rfl (by(try simp only[List.map_toArray,List.map_cons,List.map_nil]);first|done|rfl|(simp only[List.length_drop,List.length_take];rfl)) ?_;with_reducible refine(dt.calls k _ _ D t210 _ ?al ?aj U.out).mono ?_
 (case al=>exact zC (Kd.aH G.out).2.2)
 (case aj=>exact(Kd.aH G.out).2.1)
 rintro e w' ⟨rfl,⟨J,rfl⟩⟩;refine⟨_,rfl,?_⟩;refine m.out _ _ ⟨(ah a.out 0).trans rfl,(ah a.out 1).trans rfl,(ah b.out 0).trans rfl,(ah b.out 1).trans rfl⟩ (fun hHeld=>?_);clear m K;refine mf (a':=?_) ?_ ?_;rotate_left
 ·show Act.put _ (some 16) _=_
  simp only[Act.put,List.setIfInBounds_toArray,List.set_cons_zero,List.set_cons_succ,cH,cP];rfl
 refine zs 13 4095 12 (by kernel_rfl) ?_;refine zn (v:=?_) (a':=?_) (by simp only[Nat.reduceAdd];rfl) j rfl rfl (by kernel_rfl) (Or.inl ⟨by rfl,?_⟩) ?_ ?_;rotate_left;(focus (intro w';go_simp;with_reducible rfl));rotate_left;(focus (simp only[Act.put,List.setIfInBounds_toArray,List.set_cons_zero,List.set_cons_succ,cH,cP];rfl))
 refine qt (qN j.out (by kernel_rfl)) ?_;try go_wp2
 go_ret;exact⟨zE,zB⟩
end Go.Proofs.YtffdiakgjakngaaGreat.P


