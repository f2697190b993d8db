/- RiemannrochLoses answers true whatever the input (text 1 of 7): own walks and plain laws; no conditions. -/
import Derived.ArgAppend
import Derived.Below
import Derived.BigQuiet
import Derived.Deep.AppendLies
import Derived.Deep.CutBlock
import Derived.Deep.DeepCutAuto
import Derived.Deep.Draws
import Derived.Deep.LoopGhost
import Derived.Deep.OwnRows
import Derived.Deep.QuietTactic
import Derived.Deep.RegionHeld3
import Derived.KernelRfl
import Derived.Laws.BitsLemmas
import Derived.Laws.BytesArg
import Derived.Laws.IdiomCopy
import Derived.Laws.MakeOwn
import Derived.Laws.OwnMore
import Derived.Laws.Rows
import Derived.Laws.Slices
import Derived.Laws.StructEq
import Derived.Lib.AppendStr
import Derived.Lib.ConvBytes
import Derived.Maps.AppendAt
import Derived.OrdersHeld
import Derived.OwnWalk
import Derived.RowKit
import Derived.RowKit3
import Derived.Tactics
import Derived.Test.YtffdiakgjakngaaGreatProg
import Derived.WalkKit
import Derived.WideLaws
section
set_option linter.unusedVariables false
set_option linter.unusedSimpArgs false
namespace Go.Proofs.YtffdiakgjakngaaGreatW.PrintWords
open Go.RowKit
structure Aside0 (p:Prop):Prop where mk::(out:p)
structure aC (w w':World):Prop where mk::(out:∃n,w'=w.drewN n)
theorem aC.refl (w:World):aC w w:=⟨⟨0,rfl⟩⟩
theorem aC.step {w w':World} (h:aC w w') (n:Nat):aC w (w'.drewN n):=by
  obtain⟨m,rfl⟩:=h;exact⟨⟨m+n,World.drewN_drewN ..⟩⟩
theorem aC.below {w w':World} (h:aC w w'):Below w.heap.size w w':=by
  obtain⟨n,rfl⟩:=h;induction n with
  |zero=>exact Below.refl _ _
  |succ n a=>rw[<-World.drew_drewN];exact a.drew
def rd (xs:List Int) (i:Int):Int:=xs.getD i.toNat 0
theorem ao {w W:World} (h:Below w.heap.size w W) (o:Obj):Below w.heap.size w (W.alloc o):=h.alloc h.size o
theorem ig {B:Nat} {w W:World} (h:Below B w W):Below B w W.drew:=⟨h.os,h.tape,h.output,h.size,h.block⟩
theorem bY {B:Nat} {w W:World} (h:Below B w W) (n:Nat):Below B w (W.drewN n):=⟨h.os,h.tape,h.output,h.size,h.block⟩
theorem lN {B:Nat} {w w1 w2:World} (h:Below B w w1) (a:B<=w1.heap.size) (k:Below w1.heap.size w1 w2):Below B w w2:=
  h.trans ⟨k.os,k.tape,k.output,k.size,fun i hi=>k.block i (Nat.lt_of_lt_of_le hi a)⟩
theorem kc {B:Nat} {w w1:World} (h:Below B w w1) (row:Option Nat) (a:B<=w1.heap.size) {w2:World} (b:w1.grownBy w2 row) (e:∀k,row=some k->B<=k):Below B w w2:=h.grown b a e
theorem jI {w w1:World} (h:Below w.heap.size w w1) (row:Option Nat):w.grownBy w1 row:=⟨h.os,h.tape,h.output,h.size,fun i hi _=>h.block i hi⟩
theorem iL {w w1:World} (h:Below w.heap.size w w1) {a:Addr} {v:Value} (b:w.cell? a=some v):w1.cell? a=some v:=(h.cell (World.block_lt_of_cell? w a b)).trans b
theorem add_plain (g j:Nat):(⟨g,0,none⟩:Addr).add j=⟨g,j,none⟩:=by unfold Addr.add;split<;>simp_all
def Jz (w:World) (k:IntKind) (A:Option Addr) (n:Nat) (xs:List Int):Prop:=
  xs.length=n/\n<=9223372036854775807/\(0<n->∃ad,A=some ad/\∀j,j<n->w.cell? (ad.add j)=some (.int k (xs.getD j 0)))
theorem sD (W:World) (base:Nat) (e:TypeId) (size:Nat):W.ownsRow base e size (.slice none 0 0) 0 []:=⟨by simp,.inl ⟨rfl,rfl⟩⟩
theorem ke {w:World} {base:Nat} {e:TypeId} {size n:Nat} {v:Value} {xs:List Value} (h:w.ownsRow base e size v n xs) (k:Nat) (hk:v.ownBlock=some k):base<=k:=by
  rcases h.2 with⟨rfl,_⟩|⟨g,cap,cur,rfl,hb,_⟩
  · simp[Value.ownBlock] at hk
  · have:g=k:=by simpa [Value.ownBlock] using hk
    omega
theorem sE {w:World} {base:Nat} {e:TypeId} {size n:Nat} {v:Value} {xs:List Value} (h:w.ownsRow base e size v n xs) (k:Nat) (hk:v.ownBlock=some k):k<w.heap.size:=by
  rcases h.2 with⟨rfl,_⟩|⟨g,cap,cur,rfl,hb,a,_⟩
  · simp[Value.ownBlock] at hk
  · have:g=k:=by simpa [Value.ownBlock] using hk
    subst this;exact(Array.getElem?_eq_some_iff.1 a).1
theorem sF {w:World} {base n:Nat} {e:TypeId} {size:Nat} {v:Value} {xs:List Value} (h:w.ownsRow base e size v n xs):∃A c,v= .slice A n c:=by
  rcases h.2 with⟨rfl,rfl⟩|⟨g,cap,cur,rfl,_⟩
  · exact⟨none,0,rfl⟩
  · exact⟨_,cap,rfl⟩
def al {α:Type} (a b:Option α):Prop:=∀r,a=some r->b=some r
theorem al.refl {α:Type} (a:Option α):al a a:=fun _ h=>h
theorem al.trans {α:Type} {a b c:Option α} (h:al a b) (k:al b c):al a c:=fun r e=>k r (h r e)
theorem al.ite {α:Type} {c:Prop} [Decidable c] {a a' b b':Option α} (h:al a a') (k:al b b'):al (if c then a else b) (if c then a' else b'):=by
  split
  · exact h
  · exact k
theorem al.bind {α β:Type} {a a':Option α} {f b:α->Option β} (h:al a a') (k:∀x,al (f x) (b x)):al (a.bind f) (a'.bind b):=by
  intro r e;obtain⟨x,g,hf⟩:=Option.bind_eq_some_iff.1 e;exact Option.bind_eq_some_iff.2 ⟨x,h x g,k x r hf⟩
theorem sG {α:Type} {g:Nat->Option α} (h:∀k,al (g k) (g (k+1))) (k:Nat):∀j,al (g k) (g (k+j))
  |0=>al.refl _
  |j+1=>(sG h k j).trans (h (k+j))
theorem lO {α:Type} {g:Nat->Option α} (h:∀k,al (g k) (g (k+1))) {k k':Nat} (hk:k<=k') {r:α} (a:g k=some r):g k'=some r:=by
  have:=sG h k (k'-k) r a;rwa [Nat.add_sub_cancel' hk] at this
def aT {α:Type} (R:α->List Value->Prop) (size:Nat) (ps:List α) (cs:List Value):Prop:=
  cs.length=ps.length*size/\∀j p,ps[j]? =some p->R p ((cs.drop (j*size)).take size)
theorem aT.none {α:Type} (R:α->List Value->Prop) (size:Nat):aT R size [] []:=⟨by simp,fun j p h=>by simp at h⟩
theorem aT.snoc {α:Type} {R:α->List Value->Prop} {size:Nat} {ps:List α} {cs c:List Value} {p:α} (h:aT R size ps cs) (hp:R p c) (e:c.length=size):aT R size (ps++[p]) (cs++c):=by
  refine⟨by rw[List.length_append,h.1,e,List.length_append,List.length_singleton,Nat.add_mul,Nat.one_mul],fun j q a=>?_⟩;rcases Nat.lt_or_ge j ps.length with b|b
  · rw[List.getElem?_append_left b] at a
    have h1:j*size+size<=cs.length:=by rw[h.1,<-Nat.succ_mul];exact Nat.mul_le_mul_right _ b
    have g:=h.2 j q a;rw[List.drop_append_of_le_length (by omega),List.take_append_of_le_length (by rw[List.length_drop];omega)];exact g
  · have i:j=ps.length:=by
      have:=(List.getElem?_eq_some_iff.1 a).1;rw[List.length_append,List.length_singleton] at this;omega
    subst i;have k:p=q:=by simpa using a
    subst k;rw[<-h.1,List.drop_left,<-e,List.take_length];exact hp
theorem aT.fz {α:Type} {R R':α->List Value->Prop} {size:Nat} {ps:List α} {cs:List Value} (h:aT R size ps cs) (a:∀p c,R p c->R' p c):aT R' size ps cs:=⟨h.1,fun j p b=>a _ _ (h.2 j p b)⟩
def jm {α:Type} (R:α->List Value->Prop) (size:Nat) (w:World) (A:Option Addr) (n:Nat) (ps:List α):Prop:=
  ps.length=n/\n<=9223372036854775807/\(0<n->∃ad,A=some ad/\∀j p,ps[j]? =some p->∃c,c.length=size/\R p c/\∀i u,c[i]? =some u->w.cell? (ad.add (j*size+i))=some u)
theorem jm.yE {α:Type} {R:α->List Value->Prop} {size:Nat} {w:World} {A:Option Addr} {n:Nat} {ps:List α} (h:jm R size w A n ps) (d:α) (i:Int) (m:0<=i) (h1:i<n):
    ∃ad c,A=some ad/\c.length=size/\R (ps.getD i.toNat d) c/\∀j u,c[j]? =some u->w.cell? (ad.add (i.toNat*size+j))=some u:=by
  obtain⟨ad,e,b⟩:=h.2.2 (by omega);have a:i.toNat<ps.length:=by have:=h.1;omega
  obtain⟨c,g,k,l⟩:=b i.toNat _ (List.getElem?_eq_getElem a);refine⟨ad,c,e,g,?_,l⟩;rw[List.getD_eq_getElem?_getD,List.getElem?_eq_getElem a];exact k
theorem jm.fz {α:Type} {R R':α->List Value->Prop} {size:Nat} {w w1:World} {A:Option Addr} {n:Nat} {ps:List α} (h:jm R size w A n ps) (hb:Below w.heap.size w w1) (a:∀p c,R p c->R' p c):jm R' size w1 A n ps:=
  ⟨h.1,h.2.1,fun hn=>by
    obtain⟨ad,e,b⟩:=h.2.2 hn;refine⟨ad,e,fun j p g=>?_⟩;obtain⟨c,k,l,m⟩:=b j p g;exact⟨c,k,a _ _ l,fun i u hu=>iL hb (m i u hu)⟩⟩
theorem yF {α:Type} {R:α->List Value->Prop} {w:World} {base n size:Nat} {e:TypeId} {v:Value} {ps:List α} {cs:List Value} (h:w.ownsRow base e size v n cs) (a:aT R size ps cs) (hn:ps.length=n):
    ∃A c,v= .slice A n c/\jm R size w A n ps:=by
  rcases Nat.eq_zero_or_pos n with b|b
  · rcases h.2 with⟨rfl,rfl⟩|⟨g,cap,cur,rfl,_⟩
    · exact⟨none,0,rfl,hn,by omega,fun hp=>absurd hp (by omega)⟩
    · exact⟨_,cap,rfl,hn,by omega,fun hp=>absurd hp (by omega)⟩
  · obtain⟨g,cap,rfl,_,_⟩:=h.form b
    have hm:n<=9223372036854775807:=by
      rcases h.2 with⟨_,h1⟩|⟨o,q,cur,he,_,_,h1,l,_⟩
      · omega
      · simp only[maxLen] at l
        omega
    refine⟨_,cap,rfl,hn,hm,fun _=>⟨_,rfl,fun j p k=>⟨(cs.drop (j*size)).take size,?_,a.2 j p k,fun i u hu=>?_⟩⟩⟩
    · have m:=(List.getElem?_eq_some_iff.1 k).1
      have h1:j*size+size<=cs.length:=by rw[a.1,<-Nat.succ_mul];exact Nat.mul_le_mul_right _ m
      rw[List.length_take,List.length_drop];omega
    · refine h.cells (g:=g) rfl _ u ?_
      rw[List.getElem?_take] at hu;split at hu
      · rw[List.getElem?_drop] at hu
        exact hu
      · cases hu
theorem pO (ad:Addr) (m j:Nat) (a:0<j):ad.add (m+j)=⟨(ad.add m).block,(ad.add m).off+j,none⟩:=by
  unfold Addr.add;by_cases hm:m=0
  · subst hm
    simp[Nat.ne_of_gt a]
  · simp[hm,Nat.add_assoc]
section
variable {P:Program} {ops:Array Oper} {rest:List Oper} {o:Oper} {a:Act} {Q:Exit->Act->World->Prop}
theorem yG {w0 W:World} (base:Nat) (p:o.guard=none) (s x:Operand) (t e:TypeId) (z:Value) (size bytes:Nat)
    (q:o.op= .call {callee:=.builtin .append,args:=#[s,x],argTypes:=#[t,t]})
    (r:P.underlying t=some (.slice e)) (w:(P.info? e).map (fun i=>(i.zero,i.size,i.bytes))=some (some z,size,bytes)) (y:z.cells.size=size) (B:0<size) (C:0<bytes)
    (v:Value) (n:Nat) (xs ys:List Value) (D:a.eval s=v) (E:a.eval x= .slice (some ⟨W.heap.size,0,none⟩) 1 1) (F:ys.length=size) (h1:∀u∈ys,u.oneCell'=true)
    (j:W.ownsRow base e size v n xs) (G:Below base w0 W) (H:base<=W.heap.size) (k:(n+1)*bytes<=140737488355328)
    (h:∀v1 w1,w1.ownsRow base e size v1 (n+1) (xs++ys)->Below base w0 w1->W.grownBy w1 v.ownBlock->(v1.ownBlock=v.ownBlock\/∃b,v1.ownBlock=some b/\W.heap.size<=b)->wpList P ops Q rest (a.put o.dst v1) w1):
    wpList P ops Q (o::rest) a (W.alloc (.cells ys.toArray e)):=by
  obtain⟨i0,hi,l⟩:=Option.map_eq_some_iff.1 w;simp only[Prod.mk.injEq] at l;obtain⟨I,J,K⟩:=l;have hlen:n+1<=140737488355328:=Nat.le_trans (Nat.le_mul_of_pos_right _ C) k;refine wpList_append_own_at (W.alloc (.cells ys.toArray e)) p s x t q base e i0 z size bytes r hi I J K y B v n xs D (j.alloc _) ⟨W.heap.size,0,none⟩ 1 1 ys E (by rw[F];simp)
    (by simpa using World.news_of_block (cs:=ys.toArray) (t:=e) (fr:=(0,0)) (heap_alloc_new W (.cells ys.toArray e))) h1 (by simp only[maxLen];omega) k (by simp;omega) ?_
  intro v1 w1 L m _ g;refine h v1 w1 L ((G.alloc H _).grown m (by simp;omega) (ke j)) (World.grownBy.trans (World.grownBy_alloc W _ _) m) ?_;rcases g with g|g
  · exact .inl g
  · exact .inr ⟨_,g,by simp⟩
end
theorem sH {w:World} {base:Nat} {e t:TypeId} {size n g:Nat} {v:Value} {xs:List Value} {cs:Array Value} (h:w.ownsRow base e size v n xs) (b:w.heap[g]? =some (.cells cs t (0,0))) (i:e≠t):some g≠v.ownBlock:=by
  rcases h.2 with⟨rfl,_⟩|⟨j,cap,cur,rfl,_,a,_⟩
  · simp[Value.ownBlock]
  · intro he
    have:g=j:=by simpa [Value.ownBlock] using he
    subst this;rw[b] at a;injection a with a
    injection a with _ k
    exact i k.symm
theorem bQ {w:World} {g:Nat} {t:TypeId} {cs:Array Value} (h:w.heap[g]? =some (.cells cs t (0,0))) (i:Nat) (u:Value):(w.setCell ⟨g,i,none⟩ u).heap[g]? =some (.cells (cs.setIfInBounds i u) t (0,0)):=by
  simp[World.setCell,Array.getElem?_modify,h]
theorem aD {w:World} {g:Nat} {t:TypeId} {cs:Array Value} (h:w.heap[g]? =some (.cells cs t (0,0))) {p:Addr} (hp:g≠p.block) (u:Value):(w.setCell p u).heap[g]? =some (.cells cs t (0,0)):=(Below.heap_setCell w p u g hp).trans h
theorem aA {w:World} {g:Nat} {o:Obj} (h:w.heap[g]? =some o):g<w.heap.size:=(Array.getElem?_eq_some_iff.1 h).1
theorem aj {w:World} {g:Nat} {t:TypeId} {cs:Array Value} (h:w.heap[g]? =some (.cells cs t (0,0))) (i:Nat):w.cell? ⟨g,i,none⟩=cs[i]? :=cell_of_row w g i cs t (0,0) h
theorem bt {w:World} {g:Nat} {t:TypeId} {cs:Array Value} (h:w.heap[g]? =some (.cells cs t (0,0))) (i:Nat):w.frozen? ⟨g,i,none⟩=false:=by simp[World.frozen?,h]
theorem da {w w1:World} {g:Nat} {o:Obj} {row:Option Nat} (h:w.heap[g]? =some o) (a:w.grownBy w1 row) (b:some g≠row):w1.heap[g]? =some o:=(a.block g (aA h) b).trans h
def nV (w w':World) (g:Nat) (row:Option Nat):Prop:=w.heap.size<=w'.heap.size/\∀i,i<w.heap.size->i≠g->some i≠row->w'.heap[i]? =w.heap[i]?
theorem nV.trans {w w1 w2:World} {g:Nat} {row a:Option Nat} (h:nV w w1 g row) (k:nV w1 w2 g a) (l:a=row\/∃b,a=some b/\w.heap.size<=b):nV w w2 g row:=
  ⟨Nat.le_trans h.1 k.1,fun i hi j hn=>by
    refine(k.2 i (Nat.lt_of_lt_of_le hi h.1) j ?_).trans (h.2 i hi j hn);rcases l with rfl|⟨b,rfl,hb⟩
    · exact hn
    · intro e
      injection e with e
      omega⟩
section
variable {P:Program} {ops:Array Oper} {o:Oper} {a:Act} {Q:Exit->Act->World->Prop} {K:Act->World->Prop}
theorem yH {w0 W:World} (base:Nat) (hw:Region.wanted o (yielded ops a.tmps)=true) (s x:Operand) (t e:TypeId) (z:Value) (size bytes:Nat)
    (p:o.op= .call {callee:=.builtin .append,args:=#[s,x],argTypes:=#[t,t]})
    (q:P.underlying t=some (.slice e)) (r:(P.info? e).map (fun i=>(i.zero,i.size,i.bytes))=some (some z,size,bytes)) (w:z.cells.size=size) (y:0<size) (B:0<bytes)
    (v:Value) (n:Nat) (xs ys:List Value) (C:a.eval s=v) (D:a.eval x= .slice (some ⟨W.heap.size,0,none⟩) 1 1) (E:ys.length=size) (h1:∀u∈ys,u.oneCell'=true)
    (j:W.ownsRow base e size v n xs) (F:Below base w0 W) (G:base<=W.heap.size) (k:(n+1)*bytes<=140737488355328)
    (h:∀v1 w1,w1.ownsRow base e size v1 (n+1) (xs++ys)->Below base w0 w1->W.grownBy w1 v.ownBlock->(v1.ownBlock=v.ownBlock\/∃b,v1.ownBlock=some b/\W.heap.size<=b)->K (a.put o.dst v1) w1):
    if Region.wanted o (yielded ops a.tmps)=true then Oper.wp P o a (W.alloc (.cells ys.toArray e)) K Q else K (a.put o.dst undef) (W.alloc (.cells ys.toArray e)):=by
  obtain⟨i0,hi,l⟩:=Option.map_eq_some_iff.1 r;simp only[Prod.mk.injEq] at l;obtain⟨H,I,J⟩:=l;have hlen:n+1<=140737488355328:=Nat.le_trans (Nat.le_mul_of_pos_right _ B) k;rw[if_pos hw];obtain⟨v1,w1,L,M,m,_,g⟩:=run_append_own_at (P:=P) (W.alloc (.cells ys.toArray e)) base t o.type e i0 z size bytes q hi H I J w y v n xs (j.alloc _) ⟨W.heap.size,0,none⟩ 1 1 ys (by rw[E];simp)
    (by simpa using World.news_of_block (cs:=ys.toArray) (t:=e) (fr:=(0,0)) (heap_alloc_new W (.cells ys.toArray e))) h1 (by simp only[maxLen];omega) k (by simp;omega)
  unfold Oper.wp execOp;simp only[p,resolve,invoke,builtin,Sem.run_bind,Sem.run_pure,Result.andThen_ok,List.map_toArray,List.map_cons,List.map_nil,C,D,L];refine h v1 w1 M ((F.alloc G _).grown m (by simp;omega) (ke j)) (World.grownBy.trans (World.grownBy_alloc W _ _) m) ?_;rcases g with g|g
  · exact .inl g
  · exact .inr ⟨_,g,by simp⟩
end
theorem yI {w:World} {base base':Nat} {e:TypeId} {size n:Nat} {v:Value} {xs:List Value} (h:w.ownsRow base e size v n xs) (hb:base'<=base):w.ownsRow base' e size v n xs:=by
  obtain⟨h1,a⟩:=h;refine⟨h1,?_⟩;rcases a with a|⟨g,cap,cur,rfl,b,r⟩
  · exact .inl a
  · exact .inr ⟨g,cap,cur,rfl,Nat.le_trans hb b,r⟩
section
variable {α:Type} {enc:α->Value} {d:α}
def bV (enc:α->Value) (xs:List α):List Value:=xs.map enc
def bW (d:α) (xs:List α) (i:Int):α:=xs.getD i.toNat d
theorem sI (xs:List α):(bV enc xs).length=xs.length:=by simp[bV]
theorem sJ (xs:List α) (j:Nat) (h:j<xs.length):(bV enc xs)[j]? =some (enc (xs.getD j d)):=by
  simp[bV,List.getElem?_eq_getElem h,List.getD_eq_getElem?_getD]
def lP (enc:α->Value) (d:α) (w:World) (A:Option Addr) (n:Nat) (xs:List α):Prop:=
  xs.length=n/\n<=9223372036854775807/\(0<n->∃ad,A=some ad/\∀j,j<n->w.cell? (ad.add j)=some (enc (xs.getD j d)))
theorem lP.at_ {w:World} {A:Option Addr} {n:Nat} {xs:List α} (h:lP enc d w A n xs) (i:Int) (b:0<=i) (h1:i<n):∃ad,A=some ad/\w.cell? (ad.add i.toNat)=some (enc (bW d xs i)):=by
  obtain⟨ad,e,a⟩:=h.2.2 (by omega);exact⟨ad,e,a _ (by omega)⟩
theorem yJ {W:World} {base g n cap:Nat} {e:TypeId} {xs:List α} (h:W.ownsRow base e 1 (.slice (some ⟨g,0,none⟩) n cap) n (bV enc xs)) (i:Int) (l:0<=i) (h1:i<n):
    W.cell? ⟨g,i.toNat,none⟩=some (enc (bW d xs i))/\W.frozen? ⟨g,i.toNat,none⟩=false:=by
  have m:xs.length=n:=by have:=h.1;simp[bV] at this;exact this
  constructor
  · have b:=h.cells (g:=g) rfl i.toNat _ (sJ (d:=d) xs i.toNat (by omega))
    rwa [add_plain] at b
  · rcases h.2 with⟨a,_⟩|⟨j,o,cur,a,_,k,_⟩
    · cases a
    · have:g=j:=by injection a with a;injection a with a;injection a with a
      subst this;simp[World.frozen?,k]
theorem yK {W:World} {base g n cap:Nat} {e:TypeId} {xs:List α} (h:W.ownsRow base e 1 (.slice (some ⟨g,0,none⟩) n cap) n (bV enc xs)) (i:Int) (x:α):
    (W.setCell ⟨g,i.toNat,none⟩ (enc x)).ownsRow base e 1 (.slice (some ⟨g,0,none⟩) n cap) n (bV enc (xs.set i.toNat x))/\W.grownBy (W.setCell ⟨g,i.toNat,none⟩ (enc x)) (some g):=by
  have a:=h.stored i.toNat (enc x);have he:(bV enc xs).set i.toNat (enc x)=bV enc (xs.set i.toNat x):=by simp[bV,List.map_set]
  rwa [he] at a
end
section
variable {α:Type} {P:Program} {ops:Array Oper} {rest:List Oper} {o:Oper} {a:Act} {Q:Exit->Act->World->Prop}
theorem yL {w0 W:World} (enc:α->Value) (d:α) (base:Nat) (F:o.guard=none) (s x:Operand) (t e:TypeId) (z:Value) (bytes:Nat)
    (G:o.op= .call {callee:=.builtin .append,args:=#[s,x],argTypes:=#[t,t]})
    (p:P.underlying t=some (.slice e)) (H:(P.info? e).map (fun i=>(i.zero,i.size,i.bytes))=some (some z,1,bytes)) (I:z.cells.size=1) (J:0<bytes) (h1:∀x:α,(enc x).oneCell'=true)
    (v:Value) (xs ys:List α) (A:Option Addr) (m c:Nat) (L:a.eval s=v) (M:a.eval x= .slice A m c)
    (n:W.ownsRow base e 1 v xs.length (bV enc xs)) (r:lP enc d W A m ys) (N:Below base w0 W) (B:base<=W.heap.size) (C:(xs.length+m)*bytes<=140737488355328)
    (h:∀v1 w1,w1.ownsRow base e 1 v1 (xs++ys).length (bV enc (xs++ys))->Below base w0 w1->W.grownBy w1 v.ownBlock->(v1.ownBlock=v.ownBlock\/∃b,v1.ownBlock=some b/\W.heap.size<=b)->wpList P ops Q rest (a.put o.dst v1) w1):
    wpList P ops Q (o::rest) a W:=by
  obtain⟨i0,hi,D⟩:=Option.map_eq_some_iff.1 H;simp only[Prod.mk.injEq] at D;obtain⟨O,R,S⟩:=D;have hm:ys.length=m:=r.1;have hlen:xs.length+m<=140737488355328:=Nat.le_trans (Nat.le_mul_of_pos_right _ J) C;have T:∃v1 w1,(Builtin.append_ #[t,t] o.type #[v,.slice A m c]).run P W= .ok v1 w1/\w1.ownsRow base e 1 v1 (xs++ys).length (bV enc (xs++ys))/\W.grownBy w1 v.ownBlock/\(v1.ownBlock=v.ownBlock\/v1.ownBlock=some W.heap.size):=by
    rcases A with _|ad
    · have k:m=0:=by
        rcases Nat.eq_zero_or_pos m with k|k
        · exact k
        · obtain⟨ad,h,_⟩:=r.2.2 k
          cases h
      subst k;obtain rfl:ys=[]:=List.eq_nil_of_length_eq_zero hm;refine⟨v,W,?_,by simpa using n,World.grownBy.refl W _,.inl rfl⟩;rcases n.2 with⟨rfl,hn⟩|⟨g,cap,cur,rfl,_,_,U,_⟩
      · simp[Builtin.append_,run_underlying p,sizeOf,typeInfo,hi,Builtin.lenOf,Builtin.firstCells]
      · simp[Builtin.append_,run_underlying p,sizeOf,typeInfo,hi,Builtin.lenOf,Builtin.firstCells,U,storeCells]
    · have V:∀j u,(bV enc ys)[j]? =some u->W.cell? (ad.add j)=some u:=by
        intro j u hu;have X:j<ys.length:=by
          rcases Nat.lt_or_ge j ys.length with h|h
          · exact h
          · simp[bV,List.getElem?_eq_none h] at hu
        obtain⟨am,w,Y⟩:=r.2.2 (by omega);injection w with w
        subst w;rw[sJ (d:=d) ys j X] at hu;rw[<-hu];exact Y j (by omega)
      obtain⟨v1,w1,y,Z,h3,_,h5⟩:=run_append_own_at (P:=P) W base t o.type e i0 z 1 bytes p hi O R S I (by omega) v xs.length (bV enc xs) n ad m c (bV enc ys) (by simp[bV,hm]) V
        (by intro u hu;simp only[bV,List.mem_map] at hu;obtain⟨q,_,rfl⟩:=hu;exact h1 q) (by simp only[maxLen];omega) C B
      exact⟨v1,w1,y,by simpa [bV,hm] using Z,h3,h5⟩
  obtain⟨v1,w1,y,ag,E,l⟩:=T;refine wpList_plain F fun K hK=>?_
  unfold Oper.wp execOp;simp only[G,resolve,invoke,builtin,Sem.run_bind,Sem.run_pure,Result.andThen_ok,List.map_toArray,List.map_cons,List.map_nil,L,M,y];refine hK _ _ (h v1 w1 ag (N.grown E B (ke n)) E ?_);rcases l with l|l
  · exact .inl l
  · exact .inr ⟨_,l,Nat.le_refl _⟩
end
theorem au {w:World} {g:Nat} {o:Obj} (h:w.heap[g]? =some o) (a:Obj):(w.alloc a).heap[g]? =some o:=(Below.heap_alloc w a g (aA h)).trans h
theorem fA {w:World} {g:Nat} {o:Obj} (h:w.heap[g]? =some o):w.drew.heap[g]? =some o:=h
theorem iM {w:World} {g:Nat} {o:Obj} (h:w.heap[g]? =some o) (n:Nat):(w.drewN n).heap[g]? =some o:=h
theorem aE {w w1:World} {g:Nat} {o:Obj} (h:w.heap[g]? =some o) (hb:Below w.heap.size w w1):w1.heap[g]? =some o:=(hb.block g (aA h)).trans h
theorem yM (w:World) (o:Obj):(w.alloc o).heap[w.heap.size]? =some o:=heap_alloc_new w o
section
variable {P:Program}
theorem pP {fn:Func} {p u:Tmp} {ty:TypeId} (h:fn.results=#[.cell p ty,.tmp u]) (tmps:Array Value) (w:World) (g:Nat) (t:TypeId) (cs:Array Value) (fr:Nat×Nat) (d:TypeDesc)
    (hp:tmps.getD p undef= .pointer (some ⟨g,0,none⟩)) (a:w.heap[g]? =some (.cells cs t fr))
    (hu:P.underlying ty=some d) (hd:(match d with| .struct _| .array _ _=>true|_=>false)=true) (hi:(P.info? ty).map (·.size)=some cs.size):
    (results fn tmps).run P w= .ok (.tuple #[.agg cs,tmps.getD u undef]) w:=by
  have b:tmps[p]?.getD undef= .pointer (some ⟨g,0,none⟩):=by simpa using hp
  simp[results,h,b,asAddr,run_loadVar_row w g t ty cs fr d a hu hd hi]
end
theorem yN {w:World} {base n m c size:Nat} {e:TypeId} {A:Option Addr} {xs:List Value} (h:w.ownsRow base e size (.slice A m c) n xs):m<=c:=by
  rcases h.2 with⟨he,_⟩|⟨g,cap,cur,he,_,_,i,_⟩
  · injection he with _ a b
    omega
  · injection he with _ a b
    omega
def gN {α:Type} (R:α->List Value->Prop) (e:TypeId) (size:Nat) (w:World) (base:Nat) (v:Value) (ps:List α):Prop:=
  ∃inner,w.ownsRow base e size v ps.length inner/\aT R size ps inner
section
variable {α:Type} {R R':α->List Value->Prop} {e:TypeId} {size:Nat} {w w1:World} {base:Nat} {v:Value} {ps:List α}
theorem gN.none_ (R:α->List Value->Prop) (e:TypeId) (size:Nat) (w:World) (base:Nat):gN R e size w base (.slice none 0 0) []:=⟨[],sD _ _ _ _,aT.none _ _⟩
theorem gN.fz (h:gN R e size w base v ps) (a:∀p c,R p c->R' p c):gN R' e size w base v ps:=by
  obtain⟨inner,b,g⟩:=h;exact⟨inner,b,g.fz a⟩
theorem gN.reads (h:gN R e size w base v ps):∃A c,v= .slice A ps.length c/\ps.length<=c/\jm R size w A ps.length ps:=by
  obtain⟨inner,a,b⟩:=h;obtain⟨A,c,rfl,g⟩:=yF a b rfl;exact⟨A,c,rfl,yN a,g⟩
theorem gN.yO (h:gN R e size w base v ps) {g:Nat} {t:TypeId} {cells:Array Value} (hb:w.heap[g]? =some (.cells cells t (0,0))) (a:e≠t):some g≠v.ownBlock:=by
  obtain⟨inner,b,i⟩:=h;exact sH b hb a
end
structure Kd (α:Type) where
  sz:Nat
  E:List Nat
  K:World->α->List Value->Prop
  M:World->Nat->(Nat->Prop)->α->List Value->Prop
  dX:∀{w x cs},K w x cs->cs.length=sz
  eo:∀{w x cs},K w x cs->∀u∈cs,u.oneCell'=true
  gO:∀{w w1:World} {x cs},Below w.heap.size w w1->K w x cs->K w1 x cs
  dc:∀{w base ok x cs},M w base ok x cs->K w x cs
  cH:∀{w base ok ok' x cs},(∀k,ok k->ok' k)->M w base ok x cs->M w base ok' x cs
  eE:∀{w:World} {base ok x cs},M w base ok x cs->M w base (fun k=>ok k/\base<=k/\k<w.heap.size/\∃q,q∈E/\∃cells,w.heap[k]? =some (.cells cells q (0,0))) x cs
  eJ:∀{w w1:World} {base ok x cs},(∀k,ok k->w1.heap[k]? =w.heap[k]?)->M w base ok x cs->M w1 base ok x cs
  gP:∀{w base base' ok x cs},base'<=base->M w base ok x cs->M w base' ok x cs
theorem yP {w w1:World} {base:Nat} {e:TypeId} {size n:Nat} {v:Value} {xs:List Value} (h:w.ownsRow base e size v n xs) (hm:∀k,v.ownBlock=some k->w1.heap[k]? =w.heap[k]?):w1.ownsRow base e size v n xs:=by
  obtain⟨h1,a⟩:=h;refine⟨h1,?_⟩;rcases a with a|⟨g,cap,cur,rfl,b,i,r⟩
  · exact .inl a
  · exact .inr ⟨g,cap,cur,rfl,b,(hm g (by simp[Value.ownBlock])).trans i,r⟩
theorem jJ {w:World} {base:Nat} {e:TypeId} {size n:Nat} {v:Value} {xs:List Value} (h:w.ownsRow base e size v n xs) (k:Nat) (hk:v.ownBlock=some k):∃cells,w.heap[k]? =some (.cells cells e (0,0)):=by
  rcases h.2 with⟨rfl,_⟩|⟨g,cap,cur,rfl,b,a,r⟩
  · simp[Value.ownBlock] at hk
  · have:g=k:=by simpa [Value.ownBlock] using hk
    subst this;exact⟨cur,a⟩
namespace Kd
def C {α:Type} (d:Kd α) (w:World) (A:Option Addr) (n:Nat) (xs:List α):Prop:=jm (d.K w) d.sz w A n xs
def R {α:Type} (d:Kd α) (e:Nat) (w:World) (base:Nat) (ok:Nat->Prop) (v:Value) (xs:List α):Prop:=
  (∀k,v.ownBlock=some k->ok k)/\gN (d.M w base (fun k=>ok k/\some k≠v.ownBlock)) e d.sz w base v xs
section
variable {α:Type} {d:Kd α} {e:Nat} {w w1:World} {base:Nat} {ok ok':Nat->Prop} {v:Value} {xs:List α}
theorem aw {A:Option Addr} {n:Nat} (h:d.C w A n xs) (hb:Below w.heap.size w w1):d.C w1 A n xs:=jm.fz h hb (fun _ _ hp=>d.gO hb hp)
theorem dh (d:Kd α) (e:Nat) (w:World) (base:Nat) (ok:Nat->Prop):d.R e w base ok (.slice none 0 0) []:=⟨fun k hk=>by simp[Value.ownBlock] at hk,gN.none_ _ _ _ _ _⟩
theorem bb (h:d.R e w base ok v xs) (a:∀k,ok k->ok' k):d.R e w base ok' v xs:=⟨fun k hk=>a k (h.1 k hk),h.2.fz (fun _ _ hp=>d.cH (fun k hk=>⟨a k hk.1,hk.2⟩) hp)⟩
theorem eV (h:d.R e w base ok v xs):d.R e w base (fun k=>ok k/\base<=k/\k<w.heap.size/\∃q,q∈e::d.E/\∃cells,w.heap[k]? =some (.cells cells q (0,0))) v xs:=by
  obtain⟨g,inner,a,i⟩:=h;refine⟨fun k hk=>?_,inner,a,i.fz (fun _ _ hp=>d.cH (fun k hk=>?_) (d.eE hp))⟩
  · obtain⟨cells,b⟩:=jJ a k hk
    exact⟨g k hk,ke a k hk,sE a k hk,e,List.mem_cons_self,cells,b⟩
  · obtain⟨⟨h1,j⟩,l,m,q,n,b⟩:=hk
    exact⟨⟨h1,l,m,q,List.mem_cons_of_mem _ n,b⟩,j⟩
theorem fB (h:d.R e w base ok v xs) (hm:∀k,ok k->w1.heap[k]? =w.heap[k]?):d.R e w1 base ok v xs:=by
  obtain⟨a,inner,b,g⟩:=h;exact⟨a,inner,yP b (fun k hk=>hm k (a k hk)),g.fz (fun _ _ hp=>d.eJ (fun k hk=>hm k hk.1) hp)⟩
theorem bj {base':Nat} (h:d.R e w base ok v xs) (hb:base'<=base):d.R e w base' ok v xs:=by
  obtain⟨a,inner,b,g⟩:=h;exact⟨a,inner,yI b hb,g.fz (fun _ _ hp=>d.gP hb hp)⟩
theorem lQ (h:d.R e w base ok v xs) (hm:∀k,ok k->k<w.heap.size->w1.heap[k]? =w.heap[k]?):d.R e w1 base ok v xs:=
  bb (fB (eV h) (fun k hk=>hm k hk.1 hk.2.2.1)) (fun _ hk=>hk.1)
theorem pQ {x:α} {cs:List Value} (h:d.M w base ok x cs) (hm:∀k,ok k->k<w.heap.size->w1.heap[k]? =w.heap[k]?):d.M w1 base ok x cs:=
  d.cH (fun _ hk=>hk.1) (d.eJ (fun k hk=>hm k hk.1 hk.2.2.1) (d.eE h))
theorem cT (h:d.R e w base ok v xs) (hb:Below w.heap.size w w1):d.R e w1 base ok v xs:=lQ h (fun k _ hk=>hb.block k hk)
theorem sK {x:α} {cs:List Value} (h:d.M w base ok x cs) (hb:Below w.heap.size w w1):d.M w1 base ok x cs:=pQ h (fun k _ hk=>hb.block k hk)
theorem lR (h:d.R e w base ok v xs) {row:Option Nat} (a:w.grownBy w1 row) (b:∀k,ok k->some k≠row):d.R e w1 base ok v xs:=lQ h (fun k g hk=>a.block k hk (b k g))
theorem dr (h:d.R e w base ok v xs) {p:Addr} (a:∀k,ok k->k≠p.block) (u:Value):d.R e (w.setCell p u) base ok v xs:=lQ h (fun k b _=>Below.heap_setCell w p u k (a k b))
theorem ij (h:d.R e w base ok v xs) {g t:Nat} {cells:Array Value} (hb:w.heap[g]? =some (.cells cells t (0,0))) (a:∀q,q∈e::d.E->q≠t):d.R e w base (fun k=>ok k/\k≠g) v xs:=
  bb (eV h) (fun k hk=>⟨hk.1,by
    obtain⟨_,_,_,q,b,j,i⟩:=hk;rintro rfl;rw[i] at hb;injection hb with hb
    injection hb with _ hb
    exact a q b hb⟩)
theorem fg (h:d.R e w base ok v xs) {g t:Nat} {cells:Array Value} (hb:w.heap[g]? =some (.cells cells t (0,0))) (a:∀q,q∈e::d.E->q≠t) (j:Nat) (u:Value):d.R e (w.setCell ⟨g,j,none⟩ u) base ok v xs:=
  bb (dr (p:=⟨g,j,none⟩) (ij h hb a) (fun _ hk=>hk.2) u) (fun _ hk=>hk.1)
theorem nW (h:d.R e w base ok v xs):∃A c,v= .slice A xs.length c/\xs.length<=c/\d.C w A xs.length xs:=by
  obtain⟨A,c,he,a,b⟩:=gN.reads h.2;exact⟨A,c,he,a,b.fz (Below.refl _ _) (fun _ _ hp=>d.dc hp)⟩
theorem bm (h:d.R e w base ok v xs):∃A c,v= .slice A xs.length c:=by
  obtain⟨A,c,he,_⟩:=nW h;exact⟨A,c,he⟩
theorem jK (h:d.R e w base ok v xs):∃inner,w.ownsRow base e d.sz v xs.length inner:=by
  obtain⟨_,inner,a,_⟩:=h;exact⟨inner,a⟩
theorem dj (h:d.R e w base ok v xs) {g t:Nat} {cells:Array Value} (hb:w.heap[g]? =some (.cells cells t (0,0))) (a:e≠t):some g≠v.ownBlock:=gN.yO h.2 hb a
end
def scalar {α:Type} (enc:α->Value) (h1:∀x,(enc x).oneCell'=true):Kd α where
  sz:=1
  E:=[]
  K:=fun _ x cs=>cs=[enc x]
  M:=fun _ _ _ x cs=>cs=[enc x]
  dX:=fun h=>by rw[h];rfl
  eo:=fun h u hu=>by
    rw[h] at hu;rw[List.mem_singleton.1 hu];exact h1 _
  gO:=fun _ h=>h
  dc:=fun h=>h
  cH:=fun _ h=>h
  eE:=fun h=>h
  eJ:=fun _ h=>h
  gP:=fun _ h=>h
def int (k:IntKind):Kd Int:=scalar (Value.int k) (fun _=>rfl)
def bool:Kd Bool:=scalar Value.bool (fun _=>rfl)
def slice {α:Type} (e:Nat) (d:Kd α):Kd (List α) where
  sz:=1
  E:=e::d.E
  K:=fun w xs cs=>∃A c,cs=[.slice A xs.length c]/\xs.length<=c/\d.C w A xs.length xs
  M:=fun w base ok xs cs=>∃v,cs=[v]/\d.R e w base ok v xs
  dX:=by
    rintro w x cs ⟨A,c,rfl,_⟩;rfl
  eo:=by
    rintro w x cs ⟨A,c,rfl,_⟩ u hu;rw[List.mem_singleton.1 hu];rfl
  gO:=by
    rintro w w1 x cs hb ⟨A,c,rfl,a,b⟩;exact⟨A,c,rfl,a,aw b hb⟩
  dc:=by
    rintro w base ok x cs ⟨v,rfl,h⟩;obtain⟨A,c,rfl,a,b⟩:=nW h;exact⟨A,c,rfl,a,b⟩
  cH:=by
    rintro w base ok ok' x cs g ⟨v,rfl,h⟩;exact⟨v,rfl,bb h g⟩
  eE:=by
    rintro w base ok x cs ⟨v,rfl,h⟩;exact⟨v,rfl,eV h⟩
  eJ:=by
    rintro w w1 base ok x cs hm ⟨v,rfl,h⟩;exact⟨v,rfl,fB h hm⟩
  gP:=by
    rintro w base base' ok x cs hb ⟨v,rfl,h⟩;exact⟨v,rfl,bj h hb⟩
def pair {α β:Type} (a:Kd α) (b:Kd β):Kd (α×β) where
  sz:=a.sz+b.sz
  E:=a.E++b.E
  K:=fun w x cs=>∃c0 c1,cs=c0++c1/\a.K w x.1 c0/\b.K w x.2 c1
  M:=fun w base ok x cs=>∃c0 c1,cs=c0++c1/\a.M w base ok x.1 c0/\b.M w base ok x.2 c1
  dX:=by
    rintro w x cs ⟨c0,c1,rfl,e,h1⟩;rw[List.length_append,a.dX e,b.dX h1]
  eo:=by
    rintro w x cs ⟨c0,c1,rfl,e,h1⟩ u hu;rcases List.mem_append.1 hu with hu|hu
    · exact a.eo e u hu
    · exact b.eo h1 u hu
  gO:=by
    rintro w w1 x cs hb ⟨c0,c1,rfl,e,h1⟩;exact⟨c0,c1,rfl,a.gO hb e,b.gO hb h1⟩
  dc:=by
    rintro w base ok x cs ⟨c0,c1,rfl,e,h1⟩;exact⟨c0,c1,rfl,a.dc e,b.dc h1⟩
  cH:=by
    rintro w base ok ok' x cs m ⟨c0,c1,rfl,e,h1⟩;exact⟨c0,c1,rfl,a.cH m e,b.cH m h1⟩
  eE:=by
    rintro w base ok x cs ⟨c0,c1,rfl,e,h1⟩;refine⟨c0,c1,rfl,a.cH ?_ (a.eE e),b.cH ?_ (b.eE h1)⟩
    · rintro k ⟨g,h,i,q,j,l⟩
      exact⟨g,h,i,q,List.mem_append_left _ j,l⟩
    · rintro k ⟨g,h,i,q,j,l⟩
      exact⟨g,h,i,q,List.mem_append_right _ j,l⟩
  eJ:=by
    rintro w w1 base ok x cs hm ⟨c0,c1,rfl,e,h1⟩;exact⟨c0,c1,rfl,a.eJ hm e,b.eJ hm h1⟩
  gP:=by
    rintro w base base' ok x cs hb ⟨c0,c1,rfl,e,h1⟩;exact⟨c0,c1,rfl,a.gP hb e,b.gP hb h1⟩
def yQ {α β:Type} (d:Kd α) (f:β->α):Kd β where
  sz:=d.sz
  E:=d.E
  K:=fun w x cs=>d.K w (f x) cs
  M:=fun w base ok x cs=>d.M w base ok (f x) cs
  dX:=d.dX
  eo:=d.eo
  gO:=d.gO
  dc:=d.dc
  cH:=d.cH
  eE:=d.eE
  eJ:=d.eJ
  gP:=d.gP
theorem pR {α:Type} {d:Kd α} {w:World} {A:Option Addr} {n:Nat} {xs:List α} (h:d.C w A n xs) (z:α) (i:Int) (a:0<=i) (h1:i<n):
    ∃ad c,A=some ad/\c.length=d.sz/\d.K w (xs.getD i.toNat z) c/\∀j u,c[j]? =some u->w.cell? (ad.add (i.toNat*d.sz+j))=some u:=jm.yE h z i a h1
theorem pS {α:Type} {d:Kd α} {e base:Nat} {ok okp:Nat->Prop} {W w1:World} {v v1:Value} {xs:List α} {p:α} {inner cs:List Value} (i:∀k,v.ownBlock=some k->ok k) (j:aT (d.M W base (fun k=>ok k/\some k≠v.ownBlock)) d.sz xs inner) (hp:d.M W base okp p cs) (l:∀k,okp k->ok k/\some k≠v.ownBlock) (m:∀k,W.heap.size<=k->ok k)
    (n:w1.ownsRow base e d.sz v1 (xs.length+1) (inner++cs)) (r:W.grownBy w1 v.ownBlock) (a:v1.ownBlock=v.ownBlock\/∃b,v1.ownBlock=some b/\W.heap.size<=b):d.R e w1 base ok v1 (xs++[p]):=by
  have s:∀k,some k≠v.ownBlock->k<W.heap.size->some k≠v1.ownBlock:=by
    intro k hk u;rcases a with a|⟨b,hb,hle⟩
    · rw[a];exact hk
    · rw[hb]
      intro he;injection he with he
      omega
  have step:∀{q:α} {c:List Value} {o:Nat->Prop},d.M W base o q c->(∀k,o k->ok k/\some k≠v.ownBlock)->d.M w1 base (fun k=>ok k/\some k≠v1.ownBlock) q c:=by
    intro q c o g h;have h1:=d.eJ (w1:=w1) (fun k hk=>r.block k hk.2.2.1 (h k hk.1).2) (d.eE g);exact d.cH (fun k hk=>⟨(h k hk.1).1,s k (h k hk.1).2 hk.2.2.1⟩) h1
  refine⟨fun k hk=>?_,inner++cs,by rw[List.length_append,List.length_singleton];exact n,?_⟩
  · rcases a with a|⟨b,hb,hle⟩
    · exact i k (a▸hk)
    · rw[hb] at hk
      injection hk with hk
      exact m k (by omega)
  · exact(j.fz (fun _ _ g=>step g (fun _ hk=>hk))).snoc (step hp l) (d.dX (d.dc hp))
section
variable {P:Program} {ops:Array Oper} {rest:List Oper} {o:Oper} {a:Act} {Q:Exit->Act->World->Prop} {α:Type}
theorem mJ (d:Kd α) {w0 W:World} (base:Nat) (l:o.guard=none) (s x:Operand) (t e:TypeId) (z:Value) (bytes:Nat)
    (m:o.op= .call {callee:=.builtin .append,args:=#[s,x],argTypes:=#[t,t]})
    (n:P.underlying t=some (.slice e)) (q:(P.info? e).map (fun i=>(i.zero,i.size,i.bytes))=some (some z,d.sz,bytes)) (r:z.cells.size=d.sz) (u:0<d.sz) (w:0<bytes)
    (v:Value) (xs:List α) (p:α) (cs:List Value) (ok okp:Nat->Prop) (y:a.eval s=v) (B:a.eval x= .slice (some ⟨W.heap.size,0,none⟩) 1 1) (hp:d.M W base okp p cs) (C:∀k,okp k->ok k/\some k≠v.ownBlock) (D:∀k,W.heap.size<=k->ok k)
    (E:d.R e W base ok v xs) (F:Below base w0 W) (G:base<=W.heap.size) (H:(xs.length+1)*bytes<=140737488355328)
    (h:∀v1 w1,d.R e w1 base ok v1 (xs++[p])->Below base w0 w1->W.grownBy w1 v.ownBlock->(v1.ownBlock=v.ownBlock\/∃b,v1.ownBlock=some b/\W.heap.size<=b)->wpList P ops Q rest (a.put o.dst v1) w1):
    wpList P ops Q (o::rest) a (W.alloc (.cells cs.toArray e)):=by
  obtain⟨I,inner,J,K⟩:=E;refine yG base l s x t e z d.sz bytes m n q r u w v xs.length inner cs y B (d.dX (d.dc hp)) (d.eo (d.dc hp)) J F G H ?_;intro v1 w1 L N g j;exact h v1 w1 (pS I K hp C D L g j) N g j
end
section
variable {P:Program} {ops:Array Oper} {o:Oper} {a:Act} {Q:Exit->Act->World->Prop} {Kc:Act->World->Prop} {α:Type}
theorem pT (d:Kd α) {w0 W:World} (base:Nat) (hw:Region.wanted o (yielded ops a.tmps)=true) (s x:Operand) (t e:TypeId) (z:Value) (bytes:Nat)
    (l:o.op= .call {callee:=.builtin .append,args:=#[s,x],argTypes:=#[t,t]})
    (m:P.underlying t=some (.slice e)) (n:(P.info? e).map (fun i=>(i.zero,i.size,i.bytes))=some (some z,d.sz,bytes)) (q:z.cells.size=d.sz) (r:0<d.sz) (u:0<bytes)
    (v:Value) (xs:List α) (p:α) (cs:List Value) (ok okp:Nat->Prop) (w:a.eval s=v) (y:a.eval x= .slice (some ⟨W.heap.size,0,none⟩) 1 1) (hp:d.M W base okp p cs) (B:∀k,okp k->ok k/\some k≠v.ownBlock) (C:∀k,W.heap.size<=k->ok k)
    (D:d.R e W base ok v xs) (E:Below base w0 W) (F:base<=W.heap.size) (G:(xs.length+1)*bytes<=140737488355328)
    (h:∀v1 w1,d.R e w1 base ok v1 (xs++[p])->Below base w0 w1->W.grownBy w1 v.ownBlock->(v1.ownBlock=v.ownBlock\/∃b,v1.ownBlock=some b/\W.heap.size<=b)->Kc (a.put o.dst v1) w1):
    if Region.wanted o (yielded ops a.tmps)=true then Oper.wp P o a (W.alloc (.cells cs.toArray e)) Kc Q else Kc (a.put o.dst undef) (W.alloc (.cells cs.toArray e)):=by
  obtain⟨H,inner,I,J⟩:=D;refine yH base hw s x t e z d.sz bytes l m n q r u v xs.length inner cs w y (d.dX (d.dc hp)) (d.eo (d.dc hp)) I E F G ?_;intro v1 w1 K L g j;exact h v1 w1 (pS H J hp B C K g j) L g j
end
theorem yR {α:Type} {enc:α->Value} (xs:List α):aT (fun (x:α) (cs:List Value)=>cs=[enc x]) 1 xs (bV enc xs):=by
  refine⟨by simp[bV],fun j p a=>?_⟩;obtain⟨b,hp⟩:=List.getElem?_eq_some_iff.1 a;have e:j<(bV enc xs).length:=by rw[sI];exact b
  rw[Nat.mul_one,List.drop_eq_getElem_cons e];simp[bV,hp]
theorem mK {α:Type} {enc:α->Value} {h1:∀x,(enc x).oneCell'=true} {e:Nat} {w:World} {base:Nat} {ok:Nat->Prop} {v:Value} {xs:List α} (a:w.ownsRow base e 1 v xs.length (bV enc xs)) (b:∀k,v.ownBlock=some k->ok k):(scalar enc h1).R e w base ok v xs:=⟨b,bV enc xs,a,yR xs⟩
theorem nX {α:Type} {enc:α->Value} {h1:∀x,(enc x).oneCell'=true} {e:Nat} {w:World} {base:Nat} {ok:Nat->Prop} {v:Value} {xs:List α} (h:(scalar enc h1).R e w base ok v xs):w.ownsRow base e 1 v xs.length (bV enc xs):=by
  obtain⟨_,inner,l,a⟩:=h;have:inner=bV enc xs:=by
    apply List.ext_getElem?
    intro j;rcases Nat.lt_or_ge j xs.length with b|b
    · have m:=a.2 j _ (List.getElem?_eq_getElem b)
      have i:j<inner.length:=by have:=a.1;simp[scalar] at this;omega
      have g:(inner.drop (j*1)).take 1=[enc xs[j]]:=m;rw[Nat.mul_one,List.drop_eq_getElem_cons i] at g;have n:inner[j]=enc xs[j]:=by
        have k:=congrArg List.head? g;rw[List.take_succ_cons] at k;exact Option.some.inj k
      rw[List.getElem?_eq_getElem i,n];simp[bV,List.getElem?_eq_getElem b]
    · have g:inner.length=xs.length:=by have:=a.1;simp[scalar] at this;omega
      rw[List.getElem?_eq_none (by omega),List.getElem?_eq_none (by rw[sI];omega)]
  rw[<-this];exact l
theorem pU {α:Type} {enc:α->Value} {d:α} {h1:∀x,(enc x).oneCell'=true} {w:World} {A:Option Addr} {n:Nat} {xs:List α} (h:(scalar enc h1).C w A n xs):lP enc d w A n xs:=by
  refine⟨h.1,h.2.1,fun hn=>?_⟩;obtain⟨ad,e,b⟩:=h.2.2 hn;refine⟨ad,e,fun j l=>?_⟩;have a:j<xs.length:=by have:=h.1;omega
  obtain⟨c,_,g,i⟩:=b j _ (List.getElem?_eq_getElem a);have k:c=[enc xs[j]]:=g;subst k;have:=i 0 _ rfl;simpa [scalar,List.getD_eq_getElem?_getD,List.getElem?_eq_getElem a] using this
end Kd
namespace Kd
theorem sL {α:Type} {d:Kd α} {e base:Nat} {ok:Nat->Prop} {W w1:World} {u v v1:Value} {xs:List α} (h:d.R e W base (fun k=>ok k/\some k≠v.ownBlock) u xs) (g:W.grownBy w1 v.ownBlock) (a:v1.ownBlock=v.ownBlock\/∃b,v1.ownBlock=some b/\W.heap.size<=b):d.R e w1 base (fun k=>ok k/\some k≠v1.ownBlock) u xs:=by
  refine bb (fB (eV h) (fun k hk=>g.block k hk.2.2.1 hk.1.2)) (fun k hk=>⟨hk.1.1,?_⟩);rcases a with a|⟨b,hb,hle⟩
  · rw[a];exact hk.1.2
  · rw[hb]
    intro he;injection he with he
    have:=hk.2.2.1;omega
theorem mL {α:Type} {d:Kd α} {e base:Nat} {ok:Nat->Prop} {w:World} {v:Value} {xs:List α} (h:d.R e w base ok v xs):(slice e d).M w base ok xs [v]:=⟨v,rfl,h⟩
end Kd
namespace Kd
section
variable {α β:Type} {d:Kd α} {d':Kd β} {e e':Nat} {w w1 W:World} {base b b':Nat} {ok ok' okv oku:Nat->Prop} {v u:Value} {xs:List α} {ys:List β}
theorem aR (h:d.R e w base ok v xs) (o:Obj):d.R e (w.alloc o) base ok v xs:=cT h (ao (Below.refl _ _) o)
theorem bq (h:d.R e w base ok v xs):d.R e w.drew base ok v xs:=cT h (ig (Below.refl _ _))
theorem bD (h:d.R e w base ok v xs) (m:Nat):d.R e (w.drewN m) base ok v xs:=cT h (bY (Below.refl _ _) m)
theorem bp {A:Option Addr} {n:Nat} (h:d.C w A n xs) (o:Obj):d.C (w.alloc o) A n xs:=aw h (ao (Below.refl _ _) o)
theorem fC {A:Option Addr} {n:Nat} (h:d.C w A n xs):d.C w.drew A n xs:=aw h (ig (Below.refl _ _))
theorem fV {A:Option Addr} {n:Nat} (h:d.C w A n xs) (m:Nat):d.C (w.drewN m) A n xs:=aw h (bY (Below.refl _ _) m)
theorem nY (d:Kd α) (w:World):d.C w none ([]:List α).length []:=⟨rfl,by simp,fun h=>absurd h (Nat.lt_irrefl 0)⟩
theorem mM {A:Option Addr} {n:Nat} (h:d.C w A n xs):n<=9223372036854775807:=h.2.1
theorem aQ {A:Option Addr} {n c:Nat} (h:d.R e w base ok (.slice A n c) xs):n=xs.length/\n<=c/\d.C w A xs.length xs:=by
  obtain⟨A',g,he,i,a⟩:=nW h;injection he with h1 b j
  subst h1;exact⟨b,by omega,a⟩
theorem a_ (h:d.R e w base ok v xs):∀k,v.ownBlock=some k->k<w.heap.size:=by
  obtain⟨inner,a⟩:=jK h;exact sE a
theorem dY (h:d.R e w base ok v xs):∀k,v.ownBlock=some k->base<=k:=by
  obtain⟨inner,a⟩:=jK h;exact ke a
theorem yS (h:d.R e w base ok v xs) {g:Nat} (a:∀k,ok k->k≠g):some g≠v.ownBlock:=fun e=>a g (h.1 g e.symm) rfl
theorem fK (h:d.R e w base ok v xs) (hp:0<xs.length):∃g cap,v= .slice (some ⟨g,0,none⟩) xs.length cap/\base<=g/\g<w.heap.size/\∃cells,w.heap[g]? =some (.cells cells e (0,0)):=by
  obtain⟨inner,a⟩:=jK h;obtain⟨g,cap,he,hb,b⟩:=a.form hp;obtain⟨cells,i⟩:=jJ a g (by rw[he];simp[Value.ownBlock]);exact⟨g,cap,he,hb,b,cells,i⟩
end
section
variable {w W:World} {A:Option Addr} {n:Nat}
theorem bU {k:IntKind} {xs:List Int} (h:(Kd.int k).C w A n xs) (i:Int) (a:0<=i) (h1:i<n):∃ad,A=some ad/\w.cell? (ad.add i.toNat)=some (.int k (rd xs i)):=
  lP.at_ (pU (enc:=Value.int k) (d:=(0:Int)) (h1:=fun _=>rfl) h) i a h1
theorem kf {xs:List Bool} (h:Kd.bool.C w A n xs) (i:Int) (a:0<=i) (h1:i<n):∃ad,A=some ad/\w.cell? (ad.add i.toNat)=some (.bool (bW false xs i)):=
  lP.at_ (pU (enc:=Value.bool) (d:=false) (h1:=fun _=>rfl) h) i a h1
variable {α:Type} {enc:α->Value} {h1:∀x,(enc x).oneCell'=true} {e base g cap:Nat} {ok:Nat->Prop} {xs:List α}
theorem yT (d:α) (h:(scalar enc h1).R e W base ok (.slice (some ⟨g,0,none⟩) xs.length cap) xs) (i:Int) (a:0<=i) (hi:i<xs.length):W.cell? ⟨g,i.toNat,none⟩=some (enc (bW d xs i))/\W.frozen? ⟨g,i.toNat,none⟩=false:=yJ (nX h) i a hi
theorem sM (h:(scalar enc h1).R e W base ok (.slice (some ⟨g,0,none⟩) xs.length cap) xs) (i:Int) (x:α):(scalar enc h1).R e (W.setCell ⟨g,i.toNat,none⟩ (enc x)) base ok (.slice (some ⟨g,0,none⟩) xs.length cap) (xs.set i.toNat x)/\W.grownBy (W.setCell ⟨g,i.toNat,none⟩ (enc x)) (some g):=by
  obtain⟨a,b⟩:=yK (nX h) i x;exact⟨mK (by rw[List.length_set];exact a) h.1,b⟩
end
section
variable {P:Program} {ops:Array Oper} {rest:List Oper} {o:Oper} {a:Act} {Q:Exit->Act->World->Prop}
theorem sO {W w1:World} {v:Value} (b:o.guard=none) (e:(execOp a.eval o).run P W= .ok (.value v) w1) (h:wpList P ops Q rest (a.put o.dst v) w1):wpList P ops Q (o::rest) a W:=by
  refine wpList_plain b fun K g=>?_
  unfold Oper.wp;rw[e];exact g _ _ h
variable {α:Type}
theorem fh (d:Kd α) {w0 W:World} (base e:Nat) (j:o.guard=none) {N:Tmp} (_hd:o.dst=some N) {xs:List α} {inner:List Value} {ok okp:Nat->Prop}
    (l:(execOp a.eval o).run P W= .ok (.value (.slice (some ⟨W.heap.size,0,none⟩) xs.length xs.length)) (W.alloc (.cells inner.toArray e)))
    (g:aT (d.M W base okp) d.sz xs inner) (m:∀k,okp k->ok k) (n:ok W.heap.size) (q:Below base w0 W) (i:base<=W.heap.size) (hm:xs.length<=9223372036854775807)
    (h:∀v1 w1,d.R e w1 base ok v1 xs->Below base w0 w1->W.grownBy w1 none->(∃b,v1.ownBlock=some b/\W.heap.size<=b)->wpList P ops Q rest (a.put o.dst v1) w1):wpList P ops Q (o::rest) a W:=by
  refine sO j l (h _ _ ⟨fun k hk=>?_,inner,?_,?_⟩ (q.alloc i _) (World.grownBy_alloc W _ none) ⟨W.heap.size,by simp[Value.ownBlock],Nat.le_refl _⟩)
  · have:W.heap.size=k:=by simpa [Value.ownBlock] using hk
    subst this;exact n
  · have r:=World.ownsRow_lit (base:=base) (e:=e) (size:=d.sz) W inner.toArray xs.length i (by simpa [maxLen] using hm) (by simpa using g.1)
    simpa using r
  · refine g.fz (fun p c hp=>d.cH (fun k hk=>⟨m k hk.1,fun he=>?_⟩) (sK (d.eE hp) (ao (Below.refl _ _) _)))
    have s:k=W.heap.size:=by simpa [Value.ownBlock] using he
    have:=hk.2.2.1;omega
theorem sP {α:Type} {R:α->List Value->Prop} {z:Value} {size:Nat} {z0:α} (a:z.cells.size=size) (o:0<size) (e:R z0 z.cells.toList) (m:Nat):aT R size (List.replicate m z0) (madeCells z.cells (m*size)).toList:=by
  refine⟨by simp[size_madeCells],fun j p g=>?_⟩;obtain⟨h,hp⟩:=List.getElem?_eq_some_iff.1 g;have k:j<m:=by simpa using h
  have l:z0=p:=by simpa using hp
  subst l;have hle:j*size+size<=m*size:=by rw[<-Nat.succ_mul];exact Nat.mul_le_mul_right _ k
  have:((madeCells z.cells (m*size)).toList.drop (j*size)).take size=z.cells.toList:=by
    apply List.ext_getElem
    · simp[size_madeCells,a]
      omega
    · intro i h1 b
      have hi:i<size:=by rw[Array.length_toList,a] at b;exact b
      have n:(j*size+i)%size=i:=by
        rw[Nat.mul_comm,Nat.mul_add_mod];exact Nat.mod_eq_of_lt hi
      simp[madeCells,a,n];rw[getElem!_pos z.cells i (by omega)]
  rw[this];exact e
theorem kg (d:Kd α) {w0 W:World} (base e:Nat) (p:o.guard=none) {N:Tmp} (hd:o.dst=some N) (t:TypeId) (x y:Operand) (q:o.op= .makeSlice t x y) (n:Int) (r:a.eval x= .int .i64 n) (s:a.eval y= .int .i64 n)
    (u:P.underlying t=some (.slice e)) (z:Value) (bytes:Nat) (v:(P.info? e).map (fun i=>(i.zero,i.size,i.bytes))=some (some z,d.sz,bytes)) (w:z.cells.size=d.sz) (B:0<d.sz) (C:0<bytes)
    (z0:α) {ok okp:Nat->Prop} (hzero:d.M W base okp z0 z.cells.toList) (D:∀k,okp k->ok k) (E:ok W.heap.size) (F:0<=n) (j:n.toNat*bytes<=281474976710656) (G:Below base w0 W) (H:base<=W.heap.size)
    (h:∀v1 w1,d.R e w1 base ok v1 (List.replicate n.toNat z0)->Below base w0 w1->W.grownBy w1 none->(∃b,v1.ownBlock=some b/\W.heap.size<=b)->wpList P ops Q rest (a.put o.dst v1) w1):wpList P ops Q (o::rest) a W:=by
  obtain⟨m,rfl⟩:=Int.eq_ofNat_of_zero_le F;simp only[Int.toNat_natCast] at j h;obtain⟨i0,hi,l⟩:=Option.map_eq_some_iff.1 v;simp only[Prod.mk.injEq] at l;obtain⟨I,J,K⟩:=l;have hm:m<=281474976710656:=Nat.le_trans (Nat.le_mul_of_pos_right _ C) j;have g:=run_make (P:=P) W t e i0 z u hi I .i64 .i64 (m:Int) (m:Int) (by omega) (by omega)
    (by
      have L:((i0.bytes*m:Nat):Int)<=281474976710656:=by rw[K,Nat.mul_comm];omega
      rwa [Int.natCast_mul] at L) (by omega)
  simp only[Int.toNat_natCast] at g;rw[J] at g;refine fh d base e p hd (xs:=List.replicate m z0) (inner:=(madeCells z.cells (m*d.sz)).toList) (okp:=okp) (ok:=ok) ?_ (sP w B hzero m) D E G H (by simp;omega) h;simp[execOp,q,r,s,g]
end
end Kd
theorem yU {w:World} {base n m c size:Nat} {e:TypeId} {A:Option Addr} {xs:List Value} (h:w.ownsRow base e size (.slice A n c) n xs) (hm:m<=n):w.ownsRow base e size (.slice A m c) m (xs.take (m*size)):=by
  obtain⟨h1,i⟩:=h;refine⟨by rw[List.length_take,h1];exact Nat.min_eq_left (Nat.mul_le_mul_right _ hm),?_⟩;rcases i with⟨he,p⟩|⟨g,cap,cur,he,hb,j,q,k,l,o⟩
  · injection he with a _ b
    subst a;subst b;exact .inl ⟨by rw[show m=0 by omega],by omega⟩
  · injection he with a _ b
    subst a;subst b;refine .inr ⟨g,c,cur,rfl,hb,j,by omega,k,l,?_⟩;rw[<-o,List.take_take,Nat.min_eq_left (Nat.mul_le_mul_right _ hm)]
def fi (w:World) (base:Nat) (e:TypeId) (size:Nat) (v:Value) (n:Nat) (xs:List Value):Prop:=
  xs.length=n*size/\
  ((n=0/\∃A,v= .slice A 0 0/\∀a,A=some a->base<=a.block/\∃cur,w.heap[a.block]? =some (.cells cur e (0,0)))\/
   ∃g off cap cur,v= .slice (some ⟨g,off*size,none⟩) n cap/\base<=g/\w.heap[g]? =some (.cells cur e (0,0))/\n<=cap/\off+cap<=maxLen/\cur.size=(off+cap)*size/\(cur.toList.drop (off*size)).take (n*size)=xs)
section
variable {w w1:World} {base n size:Nat} {e:TypeId} {v:Value} {xs:List Value}
theorem pV (h:w.ownsRow base e size v n xs):fi w base e size v n xs:=by
  obtain⟨h1,b⟩:=h;refine⟨h1,?_⟩;rcases b with⟨rfl,i⟩|⟨g,cap,cur,rfl,hb,j,k,l,m,o⟩
  · exact .inl ⟨i,none,rfl,fun a p=>by cases p⟩
  · exact .inr ⟨g,0,cap,cur,by rw[Nat.zero_mul],hb,j,k,by rw[Nat.zero_add];exact l,by rw[Nat.zero_add];exact m,by rw[Nat.zero_mul,List.drop_zero];exact o⟩
theorem sQ (h:fi w base e size v n xs) (hm:∀k,v.ownBlock=some k->w1.heap[k]? =w.heap[k]?):fi w1 base e size v n xs:=by
  obtain⟨h1,i⟩:=h;refine⟨h1,?_⟩;rcases i with⟨j,A,rfl,l⟩|⟨g,off,cap,cur,rfl,m,o,r⟩
  · refine .inl ⟨j,A,rfl,fun a b=>?_⟩
    obtain⟨hb,cur,p⟩:=l a b;subst b;exact⟨hb,cur,(hm a.block (by simp[Value.ownBlock])).trans p⟩
  · exact .inr ⟨g,off,cap,cur,rfl,m,(hm g (by simp[Value.ownBlock])).trans o,r⟩
theorem kL (h:fi w base e size v n xs) (k:Nat) (hk:v.ownBlock=some k):base<=k/\∃cells,w.heap[k]? =some (.cells cells e (0,0)):=by
  rcases h.2 with⟨_,A,rfl,b⟩|⟨g,off,cap,cur,rfl,i,j,r⟩
  · cases A with
    |none=>simp[Value.ownBlock] at hk
    |some a=>
      have:a.block=k:=by simpa [Value.ownBlock] using hk
      subst this;exact b a rfl
  · have:g=k:=by simpa [Value.ownBlock] using hk
    subst this;exact⟨i,cur,j⟩
theorem sR (h:fi w base e size v n xs) (k:Nat) (hk:v.ownBlock=some k):k<w.heap.size:=by
  obtain⟨_,cells,a⟩:=kL h k hk;exact(Array.getElem?_eq_some_iff.1 a).1
theorem yV {base':Nat} (h:fi w base e size v n xs) (hb:base'<=base):fi w base' e size v n xs:=by
  obtain⟨h1,j⟩:=h;refine⟨h1,?_⟩;rcases j with⟨k,A,rfl,b⟩|⟨g,off,cap,cur,rfl,l,r⟩
  · exact .inl ⟨k,A,rfl,fun a i=>⟨Nat.le_trans hb (b a i).1,(b a i).2⟩⟩
  · exact .inr ⟨g,off,cap,cur,rfl,Nat.le_trans hb l,r⟩
theorem sS (h:fi w base e size v n xs):∃A c,v= .slice A n c/\n<=c:=by
  rcases h.2 with⟨a,A,rfl,_⟩|⟨g,off,cap,cur,rfl,i,j,b,r⟩
  · exact⟨A,0,by rw[a],by omega⟩
  · exact⟨_,cap,rfl,b⟩
theorem yW (h:fi w base e size v n xs):n<=9223372036854775807:=by
  rcases h.2 with⟨a,_⟩|⟨g,off,cap,cur,rfl,b,i,j,hm,r⟩
  · omega
  · simp only[maxLen] at hm
    omega
theorem iN (g o j:Nat):(⟨g,o,none⟩:Addr).add j=⟨g,o+j,none⟩:=by unfold Addr.add;split<;>simp_all
theorem sT {A:Option Addr} {c:Nat} (h:fi w base e size (.slice A n c) n xs) (hn:0<n):∃ad,A=some ad/\∀j u,xs[j]? =some u->w.cell? (ad.add j)=some u:=by
  rcases h.2 with⟨k,_⟩|⟨g,off,cap,cur,he,l,a,m,hm,o,b⟩
  · omega
  · injection he with i _ p
    subst i;refine⟨_,rfl,fun j u hu=>?_⟩;rw[iN,cell_of_row w g _ cur e (0,0) a];rw[<-b,List.getElem?_take] at hu;split at hu
    · rw[List.getElem?_drop] at hu
      rw[<-Array.getElem?_toList];exact hu
    · cases hu
theorem yX {A:Option Addr} {c k:Nat} (h:fi w base e size (.slice A n c) n xs) (hk:k<=n):fi w base e size (.slice (if c=k then A else A.map (·.add (k*size))) (n-k) (c-k)) (n-k) (xs.drop (k*size)):=by
  obtain⟨h1,m⟩:=h;refine⟨by rw[List.length_drop,h1,Nat.sub_mul],?_⟩;rcases m with⟨o,A',he,p⟩|⟨g,off,cap,cur,he,hb,j,u,v,q,r⟩
  · injection he with b hb i
    subst b;subst i;have s:k=0:=by omega
    subst s;exact .inl ⟨by omega,A,by rw[if_pos rfl,o],p⟩
  · injection he with b _ i
    subst b;subst i;by_cases l:c=k
    · rw[if_pos l]
      refine .inl ⟨by omega,some ⟨g,off*size,none⟩,?_,fun a b=>?_⟩
      · rw[show n-k=0 by omega,show c-k=0 by omega]
      · injection b with b
        subst b;exact⟨hb,cur,j⟩
    · rw[if_neg l]
      refine .inr ⟨g,off+k,c-k,cur,?_,hb,j,by omega,by omega,by rw[q];congr 1;omega,?_⟩
      · rw[Option.map_some,iN,Nat.add_mul]
      · rw[<-r,List.drop_take,List.drop_drop,Nat.add_mul,Nat.sub_mul]
theorem pW {g:Nat}:∀(a:List Value) (o:Nat) {w:World} (k:Nat),k≠g->(w.setCells g o a).heap[k]? =w.heap[k]?
  |[],_,_,_,_=>rfl
  |v::r,o,w,k,hk=>by
    rw[World.setCells,pW r (o+1) k hk];exact Below.heap_setCell w ⟨g,o,none⟩ v k hk
theorem pX (g:Nat):∀(a:List Value) (o:Nat) (w:World),(w.setCells g o a).os=w.os/\(w.setCells g o a).tape=w.tape/\(w.setCells g o a).output=w.output/\(w.setCells g o a).heap.size=w.heap.size
  |[],_,_=>⟨rfl,rfl,rfl,rfl⟩
  |v::r,o,w=>by
    obtain⟨h1,b,e,h⟩:=pX g r (o+1) (w.setCell ⟨g,o,none⟩ v);rw[World.setCells];exact⟨h1,b,e,by rw[h];simp[World.setCell]⟩
theorem pY {g:Nat} {e:TypeId}:∀(b:List Value) (o:Nat) (w:World) (cur:Array Value),w.heap[g]? =some (.cells cur e (0,0))->o+b.length<=cur.size->
    ∃a,(w.setCells g o b).heap[g]? =some (.cells a e (0,0))/\a.size=cur.size/\a.toList=cur.toList.take o++b++cur.toList.drop (o+b.length)
  |[],o,w,cur,h,_=>⟨cur,h,rfl,by simp⟩
  |v::r,o,w,cur,h,i=>by
    have j:=bQ h o v;simp only[List.length_cons] at i;obtain⟨a,k,l,m⟩:=pY r (o+1) (w.setCell ⟨g,o,none⟩ v) _ j (by simp;omega);refine⟨a,k,by rw[l];simp,?_⟩;rw[m,Array.toList_setIfInBounds];have n:o<cur.toList.length:=by rw[Array.length_toList];omega
    rw[List.take_set,List.drop_set_of_lt (by omega)];simp only[List.length_cons];rw[show o+1+r.length=o+(r.length+1) by omega];congr 1
    rw[List.take_succ_eq_append_getElem n,List.set_append_right _ _ (by rw[List.length_take];omega)];have p:o<cur.size:=by omega
    simp[Nat.min_eq_left (Nat.le_of_lt p)]
end
section
variable {P:Program}
theorem yY (w:World) (base:Nat) (t ty e:TypeId) (i:TypeInfo) (z:Value) (size bytes:Nat) (y:P.underlying t=some (.slice e)) (hi:P.info? e=some i) (E:i.zero=some z)
    (B:i.size=size) (F:i.bytes=bytes) (G:z.cells.size=size) (aY:0<size)
    (v:Value) (n:Nat) (xs:List Value) (p:fi w base e size v n xs)
    (a:Addr) (m c:Nat) (news:List Value) (q:news.length=m*size) (C:∀j u,news[j]? =some u->w.cell? (a.add j)=some u) (h1:∀u∈news,u.oneCell'=true) (hm:0<m)
    (H:n+m<=maxLen) (I:(n+m)*bytes<=140737488355328) (J:base<=w.heap.size):
    ∃h w',(Builtin.append_ #[t,t] ty #[v,.slice (some a) m c]).run P w= .ok h w'/\fi w' base e size h (n+m) (xs++news)/\w.grownBy w' v.ownBlock/\(h.ownBlock=v.ownBlock\/∃b,h.ownBlock=some b/\w.heap.size<=b):=by
  have K:∀(b:Addr) (cap:Nat),cap<n+m->(∀j u,xs[j]? =some u->w.cell? (b.add j)=some u)->v= .slice (some b) n cap->
      ∃h w',(Builtin.append_ #[t,t] ty #[v,.slice (some a) m c]).run P w= .ok h w'/\fi w' base e size h (n+m) (xs++news)/\w.grownBy w' v.ownBlock/\(h.ownBlock=v.ownBlock\/∃b,h.ownBlock=some b/\w.heap.size<=b):=by
    intro b cap O Q o;obtain⟨h,w',r,x,l⟩:=run_append_arg_grows (P:=P) (w:=w) t ty e i z size bytes y hi E B F G aY b n cap xs p.1 Q a m c news q C O H I;refine⟨h,w',by rw[o];exact r,yV (pV x) J,⟨l.os,l.tape,l.output,l.size,fun k hk _=>l.block k hk (by simp)⟩,?_⟩;obtain⟨R,ag,he,hb,_⟩:=x.form (by omega);exact .inr ⟨R,by rw[he];simp[Value.ownBlock],hb⟩
  rcases p.2 with⟨D,A,o,hA⟩|⟨g,off,cap,cur,o,S,l,am,T,L,M⟩
  · cases A with
    |none=>
      subst D;have x:w.ownsRow base e size v 0 xs:=⟨p.1,.inl ⟨o,rfl⟩⟩;obtain⟨h,w',r,U,l,_,s⟩:=run_append_own_at (P:=P) w base t ty e i z size bytes y hi E B F G aY v 0 xs x a m c news q C h1 H I J;refine⟨h,w',r,pV U,l,?_⟩;rcases s with s|s
      · exact .inl s
      · exact .inr ⟨_,s,Nat.le_refl _⟩
    |some b=>
      have V:xs=[]:=List.eq_nil_of_length_eq_zero (by rw[p.1,D,Nat.zero_mul]);exact K b 0 (by omega) (fun j u hu=>by rw[V] at hu;simp at hu) (by rw[o,D])
  · by_cases N:n+m<=cap
    · have W:off*size+n*size+news.length<=cur.size:=by
        rw[q,L,<-Nat.add_mul,<-Nat.add_mul];exact Nat.mul_le_mul_right _ (by omega)
      subst B;have r:=run_append_room_cells (P:=P) (w:=w) t ty e i y hi g (off*i.size) n cap a m c news q C h1 N
        (fun j hj=>by rw[cell_of_row w g _ cur e (0,0) l];simp;omega) (fun j _=>bt l _)
      obtain⟨X,Y,Z,h5⟩:=pY news (off*i.size+n*i.size) w cur l W;obtain⟨s1,s2,s3,s4⟩:=pX g news (off*i.size+n*i.size) w;refine⟨_,_,by rw[o];exact r,⟨by rw[List.length_append,p.1,q,Nat.add_mul],.inr ⟨g,off,cap,X,rfl,S,Y,N,T,by rw[Z,L],?_⟩⟩,
        ⟨s1,s2,s3,by rw[s4];exact Nat.le_refl _,fun k _ hk=>pW news _ k (fun he=>hk (by rw[o,he];simp[Value.ownBlock]))⟩,.inl (by rw[o];rfl)⟩
      rw[h5,List.append_assoc,List.drop_append_of_le_length (by rw[List.length_take,Array.length_toList];omega),List.drop_take];rw[show off*i.size+n*i.size-off*i.size=n*i.size by omega,M];rw[<-List.append_assoc];exact List.take_left' (by rw[List.length_append,p.1,q,Nat.add_mul])
    · refine K ⟨g,off*size,none⟩ cap (by omega) (fun j u hu=>?_) o
      rw[iN,cell_of_row w g _ cur e (0,0) l];rw[<-M,List.getElem?_take] at hu;split at hu
      · rw[List.getElem?_drop] at hu
        rw[<-Array.getElem?_toList];exact hu
      · cases hu
end
namespace Kd
theorem yZ {α:Type} {R:α->List Value->Prop} {size m:Nat} {ps:List α} {cs:List Value} (h:aT R size ps cs) (hm:m<=ps.length):aT R size (ps.take m) (cs.take (m*size)):=by
  refine⟨by rw[List.length_take,List.length_take,h.1,Nat.min_eq_left hm,Nat.min_eq_left (Nat.mul_le_mul_right _ hm)],fun j p a=>?_⟩;rw[List.getElem?_take] at a;split at a
  · rename_i b
    have:=h.2 j p a;have hle:j*size+size<=m*size:=by rw[<-Nat.succ_mul];exact Nat.mul_le_mul_right _ b
    rw[List.drop_take,List.take_take,Nat.min_eq_left (by omega)];exact this
  · cases a
theorem za {α:Type} {R:α->List Value->Prop} {size m:Nat} {ps:List α} {cs:List Value} (h:aT R size ps cs):aT R size (ps.drop m) (cs.drop (m*size)):=by
  refine⟨by rw[List.length_drop,List.length_drop,h.1,Nat.sub_mul],fun j p a=>?_⟩;rw[List.getElem?_drop] at a;have:=h.2 (m+j) p a;rw[List.drop_drop,<-Nat.add_mul];exact this
theorem zc {α:Type} {d:Kd α} {e m n c:Nat} {w:World} {base:Nat} {ok:Nat->Prop} {A:Option Addr} {xs:List α} (h:d.R e w base ok (.slice A n c) xs) (hm:m<=xs.length):d.R e w base ok (.slice A m c) (xs.take m):=by
  obtain⟨b,inner,a,g⟩:=h;have hn:n=xs.length:=by
    obtain⟨A',i,he⟩:=sF a;injection he
  subst hn;have hb:∀x y:Nat,(Value.slice A x c).ownBlock=(Value.slice A y c).ownBlock:=by
    intro x y;cases A<;>rfl
  refine⟨fun k hk=>b k (by rw[hb _ m];exact hk),inner.take (m*d.sz),?_,?_⟩
  · rw[List.length_take,Nat.min_eq_left hm]
    exact yU a hm
  · rw[hb m xs.length]
    exact yZ g hm
def Q {α:Type} (d:Kd α) (e:Nat) (w:World) (base:Nat) (ok:Nat->Prop) (v:Value) (xs:List α):Prop:=
  (∀k,v.ownBlock=some k->ok k)/\∃inner,fi w base e d.sz v xs.length inner/\aT (d.M w base (fun k=>ok k/\some k≠v.ownBlock)) d.sz xs inner
section
variable {α:Type} {d:Kd α} {e:Nat} {w w1 W:World} {base:Nat} {ok ok':Nat->Prop} {v:Value} {xs:List α}
theorem zd (h:d.R e w base ok v xs):d.Q e w base ok v xs:=by
  obtain⟨a,inner,b,g⟩:=h;exact⟨a,inner,pV b,g⟩
theorem lS (h:d.Q e w base ok v xs) (a:∀k,ok k->ok' k):d.Q e w base ok' v xs:=by
  obtain⟨b,inner,g,i⟩:=h;exact⟨fun k hk=>a k (b k hk),inner,g,i.fz (fun _ _ hp=>d.cH (fun k hk=>⟨a k hk.1,hk.2⟩) hp)⟩
theorem nZ (h:d.Q e w base ok v xs):d.Q e w base (fun k=>ok k/\base<=k/\k<w.heap.size/\∃q,q∈e::d.E/\∃cells,w.heap[k]? =some (.cells cells q (0,0))) v xs:=by
  obtain⟨g,inner,a,i⟩:=h;refine⟨fun k hk=>?_,inner,a,i.fz (fun _ _ hp=>d.cH (fun k hk=>?_) (d.eE hp))⟩
  · obtain⟨hb,cells,b⟩:=kL a k hk
    exact⟨g k hk,hb,sR a k hk,e,List.mem_cons_self,cells,b⟩
  · obtain⟨⟨h1,j⟩,l,m,q,n,b⟩:=hk
    exact⟨⟨h1,l,m,q,List.mem_cons_of_mem _ n,b⟩,j⟩
theorem sU (h:d.Q e w base ok v xs) (hm:∀k,ok k->w1.heap[k]? =w.heap[k]?):d.Q e w1 base ok v xs:=by
  obtain⟨a,inner,b,g⟩:=h;exact⟨a,inner,sQ b (fun k hk=>hm k (a k hk)),g.fz (fun _ _ hp=>d.eJ (fun k hk=>hm k hk.1) hp)⟩
theorem pZ (h:d.Q e w base ok v xs) (hm:∀k,ok k->k<w.heap.size->w1.heap[k]? =w.heap[k]?):d.Q e w1 base ok v xs:=lS (sU (nZ h) (fun k hk=>hm k hk.1 hk.2.2.1)) (fun _ hk=>hk.1)
theorem sV (h:d.Q e w base ok v xs) (hb:Below w.heap.size w w1):d.Q e w1 base ok v xs:=pZ h (fun k _ hk=>hb.block k hk)
theorem ze (h:d.Q e w base ok v xs) (o:Obj):d.Q e (w.alloc o) base ok v xs:=sV h (ao (Below.refl _ _) o)
theorem zf (h:d.Q e w base ok v xs) {row:Option Nat} (a:w.grownBy w1 row) (b:∀k,ok k->some k≠row):d.Q e w1 base ok v xs:=pZ h (fun k g hk=>a.block k hk (b k g))
theorem zg (h:d.Q e w base ok v xs) {p:Addr} (a:∀k,ok k->k≠p.block) (u:Value):d.Q e (w.setCell p u) base ok v xs:=pZ h (fun k b _=>Below.heap_setCell w p u k (a k b))
theorem zl (h:d.Q e w base ok v xs) {g t:Nat} {cells:Array Value} (hb:w.heap[g]? =some (.cells cells t (0,0))) (a:∀q,q∈e::d.E->q≠t):d.Q e w base (fun k=>ok k/\k≠g) v xs:=
  lS (nZ h) (fun k hk=>⟨hk.1,by
    obtain⟨_,_,_,q,b,j,i⟩:=hk;rintro rfl;rw[i] at hb;injection hb with hb
    injection hb with _ hb
    exact a q b hb⟩)
theorem sW (h:d.Q e w base ok v xs) {g t:Nat} {cells:Array Value} (hb:w.heap[g]? =some (.cells cells t (0,0))) (a:∀q,q∈e::d.E->q≠t) (j:Nat) (u:Value):d.Q e (w.setCell ⟨g,j,none⟩ u) base ok v xs:=
  lS (zg (p:=⟨g,j,none⟩) (zl h hb a) (fun _ hk=>hk.2) u) (fun _ hk=>hk.1)
theorem zm (h:d.Q e w base ok v xs):∀k,v.ownBlock=some k->base<=k:=by
  obtain⟨_,inner,a,_⟩:=h;exact fun k hk=>(kL a k hk).1
theorem sX (h:d.Q e w base ok v xs) {g t:Nat} {cells:Array Value} (hb:w.heap[g]? =some (.cells cells t (0,0))) (a:e≠t):some g≠v.ownBlock:=by
  obtain⟨_,inner,b,_⟩:=h;intro he;obtain⟨_,j,i⟩:=kL b g he.symm;rw[i] at hb;injection hb with hb
  injection hb with _ hb
  exact a hb
theorem n9 (h:d.Q e w base ok v xs):∃A c,v= .slice A xs.length c/\xs.length<=c:=by
  obtain⟨_,inner,a,_⟩:=h;exact sS a
theorem sY {A:Option Addr} {n c:Nat} (h:d.Q e w base ok (.slice A n c) xs):n=xs.length/\n<=c/\d.C w A xs.length xs:=by
  obtain⟨_,inner,a,b⟩:=h;obtain⟨A',s,he,k⟩:=sS a;injection he with h1 l m
  subst h1;subst l;subst m;refine⟨rfl,k,rfl,yW a,fun hp=>?_⟩;obtain⟨ad,o,q⟩:=sT a hp;refine⟨ad,o,fun j p g=>⟨(inner.drop (j*d.sz)).take d.sz,?_,d.dc (b.2 j p g),fun i u hu=>?_⟩⟩
  · have r:=(List.getElem?_eq_some_iff.1 g).1
    have h1:j*d.sz+d.sz<=inner.length:=by rw[b.1,<-Nat.succ_mul];exact Nat.mul_le_mul_right _ r
    rw[List.length_take,List.length_drop];omega
  · refine q _ u ?_
    rw[List.getElem?_take] at hu;split at hu
    · rw[List.getElem?_drop] at hu
      exact hu
    · cases hu
theorem zp {A:Option Addr} {k n c:Nat} (h:d.Q e w base ok (.slice A n c) xs) (hk:k<=xs.length):d.Q e w base ok (.slice (if c=k then A else A.map (·.add (k*d.sz))) (n-k) (c-k)) (xs.drop k):=by
  have hn:n=xs.length:=(sY h).1;subst hn;obtain⟨b,inner,g,i⟩:=h;have hb:(Value.slice (if c=k then A else A.map (·.add (k*d.sz))) (xs.length-k) (c-k)).ownBlock=(Value.slice A xs.length c).ownBlock:=by
    split
    · cases A<;>rfl
    · cases A with
      |none=>rfl
      |some a=>simp[Value.ownBlock];unfold Addr.add;split<;>rfl
  refine⟨fun j l=>b j (by rw[<-hb];exact l),inner.drop (k*d.sz),?_,?_⟩
  · rw[List.length_drop]
    exact yX g hk
  · rw[hb]
    exact za i
theorem zq {okp:Nat->Prop} {v1:Value} {p:α} {inner cs:List Value} (i:∀k,v.ownBlock=some k->ok k) (j:aT (d.M W base (fun k=>ok k/\some k≠v.ownBlock)) d.sz xs inner) (hp:d.M W base okp p cs) (l:∀k,okp k->ok k/\some k≠v.ownBlock) (m:∀k,W.heap.size<=k->ok k)
    (n:fi w1 base e d.sz v1 (xs.length+1) (inner++cs)) (r:W.grownBy w1 v.ownBlock) (a:v1.ownBlock=v.ownBlock\/∃b,v1.ownBlock=some b/\W.heap.size<=b):d.Q e w1 base ok v1 (xs++[p]):=by
  have s:∀k,some k≠v.ownBlock->k<W.heap.size->some k≠v1.ownBlock:=by
    intro k hk u;rcases a with a|⟨b,hb,hle⟩
    · rw[a];exact hk
    · rw[hb]
      intro he;injection he with he
      omega
  have step:∀{q:α} {c:List Value} {o:Nat->Prop},d.M W base o q c->(∀k,o k->ok k/\some k≠v.ownBlock)->d.M w1 base (fun k=>ok k/\some k≠v1.ownBlock) q c:=by
    intro q c o g h;have h1:=d.eJ (w1:=w1) (fun k hk=>r.block k hk.2.2.1 (h k hk.1).2) (d.eE g);exact d.cH (fun k hk=>⟨(h k hk.1).1,s k (h k hk.1).2 hk.2.2.1⟩) h1
  refine⟨fun k hk=>?_,inner++cs,by rw[List.length_append,List.length_singleton];exact n,?_⟩
  · rcases a with a|⟨b,hb,hle⟩
    · exact i k (a▸hk)
    · rw[hb] at hk
      injection hk with hk
      exact m k (by omega)
  · exact(j.fz (fun _ _ g=>step g (fun _ hk=>hk))).snoc (step hp l) (d.dX (d.dc hp))
end
section
variable {P:Program} {ops:Array Oper} {rest:List Oper} {o:Oper} {a:Act} {Q':Exit->Act->World->Prop} {Kc:Act->World->Prop} {α:Type}
theorem zr (d:Kd α) {w0 W:World} (base:Nat) (t ty e:TypeId) (z:Value) (bytes:Nat)
    (n:P.underlying t=some (.slice e)) (o:(P.info? e).map (fun i=>(i.zero,i.size,i.bytes))=some (some z,d.sz,bytes)) (q:z.cells.size=d.sz) (r:0<d.sz) (s:0<bytes)
    (v:Value) (xs:List α) (p:α) (cs:List Value) (ok okp:Nat->Prop) (hp:d.M W base okp p cs) (u:∀k,okp k->ok k/\some k≠v.ownBlock) (w:∀k,W.heap.size<=k->ok k)
    (x:d.Q e W base ok v xs) (y:Below base w0 W) (B:base<=W.heap.size) (j:(xs.length+1)*bytes<=140737488355328):
    ∃v1 w1,(Builtin.append_ #[t,t] ty #[v,.slice (some ⟨W.heap.size,0,none⟩) 1 1]).run P (W.alloc (.cells cs.toArray e))= .ok v1 w1/\d.Q e w1 base ok v1 (xs++[p])/\Below base w0 w1/\W.grownBy w1 v.ownBlock/\(v1.ownBlock=v.ownBlock\/∃b,v1.ownBlock=some b/\W.heap.size<=b):=by
  obtain⟨C,inner,a,D⟩:=x;obtain⟨i0,hi,l⟩:=Option.map_eq_some_iff.1 o;simp only[Prod.mk.injEq] at l;obtain⟨E,F,G⟩:=l;have hlen:xs.length+1<=140737488355328:=Nat.le_trans (Nat.le_mul_of_pos_right _ s) j;have H:=d.dX (d.dc hp);have I:fi (W.alloc (.cells cs.toArray e)) base e d.sz v xs.length inner:=sQ a (fun k hk=>Below.heap_alloc W _ k (sR a k hk));obtain⟨v1,w1,J,K,L,g⟩:=yY (P:=P) (W.alloc (.cells cs.toArray e)) base t ty e i0 z d.sz bytes n hi E F G q r v xs.length inner I ⟨W.heap.size,0,none⟩ 1 1 cs (by rw[H,Nat.one_mul])
    (by simpa using World.news_of_block (cs:=cs.toArray) (t:=e) (fr:=(0,0)) (heap_alloc_new W (.cells cs.toArray e))) (d.eo (d.dc hp)) (by omega) (by simp only[maxLen];omega) j (by simp;omega)
  have h:W.grownBy w1 v.ownBlock:=World.grownBy.trans (World.grownBy_alloc W _ _) L;have m:v1.ownBlock=v.ownBlock\/∃b,v1.ownBlock=some b/\W.heap.size<=b:=by
    rcases g with g|⟨b,hb,hle⟩
    · exact .inl g
    · exact .inr ⟨b,hb,by rw[World.size_alloc] at hle;omega⟩
  exact⟨v1,w1,J,zq C D hp u w K h m,y.grown h B (fun k hk=>(kL a k hk).1),h,m⟩
end
end Kd
namespace Kd
section
variable {α:Type} {d:Kd α} {e e':Nat} {w w1 W:World} {base:Nat} {ok:Nat->Prop} {u v:Value} {xs:List α}
theorem gQ (h:d.R e w base ok v xs):∀k,v.ownBlock=some k->∃cells,w.heap[k]? =some (.cells cells e (0,0)):=by
  obtain⟨inner,a⟩:=jK h;exact fun k hk=>jJ a k hk
theorem sZ (h:d.R e W base ok u xs) (b:∀k,v.ownBlock=some k->∃cells,W.heap[k]? =some (.cells cells e' (0,0))) (g:∀q,q∈e::d.E->q≠e') (i:W.grownBy w1 v.ownBlock):d.R e w1 base ok u xs:=by
  refine bb (fB (eV h) (fun k hk=>i.block k hk.2.2.1 (fun he=>?_))) (fun _ hk=>hk.1);obtain⟨_,_,_,q,j,cells,l⟩:=hk;obtain⟨m,a⟩:=b k he.symm;rw[l] at a;injection a with a
  injection a with _ a
  exact g q j a
theorem oa (h:d.R e W base ok u xs) (b:∀k,v.ownBlock=some k->∃cells,W.heap[k]? =some (.cells cells e' (0,0))) (g:∀q,q∈e::d.E->q≠e'):d.R e W base (fun k=>ok k/\some k≠v.ownBlock) u xs:=by
  refine bb (eV h) (fun k hk=>⟨hk.1,fun he=>?_⟩);obtain⟨_,_,_,q,i,cells,j⟩:=hk;obtain⟨l,a⟩:=b k he.symm;rw[j] at a;injection a with a
  injection a with _ a
  exact g q i a
theorem s6 (hu:d.R e W base ok u xs) (a:∀k,v.ownBlock=some k->W.heap.size<=k) (hb:Below W.heap.size W w1):d.R e w1 base (fun k=>ok k/\some k≠v.ownBlock) u xs:=
  bb (fB (eV hu) (fun k hk=>hb.block k hk.2.2.1)) (fun k hk=>⟨hk.1,fun he=>by have:=a k he.symm;have:=hk.2.2.1;omega⟩)
theorem bR (h:d.R e w1 W.heap.size ok v xs) (a:∀k,u.ownBlock=some k->k<W.heap.size):d.R e w1 W.heap.size (fun k=>ok k/\some k≠u.ownBlock) v xs:=
  bb (eV h) (fun k hk=>⟨hk.1,fun he=>by have:=a k he.symm;have:=hk.2.1;omega⟩)
theorem s7 (h:d.Q e w base ok v xs):∀k,v.ownBlock=some k->∃cells,w.heap[k]? =some (.cells cells e (0,0)):=by
  obtain⟨_,inner,a,_⟩:=h;exact fun k hk=>(kL a k hk).2
theorem kM (a:∀k,u.ownBlock=some k->k<W.heap.size):∀k,W.heap.size<=k->some k≠u.ownBlock:=fun k hk he=>by have:=a k he.symm;omega
end
end Kd
theorem mN {α:Type} (a seg:List α) (o:Nat) (h:o+seg.length<=a.length) (q:Nat):
    (a.take o++seg++a.drop (o+seg.length))[q]? =if q<o then a[q]? else if q<o+seg.length then seg[q-o]? else a[q]? :=by
  have e:(a.take o).length=o:=by rw[List.length_take];omega
  rw[List.append_assoc];by_cases h1:q<o
  · rw[if_pos h1,List.getElem?_append_left (by omega),List.getElem?_take,if_pos h1]
  · rw[if_neg h1,List.getElem?_append_right (by omega),e]
    by_cases b:q<o+seg.length
    · rw[if_pos b,List.getElem?_append_left (by omega)]
    · rw[if_neg b,List.getElem?_append_right (by omega),List.getElem?_drop]
      congr 1
      omega
namespace Kd
section
variable {α:Type} {d:Kd α} {e base g n cap:Nat} {ok okp:Nat->Prop} {W:World} {xs:List α}
theorem s8 (h:d.R e W base ok (.slice (some ⟨g,0,none⟩) n cap) xs) (z:α) (i:Int) (p:0<=i) (h1:i<n):
    ∃c,c.length=d.sz/\d.M W base (fun k=>ok k/\k≠g) (xs.getD i.toNat z) c/\(∀j u,c[j]? =some u->W.cell? ⟨g,i.toNat*d.sz+j,none⟩=some u)/\∀j,W.frozen? ⟨g,i.toNat*d.sz+j,none⟩=false:=by
  obtain⟨hn,q,hC⟩:=aQ h;obtain⟨_,inner,b,l⟩:=h;have a:i.toNat<xs.length:=by omega
  have r:i.toNat*d.sz+d.sz<=inner.length:=by rw[l.1,<-Nat.succ_mul];exact Nat.mul_le_mul_right _ a
  have m:=l.2 i.toNat _ (List.getElem?_eq_getElem a);refine⟨(inner.drop (i.toNat*d.sz)).take d.sz,by rw[List.length_take,List.length_drop];omega,?_,fun j u hu=>?_,fun j=>?_⟩
  · rw[List.getD_eq_getElem?_getD,List.getElem?_eq_getElem a]
    exact d.cH (fun k hk=>⟨hk.1,fun he=>hk.2 (by rw[he];simp[Value.ownBlock])⟩) m
  · rw[List.getElem?_take] at hu
    split at hu
    · rw[List.getElem?_drop] at hu
      have:=b.cells (g:=g) (by simp[Value.ownBlock]) _ u hu;rwa [add_plain] at this
    · cases hu
  · obtain⟨cells,o⟩:=jJ b g (by simp[Value.ownBlock])
    exact bt o _
theorem s9 (h:d.R e W base ok (.slice (some ⟨g,0,none⟩) n cap) xs) (i:Int) (h0:0<=i) (h1:i<n) {c seg:List Value} {j:Nat} (ap:c.length=d.sz) (H:∀j u,c[j]? =some u->W.cell? ⟨g,i.toNat*d.sz+j,none⟩=some u)
    (hj:j+seg.length<=d.sz) {x':α} (I:d.M W base okp x' (c.take j++seg++c.drop (j+seg.length))) (l:∀k,okp k->ok k/\k≠g):
    d.R e (W.setCells g (i.toNat*d.sz+j) seg) base ok (.slice (some ⟨g,0,none⟩) n cap) (xs.set i.toNat x')/\W.grownBy (W.setCells g (i.toNat*d.sz+j) seg) (some g):=by
  obtain⟨hn,w,_⟩:=aQ h;obtain⟨J,inner,K,b⟩:=h;have L:i.toNat<xs.length:=by omega
  have x:i.toNat*d.sz+d.sz<=inner.length:=by rw[b.1,<-Nat.succ_mul];exact Nat.mul_le_mul_right _ L
  have av:inner.length=n*d.sz:=by rw[b.1,hn]
  obtain⟨aB,N⟩:=K;rcases N with⟨o,_⟩|⟨g',aL,cur,o,hb,y,aO,O,P,z⟩
  · cases o
  injection o with r _ Q
  injection r with r
  injection r with S
  subst S;subst Q;have T:i.toNat*d.sz+j+seg.length<=cur.size:=by
    have:n*d.sz<=cap*d.sz:=Nat.mul_le_mul_right _ w;omega
  obtain⟨U,V,X,Y⟩:=pY seg (i.toNat*d.sz+j) W cur y T;obtain⟨s1,s2,Z,s4⟩:=pX g seg (i.toNat*d.sz+j) W;have s:∀k,k≠g->(W.setCells g (i.toNat*d.sz+j) seg).heap[k]? =W.heap[k]? :=fun k hk=>pW seg _ k hk
  have ab:∀q,q<d.sz->c[q]? =inner[i.toNat*d.sz+q]? :=by
    intro q a;have B:q<c.length:=by omega
    have C:=H q _ (List.getElem?_eq_getElem B);rw[cell_of_row W g _ cur e (0,0) y] at C;rw[List.getElem?_eq_getElem B,<-C,<-z,List.getElem?_take,if_pos (by rw[<-hn];omega),Array.getElem?_toList]
  refine⟨⟨J,inner.take (i.toNat*d.sz+j)++seg++inner.drop (i.toNat*d.sz+j+seg.length),⟨?_,.inr ⟨g,cap,U,by rw[List.length_set,hn],hb,V,by rw[List.length_set,<-hn];exact w,O,by rw[X,P],?_⟩⟩,?_⟩,
    ⟨s1,s2,Z,by rw[s4];exact Nat.le_refl _,fun k _ hk=>s k (fun he=>hk (by rw[he]))⟩⟩
  · rw[List.length_set]
    simp only[List.length_append,List.length_take,List.length_drop];rw[b.1] at x⊢;omega
  · rw[List.length_set,<-hn]
    apply List.ext_getElem?
    intro q;rw[List.getElem?_take,Y];rw[mN cur.toList seg (i.toNat*d.sz+j) (by rw[Array.length_toList];omega) q,mN inner seg (i.toNat*d.sz+j) (by omega) q];have ad:∀q,q<n*d.sz->cur.toList[q]? =inner[q]? :=by
      intro q a;rw[<-z,List.getElem?_take,if_pos (by rw[<-hn];exact a)]
    by_cases a:q<n*d.sz
    · rw[if_pos a,ad q a]
    · rw[if_neg a,if_neg (by omega),if_neg (by omega),List.getElem?_eq_none (by omega)]
  · refine⟨?_,fun m p hm=>?_⟩
    · rw[List.length_set]
      simp only[List.length_append,List.length_take,List.length_drop];rw[b.1] at x⊢;omega
    · have ag:m<xs.length:=by
        have:=(List.getElem?_eq_some_iff.1 hm).1;rwa [List.length_set] at this
      have aP:m*d.sz+d.sz<=inner.length:=by rw[b.1,<-Nat.succ_mul];exact Nat.mul_le_mul_right _ ag
      have D:some g=(Value.slice (some ⟨g,0,none⟩) n cap).ownBlock:=by simp[Value.ownBlock]
      by_cases E:m=i.toNat
      · subst E
        rw[List.getElem?_set_self (by omega)] at hm;injection hm with hm
        subst hm;have v:((inner.take (i.toNat*d.sz+j)++seg++inner.drop (i.toNat*d.sz+j+seg.length)).drop (i.toNat*d.sz)).take d.sz=c.take j++seg++c.drop (j+seg.length):=by
          apply List.ext_getElem?
          intro q;rw[List.getElem?_take,List.getElem?_drop,mN inner seg _ (by omega),mN c seg j (by omega) q];by_cases a:q<d.sz
          · rw[if_pos a,ab q a]
            by_cases F:q<j
            · rw[if_pos (by omega),if_pos F]
            · rw[if_neg (by omega),if_neg F]
              by_cases G:q<j+seg.length
              · rw[if_pos (by omega),if_pos G]
                congr 1
                omega
              · rw[if_neg (by omega),if_neg G]
          · rw[if_neg a,if_neg (by omega),if_neg (by omega),List.getElem?_eq_none (by omega)]
        rw[v];refine d.cH (fun k hk=>?_) (d.eJ (w1:=W.setCells g (i.toNat*d.sz+j) seg) (fun k hk=>s k (l k hk).2) I);exact⟨(l k hk).1,fun he=>(l k hk).2 (by rw[<-D] at he;injection he)⟩
      · rw[List.getElem?_set_ne (by omega)] at hm
        have hold:=b.2 m p hm;have v:((inner.take (i.toNat*d.sz+j)++seg++inner.drop (i.toNat*d.sz+j+seg.length)).drop (m*d.sz)).take d.sz=(inner.drop (m*d.sz)).take d.sz:=by
          apply List.ext_getElem?
          intro q;rw[List.getElem?_take,List.getElem?_take,List.getElem?_drop,List.getElem?_drop,mN inner seg _ (by omega)];by_cases a:q<d.sz
          · rw[if_pos a,if_pos a]
            rcases Nat.lt_or_gt_of_ne E with ak|am
            · have:m*d.sz+d.sz<=i.toNat*d.sz:=by rw[<-Nat.succ_mul];exact Nat.mul_le_mul_right _ ak
              rw[if_pos (by omega)]
            · have:i.toNat*d.sz+d.sz<=m*d.sz:=by rw[<-Nat.succ_mul];exact Nat.mul_le_mul_right _ am
              rw[if_neg (by omega),if_neg (by omega)]
          · rw[if_neg a,if_neg a]
        rw[v];refine d.eJ (fun k hk=>s k (fun he=>hk.2 (by rw[he];exact D))) hold
end
end Kd
theorem bu {w W:World} (h:Below w.heap.size w W):w.heap.size<=W.heap.size:=h.size
theorem aZ {w W w2:World} (h:Below w.heap.size w W) (k:Below W.heap.size W w2):Below w.heap.size w w2:=lN h h.size k
theorem dN {w W:World} {g j:Nat} {v:Value} (h:Below w.heap.size w W) (a:w.heap.size<=g):Below w.heap.size w (W.setCell ⟨g,j,none⟩ v):=h.setCell a _
theorem bB {w:World} {g:Nat} {t:TypeId} {cs a:Array Value} (h:w.heap[g]? =some (.cells cs t (0,0))) (i:Nat) (u:Value) (e:cs.setIfInBounds i u=a):(w.setCell ⟨g,i,none⟩ u).heap[g]? =some (.cells a t (0,0)):=e▸bQ h i u
theorem bZ {base:Nat} {w W:World} (h:Below base w W):Below base w W.drew:=h.drew
namespace Kd
section
variable {α:Type} {d:Kd α} {e base g:Nat} {ok:Nat->Prop} {w w1:World} {v:Value} {xs:List α} {o:Obj}
theorem s_ (h:d.R e w base ok v xs) (a:Nat) (b:w.heap.size<=a):d.R e w base (fun k=>ok k/\k≠a) v xs:=bb (eV h) (fun k hk=>⟨hk.1,by have:=hk.2.2.1;omega⟩)
theorem lT (hb:w.heap[g]? =some o):∀k,w.heap.size<=k->k≠g:=fun k hk=>by have:=aA hb;omega
end
end Kd
section
variable {P:Program} {ops:Array Oper} {rest:List Oper} {o:Oper} {a:Act} {Q:Exit->Act->World->Prop}
theorem zt {W:World} (b:o.guard=none) {N:Tmp} (_hd:o.dst=some N) {cs:Array Value} {t:TypeId}
    (e:(execOp a.eval o).run P W= .ok (.value (.pointer (some ⟨W.heap.size,0,none⟩))) (W.alloc (.cells cs t (0,0))))
    (h:∀g,g=W.heap.size->∀w1,w1.heap[g]? =some (.cells cs t (0,0))->Below W.heap.size W w1->wpList P ops Q rest (a.put o.dst (.pointer (some ⟨g,0,none⟩))) w1):wpList P ops Q (o::rest) a W:=
  Kd.sO b e (h _ rfl _ (yM W _) (ao (Below.refl _ _) _))
theorem Kd.ta {α:Type} (enc:α->Value) (d:α) {h1:∀x:α,(enc x).oneCell'=true} {w0 W:World} (base:Nat) (n:o.guard=none) (s x:Operand) (t e:TypeId) (z:Value) (bytes:Nat)
    (p:o.op= .call {callee:=.builtin .append,args:=#[s,x],argTypes:=#[t,t]})
    (q:P.underlying t=some (.slice e)) (r:(P.info? e).map (fun i=>(i.zero,i.size,i.bytes))=some (some z,1,bytes)) (u:z.cells.size=1) (w:0<bytes)
    (v:Value) (xs ys:List α) (A:Option Addr) (m c:Nat) (ok:Nat->Prop) (y:a.eval s=v) (B:a.eval x= .slice A m c) (D:∀k,W.heap.size<=k->ok k)
    (j:(Kd.scalar enc h1).R e W base ok v xs) (E:(Kd.scalar enc h1).C W A m ys) (F:Below base w0 W) (G:base<=W.heap.size) (H:(xs.length+m)*bytes<=140737488355328)
    (h:∀v1 w1,(Kd.scalar enc h1).R e w1 base ok v1 (xs++ys)->Below base w0 w1->W.grownBy w1 v.ownBlock->(v1.ownBlock=v.ownBlock\/∃b,v1.ownBlock=some b/\W.heap.size<=b)->wpList P ops Q rest (a.put o.dst v1) w1):
    wpList P ops Q (o::rest) a W:=by
  refine yL (w0:=w0) enc d base n s x t e z bytes p q r u w h1 v xs ys A m c y B (Kd.nX j) (Kd.pU (d:=d) E) F G H ?_;intro v1 w1 I hb J l;refine h v1 w1 (Kd.mK I (fun k hk=>?_)) hb J l;rcases l with g|⟨b,g,K⟩
  · exact j.1 k (by rw[<-g];exact hk)
  · rw[g] at hk
    injection hk with hk
    subst hk;exact D _ K
end
namespace Kd
section
variable {α:Type} {enc:α->Value} {h1:∀x,(enc x).oneCell'=true} {e base g n cap:Nat} {ok:Nat->Prop} {W:World} {xs:List α}
theorem b7 (d:α) (h:(scalar enc h1).R e W base ok (.slice (some ⟨g,0,none⟩) n cap) xs) (i:Int) (a:0<=i) (hi:i<n):W.cell? ⟨g,i.toNat,none⟩=some (enc (bW d xs i))/\W.frozen? ⟨g,i.toNat,none⟩=false:=by
  obtain⟨rfl,_⟩:=aQ h;exact yT d h i a hi
theorem zu (h:(scalar enc h1).R e W base ok (.slice (some ⟨g,0,none⟩) n cap) xs) (i:Int) (x:α):(scalar enc h1).R e (W.setCell ⟨g,i.toNat,none⟩ (enc x)) base ok (.slice (some ⟨g,0,none⟩) n cap) (xs.set i.toNat x):=by
  obtain⟨rfl,_⟩:=aQ h;exact(sM h i x).1
end
end Kd
section
variable {P:Program} {ops:Array Oper} {rest:List Oper} {o:Oper} {a:Act} {Q:Exit->Act->World->Prop}
theorem kh {W w1:World} (b:o.guard=none) {t:TypeId} {p:Tmp} {v:Operand} (_ho:o.op= .store t (.tmp p) v) (e:o.dst=none)
    (g:(execOp a.eval o).run P W= .ok .skip w1) (h:∀w',w'=w1->wpList P ops Q rest a w'):wpList P ops Q (o::rest) a W:=by
  refine wpList_plain b fun K i=>?_
  unfold Oper.wp;rw[g];show K (a.put o.dst undef) w1
  rw[e];exact i _ _ (h _ rfl)
end
namespace Kd
section
variable {α:Type} {enc:α->Value} {h1:∀x,(enc x).oneCell'=true} {e base g n cap:Nat} {ok:Nat->Prop} {W:World} {xs:List α}
theorem dt (h:(scalar enc h1).R e W base ok (.slice (some ⟨g,0,none⟩) n cap) xs) (i:Int) (x:α):(scalar enc h1).R e (W.setCell ⟨g,i.toNat,none⟩ (enc x)) base ok (.slice (some ⟨g,0,none⟩) n cap) (xs.set i.toNat x)/\W.grownBy (W.setCell ⟨g,i.toNat,none⟩ (enc x)) (some g):=by
  obtain⟨rfl,_⟩:=aQ h;exact sM h i x
end
end Kd
section
variable {P:Program} {ops:Array Oper} {rest:List Oper} {o:Oper} {a:Act} {Q:Exit->Act->World->Prop} {W:World}
theorem aJ {N:Tmp} (_hN:o.dst=some N) (h:wpList P ops Q (o::rest) a W):wpList P ops Q (o::rest) a W:=h
theorem ki {t:TypeId} {p:Tmp} {v:Operand} (_ho:o.op= .store t (.tmp p) v) (h:wpList P ops Q (o::rest) a W):wpList P ops Q (o::rest) a W:=h
end
section
variable {P:Program} {ops:Array Oper} {o:Oper} {a:Act} {Q:Exit->Act->World->Prop} {Kc:Act->World->Prop}
theorem zv {W w1:World} {v:Value} (hw:Region.wanted o (yielded ops a.tmps)=true) (b:(execOp a.eval o).run P W= .ok (.value v) w1) (h:Kc (a.put o.dst v) w1):if Region.wanted o (yielded ops a.tmps)=true then Oper.wp P o a W Kc Q else Kc (a.put o.dst undef) W:=by
  rw[if_pos hw];unfold Oper.wp;rw[b];exact h
namespace Kd
variable {α:Type}
theorem zw (d:Kd α) {w0 W:World} (base e:Nat) (hw:Region.wanted o (yielded ops a.tmps)=true) {N:Tmp} (_hd:o.dst=some N) {xs:List α} {inner:List Value} {ok okp:Nat->Prop}
    (j:(execOp a.eval o).run P W= .ok (.value (.slice (some ⟨W.heap.size,0,none⟩) xs.length xs.length)) (W.alloc (.cells inner.toArray e)))
    (g:aT (d.M W base okp) d.sz xs inner) (l:∀k,okp k->ok k) (m:ok W.heap.size) (n:Below base w0 W) (i:base<=W.heap.size) (hm:xs.length<=9223372036854775807)
    (h:∀v1 w1,d.R e w1 base ok v1 xs->Below base w0 w1->W.grownBy w1 none->(∃b,v1.ownBlock=some b/\W.heap.size<=b)->Kc (a.put o.dst v1) w1):if Region.wanted o (yielded ops a.tmps)=true then Oper.wp P o a W Kc Q else Kc (a.put o.dst undef) W:=by
  refine zv hw j (h _ _ ⟨fun k hk=>?_,inner,?_,?_⟩ (n.alloc i _) (World.grownBy_alloc W _ none) ⟨W.heap.size,by simp[Value.ownBlock],Nat.le_refl _⟩)
  · have:W.heap.size=k:=by simpa [Value.ownBlock] using hk
    subst this;exact m
  · have q:=World.ownsRow_lit (base:=base) (e:=e) (size:=d.sz) W inner.toArray xs.length i (by simpa [maxLen] using hm) (by simpa using g.1)
    simpa using q
  · refine g.fz (fun p c hp=>d.cH (fun k hk=>⟨l k hk.1,fun he=>?_⟩) (sK (d.eE hp) (ao (Below.refl _ _) _)))
    have r:k=W.heap.size:=by simpa [Value.ownBlock] using he
    have:=hk.2.2.1;omega
end Kd
end
inductive kN (P:Program) (tmps:Array Value) (w:World):List ResultVar->List Value->Prop where
  |nil:kN P tmps w [] []
  |tmp {u:Tmp} {rs:List ResultVar} {a:List Value} (h:kN P tmps w rs a):kN P tmps w (.tmp u::rs) (tmps.getD u undef::a)
  |cell {p:Tmp} {ty:TypeId} {rs:List ResultVar} {a:List Value} (g:Nat) (t:TypeId) (cs:Array Value) (fr:Nat×Nat) (d:TypeDesc)
      (hp:tmps.getD p undef= .pointer (some ⟨g,0,none⟩)) (b:w.heap[g]? =some (.cells cs t fr))
      (hu:P.underlying ty=some d) (hd:(match d with| .struct _| .array _ _=>true|_=>false)=true) (hi:(P.info? ty).map (·.size)=some cs.size)
      (h:kN P tmps w rs a):kN P tmps w (.cell p ty::rs) (.agg cs::a)
section
variable {P:Program} {tmps:Array Value} {w:World}
theorem zx {rs:List ResultVar} {e:List Value} (i:kN P tmps w rs e) (f:ResultVar->Sem Value) (hf:∀u,f (.tmp u)=pure (tmps.getD u undef)) (j:∀a t,f (.cell a t)=(do loadVar t (<-asAddr (tmps.getD a undef)))):
    (rs.mapM f).run P w= .ok e w:=by
  induction i with
  |nil=>simp
  |tmp h b=>simp[List.mapM_cons,hf,b]
  |cell g t cs fr d hp k hu hd hi h b=>
    rw[List.mapM_cons,j,hp];simp[asAddr,run_loadVar_row w g t _ cs fr d k hu hd hi,b]
theorem tb {fn:Func} {rs:List ResultVar} {b:List Value} (h:fn.results=rs.toArray) (e:b.length≠1) (g:kN P tmps w rs b):(results fn tmps).run P w= .ok (.tuple b.toArray) w:=by
  unfold results;rw[h,List.mapM_toArray];simp only[Sem.run_bind,Sem.run_map];rw[zx g]
  · simp[e]
  · intro u
    rfl
  · intro a t
    rfl
end
end Go.Proofs.YtffdiakgjakngaaGreatW.PrintWords
end
section
namespace Go.Proofs.YtffdiakgjakngaaGreatW.PrintLast
section
variable {P:Program} {ops:Array Oper} {Q:Exit->Act->World->Prop} {md:Region.Mode} {S:World->Prop} {ds:List Nat}
def Region.ik (md:Region.Mode) (ops:Array Oper) (i:Nat):Nat->Nat->Bool
  |0,_=>false
  |fuel+1,d=>match ops[d]? with
    |some o=>o.after.any fun e=>Region.binds md e&&(e.on==i||Region.ik md ops i fuel e.on)
    |none=>false
def Region.mO (md:Region.Mode) (ops:Array Oper) (a:Array Bool):Bool:=
  (List.range ops.size).all fun j=> !a.getD j false||match ops[j]? with
    |some o=>o.after.all fun e=> !Region.binds md e||a.getD e.on false
    |none=>true
def Region.oe (md:Region.Mode) (ops:Array Oper) (a:Array Bool) (ds:List Nat) (i:Nat):Bool:=
  ds.all fun d=>a.getD d true||Region.ik md ops i ops.size d
def kO (md:Region.Mode) (ops:Array Oper) (a:Array Bool):Prop:=
  ∀j b,ops[j]? =some b->a.getD j false=true->∀e∈b.after,Region.binds md e=true->a.getD e.on false=true
theorem Region.zy {a:Array Bool} (h:Region.mO md ops a=true):kO md ops a:=by
  intro j l b g e he hb;have i:j<ops.size:=(Array.getElem?_eq_some_iff.1 b).1;have h1:=List.all_eq_true.1 h j (List.mem_range.2 i);simp only[g,b,Bool.not_true,Bool.false_or] at h1;have k:=Array.all_eq_true_iff_forall_mem.1 h1 e he;simpa [hb] using k
theorem kO.set {a:Array Bool} {i:Nat} (h:kO md ops a) (hi:i∈Region.ready md ops a):kO md ops (a.setIfInBounds i true):=by
  obtain⟨_,m,n,o⟩:=mem_ready.1 hi;intro j b g k e he hb;by_cases l:i=j
  · subst l
    have:b=m:=Option.some.inj (g.symm.trans n);subst this;exact getD_set_true (o e he hb)
  · rw[getD_set_ne false l] at k
    exact getD_set_true (h j b g k e he hb)
theorem Region.tc {a:Array Bool} {i:Nat} (j:kO md ops a):∀(fuel d:Nat),Region.ik md ops i fuel d=true->a.getD d false=true->a.getD i false=true
  |0,_,h,_=>by simp[Region.ik] at h
  |fuel+1,d,h,k=>by
    unfold Region.ik at h;cases b:ops[d]? with
    |none=>rw[b] at h;simp at h
    |some o=>
      rw[b] at h;obtain⟨e,he,h1⟩:=Array.any_eq_true'.1 h;simp only[Bool.and_eq_true,Bool.or_eq_true,beq_iff_eq] at h1;have hle:=j d o b k e he h1.1;rcases h1.2 with g|g
      · rw[<-g];exact hle
      · exact Region.tc j fuel e.on g hle
theorem Region.zz {a:Array Bool} {i d fuel:Nat} (k:kO md ops a) (b:Region.ik md ops i fuel d=true) (g:a.getD i true=false):d∉Region.ready md ops a:=by
  intro hd;obtain⟨_,o,l,m⟩:=mem_ready.1 hd;have hi:a.getD i false=true:=by
    cases fuel with
    |zero=>simp[Region.ik] at b
    |succ n=>
      unfold Region.ik at b;rw[l] at b;obtain⟨e,he,h1⟩:=Array.any_eq_true'.1 b;simp only[Bool.and_eq_true,Bool.or_eq_true,beq_iff_eq] at h1;have hle:=m e he h1.1;rcases h1.2 with h|h
      · rw[<-h];exact hle
      · exact Region.tc k n e.on h hle
  rcases Nat.lt_or_ge i a.size with j|j
  · simp[j] at g hi
    rw[g] at hi;cases hi
  · simp[Array.getElem?_eq_none j] at g
def cU (P:Program) (md:Region.Mode) (ops:Array Oper) (Q:Exit->Act->World->Prop) (S:World->Prop) (ds:List Nat):Nat->Array Bool->Act->World->Prop
  |0,b,a,w=>Region.ready md ops b=[]/\Q .normal a w
  |fuel+1,b,a,w=>
    (Region.ready md ops b=[]->Q .normal a w)/\
    ∀i∈Region.ready md ops b,wpOp P ops Q i (fun a' w'=>(i∉ds->S w->S w')/\cU P md ops Q S ds fuel (b.setIfInBounds i true) a' w') a w
theorem td:∀(fuel:Nat) (b:Array Bool) (a:Act) (w:World),cU P md ops Q S ds fuel b a w->wpAny P md ops Q fuel b a w
  |0,_,_,_,h=>h
  |fuel+1,_,_,_,h=>⟨h.1,fun i hi=>wpOp_mono (fun a' w' e=>td fuel _ a' w' e.2) (h.2 i hi)⟩
theorem zD {i:Nat} {m:Oper} {v:Value} (hi:ops[i]? =some m) (E:∀(j:Nat) (o:Oper) cs b,ops[j]? =some o->o.op≠ .select cs b)
    (I:∀c a w,Q (.panic c) (a.put m.dst v) w->Q (.panic c) a w) (n:Nat):
    ∀(fuel:Nat) (g:Array Bool) (a:Act) (w:World),
      (∀j p,ops[j]? =some p->j≠i->g.getD j true=false->(∀e∈p.after,Region.binds md e=true->e.on≠i)->m.apart ops p=true)->
      kO md ops g->(∀d∈ds,g.getD d true=false->Region.ik md ops i n d=true)->
      i∈Region.ready md ops g->YieldsIf P ops S m v a->S w->
      cU P md ops Q S ds fuel (g.setIfInBounds i true) (a.put m.dst v) w->cU P md ops Q S ds (fuel+1) g a w:=by
  intro fuel;induction fuel with
  |zero=>
    intro g a w _ _ _ q x hS H;refine⟨fun h=>(by rw[h] at q;cases q),fun j r=>?_⟩;by_cases l:j=i
    · subst l;exact x.wpOp hi hS ⟨fun _ h=>h,H⟩
    · have:=ready_mono r l
      rw[H.1] at this;cases this
  |succ fuel J=>
    intro g a w F G hd q x hS H;refine⟨fun h=>(by rw[h] at q;cases q),fun j r=>?_⟩;by_cases l:j=i
    · subst l;exact x.wpOp hi hS ⟨fun _ h=>h,H⟩
    · have h1:=H.2 j (ready_mono r l)
      obtain⟨y,p,B,K⟩:=mem_ready.1 r;have C:=(mem_ready.1 q).1;have L:∀e∈p.after,Region.binds md e=true->e.on≠i:=fun e he hb heq=>by
        have h1:=K e he hb;rw[heq] at h1;rcases Nat.lt_or_ge i g.size with D|D
        · simp[D] at C h1;rw[C] at h1;cases h1
        · simp[Array.getElem?_eq_none D] at h1
      have M:j∉ds:=fun hm=>Region.zz G (hd j hm y) C r
      have N:=wpOp_putIf B (F j p B l y L) (fun cs b=>E i m cs b hi) (fun cs b=>E j p cs b B) I x h1;have O:∀k ok,ops[k]? =some ok->k≠i->(g.setIfInBounds j true).getD k true=false->
          (∀e∈ok.after,Region.binds md e=true->e.on≠i)->m.apart ops ok=true:=fun k ok hk R s T=>by
        refine F k ok hk R ?_ T;by_cases u:j=k
        · subst u;exact y
        · rw[getD_set_ne true u] at s;exact s
      have U:∀d∈ds,(g.setIfInBounds j true).getD d true=false->Region.ik md ops i n d=true:=fun d hm s=>by
        refine hd d hm ?_;by_cases u:j=d
        · subst u;exact y
        · rw[getD_set_ne true u] at s;exact s
      refine wpOp_mono (fun a' w' z=>⟨z.2.1,J (g.setIfInBounds j true) a' w' O (G.set r) U (ready_mono q (Ne.symm l)) z.1 (z.2.1 M hS) ?_⟩) N;rw[Array.setIfInBounds_comm _ _ l];exact z.2.2
theorem zF {i:Nat} {m:Oper} {v:Value} (hi:ops[i]? =some m) (y:∀(j:Nat) (o:Oper) cs b,ops[j]? =some o->o.op≠ .select cs b)
    (F:∀c a w,Q (.panic c) (a.put m.dst v) w->Q (.panic c) a w):
    ∀(fuel:Nat) (g:Array Bool) (a:Act) (w:World),
      (∀j n,ops[j]? =some n->j≠i->g.getD j true=false->(∀e∈n.after,Region.binds md e=true->e.on≠i)->m.apart ops n=true)->
      i∈Region.ready md ops g->Yields P ops m v a->
      cU P md ops Q S ds fuel (g.setIfInBounds i true) (a.put m.dst v) w->cU P md ops Q S ds (fuel+1) g a w:=by
  intro fuel;induction fuel with
  |zero=>
    intro g a w _ p q H;refine⟨fun h=>(by rw[h] at p;cases p),fun j r=>?_⟩;by_cases l:j=i
    · subst l;exact(q.yieldsIf (S:=fun _=>True)).wpOp hi trivial ⟨fun _ h=>h,H⟩
    · have:=ready_mono r l
      rw[H.1] at this;cases this
  |succ fuel G=>
    intro g a w z p q H;refine⟨fun h=>(by rw[h] at p;cases p),fun j r=>?_⟩;by_cases l:j=i
    · subst l;exact(q.yieldsIf (S:=fun _=>True)).wpOp hi trivial ⟨fun _ h=>h,H⟩
    · have h1:=H.2 j (ready_mono r l)
      obtain⟨B,n,s,I⟩:=mem_ready.1 r;have C:=(mem_ready.1 p).1;have J:∀e∈n.after,Region.binds md e=true->e.on≠i:=fun e he hb heq=>by
        have h1:=I e he hb;rw[heq] at h1;rcases Nat.lt_or_ge i g.size with u|u
        · simp[u] at C h1;rw[C] at h1;cases h1
        · simp[Array.getElem?_eq_none u] at h1
      have K:=wpOp_put s (z j n s l B J) (fun cs b=>y i m cs b hi) (fun cs b=>y j n cs b s) F q h1;have L:∀k ok,ops[k]? =some ok->k≠i->(g.setIfInBounds j true).getD k true=false->
          (∀e∈ok.after,Region.binds md e=true->e.on≠i)->m.apart ops ok=true:=fun k ok hk M D N=>by
        refine z k ok hk M ?_ N;by_cases E:j=k
        · subst E;exact B
        · rw[getD_set_ne true E] at D;exact D
      refine wpOp_mono (fun a' w' x=>⟨x.2.1,G (g.setIfInBounds j true) a' w' L (ready_mono p (Ne.symm l)) x.1 ?_⟩) K;rw[Array.setIfInBounds_comm _ _ l];exact x.2.2
theorem zH {i:Nat} {e:Oper} {v:Value} {fuel:Nat} {b:Array Bool} {a:Act} {w:World} (hi:ops[i]? =some e)
    (g:Region.noSelect ops=true) (hf:Region.free md ops b i=true) (j:(Region.ready md ops b).contains i=true)
    (k:Region.mO md ops b=true) (l:Region.oe md ops b ds i=true)
    (m:∀c a w,Q (.panic c) (a.put e.dst v) w->Q (.panic c) a w) (n:YieldsIf P ops S e v a) (hS:S w)
    (h:cU P md ops Q S ds fuel (b.setIfInBounds i true) (a.put e.dst v) w):cU P md ops Q S ds (fuel+1) b a w:=
  zD hi (Region.noSelect_spec g) m ops.size fuel b a w (Region.free_spec hi hf) (Region.zy k)
    (fun d hm o=>by have:=List.all_eq_true.1 l d hm;rw[o] at this;simpa using this) (by simpa using j) n hS h
theorem zI {rs:List Nat} {fuel:Nat} {b:Array Bool} {a:Act} {w:World} (e:Region.ready md ops b=rs) (g:rs≠[])
    (h:∀i∈rs,wpOp P ops Q i (fun a' w'=>(i∉ds->S w->S w')/\cU P md ops Q S ds fuel (b.setIfInBounds i true) a' w') a w):cU P md ops Q S ds (fuel+1) b a w:=
  ⟨fun j=>absurd (e▸j) g,e▸h⟩
theorem zJ {b:Array Bool} {a:Act} {w:World} (e:Region.ready md ops b=[]) (h:Q .normal a w):
    ∀fuel,cU P md ops Q S ds fuel b a w
  |0=>⟨e,h⟩
  |_+1=>⟨fun _=>h,by rw[e];simp⟩
theorem zM {id:Nat} {a:Act} {w:World} (hm:P.follows .mixedOrders=true)
    (h:cU P .any ops Q S ds ops.size (Array.replicate ops.size false) a {w with drawn:=w.drawn+1}):(Code.region id ops true).wp P Q a w:=
  wp_region_any hm (td _ _ _ _ h)
end
section
variable {P:Program} {ops:Array Oper} {Q:Exit->Act->World->Prop} {md:Region.Mode} {S:World->Prop} {ds:List Nat}
def gR (P:Program) (md:Region.Mode) (ops:Array Oper) (Q:Exit->Act->World->Prop) (S:World->Prop) (ds:List Nat) (fuel:Nat) (b:Array Bool) (a:Act) (w:World) (rs:List Nat):Prop:=
  ∀i∈rs,wpOp P ops Q i (fun a' w'=>(i∉ds->S w->S w')/\cU P md ops Q S ds fuel (b.setIfInBounds i true) a' w') a w
theorem gR.nil {fuel:Nat} {b:Array Bool} {a:Act} {w:World}:gR P md ops Q S ds fuel b a w []:=fun _ h=>by cases h
theorem gR.cons {fuel:Nat} {e:Array Bool} {a:Act} {w:World} {i:Nat} {o:Oper} {rs:List Nat} (k:ops[i]? =some o) (hd:i∉ds)
    (h:∀b:Act->World->Prop,Shut (∀a w,S w->(S w->cU P md ops Q S ds fuel (e.setIfInBounds i true) a w)->b a w)->if Region.wanted o (yielded ops a.tmps)=true then Oper.wp P o a w b Q else b (a.put o.dst undef) w)
    (l:gR P md ops Q S ds fuel e a w rs):gR P md ops Q S ds fuel e a w (i::rs):=fun j g=>by
  rcases List.mem_cons.1 g with rfl|g
  · exact wpOp_step k (fun b m=>h b (fun a w hS n=>m a w ⟨fun _ _=>hS,n hS⟩))
  · exact l j g
theorem gR.zO {fuel:Nat} {e:Array Bool} {a:Act} {w:World} {i:Nat} {o:Oper} {rs:List Nat} (k:ops[i]? =some o) (hd:i∈ds)
    (h:∀b:Act->World->Prop,Shut (∀a w,cU P md ops Q S ds fuel (e.setIfInBounds i true) a w->b a w)->if Region.wanted o (yielded ops a.tmps)=true then Oper.wp P o a w b Q else b (a.put o.dst undef) w)
    (l:gR P md ops Q S ds fuel e a w rs):gR P md ops Q S ds fuel e a w (i::rs):=fun j g=>by
  rcases List.mem_cons.1 g with rfl|g
  · exact wpOp_step k (fun b m=>h b (fun a w n=>m a w ⟨fun hn=>absurd hd hn,n⟩))
  · exact l j g
theorem te {rs:List Nat} {fuel:Nat} {b:Array Bool} {a:Act} {w:World} (e:Region.ready md ops b=rs) (g:rs≠[])
    (h:gR P md ops Q S ds fuel b a w rs):cU P md ops Q S ds (fuel+1) b a w:=zI e g h
theorem oh {id n:Nat} {a:Act} {w:World} (l:Array Bool) (hm:P.follows .mixedOrders=true) (hn:ops.size=n) (b:Array.replicate n false=l) (hS:S w.drew)
    (h:S w.drew->cU P .any ops Q S ds n l a w.drew):(Code.region id ops true).wp P Q a w:=by
  subst hn;subst b;exact zM hm (h hS)
def mP (md:Region.Mode) (ops:Array Oper) (ds:List Nat) (l l':Array Bool) (i:Nat):Bool:=
  Region.noSelect ops&&Region.free md ops l i&&(Region.ready md ops l).contains i&&Region.mO md ops l&&Region.oe md ops l ds i&&(l.setIfInBounds i true==l')
theorem jn {i:Nat} {N:Option Tmp} {b:Oper} {v:Value} {fuel:Nat} {l:Array Bool} {a:Act} {w:World} (l':Array Bool) (hi:ops[i]? =some b) (g:b.dst=N) (e:mP md ops ds l l' i=true)
    (j:∀c a w,Q (.panic c) (a.put b.dst v) w->Q (.panic c) a w) (k:YieldsIf P ops S b v a) (hS:S w) {a':Act} (m:a.put N v=a')
    (h:cU P md ops Q S ds fuel l' a' w):cU P md ops Q S ds (fuel+1) l a w:=by
  subst m;subst g;simp only[mP,Bool.and_eq_true,beq_iff_eq] at e;obtain⟨⟨⟨⟨⟨h1,n⟩,o⟩,p⟩,q⟩,r⟩:=e;subst r;exact zH hi h1 n o p q j k hS h
def om (md:Region.Mode) (ops:Array Oper) (l l':Array Bool) (i:Nat):Bool:=
  Region.noSelect ops&&Region.free md ops l i&&(Region.ready md ops l).contains i&&(l.setIfInBounds i true==l')
theorem kP {i:Nat} {N:Option Tmp} {b:Oper} {v:Value} {fuel:Nat} {l:Array Bool} {a:Act} {w:World} (l':Array Bool) (hi:ops[i]? =some b) (g:b.dst=N) (e:om md ops l l' i=true)
    (j:∀c a w,Q (.panic c) (a.put b.dst v) w->Q (.panic c) a w) (k:Yields P ops b v a) {a':Act} (m:a.put N v=a')
    (h:cU P md ops Q S ds fuel l' a' w):cU P md ops Q S ds (fuel+1) l a w:=by
  subst m;subst g;simp only[om,Bool.and_eq_true,beq_iff_eq] at e;obtain⟨⟨⟨h1,n⟩,o⟩,p⟩:=e;subst p;exact zF hi (Region.noSelect_spec h1) j fuel l a w (Region.free_spec hi n) (by simpa using o) k h
def lU (md:Region.Mode) (ops:Array Oper) (l l':Array Bool) (i:Nat):Bool:=(Region.ready md ops l==[i])&&(l.setIfInBounds i true==l')
theorem kj {i:Nat} {N:Option Tmp} {b:Oper} {fuel:Nat} {l:Array Bool} {a:Act} {w:World} (l':Array Bool) (hi:ops[i]? =some b) (g:b.dst=N) (e:lU md ops l l' i=true) (hd:i∉ds)
    (h:∀K:Act->World->Prop,Shut (∀a' w',S w'->(S w'->cU P md ops Q S ds fuel l' a' w')->K a' w')->if Region.wanted b (yielded ops a.tmps)=true then Oper.wp P b a w K Q else K (a.put N undef) w):
    cU P md ops Q S ds (fuel+1) l a w:=by
  subst g;simp only[lU,Bool.and_eq_true,beq_iff_eq] at e;obtain⟨h1,j⟩:=e;subst j;exact te h1 (by simp) (gR.cons hi hd (fun K k=>h K k) gR.nil)
theorem zP {i:Nat} {N:Option Tmp} {b:Oper} {fuel:Nat} {l:Array Bool} {a:Act} {w:World} (l':Array Bool) (hi:ops[i]? =some b) (g:b.dst=N) (e:lU md ops l l' i=true) (hd:i∈ds)
    (h:∀K:Act->World->Prop,Shut (∀a' w',cU P md ops Q S ds fuel l' a' w'->K a' w')->if Region.wanted b (yielded ops a.tmps)=true then Oper.wp P b a w K Q else K (a.put N undef) w):
    cU P md ops Q S ds (fuel+1) l a w:=by
  subst g;simp only[lU,Bool.and_eq_true,beq_iff_eq] at e;obtain⟨h1,j⟩:=e;subst j;exact te h1 (by simp) (gR.zO hi hd (fun K k=>h K k) gR.nil)
theorem ot {l:Array Bool} {a:Act} {w:World} {n:Nat} (b:(Region.ready md ops l==[])=true) (h:Q .normal a w):cU P md ops Q S ds n l a w:=zJ (by simpa using b) h n
theorem kl {fuel:Nat} {l:Array Bool} {a a':Act} {w:World} (b:a=a') (h:cU P md ops Q S ds fuel l a' w):cU P md ops Q S ds fuel l a w:=by
  subst b;exact h
theorem zQ {b:Oper} {N:Option Tmp} {a:Act} {w:World} {K:Act->World->Prop} (f:FuncId) (args:Array Value) (hw:Region.wanted b (yielded ops a.tmps)=true) (g:b.dst=N) (i:(execOp a.eval b).run P w= .ok (.enter f args) w)
    (h:Calls P f args w fun e w'=>∃v,e= .returned v/\K (a.put N v) w'):if Region.wanted b (yielded ops a.tmps)=true then Oper.wp P b a w K Q else K (a.put N undef) w:=by
  rw[if_pos hw];subst g;unfold Oper.wp;rw[i,Oper.upon_enter];refine h.mono fun e k j=>?_
  obtain⟨v,rfl,hk⟩:=j;exact hk
theorem tf {f:FuncId} {fn:Func} (hf:P.funcs[f]? =some fn) (a:(fn.name== "runtime.NumGoroutine")=false) (hb:fn.body.isSome=true) (args:Array Value) (w:World):(callFunc f args).run P w= .ok (.enter f args) w:=by
  have h1:fn.name≠ "runtime.NumGoroutine":=by simpa using a
  obtain⟨c,b⟩:=Option.isSome_iff_exists.1 hb;simp[callFunc,hf,h1,b]
theorem kQ {b:Oper} {N:Option Tmp} {a:Act} {w:World} {K:Act->World->Prop} {f:FuncId} {fn:Func} {g:Array Operand} {i:Array TypeId} (hf:P.funcs[f]? =some fn) (j:(fn.name== "runtime.NumGoroutine")=false) (hb:fn.body.isSome=true) (args:Array Value)
    (hw:Region.wanted b (yielded ops a.tmps)=true) (k:b.dst=N) (l:b.op= .call {callee:=.value (.func f),args:=g,argTypes:=i}) (m:g.map a.eval=args)
    (h:Calls P f args w fun e w'=>∃v,e= .returned v/\K (a.put N v) w'):if Region.wanted b (yielded ops a.tmps)=true then Oper.wp P b a w K Q else K (a.put N undef) w:=by
  refine zQ f args hw k ?_ h;have he:=tf hf j hb args w;unfold execOp;simp[l,resolve,Deferred.ofValue,invoke,Act.eval,m,he]
theorem tg {rest:List Oper} {b:Oper} {a:Act} {w:World} (N:Option Tmp) (hd:b.dst=N) (i:b.guard=none) {f:FuncId} {fn:Func} {g:Array Operand} {j:Array TypeId} (hf:P.funcs[f]? =some fn) (k:(fn.name== "runtime.NumGoroutine")=false) (hb:fn.body.isSome=true) (args:Array Value)
    (l:b.op= .call {callee:=.value (.func f),args:=g,argTypes:=j}) (m:g.map a.eval=args)
    (h:Calls P f args w fun e w'=>∃v,e= .returned v/\wpList P ops Q rest (a.put N v) w'):wpList P ops Q (b::rest) a w:=by
  refine wpList_plain i fun K n=>?_
  have he:=tf hf k hb args w;have o:(execOp a.eval b).run P w= .ok (.enter f args) w:=by
    unfold execOp;simp[l,resolve,Deferred.ofValue,invoke,Act.eval,m,he]
  unfold Oper.wp;rw[o,Oper.upon_enter];refine h.mono fun e q p=>?_
  obtain⟨v,rfl,hk⟩:=p;subst hd;exact n _ _ hk
theorem zU {b:Oper} {a:Act} {w w1:World} {K:Act->World->Prop} (hw:Region.wanted b (yielded ops a.tmps)=true) (e:b.dst=none) (g:(execOp a.eval b).run P w= .ok .skip w1)
    (h:K a w1):if Region.wanted b (yielded ops a.tmps)=true then Oper.wp P b a w K Q else K (a.put none undef) w:=by
  rw[if_pos hw];unfold Oper.wp;rw[g];show K (a.put b.dst undef) w1
  rw[e];exact h
theorem bG (n:Int):IntKind.i64.wrap n=Go.RowKit.wrap64 n:=by unfold Go.RowKit.wrap64;exact IntKind.wrap_i64 n
theorem bL (n:Int):IntKind.i32.wrap n=Go.RowKit.wrap32 n:=by unfold Go.RowKit.wrap32;exact IntKind.wrap_i32 n
end
end Go.Proofs.YtffdiakgjakngaaGreatW.PrintLast
end
section
namespace Go.Proofs.YtffdiakgjakngaaGreatW.PrintWords
open Go.RowKit
namespace Kd
section
variable {α:Type} {d:Kd α} {e base g o n cap:Nat} {ok okp:Nat->Prop} {w W:World} {v:Value} {xs:List α}
theorem zV (h:d.Q e w base ok v xs) (hp:0<xs.length):∃g o cap,v= .slice (some ⟨g,o,none⟩) xs.length cap/\base<=g/\g<w.heap.size/\∃cells,w.heap[g]? =some (.cells cells e (0,0)):=by
  obtain⟨i,inner,b,j⟩:=h;rcases b.2 with⟨h1,_⟩|⟨g,off,cap,cur,rfl,hb,a,r⟩
  · omega
  · exact⟨g,off*d.sz,cap,rfl,hb,aA a,cur,a⟩
theorem zW (h:d.Q e W base ok (.slice (some ⟨g,o,none⟩) n cap) xs) (z:α) (i:Int) (q:0<=i) (h1:i<n):
    ∃c,c.length=d.sz/\d.M W base (fun k=>ok k/\k≠g) (xs.getD i.toNat z) c/\(∀j u,c[j]? =some u->W.cell? ⟨g,o+i.toNat*d.sz+j,none⟩=some u)/\∀j,W.frozen? ⟨g,o+i.toNat*d.sz+j,none⟩=false:=by
  obtain⟨hn,r,hC⟩:=sY h;obtain⟨_,inner,l,m⟩:=h;have a:i.toNat<xs.length:=by omega
  have s:i.toNat*d.sz+d.sz<=inner.length:=by rw[m.1,<-Nat.succ_mul];exact Nat.mul_le_mul_right _ a
  have p:=m.2 i.toNat _ (List.getElem?_eq_getElem a);refine⟨(inner.drop (i.toNat*d.sz)).take d.sz,by rw[List.length_take,List.length_drop];omega,?_,fun j u hu=>?_,fun j=>?_⟩
  · rw[List.getD_eq_getElem?_getD,List.getElem?_eq_getElem a]
    exact d.cH (fun k hk=>⟨hk.1,fun he=>hk.2 (by rw[he];simp[Value.ownBlock])⟩) p
  · rw[List.getElem?_take] at hu
    split at hu
    · rw[List.getElem?_drop] at hu
      subst hn;obtain⟨ad,he,b⟩:=sT l (by omega);injection he with he
      subst he;have:=b _ u hu;rwa [iN,<-Nat.add_assoc] at this
    · cases hu
  · obtain⟨_,cells,b⟩:=kL l g (by simp[Value.ownBlock])
    exact bt b _
end
section
variable {α:Type} {enc:α->Value} {h1:∀x,(enc x).oneCell'=true} {e base g o n cap:Nat} {ok:Nat->Prop} {W:World} {xs:List α}
theorem zY (d:α) (h:(scalar enc h1).Q e W base ok (.slice (some ⟨g,o,none⟩) n cap) xs) (i:Int) (j:0<=i) (hi:i<n):W.cell? ⟨g,o+i.toNat,none⟩=some (enc (bW d xs i))/\W.frozen? ⟨g,o+i.toNat,none⟩=false:=by
  obtain⟨c,_,k,l,hf⟩:=zW h d i j hi;have m:c=[enc (xs.getD i.toNat d)]:=k;subst m;have a:=l 0 _ rfl;have b:=hf 0;rw[show (scalar enc h1).sz=1 from rfl,Nat.mul_one,Nat.add_zero] at a b;exact⟨a,b⟩
end
end Kd
end Go.Proofs.YtffdiakgjakngaaGreatW.PrintWords
end
section
namespace Go.Proofs.YtffdiakgjakngaaGreatW.PrintWords
open Go.RowKit
namespace Kd
def tag {α:Type} (f:Nat->Nat) (d:Kd α):Kd (α×Nat) where
  sz:=d.sz
  E:=d.E
  K:=fun w x cs=>d.K w x.1 cs
  M:=fun w base ok x cs=>d.M w base (fun k=>ok k/\f k=x.2) x.1 cs
  dX:=fun h=>d.dX h
  eo:=fun h=>d.eo h
  gO:=fun hb h=>d.gO hb h
  dc:=fun h=>d.dc h
  cH:=fun a h=>d.cH (fun k hk=>⟨a k hk.1,hk.2⟩) h
  eE:=fun h=>d.cH (fun _ hk=>⟨⟨hk.1.1,hk.2⟩,hk.1.2⟩) (d.eE h)
  eJ:=fun hm h=>d.eJ (fun k hk=>hm k hk.1) h
  gP:=fun hb h=>d.gP hb h
def raw (sz:Nat):Kd (List Value) where
  sz:=sz
  E:=[]
  K:=fun _ x cs=>cs=x/\cs.length=sz/\∀u∈cs,u.oneCell'=true
  M:=fun _ _ _ x cs=>cs=x/\cs.length=sz/\∀u∈cs,u.oneCell'=true
  dX:=fun h=>h.2.1
  eo:=fun h=>h.2.2
  gO:=fun _ h=>h
  dc:=fun h=>h
  cH:=fun _ h=>h
  eE:=fun h=>h
  eJ:=fun _ h=>h
  gP:=fun _ h=>h
def S {α:Type} (d:Kd α) (e:Nat) (w:World) (base:Nat) (ok:Nat->Prop) (v:Value) (xs:List α):Prop:=∃f,(tag f d).R e w base ok v xs.zipIdx
section
variable {α β:Type} {d:Kd α} {d':Kd β} {e e':Nat} {w w1 W:World} {base b:Nat} {ok ok' okv oku:Nat->Prop} {u v:Value} {xs:List α} {ys:List β}
theorem kn {xs:List α} {j:Nat} {p:α} (h:xs[j]? =some p):xs.zipIdx[j]? =some (p,j):=by rw[List.getElem?_zipIdx,h,Nat.zero_add];rfl
theorem kR (h:S d e w base ok v xs):d.R e w base ok v xs:=by
  obtain⟨f,g,inner,a,b⟩:=h;rw[List.length_zipIdx] at a;exact⟨g,inner,a,by have:=b.1;rw[List.length_zipIdx] at this;exact this,fun j p i=>d.cH (fun _ hk=>hk.1) (b.2 j (p,j) (kn i))⟩
theorem lV {ad:Addr} {n cap:Nat} (h:d.R e w base ok (.slice (some ad) n cap) xs):∃g,ad=⟨g,0,none⟩:=by
  obtain⟨_,inner,i,j⟩:=h;rcases i.2 with⟨a,_⟩|⟨g,k,cur,a,_⟩
  · cases a
  · injection a with b _ _
    injection b with b
    exact⟨g,b⟩
theorem gS (b:d.E=[]) (h:d.R e w base ok v xs):d.R e w base (fun k=>some k=v.ownBlock) v xs:=by
  obtain⟨j,inner,g,i⟩:=h;refine⟨fun k hk=>hk.symm,inner,g,i.fz (fun p c hp=>d.cH (fun k hk=>?_) (d.eE hp))⟩;obtain⟨_,_,_,q,a,_⟩:=hk;rw[b] at a;cases a
theorem gw (d:Kd α) (e:Nat) (w:World) (base:Nat) (ok:Nat->Prop):S d e w base ok (.slice none 0 0) []:=⟨fun _=>0,dh _ _ _ _ _⟩
theorem kS (h:S d e w base ok v xs) (a:∀k,ok k->ok' k):S d e w base ok' v xs:=by
  obtain⟨f,h⟩:=h;exact⟨f,bb h a⟩
theorem mQ (h:S d e w base ok v xs):S d e w base (fun k=>ok k/\base<=k/\k<w.heap.size/\∃q,q∈e::d.E/\∃cells,w.heap[k]? =some (.cells cells q (0,0))) v xs:=by
  obtain⟨f,h⟩:=h;exact⟨f,eV h⟩
theorem zZ (h:S d e w base ok v xs) (hm:∀k,ok k->w1.heap[k]? =w.heap[k]?):S d e w1 base ok v xs:=by
  obtain⟨f,h⟩:=h;exact⟨f,fB h hm⟩
theorem p4 (h:S d e w base ok v xs) (hm:∀k,ok k->k<w.heap.size->w1.heap[k]? =w.heap[k]?):S d e w1 base ok v xs:=
  kS (zZ (mQ h) (fun k hk=>hm k hk.1 hk.2.2.1)) (fun _ hk=>hk.1)
theorem ou (h:S d e w base ok v xs) (hb:Below w.heap.size w w1):S d e w1 base ok v xs:=p4 h (fun k _ hk=>hb.block k hk)
theorem p5 (h:S d e w base ok v xs) (o:Obj):S d e (w.alloc o) base ok v xs:=ou h (ao (Below.refl _ _) o)
theorem th (h:S d e w base ok v xs):S d e w.drew base ok v xs:=ou h (ig (Below.refl _ _))
theorem z8 (h:S d e w base ok v xs) (m:Nat):S d e (w.drewN m) base ok v xs:=ou h (bY (Below.refl _ _) m)
theorem ti (h:S d e w base ok v xs) {row:Option Nat} (a:w.grownBy w1 row) (b:∀k,ok k->some k≠row):S d e w1 base ok v xs:=p4 h (fun k g hk=>a.block k hk (b k g))
theorem z_ (h:S d e w base ok v xs) {p:Addr} (a:∀k,ok k->k≠p.block) (u:Value):S d e (w.setCell p u) base ok v xs:=p4 h (fun k b _=>Below.heap_setCell w p u k (a k b))
theorem z' (h:S d e w base ok v xs) {g t:Nat} {cells:Array Value} (hb:w.heap[g]? =some (.cells cells t (0,0))) (a:∀q,q∈e::d.E->q≠t):S d e w base (fun k=>ok k/\k≠g) v xs:=by
  obtain⟨f,h⟩:=h;exact⟨f,ij h hb a⟩
theorem p6 (h:S d e w base ok v xs) {g t:Nat} {cells:Array Value} (hb:w.heap[g]? =some (.cells cells t (0,0))) (a:∀q,q∈e::d.E->q≠t) (j:Nat) (u:Value):S d e (w.setCell ⟨g,j,none⟩ u) base ok v xs:=
  kS (z_ (p:=⟨g,j,none⟩) (z' h hb a) (fun _ hk=>hk.2) u) (fun _ hk=>hk.1)
theorem ow (h:S d e w base ok v xs):∀k,v.ownBlock=some k->∃cells,w.heap[k]? =some (.cells cells e (0,0)):=gQ (kR h)
theorem Aa (h:S d e w base ok v xs):∀k,v.ownBlock=some k->k<w.heap.size:=a_ (kR h)
theorem Ab {f a:Nat->Nat} {zs:List (α×Nat)} (h:(tag f d).R e w base ok v zs) (hf:∀k,ok k->k<w.heap.size->a k=f k):(tag a d).R e w base ok v zs:=by
  obtain⟨g,inner,i,b⟩:=eV h;exact⟨fun k hk=>(g k hk).1,inner,i,b.1,fun j p l=>d.cH (fun k hk=>⟨⟨hk.1.1.1,hk.1.2⟩,(hf k hk.1.1.1 hk.1.1.2.2.1).trans hk.2⟩) (b.2 j p l)⟩
end
section
variable {α β:Type} {d:Kd α} {d':Kd β} {e e' g:Nat} {w w1 W:World} {base b:Nat} {ok ok' okv oku:Nat->Prop} {u v:Value} {xs:List α} {ys:List β}
theorem Af (h:S d e w base ok v xs) {t:Nat} {cells:Array Value} (hb:w.heap[g]? =some (.cells cells t (0,0))) (a:e≠t):some g≠v.ownBlock:=dj (kR h) hb a
theorem p9 (h:S d e w base ok v xs) (hp:0<xs.length):∃g cap,v= .slice (some ⟨g,0,none⟩) xs.length cap/\base<=g/\g<w.heap.size/\∃cells,w.heap[g]? =some (.cells cells e (0,0)):=fK (kR h) hp
theorem lW (h:S d e w base ok v xs):∃A c,v= .slice A xs.length c:=bm (kR h)
theorem tj (xs:List α) (p:α):(xs++[p]).zipIdx=xs.zipIdx++[(p,xs.length)]:=by rw[List.zipIdx_append];simp
end
section
open Classical in
theorem tk {α:Type} {d:Kd α} {e base:Nat} {okv:Nat->Prop} {w:World} {v:Value} {xs:List α} (h:S d e w base okv v xs) (m:Nat) (okp:Nat->Prop) (a:∀k,okp k->¬okv k):∃f,(∀k,okp k->f k=m)/\(tag f d).R e w base okv v xs.zipIdx:=by
  obtain⟨f,h⟩:=h;exact⟨fun k=>if okp k then m else f k,fun k hk=>if_pos hk,Ab h (fun k hk _=>if_neg (fun b=>a k b hk))⟩
variable {P:Program} {ops:Array Oper} {rest:List Oper} {o:Oper} {a:Act} {Q:Exit->Act->World->Prop} {Kc:Act->World->Prop} {α:Type}
theorem Ag (d:Kd α) {w0 W:World} (base:Nat) (j:o.guard=none) (s x:Operand) (t e:TypeId) (z:Value) (bytes:Nat)
    (l:o.op= .call {callee:=.builtin .append,args:=#[s,x],argTypes:=#[t,t]})
    (m:P.underlying t=some (.slice e)) (n:(P.info? e).map (fun i=>(i.zero,i.size,i.bytes))=some (some z,d.sz,bytes)) (q:z.cells.size=d.sz) (r:0<d.sz) (u:0<bytes)
    (v:Value) (xs:List α) (p:α) (cs:List Value) (ok okp:Nat->Prop) (w:a.eval s=v) (y:a.eval x= .slice (some ⟨W.heap.size,0,none⟩) 1 1) (hp:d.M W base okp p cs) (B:∀k,okp k->ok k/\some k≠v.ownBlock) (C:∀k,W.heap.size<=k->ok k)
    (D:S d e W base (fun k=>ok k/\¬okp k) v xs) (E:Below base w0 W) (F:base<=W.heap.size) (G:(xs.length+1)*bytes<=140737488355328)
    (h:∀v1 w1,S d e w1 base ok v1 (xs++[p])->Below base w0 w1->W.grownBy w1 v.ownBlock->(v1.ownBlock=v.ownBlock\/∃b,v1.ownBlock=some b/\W.heap.size<=b)->wpList P ops Q rest (a.put o.dst v1) w1):
    wpList P ops Q (o::rest) a (W.alloc (.cells cs.toArray e)):=by
  obtain⟨f,hf,H⟩:=tk D xs.length okp (fun _ hk I=>I.2 hk);refine mJ (tag f d) base j s x t e z bytes l m n q r u v xs.zipIdx (p,xs.length) cs ok okp w y (d.cH (fun k hk=>⟨hk,hf k hk⟩) hp) B C (bb H (fun _ hk=>hk.1)) E F (by rw[List.length_zipIdx];exact G) ?_;intro v1 w1 g;rw[<-tj] at g;exact h v1 w1 ⟨f,g⟩
theorem Ah (d:Kd α) {w0 W:World} (base:Nat) (hw:Region.wanted o (yielded ops a.tmps)=true) (s x:Operand) (t e:TypeId) (z:Value) (bytes:Nat)
    (j:o.op= .call {callee:=.builtin .append,args:=#[s,x],argTypes:=#[t,t]})
    (l:P.underlying t=some (.slice e)) (m:(P.info? e).map (fun i=>(i.zero,i.size,i.bytes))=some (some z,d.sz,bytes)) (n:z.cells.size=d.sz) (q:0<d.sz) (r:0<bytes)
    (v:Value) (xs:List α) (p:α) (cs:List Value) (ok okp:Nat->Prop) (u:a.eval s=v) (w:a.eval x= .slice (some ⟨W.heap.size,0,none⟩) 1 1) (hp:d.M W base okp p cs) (y:∀k,okp k->ok k/\some k≠v.ownBlock) (B:∀k,W.heap.size<=k->ok k)
    (C:S d e W base (fun k=>ok k/\¬okp k) v xs) (D:Below base w0 W) (E:base<=W.heap.size) (F:(xs.length+1)*bytes<=140737488355328)
    (h:∀v1 w1,S d e w1 base ok v1 (xs++[p])->Below base w0 w1->W.grownBy w1 v.ownBlock->(v1.ownBlock=v.ownBlock\/∃b,v1.ownBlock=some b/\W.heap.size<=b)->Kc (a.put o.dst v1) w1):
    if Region.wanted o (yielded ops a.tmps)=true then Oper.wp P o a (W.alloc (.cells cs.toArray e)) Kc Q else Kc (a.put o.dst undef) (W.alloc (.cells cs.toArray e)):=by
  obtain⟨f,hf,G⟩:=tk C xs.length okp (fun _ hk H=>H.2 hk);refine pT (tag f d) base hw s x t e z bytes j l m n q r v xs.zipIdx (p,xs.length) cs ok okp u w (d.cH (fun k hk=>⟨hk,hf k hk⟩) hp) y B (bb G (fun _ hk=>hk.1)) D E (by rw[List.length_zipIdx];exact F) ?_;intro v1 w1 g;rw[<-tj] at g;exact h v1 w1 ⟨f,g⟩
end
def ko {α:Type} (f:Nat->Nat) (d:Kd α) (i:Nat) (c:List Value):Kd (α×Nat) where
  sz:=d.sz
  E:=d.E
  K:=fun w x cs=>(x.2=i->cs=c/\cs.length=d.sz/\∀u∈cs,u.oneCell'=true)/\(x.2≠i->d.K w x.1 cs)
  M:=fun w base ok x cs=>(x.2=i->cs=c/\cs.length=d.sz/\∀u∈cs,u.oneCell'=true)/\(x.2≠i->d.M w base (fun k=>ok k/\f k=x.2) x.1 cs)
  dX:=fun {w x cs} h=>by
    by_cases a:x.2=i
    · exact(h.1 a).2.1
    · exact d.dX (h.2 a)
  eo:=fun {w x cs} h=>by
    by_cases a:x.2=i
    · exact(h.1 a).2.2
    · exact d.eo (h.2 a)
  gO:=fun hb h=>⟨h.1,fun a=>d.gO hb (h.2 a)⟩
  dc:=fun h=>⟨h.1,fun a=>d.dc (h.2 a)⟩
  cH:=fun b h=>⟨h.1,fun a=>d.cH (fun k hk=>⟨b k hk.1,hk.2⟩) (h.2 a)⟩
  eE:=fun h=>⟨h.1,fun a=>d.cH (fun _ hk=>⟨⟨hk.1.1,hk.2⟩,hk.1.2⟩) (d.eE (h.2 a))⟩
  eJ:=fun hm h=>⟨h.1,fun a=>d.eJ (fun k hk=>hm k hk.1) (h.2 a)⟩
  gP:=fun hb h=>⟨h.1,fun a=>d.gP hb (h.2 a)⟩
def H {α:Type} (d:Kd α) (e:Nat) (w:World) (base:Nat) (ok:Nat->Prop) (v:Value) (xs:List α) (i:Int) (oki:Nat->Prop) (c:List Value):Prop:=
  (∀k,oki k->ok k)/\∃f,(ko f d i.toNat c).R e w base (fun k=>ok k/\¬oki k) v xs.zipIdx
section
variable {α β:Type} {d:Kd α} {e e' g n cap:Nat} {w w1 W:World} {base:Nat} {ok ok' oki okp:Nat->Prop} {u v:Value} {xs:List α} {i:Int} {c:List Value}
theorem tl (h:S d e W base ok (.slice (some ⟨g,0,none⟩) n cap) xs) (z:α) (i:Int) (C:0<=i) (h1:i<n):
    ∃(oki:Nat->Prop) (c:List Value),c.length=d.sz/\d.M W base oki (xs.getD i.toNat z) c/\(∀j u,c[j]? =some u->W.cell? ⟨g,i.toNat*d.sz+j,none⟩=some u)/\(∀k,oki k->ok k/\k≠g)/\H d e W base ok (.slice (some ⟨g,0,none⟩) n cap) xs i oki c:=by
  obtain⟨f,s⟩:=h;have hn:=(aQ s).1;rw[List.length_zipIdx] at hn;have b:some g=(Value.slice (some ⟨g,0,none⟩) n cap).ownBlock:=by simp[Value.ownBlock]
  obtain⟨x,inner,v,a⟩:=s;have l:i.toNat<xs.length:=by omega
  have hlen:inner.length=xs.length*d.sz:=by have:=a.1;rw[List.length_zipIdx] at this;exact this
  have D:i.toNat*d.sz+d.sz<=inner.length:=by rw[hlen,<-Nat.succ_mul];exact Nat.mul_le_mul_right _ l
  have o:=a.2 i.toNat _ (kn (List.getElem?_eq_getElem l));have y:∀k,some k≠(Value.slice (some ⟨g,0,none⟩) n cap).ownBlock->k≠g:=fun k hk he=>hk (by rw[he];exact b)
  refine⟨fun k=>(ok k/\k≠g)/\f k=i.toNat,(inner.drop (i.toNat*d.sz)).take d.sz,by rw[List.length_take,List.length_drop];omega,?_,fun j u hu=>?_,fun k hk=>hk.1,fun k hk=>hk.1.1,f,fun k hk=>⟨x k hk,fun r=>r.1.2 ?_⟩,inner,v,a.1,fun m p hm=>?_⟩
  · rw[List.getD_eq_getElem?_getD,List.getElem?_eq_getElem l]
    exact d.cH (fun k hk=>⟨⟨hk.1.1,y k hk.1.2⟩,hk.2⟩) o
  · rw[List.getElem?_take] at hu
    split at hu
    · rw[List.getElem?_drop] at hu
      have:=v.cells (g:=g) b.symm _ u hu;rwa [add_plain] at this
    · cases hu
  · rw[<-b] at hk;injection hk with hk;exact hk.symm
  · have hold:=a.2 m p hm
    have E:p.2=m:=by
      rw[List.getElem?_zipIdx,Nat.zero_add] at hm;obtain⟨q,_,rfl⟩:=Option.map_eq_some_iff.1 hm;rfl
    refine⟨fun w=>?_,fun w=>d.cH (fun k hk=>⟨⟨⟨hk.1.1,fun r=>w ?_⟩,hk.1.2⟩,hk.2⟩) hold⟩
    · have B:m=i.toNat:=by omega
      subst B;exact⟨rfl,d.dX (d.dc o),d.eo (d.dc o)⟩
    · rw[<-hk.2];exact r.2
open Classical in
theorem tn (h:H d e w base ok v xs i oki c) {x':α} (r:d.M w base okp x' c) (b:∀k,okp k->oki k):S d e w base ok v (xs.set i.toNat x'):=by
  obtain⟨s,f,l,inner,n,g⟩:=h;refine⟨fun k=>if oki k then i.toNat else f k,fun k hk=>(l k hk).1,inner,by rw[List.length_zipIdx,List.length_set];rw[List.length_zipIdx] at n;exact n,by have:=g.1;rw[List.length_zipIdx] at this;rw[List.length_zipIdx,List.length_set];exact this,fun m p hm=>?_⟩;rw[List.getElem?_zipIdx,Nat.zero_add] at hm;obtain⟨q,a,rfl⟩:=Option.map_eq_some_iff.1 hm;have o:m<xs.length:=by
    have:=(List.getElem?_eq_some_iff.1 a).1;rwa [List.length_set] at this
  by_cases j:m=i.toNat
  · subst j
    rw[List.getElem?_set_self o] at a;injection a with a
    subst a;have u:=((g.2 i.toNat _ (kn (List.getElem?_eq_getElem o))).1 rfl).1;show d.M w base _ x' ((inner.drop (i.toNat*d.sz)).take d.sz)
    rw[show (inner.drop (i.toNat*d.sz)).take d.sz=c from u];exact d.cH (fun k hk=>⟨⟨s k (b k hk),fun he=>(l k he.symm).2 (b k hk)⟩,if_pos (b k hk)⟩) r
  · rw[List.getElem?_set_ne (Ne.symm j)] at a
    exact d.cH (fun k hk=>⟨⟨hk.1.1.1,hk.1.2⟩,(if_neg hk.1.1.2).trans hk.2⟩) ((g.2 m (q,m) (kn a)).2 j)
theorem tp (h:H d e w base ok v xs i oki c) (hm:∀k,ok k->¬oki k->k<w.heap.size->w1.heap[k]? =w.heap[k]?):H d e w1 base ok v xs i oki c:=by
  obtain⟨a,f,h⟩:=h;exact⟨a,f,lQ h (fun k hk b=>hm k hk.1 hk.2 b)⟩
theorem tq (h:H d e w base ok v xs i oki c) {row:Option Nat} (a:w.grownBy w1 row) (b:∀k,row=some k->oki k):H d e w1 base ok v xs i oki c:=
  tp h (fun k _ hn g=>a.block k g (fun he=>hn (b k he.symm)))
theorem Ai (h:H d e w base ok v xs i oki c) (hb:Below w.heap.size w w1):H d e w1 base ok v xs i oki c:=tp h (fun k _ _ a=>hb.block k a)
theorem Am (h:H d e w base ok v xs i oki c):H d e w.drew base ok v xs i oki c:=Ai h (ig (Below.refl _ _))
theorem Ap {okg:Nat->Prop} (h:H d e w base (fun k=>ok k/\¬okg k) v xs i oki c) (b:∀k,okg k->ok k):H d e w base ok v xs i (fun k=>oki k\/okg k) c:=by
  obtain⟨g,f,h⟩:=h;exact⟨fun k hk=>hk.elim (fun a=>(g k a).1) (b k),f,bb h (fun k hk=>⟨hk.1.1,fun a=>a.elim hk.2 hk.1.2⟩)⟩
theorem Aq {ad:Addr} (h:S d e W base ok (.slice (some ad) n cap) xs) (z:α) (i:Int) (b:0<=i) (h1:i<n):
    ∃(oki:Nat->Prop) (c:List Value),c.length=d.sz/\d.M W base oki (xs.getD i.toNat z) c/\(∀j u,c[j]? =some u->W.cell? (ad.add (i.toNat*d.sz+j))=some u)/\(∀k,oki k->ok k/\some k≠(Value.slice (some ad) n cap).ownBlock)/\
      ∀{w1:World} {row:Option Nat} {x':α},W.grownBy w1 row->(∀k,row=some k->oki k)->d.M w1 base oki x' c->S d e w1 base ok (.slice (some ad) n cap) (xs.set i.toNat x'):=by
  obtain⟨g,rfl⟩:=lV (kR h);obtain⟨oki,c,l,m,o,a,hH⟩:=tl h z i b h1;refine⟨oki,c,l,m,fun j u hu=>?_,fun k hk=>⟨(a k hk).1,fun he=>(a k hk).2 ?_⟩,fun p q r=>tn (tq hH p q) r (fun _ hk=>hk)⟩
  · rw[iN,Nat.zero_add]
    exact o j u hu
  · simpa [Value.ownBlock] using he
theorem tr (h:S d e W base ok (.slice (some ⟨g,0,none⟩) n cap) xs) (z:α) (i:Int) (a:0<=i) (h1:i<n):
    ∃(oki:Nat->Prop) (c:List Value),c.length=d.sz/\d.M W base oki (xs.getD i.toNat z) c/\(∀j u,c[j]? =some u->W.cell? ⟨g,i.toNat*d.sz+j,none⟩=some u)/\(∀j,W.frozen? ⟨g,i.toNat*d.sz+j,none⟩=false)/\(∀k,oki k->ok k/\k≠g)/\H d e W base ok (.slice (some ⟨g,0,none⟩) n cap) xs i oki c:=by
  obtain⟨_,_,_,_,b⟩:=s8 (kR h) z i a h1;obtain⟨oki,c,l,m,o,p,hH⟩:=tl h z i a h1;exact⟨oki,c,l,m,o,b,p,hH⟩
theorem As (h:H d e W base ok (.slice (some ⟨g,0,none⟩) n cap) xs i oki c) (S:0<=i) (h1:i<n):
    ∃rows:List (List Value),rows.length=xs.length/\(raw d.sz).R e W base (fun _=>True) (.slice (some ⟨g,0,none⟩) n cap) rows/\c.length=d.sz/\(∀u∈c,u.oneCell'=true)/\(∀j u,c[j]? =some u->W.cell? ⟨g,i.toNat*d.sz+j,none⟩=some u)/\
      ∀w1 b,W.grownBy w1 (some g)->(raw d.sz).R e w1 base (fun _=>True) (.slice (some ⟨g,0,none⟩) n cap) (rows.set i.toNat b)->H d e w1 base ok (.slice (some ⟨g,0,none⟩) n cap) xs i oki b:=by
  obtain⟨G,f,x⟩:=h;have hn:=(aQ x).1;rw[List.length_zipIdx] at hn;have y:some g=(Value.slice (some ⟨g,0,none⟩) n cap).ownBlock:=by simp[Value.ownBlock]
  obtain⟨I,inner,s,a⟩:=x;have z:i.toNat<xs.length:=by omega
  have hlen:inner.length=xs.length*d.sz:=by have:=a.1;rw[List.length_zipIdx] at this;exact this
  have J:∀k,some k≠(Value.slice (some ⟨g,0,none⟩) n cap).ownBlock->k≠g:=fun k hk he=>hk (by rw[he];exact y)
  have l:=(a.2 i.toNat _ (kn (List.getElem?_eq_getElem z))).1 rfl;rw[l.1] at l;have K:=((a.2 i.toNat _ (kn (List.getElem?_eq_getElem z))).1 rfl).1;refine⟨(List.range xs.length).map fun j=>(inner.drop (j*d.sz)).take d.sz,by rw[List.length_map,List.length_range],⟨fun _ _=>trivial,inner,?_,?_,fun j p B=>?_⟩,l.2.1,l.2.2,fun j u hu=>?_,fun w1 b L N=>?_⟩
  · rw[List.length_map,List.length_range];rw[List.length_zipIdx] at s;exact s
  · rw[List.length_map,List.length_range];exact hlen
  · rw[List.getElem?_map] at B
    obtain⟨T,O,rfl⟩:=Option.map_eq_some_iff.1 B;obtain⟨C,he⟩:=List.getElem?_eq_some_iff.1 O;rw[List.getElem_range] at he;subst he;rw[List.length_range] at C;have hm:=(ko f d i.toNat c).dc (a.2 j _ (kn (List.getElem?_eq_getElem C)));exact⟨rfl,(ko f d i.toNat c).dX hm,(ko f d i.toNat c).eo hm⟩
  · rw[<-K,List.getElem?_take] at hu
    split at hu
    · rw[List.getElem?_drop] at hu
      have:=s.cells (g:=g) y.symm _ u hu;rwa [add_plain] at this
    · cases hu
  · obtain⟨_,o,D,v⟩:=N
    have P:o.length=xs.length*d.sz:=by have:=v.1;rw[List.length_set,List.length_map,List.length_range] at this;exact this
    rw[List.length_set,List.length_map,List.length_range] at D;refine⟨G,f,I,o,by rw[List.length_zipIdx];exact D,by rw[List.length_zipIdx];exact P,fun m p hm=>?_⟩;rw[List.getElem?_zipIdx,Nat.zero_add] at hm;obtain⟨q,E,rfl⟩:=Option.map_eq_some_iff.1 hm;have F:m<xs.length:=(List.getElem?_eq_some_iff.1 E).1;have hold:=a.2 m (q,m) (kn E);refine⟨fun r=>?_,fun r=>?_⟩
    · have w:m=i.toNat:=r
      subst w;exact v.2 i.toNat b (List.getElem?_set_self (by rw[List.length_map,List.length_range];exact F))
    · have w:m≠i.toNat:=r
      have Q:=(v.2 m ((inner.drop (m*d.sz)).take d.sz) (by
        rw[List.getElem?_set_ne (Ne.symm w),List.getElem?_map,List.getElem?_eq_getElem (by rw[List.length_range];exact F),List.getElem_range];rfl)).1
      show d.M w1 base _ q ((o.drop (m*d.sz)).take d.sz)
      rw[show (o.drop (m*d.sz)).take d.sz=_ from Q];exact d.cH (fun k hk=>hk.1) (d.eJ (w1:=w1) (fun k hk=>L.block k hk.2.2.1 (fun he=>J k hk.1.1.2 (by injection he))) (d.eE (hold.2 r)))
theorem Au (h:H d e W base ok (.slice (some ⟨g,0,none⟩) n cap) xs i oki c) (a:0<=i) (h1:i<n) {seg:List Value} {j:Nat} (l:j+seg.length<=d.sz) (m:∀q∈seg,q.oneCell'=true):
    H d e (W.setCells g (i.toNat*d.sz+j) seg) base ok (.slice (some ⟨g,0,none⟩) n cap) xs i oki (c.take j++seg++c.drop (j+seg.length))/\W.grownBy (W.setCells g (i.toNat*d.sz+j) seg) (some g):=by
  obtain⟨rows,_,o,p,b,r,s⟩:=As h a h1;obtain⟨v,k⟩:=s9 o i a h1 (c:=c) (seg:=seg) (j:=j) (x':=c.take j++seg++c.drop (j+seg.length)) (okp:=fun _=>False) p r l
    ⟨rfl,by
      show (c.take j++seg++c.drop (j+seg.length)).length=d.sz
      simp only[List.length_append,List.length_take,List.length_drop];omega,fun u hu=>by
      rcases List.mem_append.1 hu with hu|hu
      · rcases List.mem_append.1 hu with hu|hu
        · exact b u (List.mem_of_mem_take hu)
        · exact m u hu
      · exact b u (List.mem_of_mem_drop hu)⟩ (fun _ hk=>hk.elim)
  exact⟨s _ _ k v,k⟩
theorem Aw {okg:Nat->Prop} (hH:H d e W base (fun k=>ok k/\¬okg k) (.slice (some ⟨g,0,none⟩) n cap) xs i oki c) (m:0<=i) (h1:i<n) {seg:List Value} {j:Nat} (o:j+seg.length<=d.sz)
    {x':α} (a:d.M W base okp x' (c.take j++seg++c.drop (j+seg.length))) (b:∀k,okp k->oki k\/okg k) (h:∀k,okg k->ok k/\k≠g):
    S d e (W.setCells g (i.toNat*d.sz+j) seg) base ok (.slice (some ⟨g,0,none⟩) n cap) (xs.set i.toNat x')/\W.grownBy (W.setCells g (i.toNat*d.sz+j) seg) (some g):=by
  have p:∀k,oki k\/okg k->k≠g:=by
    intro k hk he;subst he;rcases hk with hk|hk
    · obtain⟨_,f,r⟩:=hH
      exact(r.1 k (by simp[Value.ownBlock])).2 hk
    · exact(h k hk).2 rfl
  obtain⟨s,l⟩:=Au (Ap hH (fun k hk=>(h k hk).1)) m h1 o (fun q u=>d.eo (d.dc a) q (List.mem_append_left _ (List.mem_append_right _ u)));exact⟨tn s (pQ a (fun k hk v=>l.block k v (fun he=>p k (b k hk) (by injection he)))) b,l⟩
end
end Kd
end Go.Proofs.YtffdiakgjakngaaGreatW.PrintWords
end
section
namespace Go.Proofs.YtffdiakgjakngaaGreatW.PrintWords
open Go.RowKit
end Go.Proofs.YtffdiakgjakngaaGreatW.PrintWords
end
section
namespace Go.Proofs.YtffdiakgjakngaaGreatW.PrintWords
open Go.RowKit
end Go.Proofs.YtffdiakgjakngaaGreatW.PrintWords
end
section
namespace Go.Proofs.YtffdiakgjakngaaGreatW.PrintWords
open Go.RowKit
end Go.Proofs.YtffdiakgjakngaaGreatW.PrintWords
end
section
namespace Go.Proofs.YtffdiakgjakngaaGreatW.PrintWords
open Go.RowKit
end Go.Proofs.YtffdiakgjakngaaGreatW.PrintWords
end
section
namespace Go.Proofs.YtffdiakgjakngaaGreatW.PrintWords
open Go.RowKit
def dZ (P:World->Prop) (W:World) (ok:Nat->Prop):Prop:=∀W':World,(∀k,ok k->k<W.heap.size->W'.heap[k]? =W.heap[k]?)->P W'
theorem Ay {W W1:World} {k:Nat} (h:W1.heap[k]? =W.heap[k]?) (a:k<W.heap.size):k<W1.heap.size:=by
  rw[Array.getElem?_eq_getElem a] at h;exact(Array.getElem?_eq_some_iff.1 h).1
namespace dZ
variable {P Q:World->Prop} {W W1:World} {ok ok':Nat->Prop}
theorem now (h:dZ P W ok):P W:=h W (fun _ _ _=>rfl)
theorem mono (h:dZ P W ok) (a:∀k,ok k->ok' k):dZ P W ok':=fun W' b=>h W' (fun k hk e=>b k (a k hk) e)
theorem bound (h:dZ P W ok):dZ P W (fun k=>ok k/\k<W.heap.size):=fun W' b=>h W' (fun k hk a=>b k ⟨hk,a⟩ a)
theorem step (h:dZ P W ok) (hm:∀k,ok k->k<W.heap.size->W1.heap[k]? =W.heap[k]?):dZ P W1 ok:=fun W' b=>h W' (fun k hk a=>(b k hk (Ay (hm k hk a) a)).trans (hm k hk a))
theorem Az (h:dZ P W ok) (hb:Below W.heap.size W W1):dZ P W1 (fun k=>ok k/\k<W.heap.size):=(h.bound).step (fun k _ a=>hb.block k a)
end dZ
namespace Kd
def F {α:Type} (d:Kd α) (W:World) (ok:Nat->Prop) (A:Option Addr) (n:Nat) (xs:List α):Prop:=dZ (fun W=>d.C W A n xs) W ok
def FK {α:Type} (d:Kd α) (W:World) (ok:Nat->Prop) (x:α) (c:List Value):Prop:=dZ (fun W=>d.K W x c) W ok
section
variable {α β:Type} {d:Kd α} {e base n n' cc g N:Nat} {ok ok' okp S:Nat->Prop} {w w0 w1 W W1:World} {A A':Option Addr} {u v v1:Value} {xs:List α} {xs':List β} {d':Kd β} {x:α} {c:List Value}
theorem il (h:F d W ok A n xs):d.C W A n xs:=dZ.now h
theorem oA (h:F d W ok A n xs) (a:∀k,ok k->ok' k):F d W ok' A n xs:=dZ.mono h a
theorem AA (h:F d W ok A n xs):F d W (fun k=>ok k/\k<W.heap.size) A n xs:=dZ.bound h
theorem p_ (h:F d W ok A n xs) (hm:∀k,ok k->k<W.heap.size->W1.heap[k]? =W.heap[k]?):F d W1 ok A n xs:=dZ.step h hm
theorem lX (h:F d W ok A n xs) (hb:Below W.heap.size W W1):F d W1 ok A n xs:=p_ h (fun k _ a=>hb.block k a)
theorem AB (h:F d W ok A n xs) (m:Nat):F d (W.drewN m) ok A n xs:=lX h (bY (Below.refl _ _) m)
theorem AD (h:F d W ok A n xs):n<=9223372036854775807:=(il h).2.1
theorem AE (h:F d W ok A n xs) (a:∀k,v.ownBlock=some k->W.heap.size<=k) (hb:Below W.heap.size W W1):F d W1 (fun k=>ok k/\some k≠v.ownBlock) A n xs:=
  oA (dZ.Az h hb) (fun k hk=>⟨hk.1,fun he=>by have:=a k he.symm;have:=hk.2;omega⟩)
theorem AF (h:F d W (fun k=>ok k/\some k≠v.ownBlock) A n xs) (e:W.grownBy W1 v.ownBlock) (a:v1.ownBlock=v.ownBlock\/∃b,v1.ownBlock=some b/\W.heap.size<=b):F d W1 (fun k=>ok k/\some k≠v1.ownBlock) A n xs:=by
  refine oA (dZ.step (AA h) (fun k hk g=>e.block k g hk.1.2)) (fun k hk=>⟨hk.1.1,?_⟩);rcases a with a|⟨b,hb,hle⟩
  · rw[a];exact hk.1.2
  · rw[hb]
    intro he;injection he with he
    have:=hk.2;omega
theorem AG (h:d.R e W base ok (.slice A n cc) xs):F d W ok A n xs:=fun W' b=>by
  have a:=aQ (lQ h b);rw[a.1];exact a.2.2
theorem lY (h:FK d W ok x c):d.K W x c:=dZ.now h
theorem kT (h:FK d W ok x c) (a:∀k,ok k->ok' k):FK d W ok' x c:=dZ.mono h a
theorem tt (h:FK d W ok x c):FK d W (fun k=>ok k/\k<W.heap.size) x c:=dZ.bound h
theorem lZ (h:FK d W ok x c) (hm:∀k,ok k->k<W.heap.size->W1.heap[k]? =W.heap[k]?):FK d W1 ok x c:=dZ.step h hm
theorem AH (h:FK d W ok x c) (hb:Below W.heap.size W W1):FK d W1 ok x c:=lZ h (fun k _ a=>hb.block k a)
theorem AI (h:d.M W base ok x c):FK d W ok x c:=fun _ a=>d.dc (pQ h a)
end
end Kd
end Go.Proofs.YtffdiakgjakngaaGreatW.PrintWords
end
section
namespace Go.Proofs.YtffdiakgjakngaaGreatW.PrintWords
open Go.RowKit
namespace Kd
def chunks (sz:Nat) (n:Nat) (inner:List Value):List (List Value):=(List.range n).map fun j=>(inner.drop (j*sz)).take sz
theorem mR (sz n:Nat) (inner:List Value):(chunks sz n inner).length=n:=by simp[chunks]
theorem AJ {sz n:Nat} {inner:List Value} {j:Nat} (a:j<n):(chunks sz n inner)[j]? =some ((inner.drop (j*sz)).take sz):=by simp[chunks,a]
theorem tu {sz n:Nat} {inner:List Value} {j:Nat} {c:List Value} (h:(chunks sz n inner)[j]? =some c):c=(inner.drop (j*sz)).take sz:=by
  have a:j<n:=by have:=(List.getElem?_eq_some_iff.1 h).1;rwa [mR] at this
  rw[AJ a] at h;injection h with h
  exact h.symm
theorem AK {α:Type} {a:α->List Value->Prop} {sz:Nat} {xs:List α} {inner:List Value} (h:aT a sz xs inner) (e:∀x c,a x c->c.length=sz/\∀u∈c,u.oneCell'=true):aT (fun x cs=>cs=x/\cs.length=sz/\∀u∈cs,u.oneCell'=true) sz (chunks sz xs.length inner) inner:=by
  refine⟨by rw[mR];exact h.1,fun j p b=>?_⟩;have g:j<xs.length:=by have:=(List.getElem?_eq_some_iff.1 b).1;rwa [mR] at this
  have hp:=tu b;exact⟨hp.symm,e _ _ (h.2 j _ (List.getElem?_eq_getElem g))⟩
section
variable {α:Type} {d:Kd α} {e base n cc g:Nat} {ok ok' okp S:Nat->Prop} {w w1 W W1:World} {A:Option Addr} {u v v1:Value} {xs:List α} {x:α} {c:List Value}
def N {α:Type} (d:Kd α) (e:Nat) (w:World) (base:Nat) (ok:Nat->Prop) (v:Value) (xs:List α):Prop:=
  (∀k,v.ownBlock=some k->ok k)/\∃rows:List (List Value),rows.length=xs.length/\(raw d.sz).R e w base (fun k=>some k=v.ownBlock) v rows/\∀(j:Nat) (x:α) (c:List Value),xs[j]? =some x->rows[j]? =some c->FK d w (fun k=>ok k/\some k≠v.ownBlock) x c
theorem p' {sz:Nat} {rows:List (List Value)} (h:(raw sz).R e w base ok v rows):(raw sz).R e w base (fun k=>some k=v.ownBlock) v rows:=gS rfl h
theorem oB {sz:Nat} {rows:List (List Value)} (h:(raw sz).R e w base ok v rows):(raw sz).R e w base (fun _=>True) v rows:=bb h (fun _ _=>trivial)
theorem oC (h:d.R e w base ok v xs):N d e w base ok v xs:=by
  obtain⟨b,inner,g,a⟩:=h;refine⟨b,chunks d.sz xs.length inner,mR _ _ _,⟨fun k hk=>hk.symm,inner,by rw[mR];exact g,AK a (fun x c hp=>⟨d.dX (d.dc hp),d.eo (d.dc hp)⟩)⟩,fun j x c i l=>?_⟩;rw[tu l];exact AI (a.2 j x i)
theorem gT (d:Kd α) (e:Nat) (w:World) (base:Nat) (ok:Nat->Prop):N d e w base ok (.slice none 0 0) []:=oC (dh _ _ _ _ _)
theorem eK (h:N d e w base ok v xs) (a:∀k,ok k->ok' k):N d e w base ok' v xs:=by
  obtain⟨b,rows,g,i,hf⟩:=h;exact⟨fun k hk=>a k (b k hk),rows,g,i,fun j x c l m=>kT (hf j x c l m) (fun k hk=>⟨a k hk.1,hk.2⟩)⟩
theorem tw (h:N d e w base ok v xs):∀k,v.ownBlock=some k->k<w.heap.size:=by
  obtain⟨_,rows,_,a,_⟩:=h;exact a_ a
theorem oD (h:N d e w base ok v xs):∀k,v.ownBlock=some k->∃cells,w.heap[k]? =some (.cells cells e (0,0)):=by
  obtain⟨_,rows,_,a,_⟩:=h;exact gQ a
theorem AL (h:N d e w base ok v xs) {t:Nat} {cells:Array Value} (hb:w.heap[g]? =some (.cells cells t (0,0))) (a:e≠t):some g≠v.ownBlock:=by
  obtain⟨_,rows,_,b,_⟩:=h;exact dj b hb a
theorem qa (h:N d e w base ok v xs):N d e w base (fun k=>ok k/\k<w.heap.size) v xs:=by
  have a:=tw h;obtain⟨b,rows,g,i,hf⟩:=h;exact⟨fun k hk=>⟨b k hk,a k hk⟩,rows,g,i,fun j x c l m=>kT (tt (hf j x c l m)) (fun k hk=>⟨⟨hk.1.1,hk.2⟩,hk.1.2⟩)⟩
theorem mS {base':Nat} (h:N d e w base ok v xs) (hb:base'<=base):N d e w base' ok v xs:=by
  obtain⟨a,rows,b,g,hf⟩:=h;exact⟨a,rows,b,bj g hb,hf⟩
theorem mT (h:N d e w base ok v xs) (hm:∀k,ok k->k<w.heap.size->w1.heap[k]? =w.heap[k]?):N d e w1 base ok v xs:=by
  obtain⟨b,rows,g,i,hf⟩:=h;exact⟨b,rows,g,lQ i (fun k hk a=>hm k (b k hk.symm) a),fun j x c l m=>lZ (hf j x c l m) (fun k hk a=>hm k hk.1 a)⟩
theorem gy (h:N d e w base ok v xs) (hb:Below w.heap.size w w1):N d e w1 base ok v xs:=mT h (fun k _ hk=>hb.block k hk)
theorem eW (h:N d e w base ok v xs) (o:Obj):N d e (w.alloc o) base ok v xs:=gy h (ao (Below.refl _ _) o)
theorem gz (h:N d e w base ok v xs):N d e w.drew base ok v xs:=gy h (ig (Below.refl _ _))
theorem gA (h:N d e w base ok v xs) (m:Nat):N d e (w.drewN m) base ok v xs:=gy h (bY (Below.refl _ _) m)
theorem tx (h:N d e w base ok v xs) {p:Addr} (a:∀k,ok k->k≠p.block) (u:Value):N d e (w.setCell p u) base ok v xs:=mT h (fun k b _=>Below.heap_setCell w p u k (a k b))
theorem AM (h:N d e W base ok v xs) (a:∀k,u.ownBlock=some k->W.heap.size<=k) (hb:Below W.heap.size W w1):N d e w1 base (fun k=>ok k/\some k≠u.ownBlock) v xs:=
  eK (gy (qa h) hb) (fun k hk=>⟨hk.1,fun he=>by have:=a k he.symm;have:=hk.2;omega⟩)
theorem AN (h:N d e W base (fun k=>ok k/\some k≠u.ownBlock) v xs) {u1:Value} (g:W.grownBy w1 u.ownBlock) (a:u1.ownBlock=u.ownBlock\/∃b,u1.ownBlock=some b/\W.heap.size<=b):N d e w1 base (fun k=>ok k/\some k≠u1.ownBlock) v xs:=by
  refine eK (mT (qa h) (fun k hk i=>g.block k i hk.1.2)) (fun k hk=>⟨hk.1.1,?_⟩);rcases a with a|⟨b,hb,hle⟩
  · rw[a];exact hk.1.2
  · rw[hb]
    intro he;injection he with he
    have:=hk.2;omega
theorem mU (h:N d e w base ok v xs):∃A c,v= .slice A xs.length c:=by
  obtain⟨_,rows,a,b,_⟩:=h;obtain⟨A,c,he⟩:=bm b;exact⟨A,c,by rw[he,a]⟩
theorem AO (h:N d e w base ok v xs) (hp:0<xs.length):∃g cap,v= .slice (some ⟨g,0,none⟩) xs.length cap/\base<=g/\g<w.heap.size/\∃cells,w.heap[g]? =some (.cells cells e (0,0)):=by
  obtain⟨_,rows,a,b,_⟩:=h;rw[<-a] at hp⊢;exact fK b hp
theorem jo {n c:Nat} (h:N d e w base ok (.slice A n c) xs):n=xs.length/\n<=c/\d.C w A xs.length xs:=by
  obtain⟨_,rows,i,k,hf⟩:=h;obtain⟨hn,l,hC⟩:=aQ k;refine⟨by omega,l,?_⟩;rw[i] at hC;refine⟨rfl,hC.2.1,fun hp=>?_⟩;obtain⟨ad,he,m⟩:=hC.2.2 hp;refine⟨ad,he,fun j p a=>?_⟩;have b:j<rows.length:=by have:=(List.getElem?_eq_some_iff.1 a).1;omega
  obtain⟨g,o,q,r⟩:=m j _ (List.getElem?_eq_getElem b);have hk:=lY (hf j p _ a (List.getElem?_eq_getElem b));refine⟨g,o,?_,r⟩;rw[show g=rows[j] from q.1];exact hk
theorem tz (h:N d e w base ok v xs):∃A c,v= .slice A xs.length c/\xs.length<=c/\d.C w A xs.length xs:=by
  obtain⟨A,c,rfl⟩:=mU h;exact⟨A,c,rfl,(jo h).2⟩
theorem qb {n cap:Nat} (h:N d e W base ok (.slice (some ⟨g,0,none⟩) n cap) xs) (z:α) (i:Int) (m:0<=i) (h1:i<n):
    ∃c,c.length=d.sz/\FK d W (fun k=>ok k/\k≠g) (xs.getD i.toNat z) c/\(∀j u,c[j]? =some u->W.cell? ⟨g,i.toNat*d.sz+j,none⟩=some u)/\∀j,W.frozen? ⟨g,i.toNat*d.sz+j,none⟩=false:=by
  obtain⟨_,rows,w,a,hf⟩:=h;have hn:=(aQ a).1;obtain⟨c,o,p,q,r⟩:=s8 a [] i m h1;have b:i.toNat<rows.length:=by omega
  have l:i.toNat<xs.length:=by omega
  have s:c=rows[i.toNat]:=by
    have v:=p.1;rwa [List.getD_eq_getElem?_getD,List.getElem?_eq_getElem b] at v
  refine⟨c,o,?_,q,r⟩;rw[List.getD_eq_getElem?_getD,List.getElem?_eq_getElem l];exact kT (hf _ _ _ (List.getElem?_eq_getElem l) (by rw[s];exact List.getElem?_eq_getElem b)) (fun k hk=>⟨hk.1,fun he=>hk.2 (by rw[he];simp[Value.ownBlock])⟩)
theorem oE {ad:Addr} {n cap:Nat} (h:N d e W base ok (.slice (some ad) n cap) xs) (z:α) (i:Int) (a:0<=i) (h1:i<n):
    ∃c,c.length=d.sz/\FK d W (fun k=>ok k/\some k≠(Value.slice (some ad) n cap).ownBlock) (xs.getD i.toNat z) c/\∀j u,c[j]? =some u->W.cell? (ad.add (i.toNat*d.sz+j))=some u:=by
  obtain⟨g,rfl⟩:∃g,ad=⟨g,0,none⟩:=by
    obtain⟨_,rows,_,b,_⟩:=h;exact lV b
  obtain⟨c,l,m,o,_⟩:=qb h z i a h1;refine⟨c,l,kT m (fun k hk=>⟨hk.1,fun he=>hk.2 (by simpa [Value.ownBlock] using he)⟩),fun j u hu=>?_⟩;rw[iN,Nat.zero_add];exact o j u hu
end
end Kd
end Go.Proofs.YtffdiakgjakngaaGreatW.PrintWords
end
section
namespace Go.Proofs.YtffdiakgjakngaaGreatW.PrintWords
open Go.RowKit
namespace Kd
section
variable {α:Type} {d:Kd α} {e base n cap g:Nat} {ok ok' okp:Nat->Prop} {w w1 W:World} {v v1:Value} {xs ys:List α}
theorem AP {rows news:List (List Value)} (n:∀k,v.ownBlock=some k->ok k) (m:rows.length=xs.length) (hf:∀(j:Nat) (x:α) (c:List Value),xs[j]? =some x->rows[j]? =some c->FK d W (fun k=>ok k/\some k≠v.ownBlock) x c)
    (p:news.length=ys.length) (q:∀(j:Nat) (x:α) (c:List Value),ys[j]? =some x->news[j]? =some c->FK d W okp x c) (r:∀k,okp k->ok k/\some k≠v.ownBlock) (s:∀k,W.heap.size<=k->ok k)
    (u:(raw d.sz).R e w1 base (fun _=>True) v1 (rows++news)) (w:W.grownBy w1 v.ownBlock) (a:v1.ownBlock=v.ownBlock\/∃b,v1.ownBlock=some b/\W.heap.size<=b):N d e w1 base ok v1 (xs++ys):=by
  have y:∀k,some k≠v.ownBlock->k<W.heap.size->some k≠v1.ownBlock:=by
    intro k hk g;rcases a with a|⟨b,hb,hle⟩
    · rw[a];exact hk
    · rw[hb]
      intro he;injection he with he
      omega
  have step:∀{x:α} {c:List Value} {o:Nat->Prop},FK d W o x c->(∀k,o k->ok k/\some k≠v.ownBlock)->FK d w1 (fun k=>ok k/\some k≠v1.ownBlock) x c:=by
    intro x c o z l;exact kT (lZ (tt z) (fun k hk g=>w.block k g (l k hk.1).2)) (fun k hk=>⟨(l k hk.1).1,y k (l k hk.1).2 hk.2⟩)
  refine⟨fun k hk=>?_,rows++news,by rw[List.length_append,List.length_append,m,p],p' u,fun j x c h i=>?_⟩
  · rcases a with a|⟨b,hb,hle⟩
    · exact n k (a▸hk)
    · rw[hb] at hk
      injection hk with hk
      exact s k (by omega)
  · rcases Nat.lt_or_ge j xs.length with g|B
    · rw[List.getElem?_append_left g] at h
      rw[List.getElem?_append_left (by omega)] at i;exact step (hf j x c h i) (fun _ hk=>hk)
    · rw[List.getElem?_append_right B] at h
      rw[List.getElem?_append_right (by omega),m] at i;exact step (q _ x c h i) r
theorem AQ {x:α} {c:List Value} (h:FK d W ok x c):c=c/\c.length=d.sz/\∀u∈c,u.oneCell'=true:=⟨rfl,d.dX (lY h),d.eo (lY h)⟩
theorem AR {rows:List (List Value)} {i:Int} {x':α} {h:List Value} (r:∀k,(Value.slice (some ⟨g,0,none⟩) n cap).ownBlock=some k->ok k) (s:rows.length=xs.length) (hf:∀(j:Nat) (x:α) (c:List Value),xs[j]? =some x->rows[j]? =some c->FK d W (fun k=>ok k/\some k≠(Value.slice (some ⟨g,0,none⟩) n cap).ownBlock) x c)
    (u:(raw d.sz).R e w1 base (fun _=>True) (.slice (some ⟨g,0,none⟩) n cap) (rows.set i.toNat h)) (o:W.grownBy w1 (some g)) (v:FK d W okp x' h) (l:∀k,okp k->ok k/\k≠g):N d e w1 base ok (.slice (some ⟨g,0,none⟩) n cap) (xs.set i.toNat x'):=by
  have p:some g=(Value.slice (some ⟨g,0,none⟩) n cap).ownBlock:=by simp[Value.ownBlock]
  refine⟨r,rows.set i.toNat h,by rw[List.length_set,List.length_set,s],p' u,fun j x c a b=>?_⟩;have w:j<xs.length:=by have:=(List.getElem?_eq_some_iff.1 a).1;rwa [List.length_set] at this
  by_cases q:j=i.toNat
  · subst q
    rw[List.getElem?_set_self w] at a;rw[List.getElem?_set_self (by omega)] at b;injection a with a
    injection b with b
    rw[<-a,<-b];exact kT (lZ v (fun k hk m=>o.block k m (fun he=>(l k hk).2 (by injection he)))) (fun k hk=>⟨(l k hk).1,fun he=>(l k hk).2 (by rw[<-p] at he;injection he)⟩)
  · rw[List.getElem?_set_ne (Ne.symm q)] at a b
    exact lZ (hf j x c a b) (fun k hk m=>o.block k m (by rw[p];exact hk.2))
theorem AS {A:Option Addr} {m c:Nat} (h:N d e w base ok (.slice A n c) xs) (hm:m<=xs.length):N d e w base ok (.slice A m c) (xs.take m):=by
  obtain⟨g,rows,i,l,hf⟩:=h;have hb:∀x y:Nat,(Value.slice A x c).ownBlock=(Value.slice A y c).ownBlock:=by
    intro x y;cases A<;>rfl
  refine⟨fun k hk=>g k (by rw[hb _ m];exact hk),rows.take m,by rw[List.length_take,List.length_take,i],p' (zc (oB l) (by omega)),fun j x o a b=>?_⟩;rw[List.getElem?_take] at a b;split at a
  · rename_i p
    rw[if_pos p] at b;rw[hb m n];exact hf j x o a b
  · cases a
theorem AT (h:N d e W base ok (.slice (some ⟨g,0,none⟩) n cap) xs) (i:Int) (l:0<=i) (h1:i<n) {c seg:List Value} {j:Nat} (m:c.length=d.sz) (o:∀j u,c[j]? =some u->W.cell? ⟨g,i.toNat*d.sz+j,none⟩=some u)
    (p:j+seg.length<=d.sz) {x':α} (a:FK d W okp x' (c.take j++seg++c.drop (j+seg.length))) (q:∀k,okp k->ok k/\k≠g):
    N d e (W.setCells g (i.toNat*d.sz+j) seg) base ok (.slice (some ⟨g,0,none⟩) n cap) (xs.set i.toNat x')/\W.grownBy (W.setCells g (i.toNat*d.sz+j) seg) (some g):=by
  obtain⟨r,rows,s,v,hf⟩:=h;obtain⟨w,b⟩:=s9 (oB v) i l h1 (c:=c) (seg:=seg) (j:=j) (x':=c.take j++seg++c.drop (j+seg.length)) (okp:=fun _=>False) m o p ⟨rfl,d.dX (lY a),d.eo (lY a)⟩ (fun _ hk=>hk.elim);exact⟨AR r s hf w b a q,b⟩
end
section
variable {P:Program} {ops:Array Oper} {rest:List Oper} {o:Oper} {a:Act} {Q:Exit->Act->World->Prop} {Kc:Act->World->Prop} {α:Type}
theorem AU (d:Kd α) {w0 W:World} (base:Nat) (r:o.guard=none) (s x:Operand) (t e:TypeId) (z:Value) (bytes:Nat)
    (u:o.op= .call {callee:=.builtin .append,args:=#[s,x],argTypes:=#[t,t]})
    (w:P.underlying t=some (.slice e)) (B:(P.info? e).map (fun i=>(i.zero,i.size,i.bytes))=some (some z,d.sz,bytes)) (C:z.cells.size=d.sz) (D:0<d.sz) (E:0<bytes)
    (v:Value) (xs:List α) (p:α) (cs:List Value) (ok okp:Nat->Prop) (F:a.eval s=v) (G:a.eval x= .slice (some ⟨W.heap.size,0,none⟩) 1 1) (hp:FK d W okp p cs) (H:∀k,okp k->ok k/\some k≠v.ownBlock) (I:∀k,W.heap.size<=k->ok k)
    (J:N d e W base ok v xs) (K:Below base w0 W) (L:base<=W.heap.size) (M:(xs.length+1)*bytes<=140737488355328)
    (h:∀v1 w1,N d e w1 base ok v1 (xs++[p])->Below base w0 w1->W.grownBy w1 v.ownBlock->(v1.ownBlock=v.ownBlock\/∃b,v1.ownBlock=some b/\W.heap.size<=b)->wpList P ops Q rest (a.put o.dst v1) w1):
    wpList P ops Q (o::rest) a (W.alloc (.cells cs.toArray e)):=by
  obtain⟨O,rows,l,R,hf⟩:=J;refine mJ (raw d.sz) base r s x t e z bytes u w B C D E v rows cs cs (fun _=>True) (fun _=>False) F G (AQ hp) (fun _ hk=>hk.elim) (fun _ _=>trivial) (oB R) K L (by rw[l];exact M) ?_;intro v1 w1 S hb m n;exact h v1 w1 (AP O l hf (ys:=[p]) (news:=[cs]) rfl (fun j y c g q=>by
    rcases j with _|j
    · simp only[List.getElem?_cons_zero,Option.some.injEq] at g q
      rw[<-g,<-q];exact hp
    · simp at g) H I S m n) hb m n
end
end Kd
end Go.Proofs.YtffdiakgjakngaaGreatW.PrintWords
end
section
namespace Go.Proofs.YtffdiakgjakngaaGreatW.PrintMore
open Go.RowKit Go.Proofs.YtffdiakgjakngaaGreatW.PrintWords
namespace Kd
open Go.Proofs.YtffdiakgjakngaaGreatW.PrintWords.Kd
end Kd
namespace Kd
open Go.Proofs.YtffdiakgjakngaaGreatW.PrintWords.Kd
end Kd
theorem jq (k k':IntKind) (x y:Int):Builtin.max2 (.int k x) (.int k' y)=pure (.int k (if x<y then y else x)):=by simp only[Builtin.max2,gt_iff_lt]
theorem jr (k k':IntKind) (x y:Int):Builtin.min2 (.int k x) (.int k' y)=pure (.int k (if y<x then y else x)):=by simp only[Builtin.min2]
theorem js (e:Array TypeId) (ty:TypeId) (a b:Value):Builtin.max_ e ty #[a,b]=(Builtin.max2 a b>>=fun s=>pure s):=by simp only[Builtin.max_,List.foldlM_cons,List.foldlM_nil]
theorem jt (e:Array TypeId) (ty:TypeId) (a b:Value):Builtin.min_ e ty #[a,b]=(Builtin.min2 a b>>=fun s=>pure s):=by simp only[Builtin.min_,List.foldlM_cons,List.foldlM_nil]
theorem l4 (e:Array TypeId) (ty:TypeId) (a b c:Value):Builtin.max_ e ty #[a,b,c]=(Builtin.max2 a b>>=fun s=>Builtin.max2 s c>>=fun s=>pure s):=by simp only[Builtin.max_,List.foldlM_cons,List.foldlM_nil]
theorem l5 (e:Array TypeId) (ty:TypeId) (a b c:Value):Builtin.min_ e ty #[a,b,c]=(Builtin.min2 a b>>=fun s=>Builtin.min2 s c>>=fun s=>pure s):=by simp only[Builtin.min_,List.foldlM_cons,List.foldlM_nil]
theorem l6 (e:Array TypeId) (ty:TypeId) (a b c d:Value):Builtin.max_ e ty #[a,b,c,d]=(Builtin.max2 a b>>=fun s=>Builtin.max2 s c>>=fun s=>Builtin.max2 s d>>=fun s=>pure s):=by simp only[Builtin.max_,List.foldlM_cons,List.foldlM_nil]
theorem l7 (e:Array TypeId) (ty:TypeId) (a b c d:Value):Builtin.min_ e ty #[a,b,c,d]=(Builtin.min2 a b>>=fun s=>Builtin.min2 s c>>=fun s=>Builtin.min2 s d>>=fun s=>pure s):=by simp only[Builtin.min_,List.foldlM_cons,List.foldlM_nil]
end Go.Proofs.YtffdiakgjakngaaGreatW.PrintMore
namespace Go.Proofs.YtffdiakgjakngaaGreatW.PrintWords
open Go.RowKit
section
variable {P:Program} {ops:Array Oper} {rest:List Oper} {o:Oper} {a:Act} {Q:Exit->Act->World->Prop} {W:World}
theorem aG {f:FuncId} {b:Array Operand} {e:Array TypeId} (_ho:o.op= .call {callee:=.value (.func f),args:=b,argTypes:=e}) (h:wpList P ops Q (o::rest) a W):wpList P ops Q (o::rest) a W:=h
theorem qc {b:Builtin} {xs:Array Operand} {e:Array TypeId} (_ho:o.op= .call {callee:=.builtin b,args:=xs,argTypes:=e}) (h:wpList P ops Q (o::rest) a W):wpList P ops Q (o::rest) a W:=h
end
def mx (a b:Int):Int:=if a<b then b else a
def mn (a b:Int):Int:=if b<a then b else a
namespace Kd
section
variable {α:Type} {d:Kd α} {e base:Nat} {ok:Nat->Prop} {W w1:World} {v:Value} {xs:List α}
theorem iO (h:d.R e W base ok v xs) (a:d.E=[]) {row:Option Nat} (b:W.grownBy w1 row) (g:row≠v.ownBlock):d.R e w1 base ok v xs:=
  bb (lR (gS a h) b (fun _ hk i=>g (i.symm.trans hk))) (fun k hk=>h.1 k hk.symm)
end
section
variable {α:Type} {d:Kd α} {e base b b' g N:Nat} {ok ok1:Nat->Prop} {W W2 w1:World} {u v:Value} {xs ys:List α} {S:Nat->Prop}
theorem tA (a:d.E=[]) (h:d.R e W base ok1 v xs) (b:∀k,v.ownBlock=some k->ok k):d.R e W base ok v xs:=bb (gS a h) (fun k hk=>b k hk.symm)
end
end Kd
namespace Kd
def V {α:Type} (d:Kd α) (_e:Nat) (W:World) (_base:Nat) (ok:Nat->Prop) (v:Value) (xs:List α):Prop:=∃A c,v= .slice A xs.length c/\xs.length<=c/\F d W ok A xs.length xs
section
variable {α β:Type} {d:Kd α} {e base base' n m c g N' lo hi:Nat} {ok ok' S:Nat->Prop} {w W w1:World} {A:Option Addr} {ad:Addr} {u v v1:Value} {xs:List α}
theorem oF (h:V d e W base ok v xs) (hF:∀A,F d W ok A xs.length xs->F d w1 ok' A xs.length xs):V d e w1 base' ok' v xs:=by
  obtain⟨A,c,a,b,hf⟩:=h;exact⟨A,c,a,b,hF A hf⟩
theorem qd (a:xs.length<=c) (hf:F d W ok A xs.length xs):V d e W base ok (.slice A xs.length c) xs:=⟨A,c,rfl,a,hf⟩
theorem tB (h:V d e W base ok v xs) (a:∀k,ok k->ok' k):V d e W base ok' v xs:=oF h (fun _ hf=>oA hf a)
theorem l8 (h:V d e W base ok v xs) (m:Nat):V d e (W.drewN m) base ok v xs:=oF h (fun _ hf=>AB hf m)
theorem AV (h:V d e W base (fun k=>ok k/\some k≠u.ownBlock) v xs) (a:W.grownBy w1 u.ownBlock) (g:v1.ownBlock=u.ownBlock\/∃b,v1.ownBlock=some b/\W.heap.size<=b):V d e w1 base (fun k=>ok k/\some k≠v1.ownBlock) v xs:=oF h (fun _ hf=>AF hf a g)
theorem tC (h:V d e W base (fun k=>ok k/\some k≠v.ownBlock) u xs) (a:W.grownBy w1 v.ownBlock) (g:v1.ownBlock=v.ownBlock\/∃b,v1.ownBlock=some b/\W.heap.size<=b):V d e w1 base (fun k=>ok k/\some k≠v1.ownBlock) u xs:=AV h a g
theorem qe (h:N d e W base (fun k=>ok k/\some k≠v.ownBlock) u xs) (a:W.grownBy w1 v.ownBlock) (g:v1.ownBlock=v.ownBlock\/∃b,v1.ownBlock=some b/\W.heap.size<=b):N d e w1 base (fun k=>ok k/\some k≠v1.ownBlock) u xs:=AN h a g
theorem oG (h:V d e W base ok v xs) (a:∀k,u.ownBlock=some k->W.heap.size<=k) (hb:Below W.heap.size W w1):V d e w1 base (fun k=>ok k/\some k≠u.ownBlock) v xs:=oF h (fun _ hf=>AE hf a hb)
theorem kU {l:List α} {cs:List Value} (h:FK (Kd.slice e d) W ok l cs):∃A c,cs=[.slice A l.length c]/\l.length<=c/\F d W ok A l.length l:=by
  obtain⟨A,c,rfl,a,_⟩:=lY h;refine⟨A,c,rfl,a,fun W' b=>?_⟩;obtain⟨A',j,he,_,g⟩:=h W' b;injection he with he _
  injection he with i _ _
  rw[i];exact g
theorem AW {l:List α} (a:l.length<=c) (hf:F d W ok A l.length l):FK (Kd.slice e d) W ok l [.slice A l.length c]:=fun W' b=>⟨A,c,rfl,a,hf W' b⟩
theorem AX {k:IntKind} {l:List Int} (h:(Kd.int k).C w (some ad) n l) (i:Int) (a:0<=i) (h1:i<n):w.cell? (ad.add i.toNat)=some (.int k (rd l i)):=by
  obtain⟨e,he,b⟩:=bU h i a h1;injection he with he
  subst he;exact b
theorem AY {M:Nat->Prop} (h:d.R e w1 W.heap.size ok v xs) (hle:w.heap.size<=W.heap.size) (a:∀k,w.heap.size<=k->M k):d.R e w1 W.heap.size (fun k=>M k/\ok k) v xs:=bb (eV h) (fun k hk=>⟨a k (Nat.le_trans hle hk.2.1),hk.1⟩)
end
end Kd
end Go.Proofs.YtffdiakgjakngaaGreatW.PrintWords
end
section
namespace Go.Proofs.YtffdiakgjakngaaGreatW.PrintLast
open Go.Proofs.YtffdiakgjakngaaGreatW.PrintWords (Aside0)
def l9 (md:Region.Mode) (o:Oper):List Nat:=(o.after.toList.filter (fun e=>Region.binds md e)).map (fun e=>e.on)
def qf (md:Region.Mode) (ops:Array Oper) (i:Nat) (b:Oper):List Nat:=(List.range ops.size).filter fun j=> !(j==i)&&match ops[j]? with
  |some a=> !(a.after.any (fun e=>Region.binds md e&&e.on==i)||b.apart ops a)
  |none=>false
def dO (md:Region.Mode) (ops:Array Oper):Bool×List (List Nat×List Nat):=(Region.noSelect ops,(List.range ops.size).map fun i=>match ops[i]? with
  |some o=>(l9 md o,qf md ops i o)
  |none=>([],[]))
def kp (T:List (List Nat×List Nat)) (l:List Bool) (i:Nat):Bool:= !l.getD i true&&match T[i]? with
  |some r=>r.1.all (fun j=>l.getD j false)
  |none=>false
def mV (T:List (List Nat×List Nat)) (l:List Bool):List Nat:=(List.range T.length).filter (kp T l)
def mW (T:List (List Nat×List Nat)) (l:List Bool) (i:Nat):Bool:=match T[i]? with
  |some r=>r.2.all (fun j=>l.getD j true)
  |none=>false
def oH (T:List (List Nat×List Nat)) (l:List Bool):Bool:=(List.range T.length).all fun j=> !l.getD j false||match T[j]? with
  |some r=>r.1.all (fun k=>l.getD k false)
  |none=>true
def l_ (T:List (List Nat×List Nat)) (i:Nat):Nat->Nat->Bool
  |0,_=>false
  |fuel+1,d=>match T[d]? with
    |some r=>r.1.any fun j=>j==i||l_ T i fuel j
    |none=>false
def oI (T:List (List Nat×List Nat)) (l:List Bool) (ds:List Nat) (i:Nat):Bool:=ds.all fun d=>l.getD d true||l_ T i T.length d
section
variable {md:Region.Mode} {ops:Array Oper} {T:Bool×List (List Nat×List Nat)} {l l' li lj lk:Array Bool} {ds:List Nat} {i j k:Nat}
theorem gd (l:Array Bool) (j:Nat) (b:Bool):l.getD j b=l.toList.getD j b:=by simp[Array.getD_eq_getD_getElem?,List.getD_eq_getElem?_getD]
theorem tD (o:Oper) (p:Nat->Bool):o.after.all (fun e=> !Region.binds md e||p e.on)=(l9 md o).all p:=by
  unfold l9;rw[<-Array.all_toList];induction o.after.toList with
  |nil=>rfl
  |cons e r a=>
    rw[List.all_cons,a,List.filter_cons];cases h:Region.binds md e<;>simp
theorem AZ (o:Oper) (p:Nat->Bool):o.after.any (fun e=>Region.binds md e&&p e.on)=(l9 md o).any p:=by
  unfold l9;rw[<-Array.any_toList];induction o.after.toList with
  |nil=>rfl
  |cons e r a=>
    rw[List.any_cons,a,List.filter_cons];cases h:Region.binds md e<;>simp
theorem oJ:(dO md ops).2.length=ops.size:=by simp[dO]
theorem oK {o:Oper} (h:ops[i]? =some o):(dO md ops).2[i]? =some (l9 md o,qf md ops i o):=by
  have hi:=(Array.getElem?_eq_some_iff.1 h).1;unfold dO;rw[List.getElem?_map,List.getElem?_range hi,Option.map_some,h]
theorem oL (h:ops[i]? =none):(dO md ops).2[i]? =none:=by
  have hi:ops.size<=i:=Array.getElem?_eq_none_iff.1 h;exact List.getElem?_eq_none (by rw[oJ];exact hi)
theorem A_:kp (dO md ops).2 l.toList i=(!l.getD i true&&((ops[i]?).map (·.after.all fun e=> !Region.binds md e||l.getD e.on false)).getD false):=by
  unfold kp;rw[gd];cases h:ops[i]? with
  |none=>rw[oL h];rfl
  |some o=>
    rw[oK h];simp only[Option.map_some,Option.getD_some];rw[<-tD];simp only[gd]
theorem qg:Region.ready md ops l=mV (dO md ops).2 l.toList:=by
  unfold Region.ready mV;rw[oJ];refine List.filter_congr (fun i _=>?_);rw[A_]
theorem tE:Region.free md ops l i=mW (dO md ops).2 l.toList i:=by
  unfold Region.free mW;cases h:ops[i]? with
  |none=>rw[oL h]
  |some b=>
    rw[oK h];simp only[qf];rw[List.all_filter];congr 1
    funext j
    rw[gd];cases g:ops[j]? with
    |none=>cases (j==i)<;>cases (l.toList.getD j true)<;>simp
    |some a=>
      cases (j==i)<;>cases (l.toList.getD j true)<;>cases (a.after.any (fun e=>Region.binds md e&&e.on==i)||b.apart ops a)<;>simp_all
theorem Ba:Region.mO md ops l=oH (dO md ops).2 l.toList:=by
  unfold Region.mO oH;rw[oJ];congr 1
  funext j
  rw[gd];cases h:ops[j]? with
  |none=>rw[oL h]
  |some o=>
    rw[oK h];simp only;rw[<-tD];simp only[gd]
theorem tF:∀(fuel d:Nat),Region.ik md ops i fuel d=l_ (dO md ops).2 i fuel d
  |0,_=>rfl
  |fuel+1,d=>by
    unfold Region.ik l_;cases h:ops[d]? with
    |none=>rw[oL h]
    |some o=>
      rw[oK h];simp only;rw[<-AZ];congr 1
      funext e
      rw[tF fuel]
theorem Bb:Region.oe md ops l ds i=oI (dO md ops).2 l.toList ds i:=by
  unfold Region.oe oI;rw[oJ];congr 1
  funext d
  rw[gd,tF]
theorem tG (h:kp T.2 l.toList i=true) (b:dO md ops=T):(Region.ready md ops l).contains i=true:=by
  subst b;rw[qg];unfold mV;rw[List.contains_iff_mem,List.mem_filter,List.mem_range];refine⟨?_,h⟩;unfold kp at h;rw[Bool.and_eq_true] at h;cases a:(dO md ops).2[i]? with
  |none=>rw[a] at h;simp at h
  |some r=>exact(List.getElem?_eq_some_iff.1 a).1
theorem qh (h:(l.toList.set i true==l'.toList)=true):(l.setIfInBounds i true==l')=true:=by
  rw[beq_iff_eq] at h⊢;apply Array.ext'
  rw[Array.toList_setIfInBounds];exact h
def qi (T:Bool×List (List Nat×List Nat)) (l l':List Bool) (i:Nat):Bool:=T.1&&mW T.2 l i&&kp T.2 l i&&(l.set i true==l')
theorem kV (a:dO md ops=T) (h:qi T l.toList l'.toList i=true):om md ops l l' i=true:=by
  simp only[qi,Bool.and_eq_true] at h;obtain⟨⟨⟨h1,b⟩,e⟩,g⟩:=h;have j:=tG e a;have k:=qh g;subst a;simp only[om,Bool.and_eq_true];exact⟨⟨⟨h1,by rw[tE];exact b⟩,j⟩,k⟩
def qj (T:Bool×List (List Nat×List Nat)) (ds:List Nat) (l l':List Bool) (i:Nat):Bool:=T.1&&mW T.2 l i&&kp T.2 l i&&oH T.2 l&&oI T.2 l ds i&&(l.set i true==l')
theorem Bc (a:dO md ops=T) (h:qj T ds l.toList l'.toList i=true):mP md ops ds l l' i=true:=by
  simp only[qj,Bool.and_eq_true] at h;obtain⟨⟨⟨⟨⟨h1,b⟩,e⟩,g⟩,j⟩,k⟩:=h;have m:=tG e a;have n:=qh k;subst a;simp only[mP,Bool.and_eq_true];exact⟨⟨⟨⟨⟨h1,by rw[tE];exact b⟩,m⟩,by rw[Ba];exact g⟩,by rw[Bb];exact j⟩,n⟩
theorem jL (a:dO md ops=T) (h:(mV T.2 l.toList==[i]&&l.toList.set i true==l'.toList)=true):lU md ops l l' i=true:=by
  simp only[Bool.and_eq_true] at h;obtain⟨h1,b⟩:=h;subst a;simp only[lU,Bool.and_eq_true];exact⟨by rw[qg];exact h1,qh b⟩
theorem oM (a:dO md ops=T) (h:(mV T.2 l.toList==[])=true):(Region.ready md ops l==[])=true:=by
  subst a;rw[qg];exact h
def kX (B:List Nat) (d:Nat):List Nat->Nat
  |[]=>0
  |n::r=>(2 ^ n|||(if n<d then B.getD n 0 else 0))|||kX B d r
def kY (T:List (List Nat×List Nat)) (B:List Nat):Bool:=(List.range T.length).all fun d=>match T[d]? with
  |some r=>(B.getD d 0|||kX B d r.1)==kX B d r.1
  |none=>false
theorem tH {B:List Nat} {d i:Nat}:∀{ns:List Nat},(kX B d ns).testBit i=true->∃n∈ns,n=i\/(n<d/\(B.getD n 0).testBit i=true)
  |[],h=>by simp[kX] at h
  |n::r,h=>by
    unfold kX at h;rw[Nat.testBit_or,Nat.testBit_or,Bool.or_eq_true,Bool.or_eq_true] at h;rcases h with (h|h)|h
    · rw[Nat.testBit_two_pow] at h
      exact⟨n,List.mem_cons_self,.inl (by simpa using h)⟩
    · by_cases hn:n<d
      · rw[if_pos hn] at h
        exact⟨n,List.mem_cons_self,.inr ⟨hn,h⟩⟩
      · rw[if_neg hn] at h
        simp at h
    · obtain⟨m,hm,a⟩:=tH h
      exact⟨m,List.mem_cons_of_mem _ hm,a⟩
theorem tI {T:List (List Nat×List Nat)} {B:List Nat} (b:kY T B=true):∀(fuel d:Nat),d<fuel->d<T.length->(B.getD d 0).testBit i=true->l_ T i fuel d=true
  |0,d,h,_,_=>by omega
  |fuel+1,d,h,hd,hb=>by
    have h1:=List.all_eq_true.1 b d (List.mem_range.2 hd);cases a:T[d]? with
    |none=>rw[a] at h1;simp at h1
    |some r=>
      rw[a] at h1;simp only[beq_iff_eq] at h1;have e:(kX B d r.1).testBit i=true:=by rw[<-h1,Nat.testBit_or,hb,Bool.true_or]
      obtain⟨n,hn,g⟩:=tH e;unfold l_;rw[a];simp only;rw[List.any_eq_true];refine⟨n,hn,?_⟩;rcases g with rfl|⟨k,j⟩
      · simp
      · rw[tI b fuel n (by omega) (by omega) j,Bool.or_true]
def tJ (T:List (List Nat×List Nat)) (B:List Nat) (l:List Bool) (ds:List Nat) (i:Nat):Bool:=ds.all fun d=>l.getD d true||(decide (d<T.length)&&(B.getD d 0).testBit i)
def tK (T:Bool×List (List Nat×List Nat)) (B:List Nat) (ds:List Nat) (l l':List Bool) (i:Nat):Bool:=T.1&&mW T.2 l i&&kp T.2 l i&&oH T.2 l&&tJ T.2 B l ds i&&(l.set i true==l')
theorem ju {B:List Nat} (g:dO md ops=T) (j:kY T.2 B=true) (h:tK T B ds l.toList l'.toList i=true):mP md ops ds l l' i=true:=by
  refine Bc g ?_;simp only[tK,qj,Bool.and_eq_true] at h⊢;obtain⟨⟨⟨⟨⟨h1,k⟩,m⟩,n⟩,b⟩,o⟩:=h;refine⟨⟨⟨⟨⟨h1,k⟩,m⟩,n⟩,?_⟩,o⟩;unfold tJ at b;unfold oI;rw[List.all_eq_true] at b⊢;intro d hd;have a:=b d hd;rw[Bool.or_eq_true,Bool.and_eq_true,decide_eq_true_eq] at a;rcases a with a|⟨e,p⟩
  · rw[a,Bool.true_or]
  · rw[tI j _ d e e p,Bool.or_true]
theorem oN {P:Program} {Q:Exit->Act->World->Prop} {S:World->Prop} {n:Nat} {a:Act} {w:World} {B:List Nat} (b:dO md ops=T) (e:kY T.2 B=true) (h:Aside0 (dO md ops=T)->Aside0 (kY T.2 B=true)->cU P md ops Q S ds n l a w):cU P md ops Q S ds n l a w:=h ⟨b⟩ ⟨e⟩
end
def jv:Code->Nat->Option (Array Oper)
  | .region id ops _,k=>if id==k then some ops else none
  | .seq a b,k=>match jv a k with
    |some o=>some o
    |none=>jv b k
  | .cond _ a b,k=>match jv a k with
    |some o=>some o
    |none=>jv b k
  | .block _ c,k=>jv c k
  | .loop c,k=>jv c k
  | .scope c,k=>jv c k
  | .rangeFunc _ _ a b,k=>match jv a k with
    |some o=>some o
    |none=>jv b k
  |_,_=>none
def opsOf (f:Func) (k:Nat):Array Oper:=((f.body.bind fun c=>jv c k)).getD #[]
end Go.Proofs.YtffdiakgjakngaaGreatW.PrintLast
end
section
end
section
namespace Go.Proofs.YtffdiakgjakngaaGreatW.PrintWords
open Go.RowKit
end Go.Proofs.YtffdiakgjakngaaGreatW.PrintWords
end
section
namespace Go.Proofs.YtffdiakgjakngaaGreatW.PrintWords
open Go.RowKit
end Go.Proofs.YtffdiakgjakngaaGreatW.PrintWords
end
section
namespace Go.Proofs.YtffdiakgjakngaaGreatW.PrintWords
open Go.RowKit
end Go.Proofs.YtffdiakgjakngaaGreatW.PrintWords
end
section
namespace Go.Proofs.YtffdiakgjakngaaGreatW.PrintWords
theorem aT.one {α:Type} {R:α->List Value->Prop} {ps:List α} {cs:List Value} {p:α} {v:Value} (hp:R p [v]) (h:aT R 1 ps cs):aT R 1 (p::ps) (v::cs):=by
  refine⟨by simp[h.1],fun j q a=>?_⟩;cases j with
  |zero=>
    simp only[List.getElem?_cons_zero,Option.some.injEq] at a;subst a;simpa using hp
  |succ j=>
    simp only[List.getElem?_cons_succ] at a;have h1:=h.2 j q a;simpa [Nat.mul_one] using h1
theorem aT.front {α:Type} {R:α->List Value->Prop} {size:Nat} {ps:List α} {cs c all:List Value} {p:α} (hp:R p c) (b:c.length=size) (h:aT R size ps cs) (e:c++cs=all):aT R size (p::ps) all:=by
  subst e;refine⟨by rw[List.length_append,b,h.1,List.length_cons,Nat.succ_mul,Nat.add_comm],fun j q a=>?_⟩;cases j with
  |zero=>
    simp only[List.getElem?_cons_zero,Option.some.injEq] at a;subst a;rw[Nat.zero_mul,List.drop_zero,List.take_append_of_le_length (by omega),List.take_of_length_le (by omega)];exact hp
  |succ j=>
    simp only[List.getElem?_cons_succ] at a;have h1:=h.2 j q a;rw[Nat.succ_mul,List.drop_append,List.drop_of_length_le (by rw[b];exact Nat.le_add_left _ _),List.nil_append,b,Nat.add_sub_cancel];exact h1
theorem aT.c3 {α:Type} {R:α->List Value->Prop} {ps:List α} {cs:List Value} {p:α} {a b e:Value} (hp:R p [a,b,e]) (h:aT R 3 ps cs):aT R 3 (p::ps) (a::b::e::cs):=aT.front hp rfl h rfl
end Go.Proofs.YtffdiakgjakngaaGreatW.PrintWords
end
section
end
section
namespace Go.Proofs.YtffdiakgjakngaaGreatW.PrintWords
open Go.RowKit
end Go.Proofs.YtffdiakgjakngaaGreatW.PrintWords
end
section
namespace Go.Proofs.YtffdiakgjakngaaGreatW.PrintWords
open Go.RowKit
section
variable {P:Program} {ops:Array Oper} {rest:List Oper} {o:Oper} {a:Act} {Q:Exit->Act->World->Prop} {W:World}
theorem dP (hw:Region.wanted o (yielded ops a.tmps)=true) (h:wpList P ops Q ({o with guard:=none}::rest) a W):wpList P ops Q (o::rest) a W:=by
  have h1:Region.wanted {o with guard:=none} (yielded ops a.tmps)=true:=rfl;unfold wpList at h⊢;rw[if_pos h1] at h;rw[if_pos hw];exact h
end
end Go.Proofs.YtffdiakgjakngaaGreatW.PrintWords
end


namespace Go.Proofs.YtffdiakgjakngaaGreat.P
open Go.RowKit Go.Proofs.YtffdiakgjakngaaGreatW.PrintWords Go.Proofs.YtffdiakgjakngaaGreatW.PrintLast Go.Proofs.YtffdiakgjakngaaGreatW.PrintMore
set_option linter.unusedVariables false
set_option linter.unusedSimpArgs false
set_option maxHeartbeats 8000000
set_option maxRecDepth 100000
section
section
variable {w W W0 W':World}
theorem zB (h:Below w.heap.size w W:=by repeat(first|(with_reducible first|exact Aside0.out (by assumption)|apply ao|apply bY|apply bZ|refine dN ?_ (Aside0.out (by assumption)))|exact Aside0.out (by assumption))):Below w.heap.size w W:=h
theorem zS (a:Aside0 (Below w.heap.size w W0)) (hb:Below W.heap.size W W') (h:Below w.heap.size w W:=by repeat(first|(with_reducible first|exact Aside0.out (by assumption)|apply ao|apply bY|apply bZ|refine dN ?_ (Aside0.out (by assumption)))|exact Aside0.out (by assumption))):Aside0 (Below w.heap.size w W'):=⟨aZ h hb⟩
theorem zG {g:Nat} (b:Aside0 (Below w.heap.size w W0)) (a:g=W.heap.size) (h:Below w.heap.size w W:=by repeat(first|(with_reducible first|exact Aside0.out (by assumption)|apply ao|apply bY|apply bZ|refine dN ?_ (Aside0.out (by assumption)))|exact Aside0.out (by assumption))):Aside0 (w.heap.size<=g):=⟨by rw[a];exact bu h⟩
theorem zK {g:Nat} {o:Obj} (h:Aside0 (W0.heap[g]? =some o)) (c:W0.heap[g]? =some o->W.heap[g]? =some o:=by intro h;(with_reducible repeat(first|refine iM ?_ _|refine fA ?_|refine au ?_ _));exact h):W.heap[g]? =some o:=c h.out
theorem zk {g:Nat} {o:Obj} (h:W0.heap[g]? =some o) (c:W0.heap[g]? =some o->W.heap[g]? =some o:=by intro h;(with_reducible repeat(first|refine iM ?_ _|refine fA ?_|refine au ?_ _));exact h):W.heap[g]? =some o:=c h
theorem zb {g:Nat} {o:Obj} (h:Aside0 (W0.heap[g]? =some o)) (hb:Below W.heap.size W W') (c:W0.heap[g]? =some o->W.heap[g]? =some o:=by intro h;(with_reducible repeat(first|refine iM ?_ _|refine fA ?_|refine au ?_ _));exact h):Aside0 (W'.heap[g]? =some o):=⟨aE (c h.out) hb⟩
section
variable {α:Type} {d:Kd α} {e base:Nat} {ok:Nat->Prop} {v:Value} {xs:List α} {A:Option Addr} {n:Nat}
theorem zR (h:Aside0 (d.R e W0 base ok v xs)) (c:d.R e W0 base ok v xs->d.R e W base ok v xs:=by intro h;(with_reducible repeat(first|apply Kd.aR|apply Kd.bD|apply Kd.bq));exact h):d.R e W base ok v xs:=c h.out
theorem zN (h:Aside0 (d.N e W0 base ok v xs)) (c:d.N e W0 base ok v xs->d.N e W base ok v xs:=by intro h;(with_reducible repeat(first|apply Kd.eW|apply Kd.gA|apply Kd.gz));exact h):d.N e W base ok v xs:=c h.out
theorem bz (h:Aside0 (d.R e W0 base ok v xs)) (hb:Below W.heap.size W W') (c:d.R e W0 base ok v xs->d.R e W base ok v xs:=by intro h;(with_reducible repeat(first|apply Kd.aR|apply Kd.bD|apply Kd.bq));exact h):Aside0 (d.R e W' base ok v xs):=⟨Kd.cT (c h.out) hb⟩
theorem Be (h:Aside0 (d.N e W0 base ok v xs)) (hb:Below W.heap.size W W') (c:d.N e W0 base ok v xs->d.N e W base ok v xs:=by intro h;(with_reducible repeat(first|apply Kd.eW|apply Kd.gA|apply Kd.gz));exact h):Aside0 (d.N e W' base ok v xs):=⟨Kd.gy (c h.out) hb⟩
section
variable {β:Type} {d2:Kd β} {e2:Nat} {ok2:Nat->Prop} {u:Value} {ys:List β} {w2:World}
theorem bS (h:Aside0 (d.R e W0 base ok v xs)) (hb:d2.R e2 w2 W.heap.size ok2 u ys) (a:Below W.heap.size W W') (c:d.R e W0 base ok v xs->d.R e W base ok v xs:=by intro h;(with_reducible repeat(first|apply Kd.aR|apply Kd.bD|apply Kd.bq));exact h):Aside0 (d.R e W' base (fun k=>ok k/\some k≠u.ownBlock) v xs):=⟨Kd.s6 (c h.out) (Kd.dY hb) a⟩
theorem gU (h:Aside0 (d.N e W0 base ok v xs)) (hb:d2.R e2 w2 W.heap.size ok2 u ys) (a:Below W.heap.size W W') (c:d.N e W0 base ok v xs->d.N e W base ok v xs:=by intro h;(with_reducible repeat(first|apply Kd.eW|apply Kd.gA|apply Kd.gz));exact h):Aside0 (d.N e W' base (fun k=>ok k/\some k≠u.ownBlock) v xs):=⟨Kd.AM (c h.out) (Kd.dY hb) a⟩
end
theorem zC (h:d.C W0 A n xs) (c:d.C W0 A n xs->d.C W A n xs:=by intro h;repeat(first|exact h|(with_reducible refine Kd.bp ?_ _)|(with_reducible refine Kd.fV ?_ _)|(with_reducible refine Kd.fC ?_))):d.C W A n xs:=c h
end
section
variable {g:Nat} {a b c:Value} {l:List Value} {t:TypeId}
theorem z0 (h:Aside0 (W.heap[g]? =some (.cells (List.toArray (a::l)) t (0,0)))):W.cell? ⟨g,0,none⟩=some a:=(aj h.out 0).trans rfl
theorem z1 (h:Aside0 (W.heap[g]? =some (.cells (List.toArray (a::b::l)) t (0,0)))):W.cell? ⟨g,1,none⟩=some b:=(aj h.out 1).trans rfl
theorem z2 (h:Aside0 (W.heap[g]? =some (.cells (List.toArray (a::b::c::l)) t (0,0)))):W.cell? ⟨g,2,none⟩=some c:=(aj h.out 2).trans rfl
theorem ax (h:Aside0 (W.heap[g]? =some (.cells #[a,b] t (0,0)))):W.cell? ⟨g,0,none⟩=some a/\W.cell? ⟨g,1,none⟩=some b/\W.frozen? ⟨g,0,none⟩=false/\W.frozen? ⟨g,1,none⟩=false:=⟨z0 h,z1 h,bt h.out 0,bt h.out 1⟩
theorem cw (h:Aside0 (W.heap[g]? =some (.cells #[a,b,c] t (0,0)))):W.cell? ⟨g,0,none⟩=some a/\W.cell? ⟨g,1,none⟩=some b/\W.cell? ⟨g,2,none⟩=some c/\W.frozen? ⟨g,0,none⟩=false/\W.frozen? ⟨g,1,none⟩=false/\W.frozen? ⟨g,2,none⟩=false:=⟨z0 h,z1 h,z2 h,bt h.out 0,bt h.out 1,bt h.out 2⟩
end
end
theorem zE {p:Prop} (h:p:=by first|rfl|(simp[eL,eM]<;>rfl)|(simp[*,eL,eM]<;>rfl)):p:=h
theorem zT {p:Prop} (h:p:=by first|rfl|(simp;done)|(simp[*];done)):p:=h
section
variable {P:Program} {ops:Array Oper} {Q:Exit->Act->World->Prop}
theorem zL {rest:List Oper} {b:Oper} {a:Act} {w:World} {f:FuncId} {fn:Func} {g:Array Operand} {i:Array TypeId} (N:Option Tmp) (hf:P.funcs[f]? =some fn) (args:Array Value)
  (h:Calls P f args w fun e w'=>∃v,e= .returned v/\wpList P ops Q rest (a.put N v) w') (hd:b.dst=N:=by exact rfl) (j:b.guard=none:=by exact rfl) (k:(fn.name== "runtime.NumGoroutine")=false:=by kernel_rfl) (hb:fn.body.isSome=true:=by exact rfl)
  (l:b.op= .call {callee:=.value (.func f),args:=g,argTypes:=i}:=by exact rfl) (m:g.map a.eval=args:=by(try simp only[List.map_toArray,List.map_cons,List.map_nil]);first|done|rfl|(simp only[List.length_drop,List.length_take];rfl)):wpList P ops Q (b::rest) a w:=
 tg N hd j hf k hb args l m h
theorem zX {rest:List Oper} {o:Oper} {a:Act} {W:World} (N:Tmp) (cs:Array Value) (t:TypeId)
  (h:∀g,g=W.heap.size->∀w1,w1.heap[g]? =some (.cells cs t (0,0))->Below W.heap.size W w1->wpList P ops Q rest (a.put o.dst (.pointer (some ⟨g,0,none⟩))) w1) (b:o.guard=none:=by exact rfl) (hd:o.dst=some N:=by exact rfl)
  (e:(execOp a.eval o).run P W= .ok (.value (.pointer (some ⟨W.heap.size,0,none⟩))) (W.alloc (.cells cs t (0,0))):=by first|(go_simp;done)|(go_simp;rfl)):wpList P ops Q (o::rest) a W:=zt b hd e h
end
theorem zo {α β:Type} {x:Option α} {f:α->Option β} {r:β} (h:x.bind f=some r):∃a,Aside0 (x=some a)/\f a=some r:=(Option.bind_eq_some_iff.1 h).imp fun _ k=>⟨⟨k.1⟩,k.2⟩
theorem zi {α:Type} {a b r:α} (h:(if true=true then a else b)=r):a=r:=h
theorem zj {α:Type} {a b r:α} (h:(if false=true then a else b)=r):b=r:=h
theorem bH {a b:Int} (h:a=b):(a==b)=true/\(a != b)=false:=⟨beq_iff_eq.2 h,bne_eq_false_iff_eq.2 h⟩
theorem bI {a b:Int} (h:¬a=b):(a==b)=false/\(a != b)=true:=⟨beq_eq_false_iff_ne.2 h,bne_iff_ne.2 h⟩
theorem zh {α:Type} {a b:α} (e:a=b) {p q:Prop} (H:p) (h:a=b->p->q:=by intro e H;first|(rw[e];with_reducible exact H)|(have z:=(Option.bind_some _ _).symm.trans H;rw[e];with_reducible exact z)|(have z:=(Option.bind_some _ _).symm.trans H;with_reducible exact z)|with_reducible exact H|(rw[e];exact H)|exact H):q:=h e H
abbrev aH:=@Option.some.inj
abbrev a8:=@World.block_lt_of_cell?
abbrev a7:=@List.getD_eq_getElem?_getD
abbrev bK:=@List.getElem?_eq_getElem
abbrev aM:=@Int.toNat_natCast
abbrev bc:=@heap_alloc_new
abbrev aq:=@Below.refl
abbrev aI:=@Nat.le_refl
theorem zA {p:Prop} (h:p):Aside0 p:=⟨h⟩
theorem az {p:Prop} [h:Decidable p] (k:p):decide p=true:=decide_eq_true k
theorem a6 {p:Prop} [h:Decidable p] (k:¬p):decide p=false:=decide_eq_false k
theorem ay {p:Prop} [h:Decidable p] (k:decide p=true):p:=of_decide_eq_true k
section
variable {P:Program} {ops:Array Oper} {Q:Exit->Act->World->Prop} {md:Region.Mode} {S:World->Prop} {ds:List Nat}
def pf (n b s k:Nat):Array Bool:=((List.range n).map fun i=>b.testBit i||decide (s<=i)&&decide (i<k)).toArray
theorem zs {fuel:Nat} {l:Array Bool} {a:Act} {w:World} (n b s:Nat) (e:l=pf n b s s) (h:cU P md ops Q S ds fuel (pf n b s s) a w):cU P md ops Q S ds fuel l a w:=by rw[e];exact h
theorem zn {T:Bool×List (List Nat×List Nat)} {e:Oper} {v:Value} {m:Tmp} {fuel n b s k j:Nat} {a:Act} {w:World} (g:k+1=j) (i:Aside0 (dO md ops=T)) (hi:ops[k]? =some e) (l:e.dst=some m) (o:qi T (pf n b s k).toList (pf n b s j).toList k=true)
  (p:Yields P ops e v a) {a':Act} (q:a.put (some m) v=a') (h:cU P md ops Q S ds fuel (pf n b s j) a' w) (r:∀c a w,Q (.panic c) (a.put e.dst v) w->Q (.panic c) a w:=by exact fun _ _ _ h=>h):cU P md ops Q S ds (fuel+1) (pf n b s k) a w:=by
 subst g;exact kP (N:=some m) _ hi l (kV i.out o) r p q h
end
end
def tL:Option Int->Value
 |none=>.nilIface
 |some c=>.iface 0 (.int .i64 c)
theorem eL:tL none= .nilIface:=rfl
theorem eM (c:Int):tL (some c)= .iface 0 (.int .i64 c):=rfl
theorem gB:(Tryz.prog.info? 3).map (fun i=>(i.zero,i.size,i.bytes))=some (some (.int .i64 0),1,8):=by kernel_rfl
theorem mX:(Tryz.prog.info? 4).map (fun i=>(i.zero,i.size,i.bytes))=some (some (.bool false),1,1):=by kernel_rfl
theorem tM:(Tryz.prog.info? 25).map (fun i=>(i.zero,i.size,i.bytes))=some (some (.slice none 0 0),1,24):=by kernel_rfl
theorem qk:(Tryz.prog.info? 26).map (fun i=>(i.zero,i.size,i.bytes))=some (some (.slice none 0 0),1,24):=by kernel_rfl
theorem Bg:(Tryz.prog.info? 83).map (fun i=>(i.zero,i.size,i.bytes))=some (some (.agg #[(.int .i64 0),(.int .i64 0),(.int .i64 0)]),3,24):=by kernel_rfl
structure S83 where
 f0:Int
 f1:Int
 f2:Int
def tN:S83:=⟨(0:Int),(0:Int),(0:Int)⟩
def aN:Kd S83:=Kd.yQ (Kd.pair (Kd.int .i64) (Kd.pair (Kd.int .i64) (Kd.int .i64))) (fun x:S83=>(x.f0,x.f1,x.f2))
theorem Bh {w:World} {x:S83} {cs:List Value} (h:aN.K w x cs):cs=[.int .i64 x.f0,.int .i64 x.f1,.int .i64 x.f2]:=by
 obtain⟨_,_,rfl,rfl,⟨_,_,rfl,rfl,rfl⟩⟩:=h;exact rfl
theorem Bi (w:World) (x:S83):aN.K w x [.int .i64 x.f0,.int .i64 x.f1,.int .i64 x.f2]:=⟨[.int .i64 x.f0],[.int .i64 x.f1,.int .i64 x.f2],rfl,rfl,⟨[.int .i64 x.f1],[.int .i64 x.f2],rfl,rfl,rfl⟩⟩
theorem jw (w:World) (base:Nat) (ok:Nat->Prop) (x:S83):aN.M w base ok x [.int .i64 x.f0,.int .i64 x.f1,.int .i64 x.f2]:=⟨[.int .i64 x.f0],[.int .i64 x.f1,.int .i64 x.f2],rfl,rfl,⟨[.int .i64 x.f1],[.int .i64 x.f2],rfl,rfl,rfl⟩⟩
def ae (xs:List S83) (i:Int):S83:=xs.getD i.toNat tN
theorem dE {w:World} {A:Option Addr} {n:Nat} {xs:List S83} (h:Kd.C aN w A n xs) (i:Int) (b:0<=i) (h1:i<n):∃ad,A=some ad/\w.cell? (ad.add (i.toNat*3))=some (.int .i64 (ae xs i).f0)/\w.cell? ⟨(ad.add (i.toNat*3)).block,(ad.add (i.toNat*3)).off+1,none⟩=some (.int .i64 (ae xs i).f1)/\w.cell? ⟨(ad.add (i.toNat*3)).block,(ad.add (i.toNat*3)).off+2,none⟩=some (.int .i64 (ae xs i).f2):=by
 obtain⟨ad,c,e,_,g,k⟩:=Kd.pR h tN i b h1;have a:∀j u,c[j]? =some u->w.cell? (ad.add (i.toNat*3+j))=some u:=k;obtain rfl:=Bh g;exact⟨ad,e,a 0 _ rfl,by rw[<-pO _ _ 1 (by omega)];exact a 1 _ rfl,by rw[<-pO _ _ 2 (by omega)];exact a 2 _ rfl⟩
def aV (xs:List (List Int)) (i:Int):(List Int):=xs.getD i.toNat ([]:List Int)
theorem gC {w:World} {A:Option Addr} {n:Nat} {xs:List (List Int)} (h:Kd.C (Kd.slice 3 (Kd.int .i64)) w A n xs) (i:Int) (a:0<=i) (h1:i<n):∃ad A0 c0,A=some ad/\w.cell? (ad.add i.toNat)=some (.slice A0 (aV xs i).length c0)/\(aV xs i).length<=c0/\(Kd.int .i64).C w A0 (aV xs i).length (aV xs i):=by
 obtain⟨ad,c,e,_,b,g⟩:=Kd.pR h ([]:List Int) i a h1;have k:∀j u,c[j]? =some u->w.cell? (ad.add (i.toNat*1+j))=some u:=g;obtain⟨A0,c0,rfl,l0,g0⟩:=b;exact⟨ad,A0,c0,e,by have l:=k 0 _ rfl;rwa [Nat.mul_one,Nat.add_zero] at l,l0,g0⟩
end Go.Proofs.YtffdiakgjakngaaGreat.P
namespace Go.Proofs.YtffdiakgjakngaaGreat.T
set_option linter.unusedVariables false
set_option linter.unusedSimpArgs false
set_option maxHeartbeats 8000000
set_option maxRecDepth 100000
def sN (f:Nat->Int):Nat->Int
 |0=>0
 |n+1=>sN f n+f n
theorem eN (f:Nat->Int) (n:Nat):sN f (n+1)=sN f n+f n:=rfl
theorem bP {f g:Nat->Int}:∀{n:Nat},(∀u,u<n->f u=g u)->sN f n=sN g n
 |0,_=>rfl
 |n+1,h=>by rw[eN,eN,bP (n:=n) (fun u hu=>h u (by omega)),h n (by omega)]
theorem cX {f g:Nat->Int}:∀{n:Nat},(∀u,u<n->f u<=g u)->sN f n<=sN g n
 |0,_=>Int.le_refl _
 |n+1,h=>by
  have h1:=cX (n:=n) (fun u hu=>h u (by omega));have a:=h n (by omega);rw[eN,eN];omega
theorem jx:∀(n:Nat),sN (fun _=>0) n=0
 |0=>rfl
 |n+1=>by rw[eN,jx n];rfl
theorem gV {f:Nat->Int} {n:Nat} (h:∀u,u<n->f u=0):sN f n=0:=(bP h).trans (jx n)
theorem dy {f:Nat->Int} {n:Nat} (h:∀u,u<n->0<=f u):0<=sN f n:=by
 have:=cX (f:=fun _=>0) (g:=f) (n:=n) h;rw[jx] at this;exact this
theorem dA (f g:Nat->Int):∀n:Nat,sN (fun v=>f v+g v) n=sN f n+sN g n
 |0=>rfl
 |n+1=>by rw[eN,eN,eN,dA f g n];omega
theorem de (f g:Nat->Int):∀n:Nat,sN (fun v=>f v-g v) n=sN f n-sN g n
 |0=>rfl
 |n+1=>by rw[eN,eN,eN,de f g n];omega
theorem mY (f:Nat->Int):∀n:Nat,sN (fun v=> -f v) n= -sN f n
 |0=>rfl
 |n+1=>by rw[eN,eN,mY f n];omega
theorem eX (c:Int) (f:Nat->Int):∀n:Nat,sN (fun v=>c*f v) n=c*sN f n
 |0=>by simp[sN]
 |n+1=>by rw[eN,eN,eX c f n,Int.mul_add]
theorem iq (c:Int):∀n:Nat,sN (fun _=>c) n=n*c
 |0=>by simp[sN]
 |n+1=>by rw[eN,iq c n,Int.natCast_add,Int.add_mul];simp
theorem mZ (f:Nat->Nat->Int) (m:Nat):∀n:Nat,sN (fun v=>sN (fun u=>f v u) m) n=sN (fun u=>sN (fun v=>f v u) n) m
 |0=>by show (0:Int)=sN (fun u=>0) m;rw[jx]
 |n+1=>by
  rw[eN,mZ f m n,<-dA];exact bP fun u _=>rfl
theorem jM {f:Nat->Int} {v:Nat}:∀{n:Nat},v<n->(∀u,u<n->u≠v->f u=0)->sN f n=f v
 |0,h,_=>by omega
 |n+1,h,a=>by
  rw[eN];by_cases e:v=n
  ·subst e
   rw[gV fun u hu=>a u (by omega) (by omega)];omega
  ·rw[jM (n:=n) (by omega) fun u hu b=>a u (by omega) b,a n (by omega) (fun h=>e h.symm)];omega
theorem gD {f:Nat->Int} {n v:Nat} (a:v<n) (h:∀u,u<n->0<=f u):f v<=sN f n:=by
 have h1:sN (fun u=>if u=v then f v else 0) n=f v:=by
  rw[jM (f:=fun u=>if u=v then f v else 0) a (fun u _ hu=>if_neg hu)];exact if_pos rfl
 rw[<-h1];refine cX fun u hu=>?_
 show (if u=v then f v else 0)<=f u
 by_cases e:u=v
 ·subst e;rw[if_pos rfl];exact Int.le_refl _
 ·rw[if_neg e];exact h u hu
theorem ql (s:Nat->Int):∀{n:Nat},0<n->∃v,v<n/\∀u,u<n->s u<=s v
 |0,h=>by omega
 |1,_=>⟨0,by omega,fun u hu=>by
   obtain rfl:u=0:=by omega
   exact Int.le_refl _⟩
 |n+2,_=>by
  obtain⟨v,b,h⟩:=ql s (n:=n+1) (by omega);by_cases a:s (n+1)<=s v
  ·exact⟨v,by omega,fun u hu=>by
    by_cases e:u=n+1
    ·subst e;exact a
    ·exact h u (by omega)⟩
  ·exact⟨n+1,by omega,fun u hu=>by
    by_cases e:u=n+1
    ·subst e;exact Int.le_refl _
    ·have:=h u (by omega);omega⟩
theorem exists_least {P:Nat->Prop} (f:Nat->Nat) (h:∃v,P v):∃v,P v/\∀u,P u->f v<=f u:=by
 obtain⟨v,a⟩:=h;have key:∀(k:Nat) (v:Nat),f v<=k->P v->∃v,P v/\∀u,P u->f v<=f u:=by
  intro k;induction k with
  |zero=>intro v hk a;exact⟨v,a,fun u _=>by omega⟩
  |succ k g=>
   intro v hk a;by_cases b:∃u,P u/\f u<f v
   ·obtain⟨u,hu,e⟩:=b
    exact g u (by omega) hu
   ·exact⟨v,a,fun u hu=>by
     by_cases e:f u<f v
     ·exact absurd ⟨u,hu,e⟩ b
     ·omega⟩
 exact key (f v) v (Nat.le_refl _) a
theorem Bj {P:Nat->Prop} (h:∃k,P k):∃k,P k/\∀j,P j->k<=j:=exists_least id h
structure Wt (n:Nat) (t:Nat->Nat->Int):Prop where
 pos:∀u v,0<=t u v
 sym:∀u v,t u v=t v u
 self:∀v,t v v=0
def aU (n:Nat) (t:Nat->Nat->Int) (s:Nat->Int) (v:Nat):Int:=sN (fun u=>t v u*(s v-s u)) n
theorem kZ (n:Nat) (t:Nat->Nat->Int) (s r:Nat->Int) (v:Nat):aU n t (fun u=>s u+r u) v=aU n t s v+aU n t r v:=by
 unfold aU;rw[<-dA];refine bP fun u _=>?_
 rw[<-Int.mul_add];congr 1;show s v+r v- (s u+r u)=_;omega
theorem ma (n:Nat) (t:Nat->Nat->Int) (s:Nat->Int) (v:Nat):aU n t (fun u=> -s u) v= -aU n t s v:=by
 unfold aU;rw[<-mY];refine bP fun u _=>?_
 rw[<-Int.mul_neg];congr 1;show -s v- -s u=_;omega
theorem mc (n:Nat) (t:Nat->Nat->Int) (s r:Nat->Int) (v:Nat):aU n t (fun u=>s u-r u) v=aU n t s v-aU n t r v:=by
 unfold aU;rw[<-de];refine bP fun u _=>?_
 rw[<-Int.mul_sub];congr 1;show s v-r v- (s u-r u)=_;omega
theorem tO (n:Nat) (t:Nat->Nat->Int) (c:Int) (s:Nat->Int) (v:Nat):aU n t (fun u=>c*s u) v=c*aU n t s v:=by
 unfold aU;rw[<-eX];refine bP fun u _=>?_
 rw[<-Int.mul_sub,Int.mul_left_comm]
theorem me {n:Nat} {t:Nat->Nat->Int} {s r:Nat->Int} (h:∀u,u<n->s u=r u) {v:Nat} (a:v<n):aU n t s v=aU n t r v:=by
 unfold aU;refine bP fun u hu=>?_
 rw[h u hu,h v a]
theorem kr (n:Nat) (t:Nat->Nat->Int) (c:Int) (v:Nat):aU n t (fun _=>c) v=0:=by
 unfold aU;exact gV fun u _=>by rw[Int.sub_self,Int.mul_zero]
theorem Bl {n:Nat} {t:Nat->Nat->Int} (a:Wt n t) (s h:Nat->Int):sN (fun v=>h v*aU n t s v) n=sN (fun v=>s v*aU n t h v) n:=by
 have b:sN (fun v=>h v*aU n t s v) n=sN (fun v=>h v*s v*sN (fun u=>t v u) n) n-sN (fun v=>sN (fun u=>h v*t v u*s u) n) n:=by
  rw[<-de];refine bP fun v _=>?_
  unfold aU;rw[<-eX,<-eX,<-de];refine bP fun u _=>?_
  rw[Int.mul_sub,Int.mul_sub];congr 1
  ·rw[Int.mul_comm (t v u),<-Int.mul_assoc]
  ·rw[<-Int.mul_assoc]
 have e2:sN (fun v=>s v*aU n t h v) n=sN (fun v=>s v*h v*sN (fun u=>t v u) n) n-sN (fun v=>sN (fun u=>s v*t v u*h u) n) n:=by
  rw[<-de];refine bP fun v _=>?_
  unfold aU;rw[<-eX,<-eX,<-de];refine bP fun u _=>?_
  rw[Int.mul_sub,Int.mul_sub];congr 1
  ·rw[Int.mul_comm (t v u),<-Int.mul_assoc]
  ·rw[<-Int.mul_assoc]
 rw[b,e2];congr 1
 ·exact bP fun v _=>by rw[Int.mul_comm (h v)]
 ·rw[mZ]
  refine bP fun u _=>bP fun v _=>?_
  rw[a.sym v u,Int.mul_comm (h v),Int.mul_comm _ (s u),Int.mul_assoc]
theorem m_ {n:Nat} {t:Nat->Nat->Int} (a:Wt n t) (s:Nat->Int):sN (fun v=>aU n t s v) n=0:=by
 have h:=Bl a s (fun _=>1);rw[gV (f:=fun v=>s v*aU n t (fun _=>1) v) fun v _=>by rw[kr,Int.mul_zero]] at h;rw[<-h];exact bP fun v _=>by rw[Int.one_mul]
def bM (n:Nat) (t:Nat->Nat->Int) (D D':Nat->Int):Prop:=∃s:Nat->Int,∀v,v<n->D' v=D v-aU n t s v
theorem bM.refl (n:Nat) (t:Nat->Nat->Int) (D:Nat->Int):bM n t D D:=⟨fun _=>0,fun v _=>by rw[kr];omega⟩
theorem bM.of_eq {n:Nat} {t:Nat->Nat->Int} {D D':Nat->Int} (h:∀v,v<n->D' v=D v):bM n t D D':=⟨fun _=>0,fun v a=>by rw[kr,h v a];omega⟩
theorem bM.symm {n:Nat} {t:Nat->Nat->Int} {D D':Nat->Int} (h:bM n t D D'):bM n t D' D:=by
 obtain⟨s,h⟩:=h;exact⟨fun u=> -s u,fun v a=>by rw[ma,h v a];omega⟩
theorem bM.trans {n:Nat} {t:Nat->Nat->Int} {D D' b:Nat->Int} (h:bM n t D D') (a:bM n t D' b):bM n t D b:=by
 obtain⟨s,h⟩:=h;obtain⟨r,a⟩:=a;exact⟨fun u=>s u+r u,fun v e=>by rw[kZ,a v e,h v e];omega⟩
theorem bM.add {n:Nat} {t:Nat->Nat->Int} {D D' F a:Nat->Int} (h:bM n t D D') (b:bM n t F a):bM n t (fun v=>D v+F v) (fun v=>D' v+a v):=by
 obtain⟨s,h⟩:=h;obtain⟨r,b⟩:=b;exact⟨fun u=>s u+r u,fun v e=>by show D' v+a v=D v+F v-_;rw[kZ,b v e,h v e];omega⟩
theorem bM.neg {n:Nat} {t:Nat->Nat->Int} {D D':Nat->Int} (h:bM n t D D'):bM n t (fun v=> -D v) (fun v=> -D' v):=by
 obtain⟨s,h⟩:=h;exact⟨fun u=> -s u,fun v a=>by show -D' v= -D v-_;rw[ma,h v a];omega⟩
theorem bM.ba {n:Nat} {t:Nat->Nat->Int} (a:Wt n t) {D D':Nat->Int} (h:bM n t D D'):sN D' n=sN D n:=by
 obtain⟨s,h⟩:=h;rw[bP h,de,m_ a];omega
def oO (n:Nat) (D:Nat->Int):Prop:=∀v,v<n->0<=D v
def bE (n:Nat) (t:Nat->Nat->Int) (D:Nat->Int):Prop:=∃D',bM n t D D'/\oO n D'
theorem bE.eY {n:Nat} {t:Nat->Nat->Int} {D D':Nat->Int} (h:bM n t D D') (hw:bE n t D):bE n t D':=by
 obtain⟨F,h1,a⟩:=hw;exact⟨F,h.symm.trans h1,a⟩
theorem qm {n:Nat} {t:Nat->Nat->Int} {D D':Nat->Int} (h:bM n t D D'):bE n t D↔bE n t D':=⟨bE.eY h,bE.eY h.symm⟩
theorem bE.mono {n:Nat} {t:Nat->Nat->Int} {D D':Nat->Int} (hw:bE n t D) (h:∀v,v<n->D v<=D' v):bE n t D':=by
 obtain⟨F,⟨s,h1⟩,b⟩:=hw;exact⟨fun v=>D' v-aU n t s v,⟨s,fun v _=>rfl⟩,fun v a=>by have:=b v a;have:=h1 v a;have:=h v a;show 0<=D' v-aU n t s v;omega⟩
theorem bE.add {n:Nat} {t:Nat->Nat->Int} {D F:Nat->Int} (h1:bE n t D) (g:bE n t F):bE n t (fun v=>D v+F v):=by
 obtain⟨D',a,b⟩:=h1;obtain⟨h,c,d⟩:=g;exact⟨_,a.add c,fun v e=>by have:=b v e;have:=d v e;show 0<=D' v+h v;omega⟩
theorem bE.qo {n:Nat} {t:Nat->Nat->Int} {D:Nat->Int} (h:oO n D):bE n t D:=⟨D,bM.refl _ _ _,h⟩
theorem bE.ba {n:Nat} {t:Nat->Nat->Int} (e:Wt n t) {D:Nat->Int} (h:bE n t D):0<=sN D n:=by
 obtain⟨D',a,b⟩:=h;rw[<-a.ba e];exact dy b
def fL (n:Nat) (t:Nat->Nat->Int) (pos:Nat->Nat) (v:Nat):Int:=sN (fun u=>if pos u<pos v then t v u else 0) n
def val (n:Nat) (t:Nat->Nat->Int) (v:Nat):Int:=sN (fun u=>t v u) n
def nu (n:Nat) (t:Nat->Nat->Int) (pos:Nat->Nat) (v:Nat):Int:=fL n t pos v-1
theorem Bm {n:Nat} {t:Nat->Nat->Int} (a:Wt n t) (hn:0<n) (pos:Nat->Nat) (s:Nat->Int):∃v,v<n/\nu n t pos v-aU n t s v<0:=by
 obtain⟨m,hm,b⟩:=ql s hn;obtain⟨v,⟨g,j⟩,i⟩:=exists_least (P:=fun v=>v<n/\s v=s m) pos ⟨m,hm,rfl⟩;refine⟨v,g,?_⟩;unfold nu fL aU;have:sN (fun u=>if pos u<pos v then t v u else 0) n<=sN (fun u=>t v u*(s v-s u)) n:=by
  refine cX fun u hu=>?_
  have hp:=a.pos v u;have k:=b u hu;by_cases e:pos u<pos v
  ·show (if pos u<pos v then t v u else 0)<=_
   rw[if_pos e];have l:s u≠s m:=fun h=>by have:=i u ⟨hu,h⟩;omega
   have h1:1<=s v-s u:=by omega
   have:=Int.mul_le_mul_of_nonneg_left h1 hp;rw[Int.mul_one] at this;exact this
  ·show (if pos u<pos v then t v u else 0)<=_
   rw[if_neg e];exact Int.mul_nonneg hp (by omega)
 omega
theorem na {n:Nat} {t:Nat->Nat->Int} (b:Wt n t) (hn:0<n) (pos:Nat->Nat):¬bE n t (nu n t pos):=by
 rintro⟨D',⟨s,h1⟩,e⟩;obtain⟨v,a,h⟩:=Bm b hn pos s;have:=h1 v a;have:=e v a;omega
def gW (n:Nat) (pos:Nat->Nat):Prop:=∀u v,u<n->v<n->pos u=pos v->u=v
theorem tP {n:Nat} {t:Nat->Nat->Int} (b:Wt n t) {pos pos':Nat->Nat} (hi:gW n pos) (g:∀u v,u<n->v<n->(pos' u<pos' v↔pos v<pos u)) {v:Nat} (a:v<n):fL n t pos v+fL n t pos' v=val n t v:=by
 unfold fL val;rw[<-dA];refine bP fun u hu=>?_
 have h1:=g u v hu a;by_cases e:pos u<pos v
 ·rw[if_pos e,if_neg (by rw[h1];omega)];omega
 ·by_cases e2:pos v<pos u
  ·rw[if_neg e,if_pos (h1.2 e2)];omega
  ·rw[if_neg e,if_neg (fun h=>e2 (h1.1 h))]
   have:=hi u v hu a (by omega);subst this;rw[b.self];rfl
theorem qp (n:Nat) (pos:Nat->Nat):∃pos':Nat->Nat,∀u v,u<n->v<n->(pos' u<pos' v↔pos v<pos u):=by
 obtain⟨B,a⟩:∃B,∀u,u<n->pos u<=B:=by
  induction n with
  |zero=>exact⟨0,fun u hu=>by omega⟩
  |succ n b=>
   obtain⟨B,a⟩:=b;exact⟨max B (pos n),fun u hu=>by
    by_cases e:u=n
    ·subst e;exact Nat.le_max_right _ _
    ·exact Nat.le_trans (a u (by omega)) (Nat.le_max_left _ _)⟩
 refine⟨fun u=>B-pos u,fun u v hu g=>?_⟩;have:=a u hu;have:=a v g;show B-pos u<B-pos v↔_
 omega
theorem Bn {n:Nat} {pos pos':Nat->Nat} (hi:gW n pos) (b:∀u v,u<n->v<n->(pos' u<pos' v↔pos v<pos u)):gW n pos':=by
 intro u v hu a he;have h1:=b u v hu a;have e:=b v u a hu;refine hi u v hu a ?_;omega
theorem Bo {n:Nat} {t:Nat->Nat->Int} (a:Wt n t) {pos pos':Nat->Nat} (b:∀u v,u<n->v<n->(pos' u<pos' v↔pos v<pos u)):sN (fL n t pos) n=sN (fL n t pos') n:=by
 unfold fL;rw[mZ];refine bP fun u hu=>bP fun v g=>?_
 have:=b v u g hu;by_cases e:pos u<pos v
 ·rw[if_pos e,if_pos (this.2 e),a.sym]
 ·rw[if_neg e,if_neg (fun h=>e (this.1 h))]
theorem Bp {n:Nat} {t:Nat->Nat->Int} (a:Wt n t) {pos:Nat->Nat} (hi:gW n pos):2*sN (fL n t pos) n=sN (val n t) n:=by
 obtain⟨pos',b⟩:=qp n pos;have h1:sN (fun v=>fL n t pos v+fL n t pos' v) n=sN (val n t) n:=bP fun v e=>tP a hi b e
 rw[dA] at h1;have g:=Bo a b;omega
theorem Bq {n:Nat} {t:Nat->Nat->Int} (pos:Nat->Nat):sN (nu n t pos) n=sN (fL n t pos) n-n:=by
 have:sN (nu n t pos) n=sN (fun v=>fL n t pos v- (fun _=>(1:Int)) v) n:=rfl;rw[this,de,iq];omega
theorem tQ {n:Nat} {t:Nat->Nat->Int} (a:Wt n t) {pos pos':Nat->Nat} (hi:gW n pos) (b:∀u v,u<n->v<n->(pos' u<pos' v↔pos v<pos u)) {v:Nat} (e:v<n):val n t v-2-nu n t pos v=nu n t pos' v:=by
 have:=tP a hi b e;unfold nu;omega
def du (n:Nat) (t:Nat->Nat->Int):Prop:=∀S:Nat->Bool,(∃v,v<n/\S v=true)->(∃v,v<n/\S v=false)->∃u v,u<n/\v<n/\S u=true/\S v=false/\0<t u v
theorem Br {f:Nat->Nat->Int} (h:∀u v,f u v= -f v u) (n:Nat):sN (fun v=>sN (fun u=>f v u) n) n=0:=by
 have h1:=mZ f n n;have a:sN (fun u=>sN (fun v=>f v u) n) n=sN (fun u=> -sN (fun v=>f u v) n) n:=bP fun u _=>by
  rw[<-mY];exact bP fun v _=>h v u
 rw[a,mY] at h1;omega
theorem Bs {n:Nat} {t:Nat->Nat->Int} (a:Wt n t) (S:Nat->Bool) (s:Nat->Int):sN (fun v=>if S v=true then aU n t s v else 0) n=sN (fun v=>sN (fun u=>if S v=true/\S u=false then t v u*(s v-s u) else 0) n) n:=by
 have h1:=Br (f:=fun v u=>if S v=true/\S u=true then t v u*(s v-s u) else 0) (fun u v=>by
  by_cases e:S u=true/\S v=true
  ·rw[if_pos e,if_pos ⟨e.2,e.1⟩,a.sym v u,<-Int.mul_neg];congr 1;omega
  ·rw[if_neg e,if_neg (fun h=>e ⟨h.2,h.1⟩)];rfl) n
 have b:sN (fun v=>if S v=true then aU n t s v else 0) n=sN (fun v=>sN (fun u=>if S v=true/\S u=true then t v u*(s v-s u) else 0) n+sN (fun u=>if S v=true/\S u=false then t v u*(s v-s u) else 0) n) n:=by
  refine bP fun v _=>?_
  show (if S v=true then aU n t s v else 0)=_
  by_cases e:S v=true
  ·rw[if_pos e,<-dA]
   unfold aU;refine bP fun u _=>?_
   cases hu:S u<;>simp[e]
  ·rw[if_neg e,gV fun u _=>if_neg (fun h=>e h.1),gV fun u _=>if_neg (fun h=>e h.1)];rfl
 rw[b,dA,h1];omega
theorem Bt {n:Nat} {t:Nat->Nat->Int} (g:Wt n t) (S:Nat->Bool) (s:Nat->Int) (M:Int) (m:0<=M) (j:∀u v,u<n->v<n->S u=true->S v=false->M<=s u-s v) {a b:Nat} (h:a<n) (hb:b<n) (k:S a=true) (l:S b=false) (q:0<t a b):
  M<=sN (fun v=>if S v=true then aU n t s v else 0) n:=by
 rw[Bs g];have hp:∀v,v<n->∀u,u<n->0<=(if S v=true/\S u=false then t v u*(s v-s u) else 0):=fun v i u hu=>by
  by_cases e:S v=true/\S u=false
  ·rw[if_pos e]
   have:=j v u i hu e.1 e.2;exact Int.mul_nonneg (g.pos _ _) (by omega)
  ·rw[if_neg e];exact Int.le_refl _
 have h1:=gD (f:=fun v=>sN (fun u=>if S v=true/\S u=false then t v u*(s v-s u) else 0) n) h (fun v i=>dy (hp v i));have o:=gD (f:=fun u=>if S a=true/\S u=false then t a u*(s a-s u) else 0) hb (hp a h);refine Int.le_trans ?_ (Int.le_trans o h1);show M<=(if S a=true/\S b=false then t a b*(s a-s b) else 0)
 rw[if_pos ⟨k,l⟩];have p:=j a b h hb k l;have r:=Int.mul_le_mul (show (1:Int)<=t a b by omega) p m (g.pos _ _);omega
def b9 (S:Nat->Bool):Nat->Nat
 |0=>0
 |n+1=>b9 S n+if S n=true then 1 else 0
theorem jN (S:Nat->Bool):∀n,b9 S n<=n
 |0=>Nat.le_refl _
 |n+1=>by have:=jN S n;unfold b9;split<;>omega
theorem nc {S T:Nat->Bool}:∀{n:Nat},(∀v,v<n->S v=true->T v=true)->b9 S n<=b9 T n
 |0,_=>Nat.le_refl _
 |n+1,h=>by
  have h1:=nc (n:=n) (fun v b=>h v (by omega));have a:=h n (by omega);unfold b9;cases hS:S n with
  |true=>rw[a hS];simp;exact h1
  |false=>simp only[Bool.false_eq_true,if_false];split<;>omega
theorem oP {S T:Nat->Bool} {w:Nat}:∀{n:Nat},(∀v,v<n->S v=true->T v=true)->w<n->S w=false->T w=true->b9 S n<b9 T n
 |0,_,h,_,_=>by omega
 |n+1,h,hw,hS,a=>by
  by_cases e:w=n
  ·subst e
   have h1:=nc (n:=w) (fun v b=>h v (by omega));unfold b9;rw[hS,a];simp;omega
  ·have h1:=oP (n:=n) (fun v b=>h v (by omega)) (by omega) hS a
   have g:=h n (by omega);unfold b9;cases i:S n with
   |true=>rw[g i];simp;omega
   |false=>simp only[Bool.false_eq_true,if_false];split<;>omega
theorem qq {S:Nat->Bool}:∀{n:Nat},n<=b9 S n->∀v,v<n->S v=true
 |0,_,v,a=>by omega
 |n+1,h,v,a=>by
  have h1:=jN S n;unfold b9 at h;by_cases e:S n=true
  ·rw[if_pos e] at h
   by_cases e2:v=n
   ·subst e2;exact e
   ·exact qq (n:=n) (by omega) v (by omega)
  ·rw[if_neg e] at h;omega
theorem Bu {S:Nat->Bool} {w n:Nat} (hw:w<n) (hS:S w=true):1<=b9 S n:=by
 have:=oP (S:=fun _=>false) (T:=S) (n:=n) (fun v _ h=>by cases h) hw rfl hS;omega
theorem qt:∀n:Nat,b9 (fun _=>true) n=n
 |0=>rfl
 |n+1=>by unfold b9;rw[qt n];simp
theorem ko {n:Nat} {t:Nat->Nat->Int} (r:Wt n t) (s:du n t) {b:Nat->Int} {v0:Nat} (l:v0<n) (y:b v0<=0) {M:Int} (z:0<=M)
  (h:∀x:Int,0<=x->sN (fun v=>if decide (x<b v)=true then aU n t b v else 0) n<=M):∀v,v<n->b v<=n*M:=by
 have step:∀j:Nat,j+1<=b9 (fun v=>decide (b v<=j*M)) n\/n<=b9 (fun v=>decide (b v<=j*M)) n:=by
  intro j;induction j with
  |zero=>
   left
   exact Bu l (by simp;exact y)
  |succ j i=>
   have k:(((j+1:Nat):Int))*M=j*M+M:=by rw[Int.natCast_add,Int.add_mul];simp
   have m:∀v,v<n->decide (b v<=(j:Int)*M)=true->decide (b v<=((j+1:Nat):Int)*M)=true:=fun v _ g=>by
    have:=of_decide_eq_true g;exact decide_eq_true (by rw[k];omega)
   by_cases hn:n<=b9 (fun v=>decide (b v<=j*M)) n
   ·right;exact Nat.le_trans hn (nc m)
   ·rcases i with i|i
    ·left
     by_cases o:∃w,w<n/\(j:Int)*M<b w/\b w<=j*M+M
     ·obtain⟨w,hw,L,N⟩:=o
      have:=oP (S:=fun v=>decide (b v<=j*M)) (T:=fun v=>decide (b v<=((j+1:Nat):Int)*M)) m hw (decide_eq_false (by omega)) (decide_eq_true (by rw[k];omega));omega
     ·exfalso
      have B:0<=(j:Int)*M:=Int.mul_nonneg (by omega) z;have hex:∃v,v<n/\decide ((j:Int)*M<b v)=true:=by
       refine Classical.byContradiction fun C=>hn ?_
       have D:∀v,v<n->decide (b v<=(j:Int)*M)=true:=fun v g=>by
        by_cases e:b v<=(j:Int)*M
        ·exact decide_eq_true e
        ·exact absurd ⟨v,g,decide_eq_true (by omega)⟩ C
       have p:=qt n;have q:=nc (S:=fun _=>true) (T:=fun v=>decide (b v<=(j:Int)*M)) (n:=n) (fun v g _=>D v g);omega
      obtain⟨a,c,E,F,G,H,I⟩:=s (fun v=>decide ((j:Int)*M<b v)) hex ⟨v0,l,decide_eq_false (by omega)⟩;have h1:=Bt r (fun v=>decide ((j:Int)*M<b v)) b (M+1) (by omega) (fun u v hu g J K=>by
       have k:=of_decide_eq_true J;have e2:=of_decide_eq_false K;have O:¬(b u<=j*M+M):=fun h=>o ⟨u,hu,k,h⟩
       omega) E F G H I
      have p:=h _ B;omega
    ·exact absurd i hn
 intro v g;have h1:=step n;have p:=jN (fun v=>decide (b v<=(n:Int)*M)) n;have q:n<=b9 (fun v=>decide (b v<=(n:Int)*M)) n:=by omega
 exact of_decide_eq_true (qq q v g)
theorem tR {α:Type} {P:α->Prop} (f:α->Nat) (B:Nat) (h:∃a,P a) (i:∀a,P a->f a<=B):∃a,P a/\∀c,P c->f c<=f a:=by
 obtain⟨a,b⟩:=h;have key:∀(k:Nat) (a:α),B-f a<=k->P a->∃a,P a/\∀c,P c->f c<=f a:=by
  intro k;induction k with
  |zero=>intro a hk b;exact⟨a,b,fun c g=>by have:=i c g;have:=i a b;omega⟩
  |succ k l=>
   intro a hk b;by_cases j:∃c,P c/\f a<f c
   ·obtain⟨c,g,m⟩:=j
    have:=i c g;exact l c (by omega) g
   ·exact⟨a,b,fun c g=>by
     by_cases e:f a<f c
     ·exact absurd ⟨c,g,e⟩ j
     ·omega⟩
 exact key _ a (Nat.le_refl _) b
def one (w:Nat) (v:Nat):Int:=if v=w then 1 else 0
theorem tS {n:Nat} {t:Nat->Nat->Int} (a:Wt n t) {w:Nat} (hw:w<n):aU n t (one w) w=val n t w:=by
 unfold aU val;refine bP fun u _=>?_
 unfold one;by_cases e:u=w
 ·subst e;rw[a.self];simp
 ·rw[if_pos rfl,if_neg e];simp
theorem tT {n:Nat} {t:Nat->Nat->Int} {w v:Nat} (hw:w<n) (a:v≠w):aU n t (one w) v= -t v w:=by
 unfold aU;rw[jM (v:=w) hw]
 ·unfold one;rw[if_neg a,if_pos rfl];omega
 ·intro u _ hu
  unfold one;rw[if_neg a,if_neg hu];simp
theorem fj {n w:Nat} (hw:w<n):sN (one w) n=1:=by
 rw[jM (f:=one w) hw (fun u _ hu=>if_neg hu)];exact if_pos rfl
theorem Bv {n:Nat} {t:Nat->Nat->Int} (g:Wt n t) (m:du n t) {q:Nat} (o:q<n) (D:Nat->Int):∃D',bM n t D D'/\∀v,v<n->v≠q->0<=D' v:=by
 let P:(Nat->Int)->Prop:=fun b=>b q=0/\(∀v,v<n->0<=b v)/\∀v,v<n->0<b v->D v+aU n t b v<=val n t v-1
 have j:∀v,0<=val n t v:=fun v=>dy fun u _=>g.pos v u
 have p:∀b,P b->∀v,v<n->b v<=n*(sN (val n t) n+sN (fun v=>((D v).natAbs:Int)) n):=by
  rintro b ⟨h1,k,l⟩;refine ko g m o (by omega) ?_ ?_
  ·have i:0<=sN (val n t) n:=dy fun v _=>j v
   have z:0<=sN (fun v=>((D v).natAbs:Int)) n:=dy fun v _=>by omega
   omega
  ·intro x B
   have i:sN (fun v=>if decide (x<b v)=true then aU n t b v else 0) n<=sN (fun v=>val n t v+((D v).natAbs:Int)) n:=cX fun v a=>by
    show (if decide (x<b v)=true then aU n t b v else 0)<=_
    by_cases e:x<b v
    ·rw[if_pos (decide_eq_true e)]
     have:=l v a (by omega);omega
    ·rw[if_neg (by simpa using e)]
     have:=j v;omega
   rw[dA] at i;exact i
 obtain⟨b,hb,r⟩:=tR (P:=P) (fun b=>(sN b n).toNat) (sN (fun _=>n*(sN (val n t) n+sN (fun v=>((D v).natAbs:Int)) n)) n).toNat ⟨fun _=>0,rfl,fun _ _=>Int.le_refl _,fun v _ (h:(0:Int)<0)=>by omega⟩ (fun b hb=>by
  have h1:=cX (n:=n) (fun v a=>p b hb v a);have k:=dy (f:=b) (n:=n) hb.2.1;show (sN b n).toNat<=_
  omega)
 refine⟨fun v=>D v+aU n t b v,⟨fun u=> -b u,fun v _=>by show D v+aU n t b v=_;rw[ma];omega⟩,fun v a s=>?_⟩;show 0<=D v+aU n t b v
 refine Classical.byContradiction fun C=>?_
 have w:P (fun u=>b u+one v u):=by
  refine⟨by show b q+one v q=0;rw[hb.1];unfold one;rw[if_neg (fun h=>s h.symm)];rfl,fun u hu=>by have:=hb.2.1 u hu;show 0<=b u+one v u;unfold one;split<;>omega,fun u hu y=>?_⟩;rw[kZ];by_cases e:u=v
  ·subst e;rw[tS g a];omega
  ·rw[tT a e]
   have E:b u+one v u=b u:=by unfold one;rw[if_neg e];omega
   have:=hb.2.2 u hu (by have:0<b u+one v u:=y;omega);have:=g.pos u v;omega
 have h1:=r (fun u=>b u+one v u) w;have k:sN (fun u=>b u+one v u) n=sN b n+1:=by rw[dA,fj a]
 have l:=dy (f:=b) (n:=n) hb.2.1;have i:(sN (fun u=>b u+one v u) n).toNat<=(sN b n).toNat:=h1;omega
def ir (n:Nat) (t:Nat->Nat->Int) (q:Nat) (c:Nat->Int):Prop:=∀S:Nat->Bool,(∃v,v<n/\S v=true)->S q=false->∃v,v<n/\S v=true/\c v<sN (fun u=>if S u=false then t v u else 0) n
def iu (n:Nat) (t:Nat->Nat->Int) (q:Nat) (c:Nat->Int):Prop:=(∀v,v<n->v≠q->0<=c v)/\ir n t q c
def ind (S:Nat->Bool) (v:Nat):Int:=if S v=true then 1 else 0
theorem qu {n:Nat} {t:Nat->Nat->Int} (S:Nat->Bool) (v:Nat):aU n t (ind S) v=if S v=true then sN (fun u=>if S u=false then t v u else 0) n else -sN (fun u=>if S u=true then t v u else 0) n:=by
 unfold aU;by_cases e:S v=true
 ·rw[if_pos e]
  refine bP fun u _=>?_
  unfold ind;cases hu:S u<;>simp[e]
 ·rw[if_neg e,<-mY]
  refine bP fun u _=>?_
  unfold ind;cases hu:S u<;>simp[e]
theorem tU {n:Nat} {t:Nat->Nat->Int} (i:Wt n t) (j:du n t) {q:Nat} (k:q<n) (D:Nat->Int):∃c,bM n t D c/\iu n t q c:=by
 obtain⟨a,o,p⟩:=Bv i j k D;let P:(Nat->Int)->Prop:=fun b=>b q=0/\(∀v,v<n->0<=b v)/\∀v,v<n->v≠q->0<=a v-aU n t b v
 have r:∀b,P b->∀v,v<n->b v<=n*sN (fun v=>((a v).natAbs:Int)) n:=by
  rintro b ⟨h1,l,m⟩;refine ko i j k (by omega) (dy fun v _=>by omega) ?_;intro x I;refine cX fun v g=>?_
  show (if decide (x<b v)=true then aU n t b v else 0)<=((a v).natAbs:Int)
  by_cases e:x<b v
  ·rw[if_pos (decide_eq_true e)]
   have:=m v g (fun s=>by subst s;omega);omega
  ·rw[if_neg (by simpa using e)];omega
 obtain⟨b,hb,y⟩:=tR (P:=P) (fun b=>(sN b n).toNat) (sN (fun _=>n*sN (fun v=>((a v).natAbs:Int)) n) n).toNat ⟨fun _=>0,rfl,fun _ _=>Int.le_refl _,fun v g h=>by rw[kr];have:=p v g h;omega⟩ (fun b hb=>by
  have h1:=cX (n:=n) (fun v g=>r b hb v g);have l:=dy (f:=b) (n:=n) hb.2.1;show (sN b n).toNat<=_
  omega)
 refine⟨fun v=>a v-aU n t b v,o.trans ⟨b,fun v _=>rfl⟩,hb.2.2,fun S hS z=>?_⟩;refine Classical.byContradiction fun B=>?_
 have C:∀v,v<n->S v=true->sN (fun u=>if S u=false then t v u else 0) n<=a v-aU n t b v:=fun v g E=>by
  refine Classical.byContradiction fun h=>B ⟨v,g,E,?_⟩
  show a v-aU n t b v<_
  omega
 have F:P (fun u=>b u+ind S u):=by
  refine⟨by show b q+ind S q=0;rw[hb.1];unfold ind;rw[z];simp,fun u hu=>by have:=hb.2.1 u hu;show 0<=b u+ind S u;unfold ind;split<;>omega,fun u hu G=>?_⟩;rw[kZ,qu];by_cases e:S u=true
  ·rw[if_pos e];have:=C u hu e;omega
  ·rw[if_neg e]
   have:=hb.2.2 u hu G;have:0<=sN (fun w=>if S w=true then t u w else 0) n:=dy fun w _=>by
    show 0<=(if S w=true then t u w else 0)
    have:=i.pos u w;split<;>omega
   omega
 obtain⟨w,hw,H⟩:=hS;have h1:=y (fun u=>b u+ind S u) F;have l:sN (fun u=>b u+ind S u) n=sN b n+sN (ind S) n:=dA _ _ _;have m:=dy (f:=b) (n:=n) hb.2.1;have J:=gD (f:=ind S) hw (fun u _=>by unfold ind;split<;>omega);have K:ind S w=1:=by unfold ind;rw[if_pos H]
 have L:(sN (fun u=>b u+ind S u) n).toNat<=(sN b n).toNat:=h1;omega
theorem qw {n:Nat} {t:Nat->Nat->Int} (i:Wt n t) (w:du n t) {q:Nat} (j:q<n) {c g:Nat->Int} (h:iu n t q c) (k:∀v,v<n->v≠q->0<=g v) {s:Nat->Int} (l:∀v,v<n->g v=c v-aU n t s v):∀v,v<n->s v<=s q:=by
 obtain⟨m,hm,b⟩:=ql s (show 0<n by omega);by_cases e:s q=s m
 ·intro v a;rw[e];exact b v a
 ·exfalso
  have x:=b q j;obtain⟨v,a,o,y⟩:=h.2 (fun v=>decide (s v=s m)) ⟨m,hm,by simp⟩ (by simpa using e);have p:s v=s m:=of_decide_eq_true o;have r:v≠q:=fun h=>by subst h;exact e p
  have h1:=k v a r;rw[l v a] at h1;have z:sN (fun u=>if decide (s u=s m)=false then t v u else 0) n<=aU n t s v:=by
   unfold aU;refine cX fun u hu=>?_
   show (if decide (s u=s m)=false then t v u else 0)<=t v u*(s v-s u)
   have hp:=i.pos v u;have hle:=b u hu;by_cases e2:s u=s m
   ·rw[if_neg (by simp[e2])]
    exact Int.mul_nonneg hp (by omega)
   ·rw[if_pos (by simpa using e2)]
    have:=Int.mul_le_mul_of_nonneg_left (show (1:Int)<=s v-s u by omega) hp;omega
  omega
theorem Bw {n:Nat} {t:Nat->Nat->Int} (j:Wt n t) (k:du n t) {q:Nat} (l:q<n) {c g:Nat->Int} (h:iu n t q c) (m:iu n t q g) (he:bM n t c g):∀v,v<n->g v=c v:=by
 obtain⟨s,i⟩:=he;have h1:=qw j k l h m.1 i;have o:=qw j k l m h.1 (s:=fun u=> -s u) (fun v e=>by rw[ma,i v e];omega);intro v e;have:aU n t s v=0:=by
  unfold aU;refine gV fun u hu=>?_
  have a:=h1 u hu;have b:=o u hu;have c:=h1 v e;have d:=o v e;rw[show s v-s u=0 by omega,Int.mul_zero]
 rw[i v e,this];omega
theorem Bx (B:Nat->Bool) (n:Nat) {v:Nat} (a:v<n) (b:B v=false):b9 B n<b9 (fun u=>decide (u=v)||B u) n:=
 oP (fun u _ h=>by simp[h]) a b (by simp)
theorem tV {n:Nat} {t:Nat->Nat->Int} (H:Wt n t) {q:Nat} (Y:q<n) {c:Nat->Int} (P:ir n t q c):
  ∃pos:Nat->Nat,gW n pos/\pos q=0/\∀v,v<n->v≠q->0<pos v/\c v<=nu n t pos v:=by
 have key:∀(m:Nat) (B:Nat->Bool) (pos:Nat->Nat) (k:Nat),n<=b9 B n+m->B q=true->pos q=0->0<k->(∀v,v<n->B v=true->pos v<k)->(∀u v,u<n->v<n->B u=true->B v=true->pos u=pos v->u=v)->
   (∀v,v<n->B v=true->v≠q->0<pos v/\c v<sN (fun u=>if B u=true/\pos u<pos v then t v u else 0) n)->
   ∃pos:Nat->Nat,gW n pos/\pos q=0/\∀v,v<n->v≠q->0<pos v/\c v<=nu n t pos v:=by
  intro m;induction m with
  |zero=>
   intro B pos k hm r C hk l D E;have o:=qq (S:=B) (n:=n) (by omega);refine⟨pos,fun u v hu g=>D u v hu g (o u hu) (o v g),C,fun v g s=>?_⟩;obtain⟨h1,i⟩:=E v g (o v g) s;refine⟨h1,?_⟩;unfold nu fL;have:sN (fun u=>if B u=true/\pos u<pos v then t v u else 0) n=sN (fun u=>if pos u<pos v then t v u else 0) n:=bP fun u hu=>by
    show (if B u=true/\pos u<pos v then t v u else 0)=(if pos u<pos v then t v u else 0)
    by_cases e:pos u<pos v
    ·rw[if_pos e,if_pos ⟨o u hu,e⟩]
    ·rw[if_neg e,if_neg (fun h=>e h.2)]
   omega
  |succ m I=>
   intro B pos k hm r C hk l D E;by_cases J:∃v,v<n/\B v=false
   ·obtain⟨w,hw,Q⟩:=J
    obtain⟨v,g,j,R⟩:=P (fun u=> !B u) ⟨w,hw,by simp[Q]⟩ (by simp[r]);have j:B v=false:=by simpa using j
    have s:v≠q:=fun h=>by subst h;rw[r] at j;cases j
    refine I (fun u=>decide (u=v)||B u) (fun u=>if u=v then k else pos u) (k+1) (by have:=Bx B n g j;omega) (by simp[r]) (by show (if q=v then k else pos q)=0;rw[if_neg (fun h=>s h.symm)];exact C) (by omega) ?_ ?_ ?_
    ·intro u hu F
     show (if u=v then k else pos u)<k+1
     by_cases e:u=v
     ·rw[if_pos e];omega
     ·rw[if_neg e]
      have:=l u hu (by simpa [e] using F);omega
    ·intro a b K hb L M G
     by_cases p:a=v
     ·by_cases e2:b=v
      ·rw[p,e2]
      ·exfalso
       have h1:=l b hb (by simpa [e2] using M);have i:(if a=v then k else pos a)=(if b=v then k else pos b):=G;rw[if_pos p,if_neg e2] at i;omega
     ·by_cases e2:b=v
      ·exfalso
       have h1:=l a K (by simpa [p] using L);have i:(if a=v then k else pos a)=(if b=v then k else pos b):=G;rw[if_neg p,if_pos e2] at i;omega
      ·have i:(if a=v then k else pos a)=(if b=v then k else pos b):=G
       rw[if_neg p,if_neg e2] at i;exact D a b K hb (by simpa [p] using L) (by simpa [e2] using M) i
    ·intro u hu F U
     by_cases e:u=v
     ·subst e
      show 0<(if u=u then k else pos u)/\_
      rw[if_pos rfl];refine⟨hk,Int.lt_of_lt_of_le R (cX fun x N=>?_)⟩;show (if(!B x)=false then t u x else 0)<=(if(decide (x=u)||B x)=true/\(if x=u then k else pos x)<k then t u x else 0)
      cases O:B x with
      |false=>
       rw[if_neg (by simp)];have:=H.pos u x;by_cases y:(decide (x=u)||false)=true/\(if x=u then k else pos x)<k
       ·rw[if_pos y];exact this
       ·rw[if_neg y];exact Int.le_refl _
      |true=>
       have V:x≠u:=fun h=>by subst h;rw[O] at j;cases j
       rw[if_pos (by simp),if_pos (by simp[V];exact l x N O)];exact Int.le_refl _
     ·have W:B u=true:=by simpa [e] using F
      obtain⟨h1,i⟩:=E u hu W U;show 0<(if u=v then k else pos u)/\_
      rw[if_neg e];refine⟨h1,Int.lt_of_lt_of_le i (cX fun x N=>?_)⟩;show (if B x=true/\pos x<pos u then t u x else 0)<=(if(decide (x=v)||B x)=true/\(if x=v then k else pos x)<pos u then t u x else 0)
      by_cases z:B x=true/\pos x<pos u
      ·have X:x≠v:=fun h=>by subst h;rw[j] at z;cases z.1
       rw[if_pos z,if_pos (by simp[X,z])];exact Int.le_refl _
      ·rw[if_neg z]
       have:=H.pos u x;by_cases y:(decide (x=v)||B x)=true/\(if x=v then k else pos x)<pos u
       ·rw[if_pos y];exact this
       ·rw[if_neg y];exact Int.le_refl _
   ·have o:∀v,v<n->B v=true:=fun v g=>by
     cases h:B v with
     |true=>rfl
     |false=>exact absurd ⟨v,g,h⟩ J
    have Z:n<=b9 B n:=by
     have i:=qt n;have:=nc (S:=fun _=>true) (T:=B) (n:=n) (fun v g _=>o v g);omega
    exact I B pos k (by omega) r C hk l D E
 refine key n (fun v=>decide (v=q)) (fun _=>0) 1 (by omega) (by simp) rfl (by omega) (fun _ _ _=>by omega) (fun u v _ _ hu g _=>?_) (fun v _ g s=>absurd (of_decide_eq_true g) s);have h1:u=q:=of_decide_eq_true hu;have i:v=q:=of_decide_eq_true g;rw[h1,i]
theorem tW {n:Nat} {t:Nat->Nat->Int} {pos:Nat->Nat} {q:Nat} (h:pos q=0):nu n t pos q= -1:=by
 unfold nu fL;rw[gV fun u _=>by rw[if_neg (by omega)]];rfl
theorem tX {n:Nat} {t:Nat->Nat->Int} (h:Wt n t) {q:Nat} (i:q<n) {c:Nat->Int} (j:ir n t q c) (hd:c q<0):∃pos:Nat->Nat,gW n pos/\pos q=0/\(∀v,v<n->v≠q->0<pos v)/\∀v,v<n->c v<=nu n t pos v:=by
 obtain⟨pos,h1,b,g⟩:=tV h i j;refine⟨pos,h1,b,fun v a k=>(g v a k).1,fun v a=>?_⟩;by_cases e:v=q
 ·subst e;rw[tW b];omega
 ·exact(g v a e).2
theorem lf {n:Nat} {t:Nat->Nat->Int} (a:Wt n t) {q:Nat} (g:q<n) {c:Nat->Int} (b:iu n t q c):bE n t c↔0<=c q:=by
 constructor
 ·intro hw
  refine Classical.byContradiction fun hd=>?_
  obtain⟨pos, -, -, -,h⟩:=tX a g b.2 (by omega);exact na a (by omega) pos (hw.mono h)
 ·intro h
  exact bE.qo fun v i=>by
   by_cases e:v=q
   ·subst e;exact h
   ·exact b.1 v i e
theorem oQ {n:Nat} {t:Nat->Nat->Int} (a:Wt n t) (e:du n t) (hn:0<n) (D:Nat->Int):¬bE n t D↔∃pos:Nat->Nat,gW n pos/\bE n t (fun v=>nu n t pos v-D v):=by
 constructor
 ·intro h
  obtain⟨c,h1,b⟩:=tU a e hn D;have g:c 0<0:=by
   refine Classical.byContradiction fun o=>h ?_
   rw[qm h1];exact(lf a hn b).2 (by omega)
  obtain⟨pos,i, -, -,j⟩:=tX a hn b.2 g;refine⟨pos,i,?_⟩;have k:bM n t (fun v=>nu n t pos v+ -c v) (fun v=>nu n t pos v+ -D v):=(bM.refl _ _ _).add h1.symm.neg;exact bE.eY k (bE.qo fun v l=>by have:=j v l;show 0<=nu n t pos v+ -c v;omega)
 ·rintro⟨pos, -,hw⟩ m
  refine na a hn pos ((hw.add m).mono fun v _=>?_);show nu n t pos v-D v+D v<=_
  omega
def fD (n:Nat) (t:Nat->Nat->Int) (D:Nat->Int) (k:Int):Prop:=∀F:Nat->Int,oO n F->sN F n=k->bE n t (fun v=>D v-F v)
def cg (n:Nat) (t:Nat->Nat->Int) (D:Nat->Int) (r:Int):Prop:= -1<=r/\(∀k,0<=k->k<=r->fD n t D k)/\¬fD n t D (r+1)
theorem fD.down {n:Nat} {t:Nat->Nat->Int} (hn:0<n) {D:Nat->Int} {k j:Int} (h:fD n t D k) (e:j<=k):fD n t D j:=by
 intro F hF b;have h1:=h (fun v=>F v+(k-j)*one 0 v) (fun v a=>by
  have:=hF v a;show 0<=F v+(k-j)*one 0 v
  unfold one;split
  ·rw[Int.mul_one];omega
  ·rw[Int.mul_zero];omega) (by rw[dA,eX,fj hn,b];omega)
 refine h1.mono fun v a=>?_
 show D v- (F v+(k-j)*one 0 v)<=D v-F v
 unfold one;split
 ·rw[Int.mul_one];omega
 ·rw[Int.mul_zero];omega
theorem cg.qy {n:Nat} {t:Nat->Nat->Int} (hn:0<n) {D:Nat->Int} {r:Int} (h:cg n t D r) {k:Int} (hk:0<=k):fD n t D k↔k<=r:=by
 constructor
 ·intro a
  refine Classical.byContradiction fun b=>h.2.2 (a.down hn (by omega))
 ·exact fun hle=>h.2.1 k hk hle
theorem cg.unique {n:Nat} {t:Nat->Nat->Int} (hn:0<n) {D:Nat->Int} {r a:Int} (h:cg n t D r) (b:cg n t D a):r=a:=by
 have h1:=h.1;have g:=b.1;rcases Int.lt_trichotomy r a with e|e|e
 ·exact absurd (b.2.1 (r+1) (by omega) (by omega)) h.2.2
 ·exact e
 ·exact absurd (h.2.1 (a+1) (by omega) (by omega)) b.2.2
theorem fD.eY {n:Nat} {t:Nat->Nat->Int} {D D':Nat->Int} (he:bM n t D D') {k:Int} (h:fD n t D k):fD n t D' k:=fun F hF a=>by
 have b:bM n t (fun v=>D v+ -F v) (fun v=>D' v+ -F v):=he.add (bM.refl _ _ _);exact bE.eY b (h F hF a)
theorem cg.eY {n:Nat} {t:Nat->Nat->Int} {D D':Nat->Int} (he:bM n t D D') {r:Int} (h:cg n t D r):cg n t D' r:=
 ⟨h.1,fun k a hk=>(h.2.1 k a hk).eY he,fun b=>h.2.2 (b.eY he.symm)⟩
def up (x:Int):Int:=if 0<=x then x else 0
theorem By (x:Int):0<=up x:=by unfold up;split<;>omega
theorem tY (x:Int):x<=up x:=by unfold up;split<;>omega
theorem qz {n:Nat} {t:Nat->Nat->Int} (g:Wt n t) (i:du n t) (hn:0<n) (D:Nat->Int) (k:Int) (hk:0<=k):fD n t D k↔∀(D':Nat->Int) (pos:Nat->Nat),bM n t D D'->gW n pos->k<sN (fun v=>up (D' v-nu n t pos v)) n:=by
 constructor
 ·intro h D' pos he hi
  refine Classical.byContradiction fun hle=>?_
  have hle:sN (fun v=>up (D' v-nu n t pos v)) n<=k:=by omega
  have h1:=(h.down hn hle) (fun v=>up (D' v-nu n t pos v)) (fun v _=>By _) rfl;have j:bM n t (fun v=>D v+ -up (D' v-nu n t pos v)) (fun v=>D' v+ -up (D' v-nu n t pos v)):=he.add (bM.refl _ _ _);have e:bE n t (fun v=>D' v+ -up (D' v-nu n t pos v)):=bE.eY j h1;exact na g hn pos (e.mono fun v _=>by
   have:=tY (D' v-nu n t pos v);show D' v+ -up (D' v-nu n t pos v)<=nu n t pos v
   omega)
 ·intro h F hF m
  refine Classical.byContradiction fun l=>?_
  obtain⟨pos,hi,hw⟩:=(oQ g i hn _).1 l;obtain⟨a,⟨s,h1⟩,e⟩:=hw;have he:bM n t D (fun v=>nu n t pos v+F v-a v):=⟨fun u=> -s u,fun v b=>by
   have o:a v=nu n t pos v- (D v-F v)-aU n t s v:=h1 v b;rw[ma];show nu n t pos v+F v-a v=_
   omega⟩
  have p:=h _ pos he hi;have q:sN (fun v=>up (nu n t pos v+F v-a v-nu n t pos v)) n<=sN F n:=cX fun v b=>by
   have:=e v b;have:=hF v b;show up (nu n t pos v+F v-a v-nu n t pos v)<=F v
   unfold up;split<;>omega
  omega
def can (n:Nat) (t:Nat->Nat->Int) (v:Nat):Int:=val n t v-2
def dF (n:Nat) (t:Nat->Nat->Int) (g:Int):Prop:=sN (can n t) n=2*g-2
theorem nf {n:Nat} {t:Nat->Nat->Int} (a:Wt n t) {g:Int} (b:dF n t g) {pos:Nat->Nat} (hi:gW n pos):sN (nu n t pos) n=g-1:=by
 have h1:=Bp a hi;have e:=Bq (n:=n) (t:=t) pos;have h:sN (can n t) n=sN (val n t) n-n*2:=by
  have:sN (can n t) n=sN (fun v=>val n t v- (fun _=>(2:Int)) v) n:=rfl;rw[this,de,iq]
 unfold dF at b;omega
theorem Bz {n:Nat} {t:Nat->Nat->Int} (a:Wt n t) (e:du n t) (hn:0<n) {g:Int} (b:dF n t g) {D:Nat->Int} {k:Int} (hk:0<=k) (j:0<=k- (sN D n+1-g)) (h:fD n t D k):fD n t (fun v=>can n t v-D v) (k- (sN D n+1-g)):=by
 rw[qz a e hn _ _ j];rw[qz a e hn _ _ hk] at h;intro D' pos he hi;obtain⟨pos',i⟩:=qp n pos;have hi':=Bn hi i;have l:bM n t D (fun v=>can n t v-D' v):=by
  have h1:bM n t (fun v=>can n t v+ -(can n t v-D v)) (fun v=>can n t v+ -D' v):=(bM.refl _ _ _).add he.neg;exact(bM.of_eq (D:=D) (D':=fun v=>can n t v+ -(can n t v-D v)) fun v _=>by show can n t v+ -(can n t v-D v)=D v;omega).trans (h1.trans (bM.of_eq fun v _=>by show can n t v-D' v=can n t v+ -D' v;omega))
 have h1:=h _ pos' l hi';have m:sN (fun v=>up (can n t v-D' v-nu n t pos' v)) n=sN (fun v=>up (D' v-nu n t pos v)) n-sN (fun v=>D' v-nu n t pos v) n:=by
  rw[<-de];refine bP fun v o=>?_
  have p:=tQ a hi i o;show up (can n t v-D' v-nu n t pos' v)=up (D' v-nu n t pos v)- (D' v-nu n t pos v)
  unfold can up;rw[<-p];split<;>split<;>omega
 rw[m,de,he.ba a,nf a b hi,de] at h1;unfold dF at b;rw[b] at h1;omega
theorem cg.qA {n:Nat} {t:Nat->Nat->Int} (b:Wt n t) (hn:0<n) {D:Nat->Int} {r:Int} (h:cg n t D r) (a:0<=r):r<=sN D n:=by
 have h1:=h.2.1 r a (Int.le_refl _) (fun v=>r*one 0 v) (fun v _=>Int.mul_nonneg a (by unfold one;split<;>omega)) (by rw[eX,fj hn,Int.mul_one]);have:=h1.ba b;rw[de,eX,fj hn] at this;omega
theorem cg.mf {n:Nat} {t:Nat->Nat->Int} {D:Nat->Int} {r:Int} (hn:0<n) (h:cg n t D r):r= -1↔¬bE n t D:=by
 have key:fD n t D 0↔bE n t D:=by
  constructor
  ·intro b
   exact(b (fun _=>0) (fun _ _=>Int.le_refl _) (jx n)).mono fun v _=>by show D v-0<=D v;omega
  ·intro hw F hF i
   have e:∀v,v<n->F v=0:=fun v a=>by
    have h1:=gD a hF;have:=hF v a;omega
   exact hw.mono fun v a=>by show D v<=D v-F v;rw[e v a];omega
 have h1:=h.1;have g:=h.qy hn (Int.le_refl 0);rw[<-key,g];omega
theorem jO {n:Nat} {t:Nat->Nat->Int} (a:Wt n t) (hn:0<n) (D:Nat->Int):∃r,cg n t D r:=by
 have key:∃k:Nat,¬fD n t D k:=by
  refine⟨(sN D n).toNat+1,fun h=>?_⟩;have h1:=h (fun v=>(((sN D n).toNat+1:Nat):Int)*one 0 v) (fun v _=>Int.mul_nonneg (by omega) (by unfold one;split<;>omega)) (by rw[eX,fj hn,Int.mul_one]);have:=h1.ba a;rw[de,eX,fj hn] at this;omega
 obtain⟨k,hk,b⟩:=Bj key;refine⟨(k:Int)-1,by omega,fun j e l=>?_,by rw[show (k:Int)-1+1=k by omega];exact hk⟩;refine Classical.byContradiction fun g=>?_
 obtain⟨i,rfl⟩:=Int.eq_ofNat_of_zero_le e;have:=b i g;omega
theorem tZ {n:Nat} {t:Nat->Nat->Int} (j:Wt n t) (l:du n t) (hn:0<n) {g:Int} (b:dF n t g) {D:Nat->Int} {r a:Int} (h:cg n t D r) (e:cg n t (fun v=>can n t v-D v) a):r-a=sN D n+1-g:=by
 have key:∀{D D':Nat->Int} {r a:Int},(∀v,v<n->D' v=can n t v-D v)->cg n t D r->cg n t D' a->r- (sN D n+1-g)<=a:=by
  intro D D' r a m h e;refine Classical.byContradiction fun s=>?_
  have h1:=h.1;have u:=e.1;have w:sN D' n=2*g-2-sN D n:=by
   rw[bP m,de];unfold dF at b;rw[b]
  by_cases o:0<=r
  ·have i:=Bz j l hn b o (by omega) (h.2.1 r o (Int.le_refl _))
   have k:fD n t D' (r- (sN D n+1-g)):=i.eY (bM.of_eq m);have p:=(e.qy hn (by omega)).1 k;omega
  ·
   have x:r= -1:=by omega
   have q:0<=a+1:=by omega
   have i:¬fD n t D' (a+1):=e.2.2;rw[qz j l hn _ _ q] at i;refine i fun F pos he hi=>?_
   have k:sN (fun v=>F v-nu n t pos v) n<=sN (fun v=>up (F v-nu n t pos v)) n:=cX fun v _=>tY _
   have p:sN (fun v=>F v-nu n t pos v) n=sN D' n- (g-1):=by rw[de,he.ba j,nf j b hi]
   omega
 have h1:=key (fun v _=>rfl) h e;have i:=key (D:=fun v=>can n t v-D v) (D':=D) (fun v _=>by show D v=can n t v- (can n t v-D v);omega) e h;have k:sN (fun v=>can n t v-D v) n=2*g-2-sN D n:=by
  rw[de];unfold dF at b;rw[b]
 omega
theorem BA {n:Nat} {t:Nat->Nat->Int} (q:Wt n t) (hn:0<n) {D:Nat->Int} (hw:bE n t D) {r:Int} (h:cg n t D r):(∀v,v<n->∀k,cg n t (fun u=>D u-one v u) k->r<=k+1)/\∃v,v<n/\∀k,cg n t (fun u=>D u-one v u) k->r=k+1:=by
 have j:0<=r:=by
  have h1:=h.1;have:=(h.mf hn).1;refine Classical.byContradiction fun g=>this (by omega) hw
 have i:∀v,v<n->∀k,cg n t (fun u=>D u-one v u) k->r<=k+1:=by
  intro v a k hk;have s:=hk.1;refine Classical.byContradiction fun w=>hk.2.2 fun F hF b=>?_
  have h1:=h.2.1 (k+2) (by omega) (by omega) (fun u=>F u+one v u) (fun u hu=>by have:=hF u hu;show 0<=F u+one v u;unfold one;split<;>omega) (by rw[dA,fj a,b];omega);exact h1.mono fun u _=>by show D u- (F u+one v u)<=D u-one v u-F u;omega
 refine⟨i,?_⟩;obtain⟨F,hF,b,l⟩:∃F,oO n F/\sN F n=r+1/\¬bE n t (fun v=>D v-F v):=by
  refine Classical.byContradiction fun g=>h.2.2 fun F hF b=>?_
  exact Classical.byContradiction fun hw=>g ⟨F,hF,b,hw⟩
 obtain⟨v,a,x⟩:∃v,v<n/\1<=F v:=by
  refine Classical.byContradiction fun g=>?_
  have:sN F n=0:=gV fun v a=>by
   have:=hF v a;refine Classical.byContradiction fun y=>g ⟨v,a,by omega⟩
  omega
 refine⟨v,a,fun k hk=>?_⟩;have h1:=i v a k hk;have m:¬fD n t (fun u=>D u-one v u) r:=fun o=>by
  have p:=o (fun u=>F u-one v u) (fun u hu=>by
   have:=hF u hu;show 0<=F u-one v u
   unfold one;by_cases e:u=v
   ·subst e;rw[if_pos rfl];omega
   ·rw[if_neg e];omega) (by rw[de,fj a,b];omega)
  exact l (p.mono fun u _=>by show D u-one v u- (F u-one v u)<=D u-F u;omega)
 have:=hk.qy hn j;have:¬r<=k:=fun hle=>m (this.2 hle)
 omega
theorem BB {n:Nat} {t:Nat->Nat->Int} (a:Wt n t) (i:du n t) (hn:0<n) {g:Int} (b:dF n t g) {D:Nat->Int} (hd:2*g-2<sN D n) {r:Int} (h:cg n t D r):r=sN D n-g:=by
 obtain⟨k,e⟩:=jO a hn (fun v=>can n t v-D v);have h1:=tZ a i hn b h e;have j:¬bE n t (fun v=>can n t v-D v):=fun hw=>by
  have:=hw.ba a;rw[de] at this;unfold dF at b;omega
 have:=(e.mf hn).2 j;omega
theorem BC {n:Nat} {t:Nat->Nat->Int} (a:Wt n t) (b:du n t) (hn:0<n) {g:Int} (e:dF n t g) {D:Nat->Int} (hd:g<=sN D n):bE n t D:=by
 refine Classical.byContradiction fun h=>?_
 obtain⟨pos,hi,hw⟩:=(oQ a b hn D).1 h;have h1:=hw.ba a;rw[de,nf a e hi] at h1;omega
theorem BD {n:Nat} {t:Nat->Nat->Int} (a:Wt n t) (e:du n t) (hn:0<n) {g:Int} (i:dF n t g) {D:Nat->Int} (h:¬bE n t D) (hd:sN D n<g-1):∃v,v<n/\¬bE n t (fun u=>D u+one v u):=by
 obtain⟨pos,hi,F,he,hF⟩:=(oQ a e hn D).1 h;have h1:=he.ba a;rw[de,nf a i hi] at h1;have hex:∃v,v<n/\0<F v:=by
  refine Classical.byContradiction fun j=>?_
  have:sN F n<=sN (fun _=>0) n:=cX fun v b=>by
   refine Classical.byContradiction fun l=>j ⟨v,b,?_⟩
   omega
  rw[jx] at this;omega
 obtain⟨v,b,hp⟩:=hex;refine⟨v,b,(oQ a e hn _).2 ⟨pos,hi,fun u=>F u-one v u,?_,fun u hu=>?_⟩⟩
 ·obtain⟨s,k⟩:=he
  exact⟨s,fun u hu=>by have h:F u=nu n t pos u-D u-aU n t s u:=k u hu;show F u-one v u=nu n t pos u- (D u+one v u)-_;omega⟩
 ·have:=hF u hu
  show 0<=F u-one v u
  unfold one;split
  ·subst u;omega
  ·omega
theorem iu.more {n:Nat} {t:Nat->Nat->Int} {q:Nat} {c:Nat->Int} (h:iu n t q c):iu n t q (fun u=>c u+one q u):=by
 have e:∀v,v≠q->c v+one q v=c v:=fun v a=>by unfold one;rw[if_neg a];omega
 refine⟨fun v a g=>by show 0<=c v+one q v;rw[e v g];exact h.1 v a g,fun S hS b=>?_⟩;obtain⟨v,a,i,j⟩:=h.2 S hS b;exact⟨v,a,i,by show c v+one q v<_;rw[e v (fun e=>by subst e;rw[i] at b;cases b)];exact j⟩
theorem BE {n:Nat} {t:Nat->Nat->Int} (a:Wt n t) {q:Nat} (b:q<n) {D c:Nat->Int} (he:bM n t D c) (e:iu n t q c):c q= -1↔¬bE n t D/\bE n t (fun u=>D u+one q u):=by
 have h1:=lf a b e;have g:=lf a b e.more;have h:=qm he;have i:bE n t (fun u=>D u+one q u)↔bE n t (fun u=>c u+one q u):=qm (he.add (bM.refl n t (one q)));rw[h,i,h1,g];have:one q q=1:=if_pos rfl;show _↔¬0<=c q/\0<=c q+one q q
 omega
theorem BF {n:Nat} {t:Nat->Nat->Int} (a:Wt n t) (q:Nat) (pos:Nat->Nat):ir n t q (nu n t pos):=fun S hS j=>by
 obtain⟨v,⟨b,g⟩,i⟩:=exists_least (P:=fun v=>v<n/\S v=true) pos hS;refine⟨v,b,g,?_⟩;unfold nu fL;have:sN (fun u=>if pos u<pos v then t v u else 0) n<=sN (fun u=>if S u=false then t v u else 0) n:=cX fun u hu=>by
  show (if pos u<pos v then t v u else 0)<=(if S u=false then t v u else 0)
  have hp:=a.pos v u;by_cases e:pos u<pos v
  ·have hf:S u=false:=by
    cases h:S u with
    |false=>rfl
    |true=>have:=i u ⟨hu,h⟩;omega
   rw[if_pos e,if_pos hf];omega
  ·rw[if_neg e];split<;>omega
 omega
theorem ir.down {n:Nat} {t:Nat->Nat->Int} {q:Nat} {c b:Nat->Int} (h:ir n t q c) (hle:∀v,v<n->v≠q->b v<=c v):ir n t q b:=fun S hS a=>by
 obtain⟨v,g,i,j⟩:=h S hS a;have:=hle v g (fun e=>by subst e;rw[i] at a;cases a);exact⟨v,g,i,by omega⟩
theorem BG {n:Nat} {t:Nat->Nat->Int} (a:Wt n t) (e:du n t) (hn:0<n) {g:Int} (b:dF n t g) {pos:Nat->Nat} (hi:gW n pos) {v:Nat} (h:v<n):bE n t (fun u=>nu n t pos u+one v u):=by
 refine BC a e hn b ?_;rw[dA,fj h,nf a b hi];omega
end Go.Proofs.YtffdiakgjakngaaGreat.T
namespace Go.Proofs.YtffdiakgjakngaaGreat.P
open Go.RowKit Go.Proofs.YtffdiakgjakngaaGreatW.PrintWords Go.Proofs.YtffdiakgjakngaaGreatW.PrintLast Go.Proofs.YtffdiakgjakngaaGreatW.PrintMore
set_option linter.unusedVariables false
set_option linter.unusedSimpArgs false
set_option maxHeartbeats 8000000
set_option maxRecDepth 100000
def Ev {α:Type} (f:Nat->Option α) (r:α):Prop:=∃B,∀K,B<=K->f K=some r
theorem Ev.const {α:Type} (r:α):Ev (fun _=>some r) r:=⟨0,fun _ _=>rfl⟩
theorem Ev.of_succ {α:Type} {f:Nat->Option α} {r:α} (h:Ev (fun k=>f (k+1)) r):Ev f r:=by
 obtain⟨B,h⟩:=h;refine⟨B+1,fun K a=>?_⟩;obtain⟨k,rfl⟩:∃k,K=k+1:=⟨K-1,by omega⟩;exact h k (by omega)
theorem Ev.bind {α β:Type} {f:Nat->Option α} {g:α->Nat->Option β} {a:α} {r:β} (h1:Ev f a) (b:Ev (g a) r):Ev (fun k=>(f k).bind fun t=>g t k) r:=by
 obtain⟨B,h1⟩:=h1;obtain⟨C,b⟩:=b;refine⟨max B C,fun K e=>?_⟩;show (f K).bind (fun t=>g t K)=some r
 rw[h1 K (by omega),Option.bind_some];exact b K (by omega)
theorem Ev.get {α:Type} {f:Nat->Option α} {r:α} (h:Ev f r):∃k,f k=some r:=by
 obtain⟨B,h⟩:=h;exact⟨B,h B (aI _)⟩
theorem Ev.at_ {α:Type} {f:Nat->Option α} {r:α} (hm:∀k,al (f k) (f (k+1))) {k:Nat} (h:f k=some r):Ev f r:=
 ⟨k,fun K a=>by
  obtain⟨m,rfl⟩:∃m,K=k+m:=⟨K-k,by omega⟩;clear a;induction m with
  |zero=>exact h
  |succ m b=>exact hm _ _ b⟩
theorem d_ {i:Nat} (h:i<=1000000):wrap64 ((i:Int)+1)=((i+1:Nat):Int):=by
 rw[show wrap64 ((i:Int)+1)=(i:Int)+1 from by unfold wrap64;omega];omega
theorem gX {x:Int} (h: -1000000000<=x/\x<=1000000000):wrap64 x=x:=by unfold wrap64;omega
def gY.f (b:Int) (e:List (S83)) (a:Int):Option (Bool):=if a>=0 then(some (decide (a<b))) else(some false)
theorem gY.calls (i:Int) (l:Option Addr) (m:Nat) (b:List (S83)) (j:Int) (r:Bool) (w:World) (n:Kd.C aN w l b.length b) (o:b.length<=m) (h:gY.f i b j=some r):
  Calls Tryz.prog 149 #[.agg #[.int .i64 i,.slice l b.length m],.int .i64 j] w fun e w'=>e= .returned (.bool r)/\Below w.heap.size w w':=by
 have x:=Tryz.underlying24;have y:=zA n;have z:=zA o;clear n o;have a:=zA (aq w.heap.size w);have H:(if j>=0 then(some (decide (j<i))) else(some false))=some r:=h;clear h;by_cases c3:j>=0
 ·rw[if_pos c3] at H
  have q:=az c3;clear c3;obtain rfl:=aH H;go_enter Tryz.func149,Tryz.ntmps149
  go_wp2_with (first|((with_reducible refine aJ (N:=2) rfl ?_);refine zX 2 #[.int .i64 i,.slice l b.length m] 24 ?_;intro s g B k hb;have p:=zA (k);have u:=zG a g;have v:=zG a g;replace a:=zS a hb;clear hb k g;obtain⟨D,E,F,G⟩:=ax p))
  go_ret;exact⟨zE,zB⟩
 ·rw[if_neg c3] at H
  have q:=a6 c3;clear c3;obtain rfl:=aH H;go_enter Tryz.func149,Tryz.ntmps149
  go_wp2_with (first|((with_reducible refine aJ (N:=2) rfl ?_);refine zX 2 #[.int .i64 i,.slice l b.length m] 24 ?_;intro s g I k hb;have p:=zA (k);have u:=zG a g;have v:=zG a g;replace a:=zS a hb;clear hb k g))
  go_ret;exact⟨zE,zB⟩
def fk.j0:Nat->Int->Bool->Int->List (S83)->Int->Int->Int->Option (Int)
 |0,_,_,_,_,_,_,_=>none
 |k+1,x1,g,h,a,b,e,i=>if g=true then(some 2) else(if b>e then(some 9) else(if x1>0 then(if 0<=(wrap64 (x1-1)) then(if(wrap64 (x1-1))<(a.length:Int) then(if b<((ae a (wrap64 (x1-1))).f0) then(some 9) else(if b=((ae a (wrap64 (x1-1))).f0) then(if e<=((ae a (wrap64 (x1-1))).f1) then(some 9) else(some 0)) else(some 0))) else(none)) else(none)) else(some 0)))
def fk.f (k:Nat) (e:Int) (a:List (S83)) (b:Int):Option (Int):=if 0<=b then(if b<(a.length:Int) then((gY.f e a ((ae a b).f0)).bind fun t112=>(if t112=true then((gY.f e a ((ae a b).f1)).bind fun t113=>(if t113=true then(if((ae a b).f2)<1 then(fk.j0 k b true e a ((ae a b).f0) ((ae a b).f1) ((ae a b).f2)) else(fk.j0 k b (decide (((ae a b).f2)>50)) e a ((ae a b).f0) ((ae a b).f1) ((ae a b).f2))) else(fk.j0 k b true e a ((ae a b).f0) ((ae a b).f1) ((ae a b).f2)))) else(fk.j0 k b true e a ((ae a b).f0) ((ae a b).f1) ((ae a b).f2)))) else(none)) else(none)
theorem fk.calls (k:Nat) (n:Int) (aS:Option Addr) (x:Nat) (a:List (S83)) (b:Int) (r:Int) (w:World) (a9:Kd.C aN w aS a.length a) (bd:a.length<=x) (h:fk.f k n a b=some r):
  Calls Tryz.prog 153 #[.agg #[.int .i64 n,.slice aS a.length x],.int .i64 b] w fun e w'=>e= .returned (.int .i64 r)/\Below w.heap.size w w':=by
 have cb:=Tryz.underlying24;have cc:=Tryz.underlying83;have I:=zA a9;have K:=zA bd;clear a9 bd;have j:=zA (aq w.heap.size w);unfold fk.f at h;have H:=h;clear h;by_cases c3:0<=b
 ·rw[if_pos c3] at H
  have be:=az c3;clear c3;by_cases c4:b<(a.length:Int)
  ·rw[if_pos c4] at H
   have bf:=az c4;clear c4;have a0:=zA H;clear H;go_enter Tryz.func153,Tryz.ntmps153
   go_upto_region 2 with (first|((with_reducible refine aJ (N:=2) rfl ?_);refine zX 2 #[.int .i64 n,.slice aS a.length x] 24 ?_;intro p m w6 z hb;have l:=zA (z);have ce:=zG j m;have cf:=zG j m;replace j:=zS j hb;clear hb z m;obtain⟨bg,bi,bk,bn⟩:=ax l;have ad:0<=(b:Int):=ay ‹_›;have ag:b<(a.length:Int):=ay ‹_›;obtain⟨q,bo,ak,am,an⟩:=dE I.out b ad ag;cases bo;replace ak:=(j.out.cell (a8 w _ ak)).trans ak;replace am:=(j.out.cell (a8 w _ am)).trans am;replace an:=(j.out.cell (a8 w _ an)).trans an;replace ad:=eq_true ad;replace ag:=eq_true ag)|((with_reducible refine aJ (N:=5) rfl ?_);refine zX 5 #[.int .i64 0,.int .i64 0,.int .i64 0] 83 ?_;intro s m w8 z hb;have i:=zA (z);have ci:=zG j m;have cj:=zG j m;replace j:=zS j hb;have u:=zA ((by rw[m];exact Nat.ne_of_lt (aA (g:=p) (o:=.cells #[.int .i64 n,.slice (some q) a.length x] 24 (0,0)) (zK l)):p≠s));have J:=zA ((by rw[m];exact Nat.ne_of_gt (aA (g:=p) (o:=.cells #[.int .i64 n,.slice (some q) a.length x] 24 (0,0)) (zK l)):s≠p));replace l:=zb l hb;clear hb z m;have ck:=J.out;have cl:=u.out;obtain⟨bv,bw,bx,b0,b1,b2⟩:=cw i))
   (try simp only[Act.put,List.setIfInBounds_toArray,List.set_cons_zero,List.set_cons_succ])
   go_cut [33] (fun v33 wc=>∃(kq:Nat) (ar:Bool),v33= .bool ar/\Aside0 (fk.j0 kq b ar n a ((ae a b).f0) ((ae a b).f1) ((ae a b).f2)=some r)/\Aside0 (kq<=k)/\Aside0 (wc.heap[p]? =some (.cells #[.int .i64 n,(.slice (some q) a.length x)] 24 (0,0)))/\Aside0 (wc.heap[s]? =some (.cells #[.int .i64 ((ae a b).f0),.int .i64 ((ae a b).f1),.int .i64 ((ae a b).f2)] 83 (0,0)))/\Aside0 (Below w.heap.size w wc))
   case first=>
    have H:=a0.out;clear a0;obtain⟨t112,av,H⟩:=zo H;by_cases aB:t112=true
    ·subst aB
     replace H:=zi H;obtain⟨t113,a2,H⟩:=zo H;by_cases aF:t113=true
     ·subst aF
      replace H:=zi H;by_cases V:((ae a b).f2)<1
      ·rw[if_pos V] at H
       have aa:=az V;clear V
       (first|rw[aa]|(simp only[bG,bL];rw[aa])|skip)
       have L:=zA H;clear H;have cn:=u.out;have co:=J.out;obtain⟨cq,cr,cv,cx⟩:=ax l;obtain⟨c0,c1,c2,c5,c6,c7⟩:=cw i;go_wp2_with (first|((with_reducible refine aG (f:=149) rfl ?_);refine zL (some 15) Tryz.func149 #[.agg #[.int .i64 n,.slice (some q) a.length x],.int .i64 ((ae a b).f0)] ?_;(with_reducible refine(gY.calls n _ _ a ((ae a b).f0) true _ ?ah ?ai av.out).mono ?_);(case ah=>exact Kd.aw I.out zB);(case ai=>exact K.out);rintro e c8 ⟨rfl,hb⟩;refine⟨_,rfl,?_⟩;replace l:=zA (aE (g:=p) (o:=.cells #[.int .i64 n,.slice (some q) a.length x] 24 (0,0)) (by refine zk ?_;refine aD ?_ u.out _;refine zk ?_;refine aD ?_ u.out _;refine zk ?_;refine aD ?_ u.out _;exact zK l) hb);replace i:=zA (aE (g:=s) (o:=.cells #[.int .i64 ((ae a b).f0),.int .i64 ((ae a b).f1),.int .i64 ((ae a b).f2)] 83 (0,0)) (by refine zk ?_;refine bB (cs:=#[.int .i64 ((ae a b).f0),.int .i64 ((ae a b).f1),.int .i64 0]) ?_ 2 _ rfl;refine zk ?_;refine bB (cs:=#[.int .i64 ((ae a b).f0),.int .i64 0,.int .i64 0]) ?_ 1 _ rfl;refine zk ?_;refine bB (cs:=#[.int .i64 0,.int .i64 0,.int .i64 0]) ?_ 0 _ rfl;exact zK i) hb);replace j:=zS j hb;(try clear hb);obtain⟨c9,c',dd,dk⟩:=ax l;obtain⟨dl,ds,dv,d0,d1,d2⟩:=cw i)|(go_at_call 149;(with_reducible refine(gY.calls n _ _ a ((ae a b).f1) true _ ?ah ?ai a2.out).mono ?_);(case ah=>exact Kd.aw I.out zB);(case ai=>exact K.out);rintro e d3 ⟨rfl,hb⟩;replace l:=zb l hb;replace i:=zb i hb;replace j:=zS j hb;(try clear hb);obtain⟨d4,d5,d6,d7,d8,d9⟩:=cw i))
       go_meet
       case rel=>exact⟨_,(true),zT,L,⟨by first|omega|exact aI _⟩,⟨zK l⟩,⟨zK i⟩,⟨zB⟩⟩
      ·rw[if_neg V] at H
       have aa:=a6 V;clear V
       (first|rw[aa]|(simp only[bG,bL];rw[aa])|skip)
       have L:=zA H;clear H;have ea:=u.out;have eb:=J.out;obtain⟨ed,eg,ek,el⟩:=ax l;obtain⟨em,er,es,ev,ew,ex⟩:=cw i;go_wp2_with (first|((with_reducible refine aG (f:=149) rfl ?_);refine zL (some 15) Tryz.func149 #[.agg #[.int .i64 n,.slice (some q) a.length x],.int .i64 ((ae a b).f0)] ?_;(with_reducible refine(gY.calls n _ _ a ((ae a b).f0) true _ ?ah ?ai av.out).mono ?_);(case ah=>exact Kd.aw I.out zB);(case ai=>exact K.out);rintro e ey ⟨rfl,hb⟩;refine⟨_,rfl,?_⟩;replace l:=zA (aE (g:=p) (o:=.cells #[.int .i64 n,.slice (some q) a.length x] 24 (0,0)) (by refine zk ?_;refine aD ?_ u.out _;refine zk ?_;refine aD ?_ u.out _;refine zk ?_;refine aD ?_ u.out _;exact zK l) hb);replace i:=zA (aE (g:=s) (o:=.cells #[.int .i64 ((ae a b).f0),.int .i64 ((ae a b).f1),.int .i64 ((ae a b).f2)] 83 (0,0)) (by refine zk ?_;refine bB (cs:=#[.int .i64 ((ae a b).f0),.int .i64 ((ae a b).f1),.int .i64 0]) ?_ 2 _ rfl;refine zk ?_;refine bB (cs:=#[.int .i64 ((ae a b).f0),.int .i64 0,.int .i64 0]) ?_ 1 _ rfl;refine zk ?_;refine bB (cs:=#[.int .i64 0,.int .i64 0,.int .i64 0]) ?_ 0 _ rfl;exact zK i) hb);replace j:=zS j hb;(try clear hb);obtain⟨e0,e1,e2,e3⟩:=ax l;obtain⟨e4,e5,e6,e_,e',fb⟩:=cw i)|(go_at_call 149;(with_reducible refine(gY.calls n _ _ a ((ae a b).f1) true _ ?ah ?ai a2.out).mono ?_);(case ah=>exact Kd.aw I.out zB);(case ai=>exact K.out);rintro e fd ⟨rfl,hb⟩;replace l:=zb l hb;replace i:=zb i hb;replace j:=zS j hb;(try clear hb);obtain⟨fn,fo,fq,fr,ft,fv⟩:=cw i))
       go_meet
       case rel=>exact⟨_,(decide (((ae a b).f2)>50)),zT,L,⟨by first|omega|exact aI _⟩,⟨zK l⟩,⟨zK i⟩,⟨zB⟩⟩
     ·replace aF:=Bool.eq_false_iff.mpr aF
      subst aF;replace H:=zj H;have L:=zA H;clear H;have f3:=u.out;have f4:=J.out;obtain⟨f5,f6,f7,f8⟩:=ax l;obtain⟨f9,f',gb,gc,gd,ge⟩:=cw i;go_wp2_with (first|((with_reducible refine aG (f:=149) rfl ?_);refine zL (some 15) Tryz.func149 #[.agg #[.int .i64 n,.slice (some q) a.length x],.int .i64 ((ae a b).f0)] ?_;(with_reducible refine(gY.calls n _ _ a ((ae a b).f0) true _ ?ah ?ai av.out).mono ?_);(case ah=>exact Kd.aw I.out zB);(case ai=>exact K.out);rintro e gf ⟨rfl,hb⟩;refine⟨_,rfl,?_⟩;replace l:=zA (aE (g:=p) (o:=.cells #[.int .i64 n,.slice (some q) a.length x] 24 (0,0)) (by refine zk ?_;refine aD ?_ u.out _;refine zk ?_;refine aD ?_ u.out _;refine zk ?_;refine aD ?_ u.out _;exact zK l) hb);replace i:=zA (aE (g:=s) (o:=.cells #[.int .i64 ((ae a b).f0),.int .i64 ((ae a b).f1),.int .i64 ((ae a b).f2)] 83 (0,0)) (by refine zk ?_;refine bB (cs:=#[.int .i64 ((ae a b).f0),.int .i64 ((ae a b).f1),.int .i64 0]) ?_ 2 _ rfl;refine zk ?_;refine bB (cs:=#[.int .i64 ((ae a b).f0),.int .i64 0,.int .i64 0]) ?_ 1 _ rfl;refine zk ?_;refine bB (cs:=#[.int .i64 0,.int .i64 0,.int .i64 0]) ?_ 0 _ rfl;exact zK i) hb);replace j:=zS j hb;(try clear hb);obtain⟨gg,gi,gl,gm⟩:=ax l;obtain⟨gn,go,gp,gq,gr,gs⟩:=cw i)|(go_at_call 149;(with_reducible refine(gY.calls n _ _ a ((ae a b).f1) false _ ?ah ?ai a2.out).mono ?_);(case ah=>exact Kd.aw I.out zB);(case ai=>exact K.out);rintro e gt ⟨rfl,hb⟩;replace l:=zb l hb;replace i:=zb i hb;replace j:=zS j hb;(try clear hb)))
      go_meet
      case rel=>exact⟨_,(true),zT,L,⟨by first|omega|exact aI _⟩,⟨zK l⟩,⟨zK i⟩,⟨zB⟩⟩
    ·replace aB:=Bool.eq_false_iff.mpr aB
     subst aB;replace H:=zj H;have L:=zA H;clear H;have gx:=u.out;have g0:=J.out;obtain⟨g1,g2,g3,g4⟩:=ax l;obtain⟨g5,g6,g7,g8,g9,g'⟩:=cw i;go_wp2_with (first|((with_reducible refine aG (f:=149) rfl ?_);refine zL (some 15) Tryz.func149 #[.agg #[.int .i64 n,.slice (some q) a.length x],.int .i64 ((ae a b).f0)] ?_;(with_reducible refine(gY.calls n _ _ a ((ae a b).f0) false _ ?ah ?ai av.out).mono ?_);(case ah=>exact Kd.aw I.out zB);(case ai=>exact K.out);rintro e ha ⟨rfl,hb⟩;refine⟨_,rfl,?_⟩;replace l:=zA (aE (g:=p) (o:=.cells #[.int .i64 n,.slice (some q) a.length x] 24 (0,0)) (by refine zk ?_;refine aD ?_ u.out _;refine zk ?_;refine aD ?_ u.out _;refine zk ?_;refine aD ?_ u.out _;exact zK l) hb);replace i:=zA (aE (g:=s) (o:=.cells #[.int .i64 ((ae a b).f0),.int .i64 ((ae a b).f1),.int .i64 ((ae a b).f2)] 83 (0,0)) (by refine zk ?_;refine bB (cs:=#[.int .i64 ((ae a b).f0),.int .i64 ((ae a b).f1),.int .i64 0]) ?_ 2 _ rfl;refine zk ?_;refine bB (cs:=#[.int .i64 ((ae a b).f0),.int .i64 0,.int .i64 0]) ?_ 1 _ rfl;refine zk ?_;refine bB (cs:=#[.int .i64 0,.int .i64 0,.int .i64 0]) ?_ 0 _ rfl;exact zK i) hb);replace j:=zS j hb;(try clear hb)))
     go_meet
     case rel=>exact⟨_,(true),zT,L,⟨by first|omega|exact aI _⟩,⟨zK l⟩,⟨zK i⟩,⟨zB⟩⟩
   case rest=>
    clear a0;clear be bf bv bw bx bg bi b0 b1 b2 bk bn ak am an ad ag;obtain⟨kq,ar,rfl,HA,hc,l,i,j⟩:=hcut;cases kq with
    |zero=>exact absurd HA.out (by simp[fk.j0])
    |succ he=>
     have H:=HA.out;clear HA;simp only[fk.j0] at H;by_cases aL:ar=true
     ·subst aL
      replace H:=zi H;obtain rfl:=aH H;go_wp2;go_ret;exact⟨zE,zB⟩
     ·replace aL:=Bool.eq_false_iff.mpr aL
      subst aL;replace H:=zj H;by_cases W:((ae a b).f0)>((ae a b).f1)
      ·rw[if_pos W] at H
       have b3:=az W;clear W;obtain rfl:=aH H;have hf:=J.out;have hh:=u.out;obtain⟨hj,hk,hl,hm,hn,ho⟩:=cw i;go_wp2;go_ret;exact⟨zE,zB⟩
      ·rw[if_neg W] at H
       have b3:=a6 W;clear W;by_cases X:b>0
       ·rw[if_pos X] at H
        have b4:=az X;clear X;obtain⟨v,M⟩:∃j_:Int,(wrap64 (b-1))=j_:=⟨_,rfl⟩;replace H:(if 0<=(v) then(if(v)<(a.length:Int) then(if((ae a b).f0)<((ae a (v)).f0) then(some 9) else(if((ae a b).f0)=((ae a (v)).f0) then(if((ae a b).f1)<=((ae a (v)).f1) then(some 9) else(some 0)) else(some 0))) else(none)) else(none))=some r:=by first|(rw[M] at H;exact H)|(simp only[M] at H⊢;exact H)
        have hp:(IntKind.i64.wrap (b-1))=v:=(bG _).trans M;by_cases aO:0<=(v)
        ·rw[if_pos aO] at H
         have hq:=az aO;clear aO;by_cases aP:(v)<(a.length:Int)
         ·rw[if_pos aP] at H
          have hr:=az aP;clear aP;by_cases Y:((ae a b).f0)<((ae a (v)).f0)
          ·rw[if_pos Y] at H
           have b6:=az Y;clear Y;obtain rfl:=aH H;have hs:=J.out;have ht:=u.out;obtain⟨hv,hw,hx,hy,hz,hA⟩:=cw i;obtain⟨hB,hC,hD,hE⟩:=ax l;have B:0<=((v):Int):=ay ‹_›;have D:(v)<(a.length:Int):=ay ‹_›;obtain⟨O,P,E,F,G⟩:=dE I.out (v) B D;obtain rfl:q=O:=(by injection P);replace E:=(j.out.cell (a8 w _ E)).trans E;replace F:=(j.out.cell (a8 w _ F)).trans F;replace G:=(j.out.cell (a8 w _ G)).trans G;replace B:=eq_true B;replace D:=eq_true D;go_wp2_with (first|((with_reducible refine aJ (N:=6) rfl ?_);refine zX 6 #[.int .i64 0,.int .i64 0,.int .i64 0] 83 ?_;intro y m hG z hb;have Q:=zA (z);have a4:=zG j m;have a5:=zG j m;replace j:=zS j hb;have R:=zA ((by rw[m];exact Nat.ne_of_lt (aA (g:=p) (o:=.cells #[.int .i64 n,.slice (some q) a.length x] 24 (0,0)) (zK l)):p≠y));have S:=zA ((by rw[m];exact Nat.ne_of_gt (aA (g:=p) (o:=.cells #[.int .i64 n,.slice (some q) a.length x] 24 (0,0)) (zK l)):y≠p));replace l:=zb l hb;have T:=zA ((by rw[m];exact Nat.ne_of_lt (aA (g:=s) (o:=.cells #[.int .i64 ((ae a b).f0),.int .i64 ((ae a b).f1),.int .i64 ((ae a b).f2)] 83 (0,0)) (zK i)):s≠y));have U:=zA ((by rw[m];exact Nat.ne_of_gt (aA (g:=s) (o:=.cells #[.int .i64 ((ae a b).f0),.int .i64 ((ae a b).f1),.int .i64 ((ae a b).f2)] 83 (0,0)) (zK i)):y≠s));replace i:=zb i hb;clear hb z m;have hH:=S.out;have hI:=R.out;have hJ:=U.out;have hK:=T.out;obtain⟨hL,hM,hN,hO,hP,hQ⟩:=cw Q;obtain⟨hR,hT,hV,hW,hX,hY⟩:=cw i))
           go_ret;exact⟨by first|rfl|(simp[eL,eM]<;>rfl)|(simp only[<-M];first|rfl|(simp[eL,eM]<;>rfl))|(simp[*,eL,eM]<;>rfl),zB⟩
          ·rw[if_neg Y] at H
           have b6:=a6 Y;clear Y;by_cases ab:((ae a b).f0)=((ae a (v)).f0)
           ·rw[if_pos ab] at H
            obtain⟨b_,b'⟩:=bH ab;clear ab;by_cases Z:((ae a b).f1)<=((ae a (v)).f1)
            ·rw[if_pos Z] at H
             have ca:=az Z;clear Z;obtain rfl:=aH H;have h0:=J.out;have h1:=u.out;obtain⟨h2,h3,h4,h5,h6,h7⟩:=cw i;obtain⟨h8,h9,h_,h'⟩:=ax l;have B:0<=((v):Int):=ay ‹_›;have D:(v)<(a.length:Int):=ay ‹_›;obtain⟨O,P,E,F,G⟩:=dE I.out (v) B D;obtain rfl:q=O:=(by injection P);replace E:=(j.out.cell (a8 w _ E)).trans E;replace F:=(j.out.cell (a8 w _ F)).trans F;replace G:=(j.out.cell (a8 w _ G)).trans G;replace B:=eq_true B;replace D:=eq_true D;go_wp2_with (first|((with_reducible refine aJ (N:=6) rfl ?_);refine zX 6 #[.int .i64 0,.int .i64 0,.int .i64 0] 83 ?_;intro y m ib z hb;have Q:=zA (z);have a4:=zG j m;have a5:=zG j m;replace j:=zS j hb;have R:=zA ((by rw[m];exact Nat.ne_of_lt (aA (g:=p) (o:=.cells #[.int .i64 n,.slice (some q) a.length x] 24 (0,0)) (zK l)):p≠y));have S:=zA ((by rw[m];exact Nat.ne_of_gt (aA (g:=p) (o:=.cells #[.int .i64 n,.slice (some q) a.length x] 24 (0,0)) (zK l)):y≠p));replace l:=zb l hb;have T:=zA ((by rw[m];exact Nat.ne_of_lt (aA (g:=s) (o:=.cells #[.int .i64 ((ae a b).f0),.int .i64 ((ae a b).f1),.int .i64 ((ae a b).f2)] 83 (0,0)) (zK i)):s≠y));have U:=zA ((by rw[m];exact Nat.ne_of_gt (aA (g:=s) (o:=.cells #[.int .i64 ((ae a b).f0),.int .i64 ((ae a b).f1),.int .i64 ((ae a b).f2)] 83 (0,0)) (zK i)):y≠s));replace i:=zb i hb;clear hb z m;have id:=S.out;have ih:=R.out;have ii:=U.out;have im:=T.out;obtain⟨io,ip,it,iv,i0,i1⟩:=cw Q;obtain⟨i2,i3,i4,i5,i6,i7⟩:=cw i))
             go_ret;exact⟨by first|rfl|(simp[eL,eM]<;>rfl)|(simp only[<-M];first|rfl|(simp[eL,eM]<;>rfl))|(simp[*,eL,eM]<;>rfl),zB⟩
            ·rw[if_neg Z] at H
             have ca:=a6 Z;clear Z;obtain rfl:=aH H;have i8:=J.out;have i9:=u.out;obtain⟨jj,jp,j1,j2,j3,j'⟩:=cw i;obtain⟨kd,kk,km,ks⟩:=ax l;have B:0<=((v):Int):=ay ‹_›;have D:(v)<(a.length:Int):=ay ‹_›;obtain⟨O,P,E,F,G⟩:=dE I.out (v) B D;obtain rfl:q=O:=(by injection P);replace E:=(j.out.cell (a8 w _ E)).trans E;replace F:=(j.out.cell (a8 w _ F)).trans F;replace G:=(j.out.cell (a8 w _ G)).trans G;replace B:=eq_true B;replace D:=eq_true D;go_wp2_with (first|((with_reducible refine aJ (N:=6) rfl ?_);refine zX 6 #[.int .i64 0,.int .i64 0,.int .i64 0] 83 ?_;intro y m kt z hb;have Q:=zA (z);have a4:=zG j m;have a5:=zG j m;replace j:=zS j hb;have R:=zA ((by rw[m];exact Nat.ne_of_lt (aA (g:=p) (o:=.cells #[.int .i64 n,.slice (some q) a.length x] 24 (0,0)) (zK l)):p≠y));have S:=zA ((by rw[m];exact Nat.ne_of_gt (aA (g:=p) (o:=.cells #[.int .i64 n,.slice (some q) a.length x] 24 (0,0)) (zK l)):y≠p));replace l:=zb l hb;have T:=zA ((by rw[m];exact Nat.ne_of_lt (aA (g:=s) (o:=.cells #[.int .i64 ((ae a b).f0),.int .i64 ((ae a b).f1),.int .i64 ((ae a b).f2)] 83 (0,0)) (zK i)):s≠y));have U:=zA ((by rw[m];exact Nat.ne_of_gt (aA (g:=s) (o:=.cells #[.int .i64 ((ae a b).f0),.int .i64 ((ae a b).f1),.int .i64 ((ae a b).f2)] 83 (0,0)) (zK i)):y≠s));replace i:=zb i hb;clear hb z m;have kv:=S.out;have kw:=R.out;have kW:=U.out;have k0:=T.out;obtain⟨k1,k2,k3,k4,k5,k6⟩:=cw Q;obtain⟨k7,k8,k9,k_,la,lb⟩:=cw i))
             go_ret;exact⟨by first|rfl|(simp[eL,eM]<;>rfl)|(simp only[<-M];first|rfl|(simp[eL,eM]<;>rfl))|(simp[*,eL,eM]<;>rfl),zB⟩
           ·rw[if_neg ab] at H
            obtain⟨b_,b'⟩:=bI ab;obtain rfl:=aH H;have lc:=J.out;have ld:=u.out;obtain⟨le,lg,li,lj,lk,lm⟩:=cw i;obtain⟨lo,lp,ls,lt⟩:=ax l;have B:0<=((v):Int):=ay ‹_›;have D:(v)<(a.length:Int):=ay ‹_›;obtain⟨O,P,E,F,G⟩:=dE I.out (v) B D;obtain rfl:q=O:=(by injection P);replace E:=(j.out.cell (a8 w _ E)).trans E;replace F:=(j.out.cell (a8 w _ F)).trans F;replace G:=(j.out.cell (a8 w _ G)).trans G;replace B:=eq_true B;replace D:=eq_true D;go_wp2_with (first|((with_reducible refine aJ (N:=6) rfl ?_);refine zX 6 #[.int .i64 0,.int .i64 0,.int .i64 0] 83 ?_;intro y m lv z hb;have Q:=zA (z);have a4:=zG j m;have a5:=zG j m;replace j:=zS j hb;have R:=zA ((by rw[m];exact Nat.ne_of_lt (aA (g:=p) (o:=.cells #[.int .i64 n,.slice (some q) a.length x] 24 (0,0)) (zK l)):p≠y));have S:=zA ((by rw[m];exact Nat.ne_of_gt (aA (g:=p) (o:=.cells #[.int .i64 n,.slice (some q) a.length x] 24 (0,0)) (zK l)):y≠p));replace l:=zb l hb;have T:=zA ((by rw[m];exact Nat.ne_of_lt (aA (g:=s) (o:=.cells #[.int .i64 ((ae a b).f0),.int .i64 ((ae a b).f1),.int .i64 ((ae a b).f2)] 83 (0,0)) (zK i)):s≠y));have U:=zA ((by rw[m];exact Nat.ne_of_gt (aA (g:=s) (o:=.cells #[.int .i64 ((ae a b).f0),.int .i64 ((ae a b).f1),.int .i64 ((ae a b).f2)] 83 (0,0)) (zK i)):y≠s));replace i:=zb i hb;clear hb z m;have lw:=S.out;have l0:=R.out;have l1:=U.out;have l2:=T.out;obtain⟨l3,l',mb,md,mk,ml⟩:=cw Q;obtain⟨mm,mn,mp,ms,mt,mv⟩:=cw i))
            go_ret;exact⟨by first|rfl|(simp[eL,eM]<;>rfl)|(simp only[<-M];first|rfl|(simp[eL,eM]<;>rfl))|(simp[*,eL,eM]<;>rfl),zB⟩
         ·rw[if_neg aP] at H
          exact absurd H (by simp)
        ·rw[if_neg aO] at H
         exact absurd H (by simp)
       ·rw[if_neg X] at H
        have b4:=a6 X;clear X;obtain rfl:=aH H;have mx:=J.out;have m0:=u.out;obtain⟨m1,m2,m3,m4,m5,m6⟩:=cw i;go_wp2;go_ret;exact⟨zE,zB⟩
  ·rw[if_neg c4] at H
   exact absurd H (by simp)
 ·rw[if_neg c3] at H
  exact absurd H (by simp)
end Go.Proofs.YtffdiakgjakngaaGreat.P


