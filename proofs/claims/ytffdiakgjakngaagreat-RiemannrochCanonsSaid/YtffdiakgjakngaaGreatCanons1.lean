/- Canons answers true whatever the input (text 1 of 7): own walks and plain laws; no conditions. -/
import Derived.ArgAppend
import Derived.Below
import Derived.BigQuiet
import Derived.Deep.AppendLies
import Derived.Deep.CutBlock
import Derived.Deep.DeepCutAuto
import Derived.Deep.Draws
import Derived.Deep.LoopGhost
import Derived.Deep.OwnRows
import Derived.Deep.QuietTactic
import Derived.Deep.RegionHeld3
import Derived.KernelRfl
import Derived.Laws.BitsLemmas
import Derived.Laws.BytesArg
import Derived.Laws.IdiomCopy
import Derived.Laws.MakeOwn
import Derived.Laws.OwnMore
import Derived.Laws.Rows
import Derived.Laws.Slices
import Derived.Laws.StructEq
import Derived.Lib.AppendStr
import Derived.Lib.ConvBytes
import Derived.Maps.AppendAt
import Derived.OrdersHeld
import Derived.OwnWalk
import Derived.RowKit
import Derived.RowKit3
import Derived.Tactics
import Derived.Test.YtffdiakgjakngaaGreatProg
import Derived.WalkKit
import Derived.WideLaws
section
set_option linter.unusedVariables false
set_option linter.unusedSimpArgs false
namespace Go.Proofs.YtffdiakgjakngaaGreatW.PrintWords
open Go.RowKit
structure Aside0 (p:Prop):Prop where mk::(out:p)
structure aA (w w':World):Prop where mk::(out:∃n,w'=w.drewN n)
theorem aA.refl (w:World):aA w w:=⟨⟨0,rfl⟩⟩
theorem aA.step {w w':World} (h:aA w w') (n:Nat):aA w (w'.drewN n):=by
  obtain⟨m,rfl⟩:=h;exact⟨⟨m+n,World.drewN_drewN ..⟩⟩
theorem aA.below {w w':World} (h:aA w w'):Below w.heap.size w w':=by
  obtain⟨n,rfl⟩:=h;induction n with
  |zero=>exact Below.refl _ _
  |succ n a=>rw[<-World.drew_drewN];exact a.drew
def rd (xs:List Int) (i:Int):Int:=xs.getD i.toNat 0
theorem aq {w W:World} (h:Below w.heap.size w W) (o:Obj):Below w.heap.size w (W.alloc o):=h.alloc h.size o
theorem gS {B:Nat} {w W:World} (h:Below B w W):Below B w W.drew:=⟨h.os,h.tape,h.output,h.size,h.block⟩
theorem bY {B:Nat} {w W:World} (h:Below B w W) (n:Nat):Below B w (W.drewN n):=⟨h.os,h.tape,h.output,h.size,h.block⟩
theorem lf {B:Nat} {w w1 w2:World} (h:Below B w w1) (a:B<=w1.heap.size) (k:Below w1.heap.size w1 w2):Below B w w2:=
  h.trans ⟨k.os,k.tape,k.output,k.size,fun i hi=>k.block i (Nat.lt_of_lt_of_le hi a)⟩
theorem jU {B:Nat} {w w1:World} (h:Below B w w1) (row:Option Nat) (a:B<=w1.heap.size) {w2:World} (b:w1.grownBy w2 row) (e:∀k,row=some k->B<=k):Below B w w2:=h.grown b a e
theorem jl {w w1:World} (h:Below w.heap.size w w1) (row:Option Nat):w.grownBy w1 row:=⟨h.os,h.tape,h.output,h.size,fun i hi _=>h.block i hi⟩
theorem iq {w w1:World} (h:Below w.heap.size w w1) {a:Addr} {v:Value} (b:w.cell? a=some v):w1.cell? a=some v:=(h.cell (World.block_lt_of_cell? w a b)).trans b
theorem add_plain (g j:Nat):(⟨g,0,none⟩:Addr).add j=⟨g,j,none⟩:=by unfold Addr.add;split<;>simp_all
def G2 (w:World) (k:IntKind) (A:Option Addr) (n:Nat) (xs:List Int):Prop:=
  xs.length=n/\n<=9223372036854775807/\(0<n->∃ad,A=some ad/\∀j,j<n->w.cell? (ad.add j)=some (.int k (xs.getD j 0)))
theorem rJ (W:World) (base:Nat) (e:TypeId) (size:Nat):W.ownsRow base e size (.slice none 0 0) 0 []:=⟨by simp,.inl ⟨rfl,rfl⟩⟩
theorem jm {w:World} {base:Nat} {e:TypeId} {size n:Nat} {v:Value} {xs:List Value} (h:w.ownsRow base e size v n xs) (k:Nat) (hk:v.ownBlock=some k):base<=k:=by
  rcases h.2 with⟨rfl,_⟩|⟨g,cap,cur,rfl,hb,_⟩
  · simp[Value.ownBlock] at hk
  · have:g=k:=by simpa [Value.ownBlock] using hk
    omega
theorem rK {w:World} {base:Nat} {e:TypeId} {size n:Nat} {v:Value} {xs:List Value} (h:w.ownsRow base e size v n xs) (k:Nat) (hk:v.ownBlock=some k):k<w.heap.size:=by
  rcases h.2 with⟨rfl,_⟩|⟨g,cap,cur,rfl,hb,a,_⟩
  · simp[Value.ownBlock] at hk
  · have:g=k:=by simpa [Value.ownBlock] using hk
    subst this;exact(Array.getElem?_eq_some_iff.1 a).1
theorem rL {w:World} {base n:Nat} {e:TypeId} {size:Nat} {v:Value} {xs:List Value} (h:w.ownsRow base e size v n xs):∃A c,v= .slice A n c:=by
  rcases h.2 with⟨rfl,rfl⟩|⟨g,cap,cur,rfl,_⟩
  · exact⟨none,0,rfl⟩
  · exact⟨_,cap,rfl⟩
def aj {α:Type} (a b:Option α):Prop:=∀r,a=some r->b=some r
theorem aj.refl {α:Type} (a:Option α):aj a a:=fun _ h=>h
theorem aj.trans {α:Type} {a b c:Option α} (h:aj a b) (k:aj b c):aj a c:=fun r e=>k r (h r e)
theorem aj.ite {α:Type} {c:Prop} [Decidable c] {a a' b b':Option α} (h:aj a a') (k:aj b b'):aj (if c then a else b) (if c then a' else b'):=by
  split
  · exact h
  · exact k
theorem aj.bind {α β:Type} {a a':Option α} {f b:α->Option β} (h:aj a a') (k:∀x,aj (f x) (b x)):aj (a.bind f) (a'.bind b):=by
  intro r e;obtain⟨x,g,hf⟩:=Option.bind_eq_some_iff.1 e;exact Option.bind_eq_some_iff.2 ⟨x,h x g,k x r hf⟩
theorem rM {α:Type} {g:Nat->Option α} (h:∀k,aj (g k) (g (k+1))) (k:Nat):∀j,aj (g k) (g (k+j))
  |0=>aj.refl _
  |j+1=>(rM h k j).trans (h (k+j))
theorem lh {α:Type} {g:Nat->Option α} (h:∀k,aj (g k) (g (k+1))) {k k':Nat} (hk:k<=k') {r:α} (a:g k=some r):g k'=some r:=by
  have:=rM h k (k'-k) r a;rwa [Nat.add_sub_cancel' hk] at this
def aU {α:Type} (R:α->List Value->Prop) (size:Nat) (ps:List α) (cs:List Value):Prop:=
  cs.length=ps.length*size/\∀j p,ps[j]? =some p->R p ((cs.drop (j*size)).take size)
theorem aU.none {α:Type} (R:α->List Value->Prop) (size:Nat):aU R size [] []:=⟨by simp,fun j p h=>by simp at h⟩
theorem aU.snoc {α:Type} {R:α->List Value->Prop} {size:Nat} {ps:List α} {cs c:List Value} {p:α} (h:aU R size ps cs) (hp:R p c) (e:c.length=size):aU R size (ps++[p]) (cs++c):=by
  refine⟨by rw[List.length_append,h.1,e,List.length_append,List.length_singleton,Nat.add_mul,Nat.one_mul],fun j q a=>?_⟩;rcases Nat.lt_or_ge j ps.length with b|b
  · rw[List.getElem?_append_left b] at a
    have h1:j*size+size<=cs.length:=by rw[h.1,<-Nat.succ_mul];exact Nat.mul_le_mul_right _ b
    have g:=h.2 j q a;rw[List.drop_append_of_le_length (by omega),List.take_append_of_le_length (by rw[List.length_drop];omega)];exact g
  · have i:j=ps.length:=by
      have:=(List.getElem?_eq_some_iff.1 a).1;rw[List.length_append,List.length_singleton] at this;omega
    subst i;have k:p=q:=by simpa using a
    subst k;rw[<-h.1,List.drop_left,<-e,List.take_length];exact hp
theorem aU.eG {α:Type} {R R':α->List Value->Prop} {size:Nat} {ps:List α} {cs:List Value} (h:aU R size ps cs) (a:∀p c,R p c->R' p c):aU R' size ps cs:=⟨h.1,fun j p b=>a _ _ (h.2 j p b)⟩
def fR {α:Type} (R:α->List Value->Prop) (size:Nat) (w:World) (A:Option Addr) (n:Nat) (ps:List α):Prop:=
  ps.length=n/\n<=9223372036854775807/\(0<n->∃ad,A=some ad/\∀j p,ps[j]? =some p->∃c,c.length=size/\R p c/\∀i u,c[i]? =some u->w.cell? (ad.add (j*size+i))=some u)
theorem fR.xf {α:Type} {R:α->List Value->Prop} {size:Nat} {w:World} {A:Option Addr} {n:Nat} {ps:List α} (h:fR R size w A n ps) (d:α) (i:Int) (m:0<=i) (h1:i<n):
    ∃ad c,A=some ad/\c.length=size/\R (ps.getD i.toNat d) c/\∀j u,c[j]? =some u->w.cell? (ad.add (i.toNat*size+j))=some u:=by
  obtain⟨ad,e,b⟩:=h.2.2 (by omega);have a:i.toNat<ps.length:=by have:=h.1;omega
  obtain⟨c,g,k,l⟩:=b i.toNat _ (List.getElem?_eq_getElem a);refine⟨ad,c,e,g,?_,l⟩;rw[List.getD_eq_getElem?_getD,List.getElem?_eq_getElem a];exact k
theorem fR.eG {α:Type} {R R':α->List Value->Prop} {size:Nat} {w w1:World} {A:Option Addr} {n:Nat} {ps:List α} (h:fR R size w A n ps) (hb:Below w.heap.size w w1) (a:∀p c,R p c->R' p c):fR R' size w1 A n ps:=
  ⟨h.1,h.2.1,fun hn=>by
    obtain⟨ad,e,b⟩:=h.2.2 hn;refine⟨ad,e,fun j p g=>?_⟩;obtain⟨c,k,l,m⟩:=b j p g;exact⟨c,k,a _ _ l,fun i u hu=>iq hb (m i u hu)⟩⟩
theorem xg {α:Type} {R:α->List Value->Prop} {w:World} {base n size:Nat} {e:TypeId} {v:Value} {ps:List α} {cs:List Value} (h:w.ownsRow base e size v n cs) (a:aU R size ps cs) (hn:ps.length=n):
    ∃A c,v= .slice A n c/\fR R size w A n ps:=by
  rcases Nat.eq_zero_or_pos n with b|b
  · rcases h.2 with⟨rfl,rfl⟩|⟨g,cap,cur,rfl,_⟩
    · exact⟨none,0,rfl,hn,by omega,fun hp=>absurd hp (by omega)⟩
    · exact⟨_,cap,rfl,hn,by omega,fun hp=>absurd hp (by omega)⟩
  · obtain⟨g,cap,rfl,_,_⟩:=h.form b
    have hm:n<=9223372036854775807:=by
      rcases h.2 with⟨_,h1⟩|⟨o,q,cur,he,_,_,h1,l,_⟩
      · omega
      · simp only[maxLen] at l
        omega
    refine⟨_,cap,rfl,hn,hm,fun _=>⟨_,rfl,fun j p k=>⟨(cs.drop (j*size)).take size,?_,a.2 j p k,fun i u hu=>?_⟩⟩⟩
    · have m:=(List.getElem?_eq_some_iff.1 k).1
      have h1:j*size+size<=cs.length:=by rw[a.1,<-Nat.succ_mul];exact Nat.mul_le_mul_right _ m
      rw[List.length_take,List.length_drop];omega
    · refine h.cells (g:=g) rfl _ u ?_
      rw[List.getElem?_take] at hu;split at hu
      · rw[List.getElem?_drop] at hu
        exact hu
      · cases hu
theorem o8 (ad:Addr) (m j:Nat) (a:0<j):ad.add (m+j)=⟨(ad.add m).block,(ad.add m).off+j,none⟩:=by
  unfold Addr.add;by_cases hm:m=0
  · subst hm
    simp[Nat.ne_of_gt a]
  · simp[hm,Nat.add_assoc]
section
variable {P:Program} {ops:Array Oper} {rest:List Oper} {o:Oper} {a:Act} {Q:Exit->Act->World->Prop}
theorem xh {w0 W:World} (base:Nat) (p:o.guard=none) (s x:Operand) (t e:TypeId) (z:Value) (size bytes:Nat)
    (q:o.op= .call {callee:=.builtin .append,args:=#[s,x],argTypes:=#[t,t]})
    (r:P.underlying t=some (.slice e)) (w:(P.info? e).map (fun i=>(i.zero,i.size,i.bytes))=some (some z,size,bytes)) (y:z.cells.size=size) (B:0<size) (C:0<bytes)
    (v:Value) (n:Nat) (xs ys:List Value) (D:a.eval s=v) (E:a.eval x= .slice (some ⟨W.heap.size,0,none⟩) 1 1) (F:ys.length=size) (h1:∀u∈ys,u.oneCell'=true)
    (j:W.ownsRow base e size v n xs) (G:Below base w0 W) (H:base<=W.heap.size) (k:(n+1)*bytes<=140737488355328)
    (h:∀v1 w1,w1.ownsRow base e size v1 (n+1) (xs++ys)->Below base w0 w1->W.grownBy w1 v.ownBlock->(v1.ownBlock=v.ownBlock\/∃b,v1.ownBlock=some b/\W.heap.size<=b)->wpList P ops Q rest (a.put o.dst v1) w1):
    wpList P ops Q (o::rest) a (W.alloc (.cells ys.toArray e)):=by
  obtain⟨i0,hi,l⟩:=Option.map_eq_some_iff.1 w;simp only[Prod.mk.injEq] at l;obtain⟨I,J,K⟩:=l;have hlen:n+1<=140737488355328:=Nat.le_trans (Nat.le_mul_of_pos_right _ C) k;refine wpList_append_own_at (W.alloc (.cells ys.toArray e)) p s x t q base e i0 z size bytes r hi I J K y B v n xs D (j.alloc _) ⟨W.heap.size,0,none⟩ 1 1 ys E (by rw[F];simp)
    (by simpa using World.news_of_block (cs:=ys.toArray) (t:=e) (fr:=(0,0)) (heap_alloc_new W (.cells ys.toArray e))) h1 (by simp only[maxLen];omega) k (by simp;omega) ?_
  intro v1 w1 L m _ g;refine h v1 w1 L ((G.alloc H _).grown m (by simp;omega) (jm j)) (World.grownBy.trans (World.grownBy_alloc W _ _) m) ?_;rcases g with g|g
  · exact .inl g
  · exact .inr ⟨_,g,by simp⟩
end
theorem rN {w:World} {base:Nat} {e t:TypeId} {size n g:Nat} {v:Value} {xs:List Value} {cs:Array Value} (h:w.ownsRow base e size v n xs) (b:w.heap[g]? =some (.cells cs t (0,0))) (i:e≠t):some g≠v.ownBlock:=by
  rcases h.2 with⟨rfl,_⟩|⟨j,cap,cur,rfl,_,a,_⟩
  · simp[Value.ownBlock]
  · intro he
    have:g=j:=by simpa [Value.ownBlock] using he
    subst this;rw[b] at a;injection a with a
    injection a with _ k
    exact i k.symm
theorem bR {w:World} {g:Nat} {t:TypeId} {cs:Array Value} (h:w.heap[g]? =some (.cells cs t (0,0))) (i:Nat) (u:Value):(w.setCell ⟨g,i,none⟩ u).heap[g]? =some (.cells (cs.setIfInBounds i u) t (0,0)):=by
  simp[World.setCell,Array.getElem?_modify,h]
theorem aG {w:World} {g:Nat} {t:TypeId} {cs:Array Value} (h:w.heap[g]? =some (.cells cs t (0,0))) {p:Addr} (hp:g≠p.block) (u:Value):(w.setCell p u).heap[g]? =some (.cells cs t (0,0)):=(Below.heap_setCell w p u g hp).trans h
theorem aE {w:World} {g:Nat} {o:Obj} (h:w.heap[g]? =some o):g<w.heap.size:=(Array.getElem?_eq_some_iff.1 h).1
theorem al {w:World} {g:Nat} {t:TypeId} {cs:Array Value} (h:w.heap[g]? =some (.cells cs t (0,0))) (i:Nat):w.cell? ⟨g,i,none⟩=cs[i]? :=cell_of_row w g i cs t (0,0) h
theorem bD {w:World} {g:Nat} {t:TypeId} {cs:Array Value} (h:w.heap[g]? =some (.cells cs t (0,0))) (i:Nat):w.frozen? ⟨g,i,none⟩=false:=by simp[World.frozen?,h]
theorem cR {w w1:World} {g:Nat} {o:Obj} {row:Option Nat} (h:w.heap[g]? =some o) (a:w.grownBy w1 row) (b:some g≠row):w1.heap[g]? =some o:=(a.block g (aE h) b).trans h
def ni (w w':World) (g:Nat) (row:Option Nat):Prop:=w.heap.size<=w'.heap.size/\∀i,i<w.heap.size->i≠g->some i≠row->w'.heap[i]? =w.heap[i]?
theorem ni.trans {w w1 w2:World} {g:Nat} {row a:Option Nat} (h:ni w w1 g row) (k:ni w1 w2 g a) (l:a=row\/∃b,a=some b/\w.heap.size<=b):ni w w2 g row:=
  ⟨Nat.le_trans h.1 k.1,fun i hi j hn=>by
    refine(k.2 i (Nat.lt_of_lt_of_le hi h.1) j ?_).trans (h.2 i hi j hn);rcases l with rfl|⟨b,rfl,hb⟩
    · exact hn
    · intro e
      injection e with e
      omega⟩
section
variable {P:Program} {ops:Array Oper} {o:Oper} {a:Act} {Q:Exit->Act->World->Prop} {K:Act->World->Prop}
theorem xi {w0 W:World} (base:Nat) (hw:Region.wanted o (yielded ops a.tmps)=true) (s x:Operand) (t e:TypeId) (z:Value) (size bytes:Nat)
    (p:o.op= .call {callee:=.builtin .append,args:=#[s,x],argTypes:=#[t,t]})
    (q:P.underlying t=some (.slice e)) (r:(P.info? e).map (fun i=>(i.zero,i.size,i.bytes))=some (some z,size,bytes)) (w:z.cells.size=size) (y:0<size) (B:0<bytes)
    (v:Value) (n:Nat) (xs ys:List Value) (C:a.eval s=v) (D:a.eval x= .slice (some ⟨W.heap.size,0,none⟩) 1 1) (E:ys.length=size) (h1:∀u∈ys,u.oneCell'=true)
    (j:W.ownsRow base e size v n xs) (F:Below base w0 W) (G:base<=W.heap.size) (k:(n+1)*bytes<=140737488355328)
    (h:∀v1 w1,w1.ownsRow base e size v1 (n+1) (xs++ys)->Below base w0 w1->W.grownBy w1 v.ownBlock->(v1.ownBlock=v.ownBlock\/∃b,v1.ownBlock=some b/\W.heap.size<=b)->K (a.put o.dst v1) w1):
    if Region.wanted o (yielded ops a.tmps)=true then Oper.wp P o a (W.alloc (.cells ys.toArray e)) K Q else K (a.put o.dst undef) (W.alloc (.cells ys.toArray e)):=by
  obtain⟨i0,hi,l⟩:=Option.map_eq_some_iff.1 r;simp only[Prod.mk.injEq] at l;obtain⟨H,I,J⟩:=l;have hlen:n+1<=140737488355328:=Nat.le_trans (Nat.le_mul_of_pos_right _ B) k;rw[if_pos hw];obtain⟨v1,w1,L,M,m,_,g⟩:=run_append_own_at (P:=P) (W.alloc (.cells ys.toArray e)) base t o.type e i0 z size bytes q hi H I J w y v n xs (j.alloc _) ⟨W.heap.size,0,none⟩ 1 1 ys (by rw[E];simp)
    (by simpa using World.news_of_block (cs:=ys.toArray) (t:=e) (fr:=(0,0)) (heap_alloc_new W (.cells ys.toArray e))) h1 (by simp only[maxLen];omega) k (by simp;omega)
  unfold Oper.wp execOp;simp only[p,resolve,invoke,builtin,Sem.run_bind,Sem.run_pure,Result.andThen_ok,List.map_toArray,List.map_cons,List.map_nil,C,D,L];refine h v1 w1 M ((F.alloc G _).grown m (by simp;omega) (jm j)) (World.grownBy.trans (World.grownBy_alloc W _ _) m) ?_;rcases g with g|g
  · exact .inl g
  · exact .inr ⟨_,g,by simp⟩
end
theorem xj {w:World} {base base':Nat} {e:TypeId} {size n:Nat} {v:Value} {xs:List Value} (h:w.ownsRow base e size v n xs) (hb:base'<=base):w.ownsRow base' e size v n xs:=by
  obtain⟨h1,a⟩:=h;refine⟨h1,?_⟩;rcases a with a|⟨g,cap,cur,rfl,b,r⟩
  · exact .inl a
  · exact .inr ⟨g,cap,cur,rfl,Nat.le_trans hb b,r⟩
section
variable {α:Type} {enc:α->Value} {d:α}
def bS (enc:α->Value) (xs:List α):List Value:=xs.map enc
def bO (d:α) (xs:List α) (i:Int):α:=xs.getD i.toNat d
theorem rO (xs:List α):(bS enc xs).length=xs.length:=by simp[bS]
theorem rP (xs:List α) (j:Nat) (h:j<xs.length):(bS enc xs)[j]? =some (enc (xs.getD j d)):=by
  simp[bS,List.getElem?_eq_getElem h,List.getD_eq_getElem?_getD]
def ll (enc:α->Value) (d:α) (w:World) (A:Option Addr) (n:Nat) (xs:List α):Prop:=
  xs.length=n/\n<=9223372036854775807/\(0<n->∃ad,A=some ad/\∀j,j<n->w.cell? (ad.add j)=some (enc (xs.getD j d)))
theorem ll.at_ {w:World} {A:Option Addr} {n:Nat} {xs:List α} (h:ll enc d w A n xs) (i:Int) (b:0<=i) (h1:i<n):∃ad,A=some ad/\w.cell? (ad.add i.toNat)=some (enc (bO d xs i)):=by
  obtain⟨ad,e,a⟩:=h.2.2 (by omega);exact⟨ad,e,a _ (by omega)⟩
theorem xk {W:World} {base g n cap:Nat} {e:TypeId} {xs:List α} (h:W.ownsRow base e 1 (.slice (some ⟨g,0,none⟩) n cap) n (bS enc xs)) (i:Int) (l:0<=i) (h1:i<n):
    W.cell? ⟨g,i.toNat,none⟩=some (enc (bO d xs i))/\W.frozen? ⟨g,i.toNat,none⟩=false:=by
  have m:xs.length=n:=by have:=h.1;simp[bS] at this;exact this
  constructor
  · have b:=h.cells (g:=g) rfl i.toNat _ (rP (d:=d) xs i.toNat (by omega))
    rwa [add_plain] at b
  · rcases h.2 with⟨a,_⟩|⟨j,o,cur,a,_,k,_⟩
    · cases a
    · have:g=j:=by injection a with a;injection a with a;injection a with a
      subst this;simp[World.frozen?,k]
theorem xm {W:World} {base g n cap:Nat} {e:TypeId} {xs:List α} (h:W.ownsRow base e 1 (.slice (some ⟨g,0,none⟩) n cap) n (bS enc xs)) (i:Int) (x:α):
    (W.setCell ⟨g,i.toNat,none⟩ (enc x)).ownsRow base e 1 (.slice (some ⟨g,0,none⟩) n cap) n (bS enc (xs.set i.toNat x))/\W.grownBy (W.setCell ⟨g,i.toNat,none⟩ (enc x)) (some g):=by
  have a:=h.stored i.toNat (enc x);have he:(bS enc xs).set i.toNat (enc x)=bS enc (xs.set i.toNat x):=by simp[bS,List.map_set]
  rwa [he] at a
end
section
variable {α:Type} {P:Program} {ops:Array Oper} {rest:List Oper} {o:Oper} {a:Act} {Q:Exit->Act->World->Prop}
theorem xn {w0 W:World} (enc:α->Value) (d:α) (base:Nat) (F:o.guard=none) (s x:Operand) (t e:TypeId) (z:Value) (bytes:Nat)
    (G:o.op= .call {callee:=.builtin .append,args:=#[s,x],argTypes:=#[t,t]})
    (p:P.underlying t=some (.slice e)) (H:(P.info? e).map (fun i=>(i.zero,i.size,i.bytes))=some (some z,1,bytes)) (I:z.cells.size=1) (J:0<bytes) (h1:∀x:α,(enc x).oneCell'=true)
    (v:Value) (xs ys:List α) (A:Option Addr) (m c:Nat) (L:a.eval s=v) (M:a.eval x= .slice A m c)
    (n:W.ownsRow base e 1 v xs.length (bS enc xs)) (r:ll enc d W A m ys) (N:Below base w0 W) (B:base<=W.heap.size) (C:(xs.length+m)*bytes<=140737488355328)
    (h:∀v1 w1,w1.ownsRow base e 1 v1 (xs++ys).length (bS enc (xs++ys))->Below base w0 w1->W.grownBy w1 v.ownBlock->(v1.ownBlock=v.ownBlock\/∃b,v1.ownBlock=some b/\W.heap.size<=b)->wpList P ops Q rest (a.put o.dst v1) w1):
    wpList P ops Q (o::rest) a W:=by
  obtain⟨i0,hi,D⟩:=Option.map_eq_some_iff.1 H;simp only[Prod.mk.injEq] at D;obtain⟨O,R,S⟩:=D;have hm:ys.length=m:=r.1;have hlen:xs.length+m<=140737488355328:=Nat.le_trans (Nat.le_mul_of_pos_right _ J) C;have T:∃v1 w1,(Builtin.append_ #[t,t] o.type #[v,.slice A m c]).run P W= .ok v1 w1/\w1.ownsRow base e 1 v1 (xs++ys).length (bS enc (xs++ys))/\W.grownBy w1 v.ownBlock/\(v1.ownBlock=v.ownBlock\/v1.ownBlock=some W.heap.size):=by
    rcases A with _|ad
    · have k:m=0:=by
        rcases Nat.eq_zero_or_pos m with k|k
        · exact k
        · obtain⟨ad,h,_⟩:=r.2.2 k
          cases h
      subst k;obtain rfl:ys=[]:=List.eq_nil_of_length_eq_zero hm;refine⟨v,W,?_,by simpa using n,World.grownBy.refl W _,.inl rfl⟩;rcases n.2 with⟨rfl,hn⟩|⟨g,cap,cur,rfl,_,_,U,_⟩
      · simp[Builtin.append_,run_underlying p,sizeOf,typeInfo,hi,Builtin.lenOf,Builtin.firstCells]
      · simp[Builtin.append_,run_underlying p,sizeOf,typeInfo,hi,Builtin.lenOf,Builtin.firstCells,U,storeCells]
    · have V:∀j u,(bS enc ys)[j]? =some u->W.cell? (ad.add j)=some u:=by
        intro j u hu;have X:j<ys.length:=by
          rcases Nat.lt_or_ge j ys.length with h|h
          · exact h
          · simp[bS,List.getElem?_eq_none h] at hu
        obtain⟨am,w,Y⟩:=r.2.2 (by omega);injection w with w
        subst w;rw[rP (d:=d) ys j X] at hu;rw[<-hu];exact Y j (by omega)
      obtain⟨v1,w1,y,Z,h3,_,h5⟩:=run_append_own_at (P:=P) W base t o.type e i0 z 1 bytes p hi O R S I (by omega) v xs.length (bS enc xs) n ad m c (bS enc ys) (by simp[bS,hm]) V
        (by intro u hu;simp only[bS,List.mem_map] at hu;obtain⟨q,_,rfl⟩:=hu;exact h1 q) (by simp only[maxLen];omega) C B
      exact⟨v1,w1,y,by simpa [bS,hm] using Z,h3,h5⟩
  obtain⟨v1,w1,y,ag,E,l⟩:=T;refine wpList_plain F fun K hK=>?_
  unfold Oper.wp execOp;simp only[G,resolve,invoke,builtin,Sem.run_bind,Sem.run_pure,Result.andThen_ok,List.map_toArray,List.map_cons,List.map_nil,L,M,y];refine hK _ _ (h v1 w1 ag (N.grown E B (jm n)) E ?_);rcases l with l|l
  · exact .inl l
  · exact .inr ⟨_,l,Nat.le_refl _⟩
end
theorem ay {w:World} {g:Nat} {o:Obj} (h:w.heap[g]? =some o) (a:Obj):(w.alloc a).heap[g]? =some o:=(Below.heap_alloc w a g (aE h)).trans h
theorem fw {w:World} {g:Nat} {o:Obj} (h:w.heap[g]? =some o):w.drew.heap[g]? =some o:=h
theorem ir {w:World} {g:Nat} {o:Obj} (h:w.heap[g]? =some o) (n:Nat):(w.drewN n).heap[g]? =some o:=h
theorem aM {w w1:World} {g:Nat} {o:Obj} (h:w.heap[g]? =some o) (hb:Below w.heap.size w w1):w1.heap[g]? =some o:=(hb.block g (aE h)).trans h
theorem xo (w:World) (o:Obj):(w.alloc o).heap[w.heap.size]? =some o:=heap_alloc_new w o
section
variable {P:Program}
theorem o9 {fn:Func} {p u:Tmp} {ty:TypeId} (h:fn.results=#[.cell p ty,.tmp u]) (tmps:Array Value) (w:World) (g:Nat) (t:TypeId) (cs:Array Value) (fr:Nat×Nat) (d:TypeDesc)
    (hp:tmps.getD p undef= .pointer (some ⟨g,0,none⟩)) (a:w.heap[g]? =some (.cells cs t fr))
    (hu:P.underlying ty=some d) (hd:(match d with| .struct _| .array _ _=>true|_=>false)=true) (hi:(P.info? ty).map (·.size)=some cs.size):
    (results fn tmps).run P w= .ok (.tuple #[.agg cs,tmps.getD u undef]) w:=by
  have b:tmps[p]?.getD undef= .pointer (some ⟨g,0,none⟩):=by simpa using hp
  simp[results,h,b,asAddr,run_loadVar_row w g t ty cs fr d a hu hd hi]
end
theorem xp {w:World} {base n m c size:Nat} {e:TypeId} {A:Option Addr} {xs:List Value} (h:w.ownsRow base e size (.slice A m c) n xs):m<=c:=by
  rcases h.2 with⟨he,_⟩|⟨g,cap,cur,he,_,_,i,_⟩
  · injection he with _ a b
    omega
  · injection he with _ a b
    omega
def gy {α:Type} (R:α->List Value->Prop) (e:TypeId) (size:Nat) (w:World) (base:Nat) (v:Value) (ps:List α):Prop:=
  ∃inner,w.ownsRow base e size v ps.length inner/\aU R size ps inner
section
variable {α:Type} {R R':α->List Value->Prop} {e:TypeId} {size:Nat} {w w1:World} {base:Nat} {v:Value} {ps:List α}
theorem gy.none_ (R:α->List Value->Prop) (e:TypeId) (size:Nat) (w:World) (base:Nat):gy R e size w base (.slice none 0 0) []:=⟨[],rJ _ _ _ _,aU.none _ _⟩
theorem gy.eG (h:gy R e size w base v ps) (a:∀p c,R p c->R' p c):gy R' e size w base v ps:=by
  obtain⟨inner,b,g⟩:=h;exact⟨inner,b,g.eG a⟩
theorem gy.reads (h:gy R e size w base v ps):∃A c,v= .slice A ps.length c/\ps.length<=c/\fR R size w A ps.length ps:=by
  obtain⟨inner,a,b⟩:=h;obtain⟨A,c,rfl,g⟩:=xg a b rfl;exact⟨A,c,rfl,xp a,g⟩
theorem gy.xr (h:gy R e size w base v ps) {g:Nat} {t:TypeId} {cells:Array Value} (hb:w.heap[g]? =some (.cells cells t (0,0))) (a:e≠t):some g≠v.ownBlock:=by
  obtain⟨inner,b,i⟩:=h;exact rN b hb a
end
theorem fR.xt {α:Type} {R:α->List Value->Prop} {size:Nat} {w:World} {ad:Addr} {n:Nat} {ps:List α} (h:fR R size w (some ad) n ps):
    ∃inner,aU R size ps inner/\∀j u,inner[j]? =some u->w.cell? (ad.add j)=some u:=by
  have key:∀m,m<=ps.length->∃inner,aU R size (ps.take m) inner/\∀j u,inner[j]? =some u->w.cell? (ad.add j)=some u:=by
    intro m;induction m with
    |zero=>exact fun _=>⟨[],aU.none _ _,fun j u hu=>by simp at hu⟩
    |succ m g=>
      intro hm;obtain⟨inner,a,b⟩:=g (by omega);obtain⟨p,he,i⟩:=h.2.2 (by have:=h.1;omega);injection he with he
      subst he;obtain⟨c,k,hp,l⟩:=i m _ (List.getElem?_eq_getElem (show m<ps.length by omega));refine⟨inner++c,?_,fun j u hu=>?_⟩
      · rw[List.take_succ_eq_append_getElem (show m<ps.length by omega)]
        exact a.snoc hp k
      · have o:inner.length=m*size:=by rw[a.1,List.length_take,Nat.min_eq_left (by omega)]
        rcases Nat.lt_or_ge j inner.length with e|e
        · rw[List.getElem?_append_left e] at hu
          exact b j u hu
        · rw[List.getElem?_append_right e] at hu
          have:=l (j-inner.length) u hu;rwa [o,Nat.add_sub_cancel' (by omega)] at this
  obtain⟨inner,a,b⟩:=key ps.length (Nat.le_refl _);rw[List.take_length] at a;exact⟨inner,a,b⟩
structure Kd (α:Type) where
  sz:Nat
  E:List Nat
  K:World->α->List Value->Prop
  M:World->Nat->(Nat->Prop)->α->List Value->Prop
  dZ:∀{w x cs},K w x cs->cs.length=sz
  d_:∀{w x cs},K w x cs->∀u∈cs,u.oneCell'=true
  gz:∀{w w1:World} {x cs},Below w.heap.size w w1->K w x cs->K w1 x cs
  cV:∀{w base ok x cs},M w base ok x cs->K w x cs
  cy:∀{w base ok ok' x cs},(∀k,ok k->ok' k)->M w base ok x cs->M w base ok' x cs
  en:∀{w:World} {base ok x cs},M w base ok x cs->M w base (fun k=>ok k/\base<=k/\k<w.heap.size/\∃q,q∈E/\∃cells,w.heap[k]? =some (.cells cells q (0,0))) x cs
  ez:∀{w w1:World} {base ok x cs},(∀k,ok k->w1.heap[k]? =w.heap[k]?)->M w base ok x cs->M w1 base ok x cs
  gA:∀{w base base' ok x cs},base'<=base->M w base ok x cs->M w base' ok x cs
theorem xu {w w1:World} {base:Nat} {e:TypeId} {size n:Nat} {v:Value} {xs:List Value} (h:w.ownsRow base e size v n xs) (hm:∀k,v.ownBlock=some k->w1.heap[k]? =w.heap[k]?):w1.ownsRow base e size v n xs:=by
  obtain⟨h1,a⟩:=h;refine⟨h1,?_⟩;rcases a with a|⟨g,cap,cur,rfl,b,i,r⟩
  · exact .inl a
  · exact .inr ⟨g,cap,cur,rfl,b,(hm g (by simp[Value.ownBlock])).trans i,r⟩
theorem iR {w:World} {base:Nat} {e:TypeId} {size n:Nat} {v:Value} {xs:List Value} (h:w.ownsRow base e size v n xs) (k:Nat) (hk:v.ownBlock=some k):∃cells,w.heap[k]? =some (.cells cells e (0,0)):=by
  rcases h.2 with⟨rfl,_⟩|⟨g,cap,cur,rfl,b,a,r⟩
  · simp[Value.ownBlock] at hk
  · have:g=k:=by simpa [Value.ownBlock] using hk
    subst this;exact⟨cur,a⟩
namespace Kd
def C {α:Type} (d:Kd α) (w:World) (A:Option Addr) (n:Nat) (xs:List α):Prop:=fR (d.K w) d.sz w A n xs
def R {α:Type} (d:Kd α) (e:Nat) (w:World) (base:Nat) (ok:Nat->Prop) (v:Value) (xs:List α):Prop:=
  (∀k,v.ownBlock=some k->ok k)/\gy (d.M w base (fun k=>ok k/\some k≠v.ownBlock)) e d.sz w base v xs
section
variable {α:Type} {d:Kd α} {e:Nat} {w w1:World} {base:Nat} {ok ok':Nat->Prop} {v:Value} {xs:List α}
theorem au {A:Option Addr} {n:Nat} (h:d.C w A n xs) (hb:Below w.heap.size w w1):d.C w1 A n xs:=fR.eG h hb (fun _ _ hp=>d.gz hb hp)
theorem cW (d:Kd α) (e:Nat) (w:World) (base:Nat) (ok:Nat->Prop):d.R e w base ok (.slice none 0 0) []:=⟨fun k hk=>by simp[Value.ownBlock] at hk,gy.none_ _ _ _ _ _⟩
theorem a_ (h:d.R e w base ok v xs) (a:∀k,ok k->ok' k):d.R e w base ok' v xs:=⟨fun k hk=>a k (h.1 k hk),h.2.eG (fun _ _ hp=>d.cy (fun k hk=>⟨a k hk.1,hk.2⟩) hp)⟩
theorem eH (h:d.R e w base ok v xs):d.R e w base (fun k=>ok k/\base<=k/\k<w.heap.size/\∃q,q∈e::d.E/\∃cells,w.heap[k]? =some (.cells cells q (0,0))) v xs:=by
  obtain⟨g,inner,a,i⟩:=h;refine⟨fun k hk=>?_,inner,a,i.eG (fun _ _ hp=>d.cy (fun k hk=>?_) (d.en hp))⟩
  · obtain⟨cells,b⟩:=iR a k hk
    exact⟨g k hk,jm a k hk,rK a k hk,e,List.mem_cons_self,cells,b⟩
  · obtain⟨⟨h1,j⟩,l,m,q,n,b⟩:=hk
    exact⟨⟨h1,l,m,q,List.mem_cons_of_mem _ n,b⟩,j⟩
theorem ff (h:d.R e w base ok v xs) (hm:∀k,ok k->w1.heap[k]? =w.heap[k]?):d.R e w1 base ok v xs:=by
  obtain⟨a,inner,b,g⟩:=h;exact⟨a,inner,xu b (fun k hk=>hm k (a k hk)),g.eG (fun _ _ hp=>d.ez (fun k hk=>hm k hk.1) hp)⟩
theorem ba {base':Nat} (h:d.R e w base ok v xs) (hb:base'<=base):d.R e w base' ok v xs:=by
  obtain⟨a,inner,b,g⟩:=h;exact⟨a,inner,xj b hb,g.eG (fun _ _ hp=>d.gA hb hp)⟩
theorem ln (h:d.R e w base ok v xs) (hm:∀k,ok k->k<w.heap.size->w1.heap[k]? =w.heap[k]?):d.R e w1 base ok v xs:=
  a_ (ff (eH h) (fun k hk=>hm k hk.1 hk.2.2.1)) (fun _ hk=>hk.1)
theorem o_ {x:α} {cs:List Value} (h:d.M w base ok x cs) (hm:∀k,ok k->k<w.heap.size->w1.heap[k]? =w.heap[k]?):d.M w1 base ok x cs:=
  d.cy (fun _ hk=>hk.1) (d.ez (fun k hk=>hm k hk.1 hk.2.2.1) (d.en h))
theorem cU (h:d.R e w base ok v xs) (hb:Below w.heap.size w w1):d.R e w1 base ok v xs:=ln h (fun k _ hk=>hb.block k hk)
theorem rQ {x:α} {cs:List Value} (h:d.M w base ok x cs) (hb:Below w.heap.size w w1):d.M w1 base ok x cs:=o_ h (fun k _ hk=>hb.block k hk)
theorem lq (h:d.R e w base ok v xs) {row:Option Nat} (a:w.grownBy w1 row) (b:∀k,ok k->some k≠row):d.R e w1 base ok v xs:=ln h (fun k g hk=>a.block k hk (b k g))
theorem dC (h:d.R e w base ok v xs) {p:Addr} (a:∀k,ok k->k≠p.block) (u:Value):d.R e (w.setCell p u) base ok v xs:=ln h (fun k b _=>Below.heap_setCell w p u k (a k b))
theorem fS (h:d.R e w base ok v xs) {g t:Nat} {cells:Array Value} (hb:w.heap[g]? =some (.cells cells t (0,0))) (a:∀q,q∈e::d.E->q≠t):d.R e w base (fun k=>ok k/\k≠g) v xs:=
  a_ (eH h) (fun k hk=>⟨hk.1,by
    obtain⟨_,_,_,q,b,j,i⟩:=hk;rintro rfl;rw[i] at hb;injection hb with hb
    injection hb with _ hb
    exact a q b hb⟩)
theorem eU (h:d.R e w base ok v xs) {g t:Nat} {cells:Array Value} (hb:w.heap[g]? =some (.cells cells t (0,0))) (a:∀q,q∈e::d.E->q≠t) (j:Nat) (u:Value):d.R e (w.setCell ⟨g,j,none⟩ u) base ok v xs:=
  a_ (dC (p:=⟨g,j,none⟩) (fS h hb a) (fun _ hk=>hk.2) u) (fun _ hk=>hk.1)
theorem nj (h:d.R e w base ok v xs):∃A c,v= .slice A xs.length c/\xs.length<=c/\d.C w A xs.length xs:=by
  obtain⟨A,c,he,a,b⟩:=gy.reads h.2;exact⟨A,c,he,a,b.eG (Below.refl _ _) (fun _ _ hp=>d.cV hp)⟩
theorem bb (h:d.R e w base ok v xs):∃A c,v= .slice A xs.length c:=by
  obtain⟨A,c,he,_⟩:=nj h;exact⟨A,c,he⟩
theorem iS (h:d.R e w base ok v xs):∃inner,w.ownsRow base e d.sz v xs.length inner:=by
  obtain⟨_,inner,a,_⟩:=h;exact⟨inner,a⟩
theorem db (h:d.R e w base ok v xs) {g t:Nat} {cells:Array Value} (hb:w.heap[g]? =some (.cells cells t (0,0))) (a:e≠t):some g≠v.ownBlock:=gy.xr h.2 hb a
end
def scalar {α:Type} (enc:α->Value) (h1:∀x,(enc x).oneCell'=true):Kd α where
  sz:=1
  E:=[]
  K:=fun _ x cs=>cs=[enc x]
  M:=fun _ _ _ x cs=>cs=[enc x]
  dZ:=fun h=>by rw[h];rfl
  d_:=fun h u hu=>by
    rw[h] at hu;rw[List.mem_singleton.1 hu];exact h1 _
  gz:=fun _ h=>h
  cV:=fun h=>h
  cy:=fun _ h=>h
  en:=fun h=>h
  ez:=fun _ h=>h
  gA:=fun _ h=>h
def int (k:IntKind):Kd Int:=scalar (Value.int k) (fun _=>rfl)
def bool:Kd Bool:=scalar Value.bool (fun _=>rfl)
def slice {α:Type} (e:Nat) (d:Kd α):Kd (List α) where
  sz:=1
  E:=e::d.E
  K:=fun w xs cs=>∃A c,cs=[.slice A xs.length c]/\xs.length<=c/\d.C w A xs.length xs
  M:=fun w base ok xs cs=>∃v,cs=[v]/\d.R e w base ok v xs
  dZ:=by
    rintro w x cs ⟨A,c,rfl,_⟩;rfl
  d_:=by
    rintro w x cs ⟨A,c,rfl,_⟩ u hu;rw[List.mem_singleton.1 hu];rfl
  gz:=by
    rintro w w1 x cs hb ⟨A,c,rfl,a,b⟩;exact⟨A,c,rfl,a,au b hb⟩
  cV:=by
    rintro w base ok x cs ⟨v,rfl,h⟩;obtain⟨A,c,rfl,a,b⟩:=nj h;exact⟨A,c,rfl,a,b⟩
  cy:=by
    rintro w base ok ok' x cs g ⟨v,rfl,h⟩;exact⟨v,rfl,a_ h g⟩
  en:=by
    rintro w base ok x cs ⟨v,rfl,h⟩;exact⟨v,rfl,eH h⟩
  ez:=by
    rintro w w1 base ok x cs hm ⟨v,rfl,h⟩;exact⟨v,rfl,ff h hm⟩
  gA:=by
    rintro w base base' ok x cs hb ⟨v,rfl,h⟩;exact⟨v,rfl,ba h hb⟩
def pair {α β:Type} (a:Kd α) (b:Kd β):Kd (α×β) where
  sz:=a.sz+b.sz
  E:=a.E++b.E
  K:=fun w x cs=>∃c0 c1,cs=c0++c1/\a.K w x.1 c0/\b.K w x.2 c1
  M:=fun w base ok x cs=>∃c0 c1,cs=c0++c1/\a.M w base ok x.1 c0/\b.M w base ok x.2 c1
  dZ:=by
    rintro w x cs ⟨c0,c1,rfl,e,h1⟩;rw[List.length_append,a.dZ e,b.dZ h1]
  d_:=by
    rintro w x cs ⟨c0,c1,rfl,e,h1⟩ u hu;rcases List.mem_append.1 hu with hu|hu
    · exact a.d_ e u hu
    · exact b.d_ h1 u hu
  gz:=by
    rintro w w1 x cs hb ⟨c0,c1,rfl,e,h1⟩;exact⟨c0,c1,rfl,a.gz hb e,b.gz hb h1⟩
  cV:=by
    rintro w base ok x cs ⟨c0,c1,rfl,e,h1⟩;exact⟨c0,c1,rfl,a.cV e,b.cV h1⟩
  cy:=by
    rintro w base ok ok' x cs m ⟨c0,c1,rfl,e,h1⟩;exact⟨c0,c1,rfl,a.cy m e,b.cy m h1⟩
  en:=by
    rintro w base ok x cs ⟨c0,c1,rfl,e,h1⟩;refine⟨c0,c1,rfl,a.cy ?_ (a.en e),b.cy ?_ (b.en h1)⟩
    · rintro k ⟨g,h,i,q,j,l⟩
      exact⟨g,h,i,q,List.mem_append_left _ j,l⟩
    · rintro k ⟨g,h,i,q,j,l⟩
      exact⟨g,h,i,q,List.mem_append_right _ j,l⟩
  ez:=by
    rintro w w1 base ok x cs hm ⟨c0,c1,rfl,e,h1⟩;exact⟨c0,c1,rfl,a.ez hm e,b.ez hm h1⟩
  gA:=by
    rintro w base base' ok x cs hb ⟨c0,c1,rfl,e,h1⟩;exact⟨c0,c1,rfl,a.gA hb e,b.gA hb h1⟩
def xw {α β:Type} (d:Kd α) (f:β->α):Kd β where
  sz:=d.sz
  E:=d.E
  K:=fun w x cs=>d.K w (f x) cs
  M:=fun w base ok x cs=>d.M w base ok (f x) cs
  dZ:=d.dZ
  d_:=d.d_
  gz:=d.gz
  cV:=d.cV
  cy:=d.cy
  en:=d.en
  ez:=d.ez
  gA:=d.gA
theorem pa {α:Type} {d:Kd α} {w:World} {A:Option Addr} {n:Nat} {xs:List α} (h:d.C w A n xs) (z:α) (i:Int) (a:0<=i) (h1:i<n):
    ∃ad c,A=some ad/\c.length=d.sz/\d.K w (xs.getD i.toNat z) c/\∀j u,c[j]? =some u->w.cell? (ad.add (i.toNat*d.sz+j))=some u:=fR.xf h z i a h1
theorem pc {α:Type} {d:Kd α} {e base:Nat} {ok okp:Nat->Prop} {W w1:World} {v v1:Value} {xs:List α} {p:α} {inner cs:List Value} (i:∀k,v.ownBlock=some k->ok k) (j:aU (d.M W base (fun k=>ok k/\some k≠v.ownBlock)) d.sz xs inner) (hp:d.M W base okp p cs) (l:∀k,okp k->ok k/\some k≠v.ownBlock) (m:∀k,W.heap.size<=k->ok k)
    (n:w1.ownsRow base e d.sz v1 (xs.length+1) (inner++cs)) (r:W.grownBy w1 v.ownBlock) (a:v1.ownBlock=v.ownBlock\/∃b,v1.ownBlock=some b/\W.heap.size<=b):d.R e w1 base ok v1 (xs++[p]):=by
  have s:∀k,some k≠v.ownBlock->k<W.heap.size->some k≠v1.ownBlock:=by
    intro k hk u;rcases a with a|⟨b,hb,hle⟩
    · rw[a];exact hk
    · rw[hb]
      intro he;injection he with he
      omega
  have step:∀{q:α} {c:List Value} {o:Nat->Prop},d.M W base o q c->(∀k,o k->ok k/\some k≠v.ownBlock)->d.M w1 base (fun k=>ok k/\some k≠v1.ownBlock) q c:=by
    intro q c o g h;have h1:=d.ez (w1:=w1) (fun k hk=>r.block k hk.2.2.1 (h k hk.1).2) (d.en g);exact d.cy (fun k hk=>⟨(h k hk.1).1,s k (h k hk.1).2 hk.2.2.1⟩) h1
  refine⟨fun k hk=>?_,inner++cs,by rw[List.length_append,List.length_singleton];exact n,?_⟩
  · rcases a with a|⟨b,hb,hle⟩
    · exact i k (a▸hk)
    · rw[hb] at hk
      injection hk with hk
      exact m k (by omega)
  · exact(j.eG (fun _ _ g=>step g (fun _ hk=>hk))).snoc (step hp l) (d.dZ (d.cV hp))
section
variable {P:Program} {ops:Array Oper} {rest:List Oper} {o:Oper} {a:Act} {Q:Exit->Act->World->Prop} {α:Type}
theorem l6 (d:Kd α) {w0 W:World} (base:Nat) (l:o.guard=none) (s x:Operand) (t e:TypeId) (z:Value) (bytes:Nat)
    (m:o.op= .call {callee:=.builtin .append,args:=#[s,x],argTypes:=#[t,t]})
    (n:P.underlying t=some (.slice e)) (q:(P.info? e).map (fun i=>(i.zero,i.size,i.bytes))=some (some z,d.sz,bytes)) (r:z.cells.size=d.sz) (u:0<d.sz) (w:0<bytes)
    (v:Value) (xs:List α) (p:α) (cs:List Value) (ok okp:Nat->Prop) (y:a.eval s=v) (B:a.eval x= .slice (some ⟨W.heap.size,0,none⟩) 1 1) (hp:d.M W base okp p cs) (C:∀k,okp k->ok k/\some k≠v.ownBlock) (D:∀k,W.heap.size<=k->ok k)
    (E:d.R e W base ok v xs) (F:Below base w0 W) (G:base<=W.heap.size) (H:(xs.length+1)*bytes<=140737488355328)
    (h:∀v1 w1,d.R e w1 base ok v1 (xs++[p])->Below base w0 w1->W.grownBy w1 v.ownBlock->(v1.ownBlock=v.ownBlock\/∃b,v1.ownBlock=some b/\W.heap.size<=b)->wpList P ops Q rest (a.put o.dst v1) w1):
    wpList P ops Q (o::rest) a (W.alloc (.cells cs.toArray e)):=by
  obtain⟨I,inner,J,K⟩:=E;refine xh base l s x t e z d.sz bytes m n q r u w v xs.length inner cs y B (d.dZ (d.cV hp)) (d.d_ (d.cV hp)) J F G H ?_;intro v1 w1 L N g j;exact h v1 w1 (pc I K hp C D L g j) N g j
end
section
variable {P:Program} {ops:Array Oper} {o:Oper} {a:Act} {Q:Exit->Act->World->Prop} {Kc:Act->World->Prop} {α:Type}
theorem pd (d:Kd α) {w0 W:World} (base:Nat) (hw:Region.wanted o (yielded ops a.tmps)=true) (s x:Operand) (t e:TypeId) (z:Value) (bytes:Nat)
    (l:o.op= .call {callee:=.builtin .append,args:=#[s,x],argTypes:=#[t,t]})
    (m:P.underlying t=some (.slice e)) (n:(P.info? e).map (fun i=>(i.zero,i.size,i.bytes))=some (some z,d.sz,bytes)) (q:z.cells.size=d.sz) (r:0<d.sz) (u:0<bytes)
    (v:Value) (xs:List α) (p:α) (cs:List Value) (ok okp:Nat->Prop) (w:a.eval s=v) (y:a.eval x= .slice (some ⟨W.heap.size,0,none⟩) 1 1) (hp:d.M W base okp p cs) (B:∀k,okp k->ok k/\some k≠v.ownBlock) (C:∀k,W.heap.size<=k->ok k)
    (D:d.R e W base ok v xs) (E:Below base w0 W) (F:base<=W.heap.size) (G:(xs.length+1)*bytes<=140737488355328)
    (h:∀v1 w1,d.R e w1 base ok v1 (xs++[p])->Below base w0 w1->W.grownBy w1 v.ownBlock->(v1.ownBlock=v.ownBlock\/∃b,v1.ownBlock=some b/\W.heap.size<=b)->Kc (a.put o.dst v1) w1):
    if Region.wanted o (yielded ops a.tmps)=true then Oper.wp P o a (W.alloc (.cells cs.toArray e)) Kc Q else Kc (a.put o.dst undef) (W.alloc (.cells cs.toArray e)):=by
  obtain⟨H,inner,I,J⟩:=D;refine xi base hw s x t e z d.sz bytes l m n q r u v xs.length inner cs w y (d.dZ (d.cV hp)) (d.d_ (d.cV hp)) I E F G ?_;intro v1 w1 K L g j;exact h v1 w1 (pc H J hp B C K g j) L g j
end
theorem xx {α:Type} {enc:α->Value} (xs:List α):aU (fun (x:α) (cs:List Value)=>cs=[enc x]) 1 xs (bS enc xs):=by
  refine⟨by simp[bS],fun j p a=>?_⟩;obtain⟨b,hp⟩:=List.getElem?_eq_some_iff.1 a;have e:j<(bS enc xs).length:=by rw[rO];exact b
  rw[Nat.mul_one,List.drop_eq_getElem_cons e];simp[bS,hp]
theorem l7 {α:Type} {enc:α->Value} {h1:∀x,(enc x).oneCell'=true} {e:Nat} {w:World} {base:Nat} {ok:Nat->Prop} {v:Value} {xs:List α} (a:w.ownsRow base e 1 v xs.length (bS enc xs)) (b:∀k,v.ownBlock=some k->ok k):(scalar enc h1).R e w base ok v xs:=⟨b,bS enc xs,a,xx xs⟩
theorem nk {α:Type} {enc:α->Value} {h1:∀x,(enc x).oneCell'=true} {e:Nat} {w:World} {base:Nat} {ok:Nat->Prop} {v:Value} {xs:List α} (h:(scalar enc h1).R e w base ok v xs):w.ownsRow base e 1 v xs.length (bS enc xs):=by
  obtain⟨_,inner,l,a⟩:=h;have:inner=bS enc xs:=by
    apply List.ext_getElem?
    intro j;rcases Nat.lt_or_ge j xs.length with b|b
    · have m:=a.2 j _ (List.getElem?_eq_getElem b)
      have i:j<inner.length:=by have:=a.1;simp[scalar] at this;omega
      have g:(inner.drop (j*1)).take 1=[enc xs[j]]:=m;rw[Nat.mul_one,List.drop_eq_getElem_cons i] at g;have n:inner[j]=enc xs[j]:=by
        have k:=congrArg List.head? g;rw[List.take_succ_cons] at k;exact Option.some.inj k
      rw[List.getElem?_eq_getElem i,n];simp[bS,List.getElem?_eq_getElem b]
    · have g:inner.length=xs.length:=by have:=a.1;simp[scalar] at this;omega
      rw[List.getElem?_eq_none (by omega),List.getElem?_eq_none (by rw[rO];omega)]
  rw[<-this];exact l
theorem pg {α:Type} {enc:α->Value} {d:α} {h1:∀x,(enc x).oneCell'=true} {w:World} {A:Option Addr} {n:Nat} {xs:List α} (h:(scalar enc h1).C w A n xs):ll enc d w A n xs:=by
  refine⟨h.1,h.2.1,fun hn=>?_⟩;obtain⟨ad,e,b⟩:=h.2.2 hn;refine⟨ad,e,fun j l=>?_⟩;have a:j<xs.length:=by have:=h.1;omega
  obtain⟨c,_,g,i⟩:=b j _ (List.getElem?_eq_getElem a);have k:c=[enc xs[j]]:=g;subst k;have:=i 0 _ rfl;simpa [scalar,List.getD_eq_getElem?_getD,List.getElem?_eq_getElem a] using this
end Kd
namespace Kd
theorem rR {α:Type} {d:Kd α} {e base:Nat} {ok:Nat->Prop} {W w1:World} {u v v1:Value} {xs:List α} (h:d.R e W base (fun k=>ok k/\some k≠v.ownBlock) u xs) (g:W.grownBy w1 v.ownBlock) (a:v1.ownBlock=v.ownBlock\/∃b,v1.ownBlock=some b/\W.heap.size<=b):d.R e w1 base (fun k=>ok k/\some k≠v1.ownBlock) u xs:=by
  refine a_ (ff (eH h) (fun k hk=>g.block k hk.2.2.1 hk.1.2)) (fun k hk=>⟨hk.1.1,?_⟩);rcases a with a|⟨b,hb,hle⟩
  · rw[a];exact hk.1.2
  · rw[hb]
    intro he;injection he with he
    have:=hk.2.2.1;omega
theorem l8 {α:Type} {d:Kd α} {e base:Nat} {ok:Nat->Prop} {w:World} {v:Value} {xs:List α} (h:d.R e w base ok v xs):(slice e d).M w base ok xs [v]:=⟨v,rfl,h⟩
end Kd
namespace Kd
section
variable {α β:Type} {d:Kd α} {d':Kd β} {e e':Nat} {w w1 W:World} {base b b':Nat} {ok ok' okv oku:Nat->Prop} {v u:Value} {xs:List α} {ys:List β}
theorem aK (h:d.R e w base ok v xs) (o:Obj):d.R e (w.alloc o) base ok v xs:=cU h (aq (Below.refl _ _) o)
theorem bd (h:d.R e w base ok v xs):d.R e w.drew base ok v xs:=cU h (gS (Below.refl _ _))
theorem bq (h:d.R e w base ok v xs) (m:Nat):d.R e (w.drewN m) base ok v xs:=cU h (bY (Below.refl _ _) m)
theorem bE {A:Option Addr} {n:Nat} (h:d.C w A n xs) (o:Obj):d.C (w.alloc o) A n xs:=au h (aq (Below.refl _ _) o)
theorem fg {A:Option Addr} {n:Nat} (h:d.C w A n xs):d.C w.drew A n xs:=au h (gS (Below.refl _ _))
theorem fJ {A:Option Addr} {n:Nat} (h:d.C w A n xs) (m:Nat):d.C (w.drewN m) A n xs:=au h (bY (Below.refl _ _) m)
theorem nm (d:Kd α) (w:World):d.C w none ([]:List α).length []:=⟨rfl,by simp,fun h=>absurd h (Nat.lt_irrefl 0)⟩
theorem l9 {A:Option Addr} {n:Nat} (h:d.C w A n xs):n<=9223372036854775807:=h.2.1
theorem aD {A:Option Addr} {n c:Nat} (h:d.R e w base ok (.slice A n c) xs):n=xs.length/\n<=c/\d.C w A xs.length xs:=by
  obtain⟨A',g,he,i,a⟩:=nj h;injection he with h1 b j
  subst h1;exact⟨b,by omega,a⟩
theorem a7 (h:d.R e w base ok v xs):∀k,v.ownBlock=some k->k<w.heap.size:=by
  obtain⟨inner,a⟩:=iS h;exact rK a
theorem dD (h:d.R e w base ok v xs):∀k,v.ownBlock=some k->base<=k:=by
  obtain⟨inner,a⟩:=iS h;exact jm a
theorem xz (h:d.R e w base ok v xs) {g:Nat} (a:∀k,ok k->k≠g):some g≠v.ownBlock:=fun e=>a g (h.1 g e.symm) rfl
theorem eV (h:d.R e w base ok v xs) (hp:0<xs.length):∃g cap,v= .slice (some ⟨g,0,none⟩) xs.length cap/\base<=g/\g<w.heap.size/\∃cells,w.heap[g]? =some (.cells cells e (0,0)):=by
  obtain⟨inner,a⟩:=iS h;obtain⟨g,cap,he,hb,b⟩:=a.form hp;obtain⟨cells,i⟩:=iR a g (by rw[he];simp[Value.ownBlock]);exact⟨g,cap,he,hb,b,cells,i⟩
end
section
variable {w W:World} {A:Option Addr} {n:Nat}
theorem bL {k:IntKind} {xs:List Int} (h:(Kd.int k).C w A n xs) (i:Int) (a:0<=i) (h1:i<n):∃ad,A=some ad/\w.cell? (ad.add i.toNat)=some (.int k (rd xs i)):=
  ll.at_ (pg (enc:=Value.int k) (d:=(0:Int)) (h1:=fun _=>rfl) h) i a h1
theorem iT {xs:List Bool} (h:Kd.bool.C w A n xs) (i:Int) (a:0<=i) (h1:i<n):∃ad,A=some ad/\w.cell? (ad.add i.toNat)=some (.bool (bO false xs i)):=
  ll.at_ (pg (enc:=Value.bool) (d:=false) (h1:=fun _=>rfl) h) i a h1
variable {α:Type} {enc:α->Value} {h1:∀x,(enc x).oneCell'=true} {e base g cap:Nat} {ok:Nat->Prop} {xs:List α}
theorem xA (d:α) (h:(scalar enc h1).R e W base ok (.slice (some ⟨g,0,none⟩) xs.length cap) xs) (i:Int) (a:0<=i) (hi:i<xs.length):W.cell? ⟨g,i.toNat,none⟩=some (enc (bO d xs i))/\W.frozen? ⟨g,i.toNat,none⟩=false:=xk (nk h) i a hi
theorem rS (h:(scalar enc h1).R e W base ok (.slice (some ⟨g,0,none⟩) xs.length cap) xs) (i:Int) (x:α):(scalar enc h1).R e (W.setCell ⟨g,i.toNat,none⟩ (enc x)) base ok (.slice (some ⟨g,0,none⟩) xs.length cap) (xs.set i.toNat x)/\W.grownBy (W.setCell ⟨g,i.toNat,none⟩ (enc x)) (some g):=by
  obtain⟨a,b⟩:=xm (nk h) i x;exact⟨l7 (by rw[List.length_set];exact a) h.1,b⟩
end
section
variable {P:Program} {ops:Array Oper} {rest:List Oper} {o:Oper} {a:Act} {Q:Exit->Act->World->Prop}
theorem rT {W w1:World} {v:Value} (b:o.guard=none) (e:(execOp a.eval o).run P W= .ok (.value v) w1) (h:wpList P ops Q rest (a.put o.dst v) w1):wpList P ops Q (o::rest) a W:=by
  refine wpList_plain b fun K g=>?_
  unfold Oper.wp;rw[e];exact g _ _ h
variable {α:Type}
theorem eO (d:Kd α) {w0 W:World} (base e:Nat) (j:o.guard=none) {N:Tmp} (_hd:o.dst=some N) {xs:List α} {inner:List Value} {ok okp:Nat->Prop}
    (l:(execOp a.eval o).run P W= .ok (.value (.slice (some ⟨W.heap.size,0,none⟩) xs.length xs.length)) (W.alloc (.cells inner.toArray e)))
    (g:aU (d.M W base okp) d.sz xs inner) (m:∀k,okp k->ok k) (n:ok W.heap.size) (q:Below base w0 W) (i:base<=W.heap.size) (hm:xs.length<=9223372036854775807)
    (h:∀v1 w1,d.R e w1 base ok v1 xs->Below base w0 w1->W.grownBy w1 none->(∃b,v1.ownBlock=some b/\W.heap.size<=b)->wpList P ops Q rest (a.put o.dst v1) w1):wpList P ops Q (o::rest) a W:=by
  refine rT j l (h _ _ ⟨fun k hk=>?_,inner,?_,?_⟩ (q.alloc i _) (World.grownBy_alloc W _ none) ⟨W.heap.size,by simp[Value.ownBlock],Nat.le_refl _⟩)
  · have:W.heap.size=k:=by simpa [Value.ownBlock] using hk
    subst this;exact n
  · have r:=World.ownsRow_lit (base:=base) (e:=e) (size:=d.sz) W inner.toArray xs.length i (by simpa [maxLen] using hm) (by simpa using g.1)
    simpa using r
  · refine g.eG (fun p c hp=>d.cy (fun k hk=>⟨m k hk.1,fun he=>?_⟩) (rQ (d.en hp) (aq (Below.refl _ _) _)))
    have s:k=W.heap.size:=by simpa [Value.ownBlock] using he
    have:=hk.2.2.1;omega
theorem rU {α:Type} {R:α->List Value->Prop} {z:Value} {size:Nat} {z0:α} (a:z.cells.size=size) (o:0<size) (e:R z0 z.cells.toList) (m:Nat):aU R size (List.replicate m z0) (madeCells z.cells (m*size)).toList:=by
  refine⟨by simp[size_madeCells],fun j p g=>?_⟩;obtain⟨h,hp⟩:=List.getElem?_eq_some_iff.1 g;have k:j<m:=by simpa using h
  have l:z0=p:=by simpa using hp
  subst l;have hle:j*size+size<=m*size:=by rw[<-Nat.succ_mul];exact Nat.mul_le_mul_right _ k
  have:((madeCells z.cells (m*size)).toList.drop (j*size)).take size=z.cells.toList:=by
    apply List.ext_getElem
    · simp[size_madeCells,a]
      omega
    · intro i h1 b
      have hi:i<size:=by rw[Array.length_toList,a] at b;exact b
      have n:(j*size+i)%size=i:=by
        rw[Nat.mul_comm,Nat.mul_add_mod];exact Nat.mod_eq_of_lt hi
      simp[madeCells,a,n];rw[getElem!_pos z.cells i (by omega)]
  rw[this];exact e
theorem jn (d:Kd α) {w0 W:World} (base e:Nat) (p:o.guard=none) {N:Tmp} (hd:o.dst=some N) (t:TypeId) (x y:Operand) (q:o.op= .makeSlice t x y) (n:Int) (r:a.eval x= .int .i64 n) (s:a.eval y= .int .i64 n)
    (u:P.underlying t=some (.slice e)) (z:Value) (bytes:Nat) (v:(P.info? e).map (fun i=>(i.zero,i.size,i.bytes))=some (some z,d.sz,bytes)) (w:z.cells.size=d.sz) (B:0<d.sz) (C:0<bytes)
    (z0:α) {ok okp:Nat->Prop} (hzero:d.M W base okp z0 z.cells.toList) (D:∀k,okp k->ok k) (E:ok W.heap.size) (F:0<=n) (j:n.toNat*bytes<=281474976710656) (G:Below base w0 W) (H:base<=W.heap.size)
    (h:∀v1 w1,d.R e w1 base ok v1 (List.replicate n.toNat z0)->Below base w0 w1->W.grownBy w1 none->(∃b,v1.ownBlock=some b/\W.heap.size<=b)->wpList P ops Q rest (a.put o.dst v1) w1):wpList P ops Q (o::rest) a W:=by
  obtain⟨m,rfl⟩:=Int.eq_ofNat_of_zero_le F;simp only[Int.toNat_natCast] at j h;obtain⟨i0,hi,l⟩:=Option.map_eq_some_iff.1 v;simp only[Prod.mk.injEq] at l;obtain⟨I,J,K⟩:=l;have hm:m<=281474976710656:=Nat.le_trans (Nat.le_mul_of_pos_right _ C) j;have g:=run_make (P:=P) W t e i0 z u hi I .i64 .i64 (m:Int) (m:Int) (by omega) (by omega)
    (by
      have L:((i0.bytes*m:Nat):Int)<=281474976710656:=by rw[K,Nat.mul_comm];omega
      rwa [Int.natCast_mul] at L) (by omega)
  simp only[Int.toNat_natCast] at g;rw[J] at g;refine eO d base e p hd (xs:=List.replicate m z0) (inner:=(madeCells z.cells (m*d.sz)).toList) (okp:=okp) (ok:=ok) ?_ (rU w B hzero m) D E G H (by simp;omega) h;simp[execOp,q,r,s,g]
end
end Kd
theorem xB {w:World} {base n m c size:Nat} {e:TypeId} {A:Option Addr} {xs:List Value} (h:w.ownsRow base e size (.slice A n c) n xs) (hm:m<=n):w.ownsRow base e size (.slice A m c) m (xs.take (m*size)):=by
  obtain⟨h1,i⟩:=h;refine⟨by rw[List.length_take,h1];exact Nat.min_eq_left (Nat.mul_le_mul_right _ hm),?_⟩;rcases i with⟨he,p⟩|⟨g,cap,cur,he,hb,j,q,k,l,o⟩
  · injection he with a _ b
    subst a;subst b;exact .inl ⟨by rw[show m=0 by omega],by omega⟩
  · injection he with a _ b
    subst a;subst b;refine .inr ⟨g,c,cur,rfl,hb,j,by omega,k,l,?_⟩;rw[<-o,List.take_take,Nat.min_eq_left (Nat.mul_le_mul_right _ hm)]
def eW (w:World) (base:Nat) (e:TypeId) (size:Nat) (v:Value) (n:Nat) (xs:List Value):Prop:=
  xs.length=n*size/\
  ((n=0/\∃A,v= .slice A 0 0/\∀a,A=some a->base<=a.block/\∃cur,w.heap[a.block]? =some (.cells cur e (0,0)))\/
   ∃g off cap cur,v= .slice (some ⟨g,off*size,none⟩) n cap/\base<=g/\w.heap[g]? =some (.cells cur e (0,0))/\n<=cap/\off+cap<=maxLen/\cur.size=(off+cap)*size/\(cur.toList.drop (off*size)).take (n*size)=xs)
section
variable {w w1:World} {base n size:Nat} {e:TypeId} {v:Value} {xs:List Value}
theorem ph (h:w.ownsRow base e size v n xs):eW w base e size v n xs:=by
  obtain⟨h1,b⟩:=h;refine⟨h1,?_⟩;rcases b with⟨rfl,i⟩|⟨g,cap,cur,rfl,hb,j,k,l,m,o⟩
  · exact .inl ⟨i,none,rfl,fun a p=>by cases p⟩
  · exact .inr ⟨g,0,cap,cur,by rw[Nat.zero_mul],hb,j,k,by rw[Nat.zero_add];exact l,by rw[Nat.zero_add];exact m,by rw[Nat.zero_mul,List.drop_zero];exact o⟩
theorem rV (h:eW w base e size v n xs) (hm:∀k,v.ownBlock=some k->w1.heap[k]? =w.heap[k]?):eW w1 base e size v n xs:=by
  obtain⟨h1,i⟩:=h;refine⟨h1,?_⟩;rcases i with⟨j,A,rfl,l⟩|⟨g,off,cap,cur,rfl,m,o,r⟩
  · refine .inl ⟨j,A,rfl,fun a b=>?_⟩
    obtain⟨hb,cur,p⟩:=l a b;subst b;exact⟨hb,cur,(hm a.block (by simp[Value.ownBlock])).trans p⟩
  · exact .inr ⟨g,off,cap,cur,rfl,m,(hm g (by simp[Value.ownBlock])).trans o,r⟩
theorem kr (h:eW w base e size v n xs) (k:Nat) (hk:v.ownBlock=some k):base<=k/\∃cells,w.heap[k]? =some (.cells cells e (0,0)):=by
  rcases h.2 with⟨_,A,rfl,b⟩|⟨g,off,cap,cur,rfl,i,j,r⟩
  · cases A with
    |none=>simp[Value.ownBlock] at hk
    |some a=>
      have:a.block=k:=by simpa [Value.ownBlock] using hk
      subst this;exact b a rfl
  · have:g=k:=by simpa [Value.ownBlock] using hk
    subst this;exact⟨i,cur,j⟩
theorem rW (h:eW w base e size v n xs) (k:Nat) (hk:v.ownBlock=some k):k<w.heap.size:=by
  obtain⟨_,cells,a⟩:=kr h k hk;exact(Array.getElem?_eq_some_iff.1 a).1
theorem xC {base':Nat} (h:eW w base e size v n xs) (hb:base'<=base):eW w base' e size v n xs:=by
  obtain⟨h1,j⟩:=h;refine⟨h1,?_⟩;rcases j with⟨k,A,rfl,b⟩|⟨g,off,cap,cur,rfl,l,r⟩
  · exact .inl ⟨k,A,rfl,fun a i=>⟨Nat.le_trans hb (b a i).1,(b a i).2⟩⟩
  · exact .inr ⟨g,off,cap,cur,rfl,Nat.le_trans hb l,r⟩
theorem rX (h:eW w base e size v n xs):∃A c,v= .slice A n c/\n<=c:=by
  rcases h.2 with⟨a,A,rfl,_⟩|⟨g,off,cap,cur,rfl,i,j,b,r⟩
  · exact⟨A,0,by rw[a],by omega⟩
  · exact⟨_,cap,rfl,b⟩
theorem xD (h:eW w base e size v n xs):n<=9223372036854775807:=by
  rcases h.2 with⟨a,_⟩|⟨g,off,cap,cur,rfl,b,i,j,hm,r⟩
  · omega
  · simp only[maxLen] at hm
    omega
theorem gT (g o j:Nat):(⟨g,o,none⟩:Addr).add j=⟨g,o+j,none⟩:=by unfold Addr.add;split<;>simp_all
theorem rY {A:Option Addr} {c:Nat} (h:eW w base e size (.slice A n c) n xs) (hn:0<n):∃ad,A=some ad/\∀j u,xs[j]? =some u->w.cell? (ad.add j)=some u:=by
  rcases h.2 with⟨k,_⟩|⟨g,off,cap,cur,he,l,a,m,hm,o,b⟩
  · omega
  · injection he with i _ p
    subst i;refine⟨_,rfl,fun j u hu=>?_⟩;rw[gT,cell_of_row w g _ cur e (0,0) a];rw[<-b,List.getElem?_take] at hu;split at hu
    · rw[List.getElem?_drop] at hu
      rw[<-Array.getElem?_toList];exact hu
    · cases hu
theorem xE {A:Option Addr} {c k:Nat} (h:eW w base e size (.slice A n c) n xs) (hk:k<=n):eW w base e size (.slice (if c=k then A else A.map (·.add (k*size))) (n-k) (c-k)) (n-k) (xs.drop (k*size)):=by
  obtain⟨h1,m⟩:=h;refine⟨by rw[List.length_drop,h1,Nat.sub_mul],?_⟩;rcases m with⟨o,A',he,p⟩|⟨g,off,cap,cur,he,hb,j,u,v,q,r⟩
  · injection he with b hb i
    subst b;subst i;have s:k=0:=by omega
    subst s;exact .inl ⟨by omega,A,by rw[if_pos rfl,o],p⟩
  · injection he with b _ i
    subst b;subst i;by_cases l:c=k
    · rw[if_pos l]
      refine .inl ⟨by omega,some ⟨g,off*size,none⟩,?_,fun a b=>?_⟩
      · rw[show n-k=0 by omega,show c-k=0 by omega]
      · injection b with b
        subst b;exact⟨hb,cur,j⟩
    · rw[if_neg l]
      refine .inr ⟨g,off+k,c-k,cur,?_,hb,j,by omega,by omega,by rw[q];congr 1;omega,?_⟩
      · rw[Option.map_some,gT,Nat.add_mul]
      · rw[<-r,List.drop_take,List.drop_drop,Nat.add_mul,Nat.sub_mul]
theorem pk {g:Nat}:∀(a:List Value) (o:Nat) {w:World} (k:Nat),k≠g->(w.setCells g o a).heap[k]? =w.heap[k]?
  |[],_,_,_,_=>rfl
  |v::r,o,w,k,hk=>by
    rw[World.setCells,pk r (o+1) k hk];exact Below.heap_setCell w ⟨g,o,none⟩ v k hk
theorem pn (g:Nat):∀(a:List Value) (o:Nat) (w:World),(w.setCells g o a).os=w.os/\(w.setCells g o a).tape=w.tape/\(w.setCells g o a).output=w.output/\(w.setCells g o a).heap.size=w.heap.size
  |[],_,_=>⟨rfl,rfl,rfl,rfl⟩
  |v::r,o,w=>by
    obtain⟨h1,b,e,h⟩:=pn g r (o+1) (w.setCell ⟨g,o,none⟩ v);rw[World.setCells];exact⟨h1,b,e,by rw[h];simp[World.setCell]⟩
theorem po {g:Nat} {e:TypeId}:∀(b:List Value) (o:Nat) (w:World) (cur:Array Value),w.heap[g]? =some (.cells cur e (0,0))->o+b.length<=cur.size->
    ∃a,(w.setCells g o b).heap[g]? =some (.cells a e (0,0))/\a.size=cur.size/\a.toList=cur.toList.take o++b++cur.toList.drop (o+b.length)
  |[],o,w,cur,h,_=>⟨cur,h,rfl,by simp⟩
  |v::r,o,w,cur,h,i=>by
    have j:=bR h o v;simp only[List.length_cons] at i;obtain⟨a,k,l,m⟩:=po r (o+1) (w.setCell ⟨g,o,none⟩ v) _ j (by simp;omega);refine⟨a,k,by rw[l];simp,?_⟩;rw[m,Array.toList_setIfInBounds];have n:o<cur.toList.length:=by rw[Array.length_toList];omega
    rw[List.take_set,List.drop_set_of_lt (by omega)];simp only[List.length_cons];rw[show o+1+r.length=o+(r.length+1) by omega];congr 1
    rw[List.take_succ_eq_append_getElem n,List.set_append_right _ _ (by rw[List.length_take];omega)];have p:o<cur.size:=by omega
    simp[Nat.min_eq_left (Nat.le_of_lt p)]
end
section
variable {P:Program}
theorem xF (w:World) (base:Nat) (t ty e:TypeId) (i:TypeInfo) (z:Value) (size bytes:Nat) (y:P.underlying t=some (.slice e)) (hi:P.info? e=some i) (E:i.zero=some z)
    (B:i.size=size) (F:i.bytes=bytes) (G:z.cells.size=size) (aY:0<size)
    (v:Value) (n:Nat) (xs:List Value) (p:eW w base e size v n xs)
    (a:Addr) (m c:Nat) (news:List Value) (q:news.length=m*size) (C:∀j u,news[j]? =some u->w.cell? (a.add j)=some u) (h1:∀u∈news,u.oneCell'=true) (hm:0<m)
    (H:n+m<=maxLen) (I:(n+m)*bytes<=140737488355328) (J:base<=w.heap.size):
    ∃h w',(Builtin.append_ #[t,t] ty #[v,.slice (some a) m c]).run P w= .ok h w'/\eW w' base e size h (n+m) (xs++news)/\w.grownBy w' v.ownBlock/\(h.ownBlock=v.ownBlock\/∃b,h.ownBlock=some b/\w.heap.size<=b):=by
  have K:∀(b:Addr) (cap:Nat),cap<n+m->(∀j u,xs[j]? =some u->w.cell? (b.add j)=some u)->v= .slice (some b) n cap->
      ∃h w',(Builtin.append_ #[t,t] ty #[v,.slice (some a) m c]).run P w= .ok h w'/\eW w' base e size h (n+m) (xs++news)/\w.grownBy w' v.ownBlock/\(h.ownBlock=v.ownBlock\/∃b,h.ownBlock=some b/\w.heap.size<=b):=by
    intro b cap O Q o;obtain⟨h,w',r,x,l⟩:=run_append_arg_grows (P:=P) (w:=w) t ty e i z size bytes y hi E B F G aY b n cap xs p.1 Q a m c news q C O H I;refine⟨h,w',by rw[o];exact r,xC (ph x) J,⟨l.os,l.tape,l.output,l.size,fun k hk _=>l.block k hk (by simp)⟩,?_⟩;obtain⟨R,ag,he,hb,_⟩:=x.form (by omega);exact .inr ⟨R,by rw[he];simp[Value.ownBlock],hb⟩
  rcases p.2 with⟨D,A,o,hA⟩|⟨g,off,cap,cur,o,S,l,am,T,L,M⟩
  · cases A with
    |none=>
      subst D;have x:w.ownsRow base e size v 0 xs:=⟨p.1,.inl ⟨o,rfl⟩⟩;obtain⟨h,w',r,U,l,_,s⟩:=run_append_own_at (P:=P) w base t ty e i z size bytes y hi E B F G aY v 0 xs x a m c news q C h1 H I J;refine⟨h,w',r,ph U,l,?_⟩;rcases s with s|s
      · exact .inl s
      · exact .inr ⟨_,s,Nat.le_refl _⟩
    |some b=>
      have V:xs=[]:=List.eq_nil_of_length_eq_zero (by rw[p.1,D,Nat.zero_mul]);exact K b 0 (by omega) (fun j u hu=>by rw[V] at hu;simp at hu) (by rw[o,D])
  · by_cases N:n+m<=cap
    · have W:off*size+n*size+news.length<=cur.size:=by
        rw[q,L,<-Nat.add_mul,<-Nat.add_mul];exact Nat.mul_le_mul_right _ (by omega)
      subst B;have r:=run_append_room_cells (P:=P) (w:=w) t ty e i y hi g (off*i.size) n cap a m c news q C h1 N
        (fun j hj=>by rw[cell_of_row w g _ cur e (0,0) l];simp;omega) (fun j _=>bD l _)
      obtain⟨X,Y,Z,h5⟩:=po news (off*i.size+n*i.size) w cur l W;obtain⟨s1,s2,s3,s4⟩:=pn g news (off*i.size+n*i.size) w;refine⟨_,_,by rw[o];exact r,⟨by rw[List.length_append,p.1,q,Nat.add_mul],.inr ⟨g,off,cap,X,rfl,S,Y,N,T,by rw[Z,L],?_⟩⟩,
        ⟨s1,s2,s3,by rw[s4];exact Nat.le_refl _,fun k _ hk=>pk news _ k (fun he=>hk (by rw[o,he];simp[Value.ownBlock]))⟩,.inl (by rw[o];rfl)⟩
      rw[h5,List.append_assoc,List.drop_append_of_le_length (by rw[List.length_take,Array.length_toList];omega),List.drop_take];rw[show off*i.size+n*i.size-off*i.size=n*i.size by omega,M];rw[<-List.append_assoc];exact List.take_left' (by rw[List.length_append,p.1,q,Nat.add_mul])
    · refine K ⟨g,off*size,none⟩ cap (by omega) (fun j u hu=>?_) o
      rw[gT,cell_of_row w g _ cur e (0,0) l];rw[<-M,List.getElem?_take] at hu;split at hu
      · rw[List.getElem?_drop] at hu
        rw[<-Array.getElem?_toList];exact hu
      · cases hu
end
namespace Kd
theorem xG {α:Type} {R:α->List Value->Prop} {size m:Nat} {ps:List α} {cs:List Value} (h:aU R size ps cs) (hm:m<=ps.length):aU R size (ps.take m) (cs.take (m*size)):=by
  refine⟨by rw[List.length_take,List.length_take,h.1,Nat.min_eq_left hm,Nat.min_eq_left (Nat.mul_le_mul_right _ hm)],fun j p a=>?_⟩;rw[List.getElem?_take] at a;split at a
  · rename_i b
    have:=h.2 j p a;have hle:j*size+size<=m*size:=by rw[<-Nat.succ_mul];exact Nat.mul_le_mul_right _ b
    rw[List.drop_take,List.take_take,Nat.min_eq_left (by omega)];exact this
  · cases a
theorem xH {α:Type} {R:α->List Value->Prop} {size m:Nat} {ps:List α} {cs:List Value} (h:aU R size ps cs):aU R size (ps.drop m) (cs.drop (m*size)):=by
  refine⟨by rw[List.length_drop,List.length_drop,h.1,Nat.sub_mul],fun j p a=>?_⟩;rw[List.getElem?_drop] at a;have:=h.2 (m+j) p a;rw[List.drop_drop,<-Nat.add_mul];exact this
theorem xI {α:Type} {d:Kd α} {e m n c:Nat} {w:World} {base:Nat} {ok:Nat->Prop} {A:Option Addr} {xs:List α} (h:d.R e w base ok (.slice A n c) xs) (hm:m<=xs.length):d.R e w base ok (.slice A m c) (xs.take m):=by
  obtain⟨b,inner,a,g⟩:=h;have hn:n=xs.length:=by
    obtain⟨A',i,he⟩:=rL a;injection he
  subst hn;have hb:∀x y:Nat,(Value.slice A x c).ownBlock=(Value.slice A y c).ownBlock:=by
    intro x y;cases A<;>rfl
  refine⟨fun k hk=>b k (by rw[hb _ m];exact hk),inner.take (m*d.sz),?_,?_⟩
  · rw[List.length_take,Nat.min_eq_left hm]
    exact xB a hm
  · rw[hb m xs.length]
    exact xG g hm
def Q {α:Type} (d:Kd α) (e:Nat) (w:World) (base:Nat) (ok:Nat->Prop) (v:Value) (xs:List α):Prop:=
  (∀k,v.ownBlock=some k->ok k)/\∃inner,eW w base e d.sz v xs.length inner/\aU (d.M w base (fun k=>ok k/\some k≠v.ownBlock)) d.sz xs inner
section
variable {α:Type} {d:Kd α} {e:Nat} {w w1 W:World} {base:Nat} {ok ok':Nat->Prop} {v:Value} {xs:List α}
theorem xJ (h:d.R e w base ok v xs):d.Q e w base ok v xs:=by
  obtain⟨a,inner,b,g⟩:=h;exact⟨a,inner,ph b,g⟩
theorem lr (h:d.Q e w base ok v xs) (a:∀k,ok k->ok' k):d.Q e w base ok' v xs:=by
  obtain⟨b,inner,g,i⟩:=h;exact⟨fun k hk=>a k (b k hk),inner,g,i.eG (fun _ _ hp=>d.cy (fun k hk=>⟨a k hk.1,hk.2⟩) hp)⟩
theorem nn (h:d.Q e w base ok v xs):d.Q e w base (fun k=>ok k/\base<=k/\k<w.heap.size/\∃q,q∈e::d.E/\∃cells,w.heap[k]? =some (.cells cells q (0,0))) v xs:=by
  obtain⟨g,inner,a,i⟩:=h;refine⟨fun k hk=>?_,inner,a,i.eG (fun _ _ hp=>d.cy (fun k hk=>?_) (d.en hp))⟩
  · obtain⟨hb,cells,b⟩:=kr a k hk
    exact⟨g k hk,hb,rW a k hk,e,List.mem_cons_self,cells,b⟩
  · obtain⟨⟨h1,j⟩,l,m,q,n,b⟩:=hk
    exact⟨⟨h1,l,m,q,List.mem_cons_of_mem _ n,b⟩,j⟩
theorem rZ (h:d.Q e w base ok v xs) (hm:∀k,ok k->w1.heap[k]? =w.heap[k]?):d.Q e w1 base ok v xs:=by
  obtain⟨a,inner,b,g⟩:=h;exact⟨a,inner,rV b (fun k hk=>hm k (a k hk)),g.eG (fun _ _ hp=>d.ez (fun k hk=>hm k hk.1) hp)⟩
theorem pq (h:d.Q e w base ok v xs) (hm:∀k,ok k->k<w.heap.size->w1.heap[k]? =w.heap[k]?):d.Q e w1 base ok v xs:=lr (rZ (nn h) (fun k hk=>hm k hk.1 hk.2.2.1)) (fun _ hk=>hk.1)
theorem r6 (h:d.Q e w base ok v xs) (hb:Below w.heap.size w w1):d.Q e w1 base ok v xs:=pq h (fun k _ hk=>hb.block k hk)
theorem xK (h:d.Q e w base ok v xs) (o:Obj):d.Q e (w.alloc o) base ok v xs:=r6 h (aq (Below.refl _ _) o)
theorem xL (h:d.Q e w base ok v xs) {row:Option Nat} (a:w.grownBy w1 row) (b:∀k,ok k->some k≠row):d.Q e w1 base ok v xs:=pq h (fun k g hk=>a.block k hk (b k g))
theorem xM (h:d.Q e w base ok v xs) {p:Addr} (a:∀k,ok k->k≠p.block) (u:Value):d.Q e (w.setCell p u) base ok v xs:=pq h (fun k b _=>Below.heap_setCell w p u k (a k b))
theorem xN (h:d.Q e w base ok v xs) {g t:Nat} {cells:Array Value} (hb:w.heap[g]? =some (.cells cells t (0,0))) (a:∀q,q∈e::d.E->q≠t):d.Q e w base (fun k=>ok k/\k≠g) v xs:=
  lr (nn h) (fun k hk=>⟨hk.1,by
    obtain⟨_,_,_,q,b,j,i⟩:=hk;rintro rfl;rw[i] at hb;injection hb with hb
    injection hb with _ hb
    exact a q b hb⟩)
theorem r7 (h:d.Q e w base ok v xs) {g t:Nat} {cells:Array Value} (hb:w.heap[g]? =some (.cells cells t (0,0))) (a:∀q,q∈e::d.E->q≠t) (j:Nat) (u:Value):d.Q e (w.setCell ⟨g,j,none⟩ u) base ok v xs:=
  lr (xM (p:=⟨g,j,none⟩) (xN h hb a) (fun _ hk=>hk.2) u) (fun _ hk=>hk.1)
theorem xO (h:d.Q e w base ok v xs):∀k,v.ownBlock=some k->base<=k:=by
  obtain⟨_,inner,a,_⟩:=h;exact fun k hk=>(kr a k hk).1
theorem r8 (h:d.Q e w base ok v xs) {g t:Nat} {cells:Array Value} (hb:w.heap[g]? =some (.cells cells t (0,0))) (a:e≠t):some g≠v.ownBlock:=by
  obtain⟨_,inner,b,_⟩:=h;intro he;obtain⟨_,j,i⟩:=kr b g he.symm;rw[i] at hb;injection hb with hb
  injection hb with _ hb
  exact a hb
theorem np (h:d.Q e w base ok v xs):∃A c,v= .slice A xs.length c/\xs.length<=c:=by
  obtain⟨_,inner,a,_⟩:=h;exact rX a
theorem r9 {A:Option Addr} {n c:Nat} (h:d.Q e w base ok (.slice A n c) xs):n=xs.length/\n<=c/\d.C w A xs.length xs:=by
  obtain⟨_,inner,a,b⟩:=h;obtain⟨A',s,he,k⟩:=rX a;injection he with h1 l m
  subst h1;subst l;subst m;refine⟨rfl,k,rfl,xD a,fun hp=>?_⟩;obtain⟨ad,o,q⟩:=rY a hp;refine⟨ad,o,fun j p g=>⟨(inner.drop (j*d.sz)).take d.sz,?_,d.cV (b.2 j p g),fun i u hu=>?_⟩⟩
  · have r:=(List.getElem?_eq_some_iff.1 g).1
    have h1:j*d.sz+d.sz<=inner.length:=by rw[b.1,<-Nat.succ_mul];exact Nat.mul_le_mul_right _ r
    rw[List.length_take,List.length_drop];omega
  · refine q _ u ?_
    rw[List.getElem?_take] at hu;split at hu
    · rw[List.getElem?_drop] at hu
      exact hu
    · cases hu
theorem xP {A:Option Addr} {k n c:Nat} (h:d.Q e w base ok (.slice A n c) xs) (hk:k<=xs.length):d.Q e w base ok (.slice (if c=k then A else A.map (·.add (k*d.sz))) (n-k) (c-k)) (xs.drop k):=by
  have hn:n=xs.length:=(r9 h).1;subst hn;obtain⟨b,inner,g,i⟩:=h;have hb:(Value.slice (if c=k then A else A.map (·.add (k*d.sz))) (xs.length-k) (c-k)).ownBlock=(Value.slice A xs.length c).ownBlock:=by
    split
    · cases A<;>rfl
    · cases A with
      |none=>rfl
      |some a=>simp[Value.ownBlock];unfold Addr.add;split<;>rfl
  refine⟨fun j l=>b j (by rw[<-hb];exact l),inner.drop (k*d.sz),?_,?_⟩
  · rw[List.length_drop]
    exact xE g hk
  · rw[hb]
    exact xH i
theorem xQ {okp:Nat->Prop} {v1:Value} {p:α} {inner cs:List Value} (i:∀k,v.ownBlock=some k->ok k) (j:aU (d.M W base (fun k=>ok k/\some k≠v.ownBlock)) d.sz xs inner) (hp:d.M W base okp p cs) (l:∀k,okp k->ok k/\some k≠v.ownBlock) (m:∀k,W.heap.size<=k->ok k)
    (n:eW w1 base e d.sz v1 (xs.length+1) (inner++cs)) (r:W.grownBy w1 v.ownBlock) (a:v1.ownBlock=v.ownBlock\/∃b,v1.ownBlock=some b/\W.heap.size<=b):d.Q e w1 base ok v1 (xs++[p]):=by
  have s:∀k,some k≠v.ownBlock->k<W.heap.size->some k≠v1.ownBlock:=by
    intro k hk u;rcases a with a|⟨b,hb,hle⟩
    · rw[a];exact hk
    · rw[hb]
      intro he;injection he with he
      omega
  have step:∀{q:α} {c:List Value} {o:Nat->Prop},d.M W base o q c->(∀k,o k->ok k/\some k≠v.ownBlock)->d.M w1 base (fun k=>ok k/\some k≠v1.ownBlock) q c:=by
    intro q c o g h;have h1:=d.ez (w1:=w1) (fun k hk=>r.block k hk.2.2.1 (h k hk.1).2) (d.en g);exact d.cy (fun k hk=>⟨(h k hk.1).1,s k (h k hk.1).2 hk.2.2.1⟩) h1
  refine⟨fun k hk=>?_,inner++cs,by rw[List.length_append,List.length_singleton];exact n,?_⟩
  · rcases a with a|⟨b,hb,hle⟩
    · exact i k (a▸hk)
    · rw[hb] at hk
      injection hk with hk
      exact m k (by omega)
  · exact(j.eG (fun _ _ g=>step g (fun _ hk=>hk))).snoc (step hp l) (d.dZ (d.cV hp))
end
section
variable {P:Program} {ops:Array Oper} {rest:List Oper} {o:Oper} {a:Act} {Q':Exit->Act->World->Prop} {Kc:Act->World->Prop} {α:Type}
theorem xR (d:Kd α) {w0 W:World} (base:Nat) (t ty e:TypeId) (z:Value) (bytes:Nat)
    (n:P.underlying t=some (.slice e)) (o:(P.info? e).map (fun i=>(i.zero,i.size,i.bytes))=some (some z,d.sz,bytes)) (q:z.cells.size=d.sz) (r:0<d.sz) (s:0<bytes)
    (v:Value) (xs:List α) (p:α) (cs:List Value) (ok okp:Nat->Prop) (hp:d.M W base okp p cs) (u:∀k,okp k->ok k/\some k≠v.ownBlock) (w:∀k,W.heap.size<=k->ok k)
    (x:d.Q e W base ok v xs) (y:Below base w0 W) (B:base<=W.heap.size) (j:(xs.length+1)*bytes<=140737488355328):
    ∃v1 w1,(Builtin.append_ #[t,t] ty #[v,.slice (some ⟨W.heap.size,0,none⟩) 1 1]).run P (W.alloc (.cells cs.toArray e))= .ok v1 w1/\d.Q e w1 base ok v1 (xs++[p])/\Below base w0 w1/\W.grownBy w1 v.ownBlock/\(v1.ownBlock=v.ownBlock\/∃b,v1.ownBlock=some b/\W.heap.size<=b):=by
  obtain⟨C,inner,a,D⟩:=x;obtain⟨i0,hi,l⟩:=Option.map_eq_some_iff.1 o;simp only[Prod.mk.injEq] at l;obtain⟨E,F,G⟩:=l;have hlen:xs.length+1<=140737488355328:=Nat.le_trans (Nat.le_mul_of_pos_right _ s) j;have H:=d.dZ (d.cV hp);have I:eW (W.alloc (.cells cs.toArray e)) base e d.sz v xs.length inner:=rV a (fun k hk=>Below.heap_alloc W _ k (rW a k hk));obtain⟨v1,w1,J,K,L,g⟩:=xF (P:=P) (W.alloc (.cells cs.toArray e)) base t ty e i0 z d.sz bytes n hi E F G q r v xs.length inner I ⟨W.heap.size,0,none⟩ 1 1 cs (by rw[H,Nat.one_mul])
    (by simpa using World.news_of_block (cs:=cs.toArray) (t:=e) (fr:=(0,0)) (heap_alloc_new W (.cells cs.toArray e))) (d.d_ (d.cV hp)) (by omega) (by simp only[maxLen];omega) j (by simp;omega)
  have h:W.grownBy w1 v.ownBlock:=World.grownBy.trans (World.grownBy_alloc W _ _) L;have m:v1.ownBlock=v.ownBlock\/∃b,v1.ownBlock=some b/\W.heap.size<=b:=by
    rcases g with g|⟨b,hb,hle⟩
    · exact .inl g
    · exact .inr ⟨b,hb,by rw[World.size_alloc] at hle;omega⟩
  exact⟨v1,w1,J,xQ C D hp u w K h m,y.grown h B (fun k hk=>(kr a k hk).1),h,m⟩
end
end Kd
namespace Kd
section
variable {α:Type} {d:Kd α} {e e':Nat} {w w1 W:World} {base:Nat} {ok:Nat->Prop} {u v:Value} {xs:List α}
theorem fT (h:d.R e w base ok v xs):∀k,v.ownBlock=some k->∃cells,w.heap[k]? =some (.cells cells e (0,0)):=by
  obtain⟨inner,a⟩:=iS h;exact fun k hk=>iR a k hk
theorem pr (h:d.R e W base ok u xs) (b:∀k,v.ownBlock=some k->∃cells,W.heap[k]? =some (.cells cells e' (0,0))) (g:∀q,q∈e::d.E->q≠e') (i:W.grownBy w1 v.ownBlock):d.R e w1 base ok u xs:=by
  refine a_ (ff (eH h) (fun k hk=>i.block k hk.2.2.1 (fun he=>?_))) (fun _ hk=>hk.1);obtain⟨_,_,_,q,j,cells,l⟩:=hk;obtain⟨m,a⟩:=b k he.symm;rw[l] at a;injection a with a
  injection a with _ a
  exact g q j a
theorem nt (h:d.R e W base ok u xs) (b:∀k,v.ownBlock=some k->∃cells,W.heap[k]? =some (.cells cells e' (0,0))) (g:∀q,q∈e::d.E->q≠e'):d.R e W base (fun k=>ok k/\some k≠v.ownBlock) u xs:=by
  refine a_ (eH h) (fun k hk=>⟨hk.1,fun he=>?_⟩);obtain⟨_,_,_,q,i,cells,j⟩:=hk;obtain⟨l,a⟩:=b k he.symm;rw[j] at a;injection a with a
  injection a with _ a
  exact g q i a
theorem r_ (hu:d.R e W base ok u xs) (a:∀k,v.ownBlock=some k->W.heap.size<=k) (hb:Below W.heap.size W w1):d.R e w1 base (fun k=>ok k/\some k≠v.ownBlock) u xs:=
  a_ (ff (eH hu) (fun k hk=>hb.block k hk.2.2.1)) (fun k hk=>⟨hk.1,fun he=>by have:=a k he.symm;have:=hk.2.2.1;omega⟩)
theorem bB (h:d.R e w1 W.heap.size ok v xs) (a:∀k,u.ownBlock=some k->k<W.heap.size):d.R e w1 W.heap.size (fun k=>ok k/\some k≠u.ownBlock) v xs:=
  a_ (eH h) (fun k hk=>⟨hk.1,fun he=>by have:=a k he.symm;have:=hk.2.1;omega⟩)
theorem sa (h:d.Q e w base ok v xs):∀k,v.ownBlock=some k->∃cells,w.heap[k]? =some (.cells cells e (0,0)):=by
  obtain⟨_,inner,a,_⟩:=h;exact fun k hk=>(kr a k hk).2
theorem ku (a:∀k,u.ownBlock=some k->k<W.heap.size):∀k,W.heap.size<=k->some k≠u.ownBlock:=fun k hk he=>by have:=a k he.symm;omega
end
end Kd
theorem l_ {α:Type} (a seg:List α) (o:Nat) (h:o+seg.length<=a.length) (q:Nat):
    (a.take o++seg++a.drop (o+seg.length))[q]? =if q<o then a[q]? else if q<o+seg.length then seg[q-o]? else a[q]? :=by
  have e:(a.take o).length=o:=by rw[List.length_take];omega
  rw[List.append_assoc];by_cases h1:q<o
  · rw[if_pos h1,List.getElem?_append_left (by omega),List.getElem?_take,if_pos h1]
  · rw[if_neg h1,List.getElem?_append_right (by omega),e]
    by_cases b:q<o+seg.length
    · rw[if_pos b,List.getElem?_append_left (by omega)]
    · rw[if_neg b,List.getElem?_append_right (by omega),List.getElem?_drop]
      congr 1
      omega
namespace Kd
section
variable {α:Type} {d:Kd α} {e base g n cap:Nat} {ok okp:Nat->Prop} {W:World} {xs:List α}
theorem sb (h:d.R e W base ok (.slice (some ⟨g,0,none⟩) n cap) xs) (z:α) (i:Int) (p:0<=i) (h1:i<n):
    ∃c,c.length=d.sz/\d.M W base (fun k=>ok k/\k≠g) (xs.getD i.toNat z) c/\(∀j u,c[j]? =some u->W.cell? ⟨g,i.toNat*d.sz+j,none⟩=some u)/\∀j,W.frozen? ⟨g,i.toNat*d.sz+j,none⟩=false:=by
  obtain⟨hn,q,hC⟩:=aD h;obtain⟨_,inner,b,l⟩:=h;have a:i.toNat<xs.length:=by omega
  have r:i.toNat*d.sz+d.sz<=inner.length:=by rw[l.1,<-Nat.succ_mul];exact Nat.mul_le_mul_right _ a
  have m:=l.2 i.toNat _ (List.getElem?_eq_getElem a);refine⟨(inner.drop (i.toNat*d.sz)).take d.sz,by rw[List.length_take,List.length_drop];omega,?_,fun j u hu=>?_,fun j=>?_⟩
  · rw[List.getD_eq_getElem?_getD,List.getElem?_eq_getElem a]
    exact d.cy (fun k hk=>⟨hk.1,fun he=>hk.2 (by rw[he];simp[Value.ownBlock])⟩) m
  · rw[List.getElem?_take] at hu
    split at hu
    · rw[List.getElem?_drop] at hu
      have:=b.cells (g:=g) (by simp[Value.ownBlock]) _ u hu;rwa [add_plain] at this
    · cases hu
  · obtain⟨cells,o⟩:=iR b g (by simp[Value.ownBlock])
    exact bD o _
theorem sd (h:d.R e W base ok (.slice (some ⟨g,0,none⟩) n cap) xs) (i:Int) (h0:0<=i) (h1:i<n) {c seg:List Value} {j:Nat} (ap:c.length=d.sz) (H:∀j u,c[j]? =some u->W.cell? ⟨g,i.toNat*d.sz+j,none⟩=some u)
    (hj:j+seg.length<=d.sz) {x':α} (I:d.M W base okp x' (c.take j++seg++c.drop (j+seg.length))) (l:∀k,okp k->ok k/\k≠g):
    d.R e (W.setCells g (i.toNat*d.sz+j) seg) base ok (.slice (some ⟨g,0,none⟩) n cap) (xs.set i.toNat x')/\W.grownBy (W.setCells g (i.toNat*d.sz+j) seg) (some g):=by
  obtain⟨hn,w,_⟩:=aD h;obtain⟨J,inner,K,b⟩:=h;have L:i.toNat<xs.length:=by omega
  have x:i.toNat*d.sz+d.sz<=inner.length:=by rw[b.1,<-Nat.succ_mul];exact Nat.mul_le_mul_right _ L
  have av:inner.length=n*d.sz:=by rw[b.1,hn]
  obtain⟨aB,N⟩:=K;rcases N with⟨o,_⟩|⟨g',aL,cur,o,hb,y,aO,O,P,z⟩
  · cases o
  injection o with r _ Q
  injection r with r
  injection r with S
  subst S;subst Q;have T:i.toNat*d.sz+j+seg.length<=cur.size:=by
    have:n*d.sz<=cap*d.sz:=Nat.mul_le_mul_right _ w;omega
  obtain⟨U,V,X,Y⟩:=po seg (i.toNat*d.sz+j) W cur y T;obtain⟨s1,s2,Z,s4⟩:=pn g seg (i.toNat*d.sz+j) W;have s:∀k,k≠g->(W.setCells g (i.toNat*d.sz+j) seg).heap[k]? =W.heap[k]? :=fun k hk=>pk seg _ k hk
  have ab:∀q,q<d.sz->c[q]? =inner[i.toNat*d.sz+q]? :=by
    intro q a;have B:q<c.length:=by omega
    have C:=H q _ (List.getElem?_eq_getElem B);rw[cell_of_row W g _ cur e (0,0) y] at C;rw[List.getElem?_eq_getElem B,<-C,<-z,List.getElem?_take,if_pos (by rw[<-hn];omega),Array.getElem?_toList]
  refine⟨⟨J,inner.take (i.toNat*d.sz+j)++seg++inner.drop (i.toNat*d.sz+j+seg.length),⟨?_,.inr ⟨g,cap,U,by rw[List.length_set,hn],hb,V,by rw[List.length_set,<-hn];exact w,O,by rw[X,P],?_⟩⟩,?_⟩,
    ⟨s1,s2,Z,by rw[s4];exact Nat.le_refl _,fun k _ hk=>s k (fun he=>hk (by rw[he]))⟩⟩
  · rw[List.length_set]
    simp only[List.length_append,List.length_take,List.length_drop];rw[b.1] at x⊢;omega
  · rw[List.length_set,<-hn]
    apply List.ext_getElem?
    intro q;rw[List.getElem?_take,Y];rw[l_ cur.toList seg (i.toNat*d.sz+j) (by rw[Array.length_toList];omega) q,l_ inner seg (i.toNat*d.sz+j) (by omega) q];have ad:∀q,q<n*d.sz->cur.toList[q]? =inner[q]? :=by
      intro q a;rw[<-z,List.getElem?_take,if_pos (by rw[<-hn];exact a)]
    by_cases a:q<n*d.sz
    · rw[if_pos a,ad q a]
    · rw[if_neg a,if_neg (by omega),if_neg (by omega),List.getElem?_eq_none (by omega)]
  · refine⟨?_,fun m p hm=>?_⟩
    · rw[List.length_set]
      simp only[List.length_append,List.length_take,List.length_drop];rw[b.1] at x⊢;omega
    · have ag:m<xs.length:=by
        have:=(List.getElem?_eq_some_iff.1 hm).1;rwa [List.length_set] at this
      have aP:m*d.sz+d.sz<=inner.length:=by rw[b.1,<-Nat.succ_mul];exact Nat.mul_le_mul_right _ ag
      have D:some g=(Value.slice (some ⟨g,0,none⟩) n cap).ownBlock:=by simp[Value.ownBlock]
      by_cases E:m=i.toNat
      · subst E
        rw[List.getElem?_set_self (by omega)] at hm;injection hm with hm
        subst hm;have v:((inner.take (i.toNat*d.sz+j)++seg++inner.drop (i.toNat*d.sz+j+seg.length)).drop (i.toNat*d.sz)).take d.sz=c.take j++seg++c.drop (j+seg.length):=by
          apply List.ext_getElem?
          intro q;rw[List.getElem?_take,List.getElem?_drop,l_ inner seg _ (by omega),l_ c seg j (by omega) q];by_cases a:q<d.sz
          · rw[if_pos a,ab q a]
            by_cases F:q<j
            · rw[if_pos (by omega),if_pos F]
            · rw[if_neg (by omega),if_neg F]
              by_cases G:q<j+seg.length
              · rw[if_pos (by omega),if_pos G]
                congr 1
                omega
              · rw[if_neg (by omega),if_neg G]
          · rw[if_neg a,if_neg (by omega),if_neg (by omega),List.getElem?_eq_none (by omega)]
        rw[v];refine d.cy (fun k hk=>?_) (d.ez (w1:=W.setCells g (i.toNat*d.sz+j) seg) (fun k hk=>s k (l k hk).2) I);exact⟨(l k hk).1,fun he=>(l k hk).2 (by rw[<-D] at he;injection he)⟩
      · rw[List.getElem?_set_ne (by omega)] at hm
        have hold:=b.2 m p hm;have v:((inner.take (i.toNat*d.sz+j)++seg++inner.drop (i.toNat*d.sz+j+seg.length)).drop (m*d.sz)).take d.sz=(inner.drop (m*d.sz)).take d.sz:=by
          apply List.ext_getElem?
          intro q;rw[List.getElem?_take,List.getElem?_take,List.getElem?_drop,List.getElem?_drop,l_ inner seg _ (by omega)];by_cases a:q<d.sz
          · rw[if_pos a,if_pos a]
            rcases Nat.lt_or_gt_of_ne E with ak|am
            · have:m*d.sz+d.sz<=i.toNat*d.sz:=by rw[<-Nat.succ_mul];exact Nat.mul_le_mul_right _ ak
              rw[if_pos (by omega)]
            · have:i.toNat*d.sz+d.sz<=m*d.sz:=by rw[<-Nat.succ_mul];exact Nat.mul_le_mul_right _ am
              rw[if_neg (by omega),if_neg (by omega)]
          · rw[if_neg a,if_neg a]
        rw[v];refine d.ez (fun k hk=>s k (fun he=>hk.2 (by rw[he];exact D))) hold
end
end Kd
namespace Kd
theorem xS {α:Type} {R:α->List Value->Prop} {size:Nat} {ps b:List α} {cs ds:List Value} (h:aU R size ps cs) (e:aU R size b ds):aU R size (ps++b) (cs++ds):=by
  refine⟨by rw[List.length_append,List.length_append,h.1,e.1,Nat.add_mul],fun j p a=>?_⟩;rcases Nat.lt_or_ge j ps.length with g|i
  · rw[List.getElem?_append_left g] at a
    have hle:j*size+size<=cs.length:=by rw[h.1,<-Nat.succ_mul];exact Nat.mul_le_mul_right _ g
    rw[List.drop_append_of_le_length (by omega),List.take_append_of_le_length (by rw[List.length_drop];omega)];exact h.2 j p a
  · rw[List.getElem?_append_right i] at a
    have k:=e.2 (j-ps.length) p a;have hle:ps.length*size<=j*size:=Nat.mul_le_mul_right _ i;rw[List.drop_append,List.drop_eq_nil_of_le (by rw[h.1];exact hle),List.nil_append,h.1,<-Nat.sub_mul];exact k
section
variable {P:Program} {ops:Array Oper} {rest:List Oper} {o:Oper} {a:Act} {Q:Exit->Act->World->Prop} {α:Type}
theorem xT (d:Kd α) {I:α->List Value->Prop} {w0 W:World} (base:Nat) (T:o.guard=none) (s x:Operand) (t e:TypeId) (z:Value) (bytes:Nat)
    (n:o.op= .call {callee:=.builtin .append,args:=#[s,x],argTypes:=#[t,t]})
    (C:P.underlying t=some (.slice e)) (U:(P.info? e).map (fun i=>(i.zero,i.size,i.bytes))=some (some z,d.sz,bytes)) (V:z.cells.size=d.sz) (D:0<d.sz) (X:0<bytes)
    (v:Value) (xs ys:List α) (A:Option Addr) (m c:Nat) (ok okp:Nat->Prop) (Y:a.eval s=v) (Z:a.eval x= .slice A m c)
    (HO:d.R e W base ok v xs) (E:fR I d.sz W A m ys) (ab:∀x cs,I x cs->d.M W base okp x cs) (ag:∀k,okp k->ok k/\some k≠v.ownBlock) (ak:∀k,W.heap.size<=k->ok k)
    (HB:Below base w0 W) (J:base<=W.heap.size) (L:(xs.length+m)*bytes<=140737488355328)
    (h:∀v1 w1,d.R e w1 base ok v1 (xs++ys)->Below base w0 w1->W.grownBy w1 v.ownBlock->(v1.ownBlock=v.ownBlock\/∃b,v1.ownBlock=some b/\W.heap.size<=b)->wpList P ops Q rest (a.put o.dst v1) w1):
    wpList P ops Q (o::rest) a W:=by
  obtain⟨i0,hi,N⟩:=Option.map_eq_some_iff.1 U;simp only[Prod.mk.injEq] at N;obtain⟨an,ap,ar⟩:=N;have hm:ys.length=m:=E.1;have hlen:xs.length+m<=140737488355328:=Nat.le_trans (Nat.le_mul_of_pos_right _ X) L;obtain⟨O,inner,y,S⟩:=HO;have F:∃v1 w1,(Builtin.append_ #[t,t] o.type #[v,.slice A m c]).run P W= .ok v1 w1/\d.R e w1 base ok v1 (xs++ys)/\W.grownBy w1 v.ownBlock/\(v1.ownBlock=v.ownBlock\/∃b,v1.ownBlock=some b/\W.heap.size<=b):=by
    rcases A with _|ad
    · have r:m=0:=by
        rcases Nat.eq_zero_or_pos m with r|r
        · exact r
        · obtain⟨ad,h,_⟩:=E.2.2 r
          cases h
      subst r;obtain rfl:ys=[]:=List.eq_nil_of_length_eq_zero hm;refine⟨v,W,?_,by rw[List.append_nil];exact⟨O,inner,y,S⟩,World.grownBy.refl W _,.inl rfl⟩;rcases y.2 with⟨rfl,hn⟩|⟨g,cap,cur,rfl,_,_,G,_⟩
      · simp[Builtin.append_,run_underlying C,sizeOf,typeInfo,hi,Builtin.lenOf,Builtin.firstCells]
      · simp[Builtin.append_,run_underlying C,sizeOf,typeInfo,hi,Builtin.lenOf,Builtin.firstCells,G,storeCells]
    · obtain⟨news,av,G⟩:=fR.xt E
      have B:aU (d.M W base okp) d.sz ys news:=av.eG (fun p c hp=>ab p c hp);have aB:∀u∈news,u.oneCell'=true:=by
        intro u hu;obtain⟨q,l,rfl⟩:=List.mem_iff_getElem.1 hu;have aF:q/d.sz<ys.length:=by
          rw[Nat.div_lt_iff_lt_mul D];rw[<-B.1];exact l
        have hc:=B.2 (q/d.sz) _ (List.getElem?_eq_getElem aF);refine d.d_ (d.cV hc) _ ?_;rw[List.mem_iff_getElem?];refine⟨q%d.sz,?_⟩;rw[List.getElem?_take,if_pos (Nat.mod_lt _ D),List.getElem?_drop,Nat.mul_comm,Nat.div_add_mod,List.getElem?_eq_getElem l]
      obtain⟨v1,w1,F,h2,w,_,j⟩:=run_append_own_at (P:=P) W base t o.type e i0 z d.sz bytes C hi an ap ar V D v xs.length inner y ad m c news (by rw[B.1,hm]) G aB (by simp only[maxLen];omega) L J;have H:v1.ownBlock=v.ownBlock\/∃b,v1.ownBlock=some b/\W.heap.size<=b:=by
        rcases j with j|j
        · exact .inl j
        · exact .inr ⟨_,j,Nat.le_refl _⟩
      have aP:∀k,some k≠v.ownBlock->k<W.heap.size->some k≠v1.ownBlock:=by
        intro k hk a0;rcases H with j|⟨b,hb,hle⟩
        · rw[j];exact hk
        · rw[hb]
          intro he;injection he with he
          omega
      have step:∀{q:α} {c:List Value} {o:Nat->Prop},d.M W base o q c->(∀k,o k->ok k/\some k≠v.ownBlock)->d.M w1 base (fun k=>ok k/\some k≠v1.ownBlock) q c:=by
        intro q c o l n;have h1:=d.ez (w1:=w1) (fun k hk=>w.block k hk.2.2.1 (n k hk.1).2) (d.en l);exact d.cy (fun k hk=>⟨(n k hk.1).1,aP k (n k hk.1).2 hk.2.2.1⟩) h1
      refine⟨v1,w1,F,⟨fun k hk=>?_,inner++news,by rw[List.length_append,hm];exact h2,xS (S.eG (fun _ _ l=>step l (fun _ hk=>hk))) (B.eG (fun _ _ l=>step l ag))⟩,w,H⟩;rcases H with j|⟨b,hb,hle⟩
      · exact O k (j▸hk)
      · rw[hb] at hk
        injection hk with hk
        exact ak k (by omega)
  obtain⟨v1,w1,aR,h1,w,j⟩:=F;refine wpList_plain T fun K hK=>?_
  unfold Oper.wp execOp;simp only[n,resolve,invoke,builtin,Sem.run_bind,Sem.run_pure,Result.andThen_ok,List.map_toArray,List.map_cons,List.map_nil,Y,Z,aR];exact hK _ _ (h v1 w1 h1 (HB.grown w J (jm y)) w j)
end
end Kd
theorem bp {w W:World} (h:Below w.heap.size w W):w.heap.size<=W.heap.size:=h.size
theorem a8 {w W w2:World} (h:Below w.heap.size w W) (k:Below W.heap.size W w2):Below w.heap.size w w2:=lf h h.size k
theorem dx {w W:World} {g j:Nat} {v:Value} (h:Below w.heap.size w W) (a:w.heap.size<=g):Below w.heap.size w (W.setCell ⟨g,j,none⟩ v):=h.setCell a _
theorem bC {w:World} {g:Nat} {t:TypeId} {cs a:Array Value} (h:w.heap[g]? =some (.cells cs t (0,0))) (i:Nat) (u:Value) (e:cs.setIfInBounds i u=a):(w.setCell ⟨g,i,none⟩ u).heap[g]? =some (.cells a t (0,0)):=e▸bR h i u
theorem bV {base:Nat} {w W:World} (h:Below base w W):Below base w W.drew:=h.drew
namespace Kd
section
variable {α:Type} {d:Kd α} {e base g:Nat} {ok:Nat->Prop} {w w1:World} {v:Value} {xs:List α} {o:Obj}
theorem se (h:d.R e w base ok v xs) (a:Nat) (b:w.heap.size<=a):d.R e w base (fun k=>ok k/\k≠a) v xs:=a_ (eH h) (fun k hk=>⟨hk.1,by have:=hk.2.2.1;omega⟩)
theorem lu (hb:w.heap[g]? =some o):∀k,w.heap.size<=k->k≠g:=fun k hk=>by have:=aE hb;omega
end
end Kd
section
variable {P:Program} {ops:Array Oper} {rest:List Oper} {o:Oper} {a:Act} {Q:Exit->Act->World->Prop}
theorem xU {W:World} (b:o.guard=none) {N:Tmp} (_hd:o.dst=some N) {cs:Array Value} {t:TypeId}
    (e:(execOp a.eval o).run P W= .ok (.value (.pointer (some ⟨W.heap.size,0,none⟩))) (W.alloc (.cells cs t (0,0))))
    (h:∀g,g=W.heap.size->∀w1,w1.heap[g]? =some (.cells cs t (0,0))->Below W.heap.size W w1->wpList P ops Q rest (a.put o.dst (.pointer (some ⟨g,0,none⟩))) w1):wpList P ops Q (o::rest) a W:=
  Kd.rT b e (h _ rfl _ (xo W _) (aq (Below.refl _ _) _))
theorem Kd.sg {α:Type} (enc:α->Value) (d:α) {h1:∀x:α,(enc x).oneCell'=true} {w0 W:World} (base:Nat) (n:o.guard=none) (s x:Operand) (t e:TypeId) (z:Value) (bytes:Nat)
    (p:o.op= .call {callee:=.builtin .append,args:=#[s,x],argTypes:=#[t,t]})
    (q:P.underlying t=some (.slice e)) (r:(P.info? e).map (fun i=>(i.zero,i.size,i.bytes))=some (some z,1,bytes)) (u:z.cells.size=1) (w:0<bytes)
    (v:Value) (xs ys:List α) (A:Option Addr) (m c:Nat) (ok:Nat->Prop) (y:a.eval s=v) (B:a.eval x= .slice A m c) (D:∀k,W.heap.size<=k->ok k)
    (j:(Kd.scalar enc h1).R e W base ok v xs) (E:(Kd.scalar enc h1).C W A m ys) (F:Below base w0 W) (G:base<=W.heap.size) (H:(xs.length+m)*bytes<=140737488355328)
    (h:∀v1 w1,(Kd.scalar enc h1).R e w1 base ok v1 (xs++ys)->Below base w0 w1->W.grownBy w1 v.ownBlock->(v1.ownBlock=v.ownBlock\/∃b,v1.ownBlock=some b/\W.heap.size<=b)->wpList P ops Q rest (a.put o.dst v1) w1):
    wpList P ops Q (o::rest) a W:=by
  refine xn (w0:=w0) enc d base n s x t e z bytes p q r u w h1 v xs ys A m c y B (Kd.nk j) (Kd.pg (d:=d) E) F G H ?_;intro v1 w1 I hb J l;refine h v1 w1 (Kd.l7 I (fun k hk=>?_)) hb J l;rcases l with g|⟨b,g,K⟩
  · exact j.1 k (by rw[<-g];exact hk)
  · rw[g] at hk
    injection hk with hk
    subst hk;exact D _ K
end
namespace Kd
section
variable {α:Type} {enc:α->Value} {h1:∀x,(enc x).oneCell'=true} {e base g n cap:Nat} {ok:Nat->Prop} {W:World} {xs:List α}
theorem bP (d:α) (h:(scalar enc h1).R e W base ok (.slice (some ⟨g,0,none⟩) n cap) xs) (i:Int) (a:0<=i) (hi:i<n):W.cell? ⟨g,i.toNat,none⟩=some (enc (bO d xs i))/\W.frozen? ⟨g,i.toNat,none⟩=false:=by
  obtain⟨rfl,_⟩:=aD h;exact xA d h i a hi
theorem pv (h:(scalar enc h1).R e W base ok (.slice (some ⟨g,0,none⟩) n cap) xs) (i:Int) (x:α):(scalar enc h1).R e (W.setCell ⟨g,i.toNat,none⟩ (enc x)) base ok (.slice (some ⟨g,0,none⟩) n cap) (xs.set i.toNat x):=by
  obtain⟨rfl,_⟩:=aD h;exact(rS h i x).1
end
end Kd
section
variable {P:Program} {ops:Array Oper} {rest:List Oper} {o:Oper} {a:Act} {Q:Exit->Act->World->Prop}
theorem jo {W w1:World} (b:o.guard=none) {t:TypeId} {p:Tmp} {v:Operand} (_ho:o.op= .store t (.tmp p) v) (e:o.dst=none)
    (g:(execOp a.eval o).run P W= .ok .skip w1) (h:∀w',w'=w1->wpList P ops Q rest a w'):wpList P ops Q (o::rest) a W:=by
  refine wpList_plain b fun K i=>?_
  unfold Oper.wp;rw[g];show K (a.put o.dst undef) w1
  rw[e];exact i _ _ (h _ rfl)
end
namespace Kd
section
variable {α:Type} {enc:α->Value} {h1:∀x,(enc x).oneCell'=true} {e base g n cap:Nat} {ok:Nat->Prop} {W:World} {xs:List α}
theorem de (h:(scalar enc h1).R e W base ok (.slice (some ⟨g,0,none⟩) n cap) xs) (i:Int) (x:α):(scalar enc h1).R e (W.setCell ⟨g,i.toNat,none⟩ (enc x)) base ok (.slice (some ⟨g,0,none⟩) n cap) (xs.set i.toNat x)/\W.grownBy (W.setCell ⟨g,i.toNat,none⟩ (enc x)) (some g):=by
  obtain⟨rfl,_⟩:=aD h;exact rS h i x
end
end Kd
section
variable {P:Program} {ops:Array Oper} {rest:List Oper} {o:Oper} {a:Act} {Q:Exit->Act->World->Prop} {W:World}
theorem aJ {N:Tmp} (_hN:o.dst=some N) (h:wpList P ops Q (o::rest) a W):wpList P ops Q (o::rest) a W:=h
theorem jq {t:TypeId} {p:Tmp} {v:Operand} (_ho:o.op= .store t (.tmp p) v) (h:wpList P ops Q (o::rest) a W):wpList P ops Q (o::rest) a W:=h
end
section
variable {P:Program} {ops:Array Oper} {o:Oper} {a:Act} {Q:Exit->Act->World->Prop} {Kc:Act->World->Prop}
theorem xV {W w1:World} {v:Value} (hw:Region.wanted o (yielded ops a.tmps)=true) (b:(execOp a.eval o).run P W= .ok (.value v) w1) (h:Kc (a.put o.dst v) w1):if Region.wanted o (yielded ops a.tmps)=true then Oper.wp P o a W Kc Q else Kc (a.put o.dst undef) W:=by
  rw[if_pos hw];unfold Oper.wp;rw[b];exact h
namespace Kd
variable {α:Type}
theorem xW (d:Kd α) {w0 W:World} (base e:Nat) (hw:Region.wanted o (yielded ops a.tmps)=true) {N:Tmp} (_hd:o.dst=some N) {xs:List α} {inner:List Value} {ok okp:Nat->Prop}
    (j:(execOp a.eval o).run P W= .ok (.value (.slice (some ⟨W.heap.size,0,none⟩) xs.length xs.length)) (W.alloc (.cells inner.toArray e)))
    (g:aU (d.M W base okp) d.sz xs inner) (l:∀k,okp k->ok k) (m:ok W.heap.size) (n:Below base w0 W) (i:base<=W.heap.size) (hm:xs.length<=9223372036854775807)
    (h:∀v1 w1,d.R e w1 base ok v1 xs->Below base w0 w1->W.grownBy w1 none->(∃b,v1.ownBlock=some b/\W.heap.size<=b)->Kc (a.put o.dst v1) w1):if Region.wanted o (yielded ops a.tmps)=true then Oper.wp P o a W Kc Q else Kc (a.put o.dst undef) W:=by
  refine xV hw j (h _ _ ⟨fun k hk=>?_,inner,?_,?_⟩ (n.alloc i _) (World.grownBy_alloc W _ none) ⟨W.heap.size,by simp[Value.ownBlock],Nat.le_refl _⟩)
  · have:W.heap.size=k:=by simpa [Value.ownBlock] using hk
    subst this;exact m
  · have q:=World.ownsRow_lit (base:=base) (e:=e) (size:=d.sz) W inner.toArray xs.length i (by simpa [maxLen] using hm) (by simpa using g.1)
    simpa using q
  · refine g.eG (fun p c hp=>d.cy (fun k hk=>⟨l k hk.1,fun he=>?_⟩) (rQ (d.en hp) (aq (Below.refl _ _) _)))
    have r:k=W.heap.size:=by simpa [Value.ownBlock] using he
    have:=hk.2.2.1;omega
end Kd
end
inductive kx (P:Program) (tmps:Array Value) (w:World):List ResultVar->List Value->Prop where
  |nil:kx P tmps w [] []
  |tmp {u:Tmp} {rs:List ResultVar} {a:List Value} (h:kx P tmps w rs a):kx P tmps w (.tmp u::rs) (tmps.getD u undef::a)
  |cell {p:Tmp} {ty:TypeId} {rs:List ResultVar} {a:List Value} (g:Nat) (t:TypeId) (cs:Array Value) (fr:Nat×Nat) (d:TypeDesc)
      (hp:tmps.getD p undef= .pointer (some ⟨g,0,none⟩)) (b:w.heap[g]? =some (.cells cs t fr))
      (hu:P.underlying ty=some d) (hd:(match d with| .struct _| .array _ _=>true|_=>false)=true) (hi:(P.info? ty).map (·.size)=some cs.size)
      (h:kx P tmps w rs a):kx P tmps w (.cell p ty::rs) (.agg cs::a)
section
variable {P:Program} {tmps:Array Value} {w:World}
theorem xX {rs:List ResultVar} {e:List Value} (i:kx P tmps w rs e) (f:ResultVar->Sem Value) (hf:∀u,f (.tmp u)=pure (tmps.getD u undef)) (j:∀a t,f (.cell a t)=(do loadVar t (<-asAddr (tmps.getD a undef)))):
    (rs.mapM f).run P w= .ok e w:=by
  induction i with
  |nil=>simp
  |tmp h b=>simp[List.mapM_cons,hf,b]
  |cell g t cs fr d hp k hu hd hi h b=>
    rw[List.mapM_cons,j,hp];simp[asAddr,run_loadVar_row w g t _ cs fr d k hu hd hi,b]
theorem sh {fn:Func} {rs:List ResultVar} {b:List Value} (h:fn.results=rs.toArray) (e:b.length≠1) (g:kx P tmps w rs b):(results fn tmps).run P w= .ok (.tuple b.toArray) w:=by
  unfold results;rw[h,List.mapM_toArray];simp only[Sem.run_bind,Sem.run_map];rw[xX g]
  · simp[e]
  · intro u
    rfl
  · intro a t
    rfl
end
end Go.Proofs.YtffdiakgjakngaaGreatW.PrintWords
end
section
namespace Go.Proofs.YtffdiakgjakngaaGreatW.PrintLast
section
variable {P:Program} {ops:Array Oper} {Q:Exit->Act->World->Prop} {md:Region.Mode} {S:World->Prop} {ds:List Nat}
def Region.gU (md:Region.Mode) (ops:Array Oper) (i:Nat):Nat->Nat->Bool
  |0,_=>false
  |fuel+1,d=>match ops[d]? with
    |some o=>o.after.any fun e=>Region.binds md e&&(e.on==i||Region.gU md ops i fuel e.on)
    |none=>false
def Region.ma (md:Region.Mode) (ops:Array Oper) (a:Array Bool):Bool:=
  (List.range ops.size).all fun j=> !a.getD j false||match ops[j]? with
    |some o=>o.after.all fun e=> !Region.binds md e||a.getD e.on false
    |none=>true
def Region.ny (md:Region.Mode) (ops:Array Oper) (a:Array Bool) (ds:List Nat) (i:Nat):Bool:=
  ds.all fun d=>a.getD d true||Region.gU md ops i ops.size d
def ky (md:Region.Mode) (ops:Array Oper) (a:Array Bool):Prop:=
  ∀j b,ops[j]? =some b->a.getD j false=true->∀e∈b.after,Region.binds md e=true->a.getD e.on false=true
theorem Region.xY {a:Array Bool} (h:Region.ma md ops a=true):ky md ops a:=by
  intro j l b g e he hb;have i:j<ops.size:=(Array.getElem?_eq_some_iff.1 b).1;have h1:=List.all_eq_true.1 h j (List.mem_range.2 i);simp only[g,b,Bool.not_true,Bool.false_or] at h1;have k:=Array.all_eq_true_iff_forall_mem.1 h1 e he;simpa [hb] using k
theorem ky.set {a:Array Bool} {i:Nat} (h:ky md ops a) (hi:i∈Region.ready md ops a):ky md ops (a.setIfInBounds i true):=by
  obtain⟨_,m,n,o⟩:=mem_ready.1 hi;intro j b g k e he hb;by_cases l:i=j
  · subst l
    have:b=m:=Option.some.inj (g.symm.trans n);subst this;exact getD_set_true (o e he hb)
  · rw[getD_set_ne false l] at k
    exact getD_set_true (h j b g k e he hb)
theorem Region.sj {a:Array Bool} {i:Nat} (j:ky md ops a):∀(fuel d:Nat),Region.gU md ops i fuel d=true->a.getD d false=true->a.getD i false=true
  |0,_,h,_=>by simp[Region.gU] at h
  |fuel+1,d,h,k=>by
    unfold Region.gU at h;cases b:ops[d]? with
    |none=>rw[b] at h;simp at h
    |some o=>
      rw[b] at h;obtain⟨e,he,h1⟩:=Array.any_eq_true'.1 h;simp only[Bool.and_eq_true,Bool.or_eq_true,beq_iff_eq] at h1;have hle:=j d o b k e he h1.1;rcases h1.2 with g|g
      · rw[<-g];exact hle
      · exact Region.sj j fuel e.on g hle
theorem Region.xZ {a:Array Bool} {i d fuel:Nat} (k:ky md ops a) (b:Region.gU md ops i fuel d=true) (g:a.getD i true=false):d∉Region.ready md ops a:=by
  intro hd;obtain⟨_,o,l,m⟩:=mem_ready.1 hd;have hi:a.getD i false=true:=by
    cases fuel with
    |zero=>simp[Region.gU] at b
    |succ n=>
      unfold Region.gU at b;rw[l] at b;obtain⟨e,he,h1⟩:=Array.any_eq_true'.1 b;simp only[Bool.and_eq_true,Bool.or_eq_true,beq_iff_eq] at h1;have hle:=m e he h1.1;rcases h1.2 with h|h
      · rw[<-h];exact hle
      · exact Region.sj k n e.on h hle
  rcases Nat.lt_or_ge i a.size with j|j
  · simp[j] at g hi
    rw[g] at hi;cases hi
  · simp[Array.getElem?_eq_none j] at g
def cS (P:Program) (md:Region.Mode) (ops:Array Oper) (Q:Exit->Act->World->Prop) (S:World->Prop) (ds:List Nat):Nat->Array Bool->Act->World->Prop
  |0,b,a,w=>Region.ready md ops b=[]/\Q .normal a w
  |fuel+1,b,a,w=>
    (Region.ready md ops b=[]->Q .normal a w)/\
    ∀i∈Region.ready md ops b,wpOp P ops Q i (fun a' w'=>(i∉ds->S w->S w')/\cS P md ops Q S ds fuel (b.setIfInBounds i true) a' w') a w
theorem sk:∀(fuel:Nat) (b:Array Bool) (a:Act) (w:World),cS P md ops Q S ds fuel b a w->wpAny P md ops Q fuel b a w
  |0,_,_,_,h=>h
  |fuel+1,_,_,_,h=>⟨h.1,fun i hi=>wpOp_mono (fun a' w' e=>sk fuel _ a' w' e.2) (h.2 i hi)⟩
theorem x_ {i:Nat} {m:Oper} {v:Value} (hi:ops[i]? =some m) (E:∀(j:Nat) (o:Oper) cs b,ops[j]? =some o->o.op≠ .select cs b)
    (I:∀c a w,Q (.panic c) (a.put m.dst v) w->Q (.panic c) a w) (n:Nat):
    ∀(fuel:Nat) (g:Array Bool) (a:Act) (w:World),
      (∀j p,ops[j]? =some p->j≠i->g.getD j true=false->(∀e∈p.after,Region.binds md e=true->e.on≠i)->m.apart ops p=true)->
      ky md ops g->(∀d∈ds,g.getD d true=false->Region.gU md ops i n d=true)->
      i∈Region.ready md ops g->YieldsIf P ops S m v a->S w->
      cS P md ops Q S ds fuel (g.setIfInBounds i true) (a.put m.dst v) w->cS P md ops Q S ds (fuel+1) g a w:=by
  intro fuel;induction fuel with
  |zero=>
    intro g a w _ _ _ q x hS H;refine⟨fun h=>(by rw[h] at q;cases q),fun j r=>?_⟩;by_cases l:j=i
    · subst l;exact x.wpOp hi hS ⟨fun _ h=>h,H⟩
    · have:=ready_mono r l
      rw[H.1] at this;cases this
  |succ fuel J=>
    intro g a w F G hd q x hS H;refine⟨fun h=>(by rw[h] at q;cases q),fun j r=>?_⟩;by_cases l:j=i
    · subst l;exact x.wpOp hi hS ⟨fun _ h=>h,H⟩
    · have h1:=H.2 j (ready_mono r l)
      obtain⟨y,p,B,K⟩:=mem_ready.1 r;have C:=(mem_ready.1 q).1;have L:∀e∈p.after,Region.binds md e=true->e.on≠i:=fun e he hb heq=>by
        have h1:=K e he hb;rw[heq] at h1;rcases Nat.lt_or_ge i g.size with D|D
        · simp[D] at C h1;rw[C] at h1;cases h1
        · simp[Array.getElem?_eq_none D] at h1
      have M:j∉ds:=fun hm=>Region.xZ G (hd j hm y) C r
      have N:=wpOp_putIf B (F j p B l y L) (fun cs b=>E i m cs b hi) (fun cs b=>E j p cs b B) I x h1;have O:∀k ok,ops[k]? =some ok->k≠i->(g.setIfInBounds j true).getD k true=false->
          (∀e∈ok.after,Region.binds md e=true->e.on≠i)->m.apart ops ok=true:=fun k ok hk R s T=>by
        refine F k ok hk R ?_ T;by_cases u:j=k
        · subst u;exact y
        · rw[getD_set_ne true u] at s;exact s
      have U:∀d∈ds,(g.setIfInBounds j true).getD d true=false->Region.gU md ops i n d=true:=fun d hm s=>by
        refine hd d hm ?_;by_cases u:j=d
        · subst u;exact y
        · rw[getD_set_ne true u] at s;exact s
      refine wpOp_mono (fun a' w' z=>⟨z.2.1,J (g.setIfInBounds j true) a' w' O (G.set r) U (ready_mono q (Ne.symm l)) z.1 (z.2.1 M hS) ?_⟩) N;rw[Array.setIfInBounds_comm _ _ l];exact z.2.2
theorem ya {i:Nat} {m:Oper} {v:Value} (hi:ops[i]? =some m) (y:∀(j:Nat) (o:Oper) cs b,ops[j]? =some o->o.op≠ .select cs b)
    (F:∀c a w,Q (.panic c) (a.put m.dst v) w->Q (.panic c) a w):
    ∀(fuel:Nat) (g:Array Bool) (a:Act) (w:World),
      (∀j n,ops[j]? =some n->j≠i->g.getD j true=false->(∀e∈n.after,Region.binds md e=true->e.on≠i)->m.apart ops n=true)->
      i∈Region.ready md ops g->Yields P ops m v a->
      cS P md ops Q S ds fuel (g.setIfInBounds i true) (a.put m.dst v) w->cS P md ops Q S ds (fuel+1) g a w:=by
  intro fuel;induction fuel with
  |zero=>
    intro g a w _ p q H;refine⟨fun h=>(by rw[h] at p;cases p),fun j r=>?_⟩;by_cases l:j=i
    · subst l;exact(q.yieldsIf (S:=fun _=>True)).wpOp hi trivial ⟨fun _ h=>h,H⟩
    · have:=ready_mono r l
      rw[H.1] at this;cases this
  |succ fuel G=>
    intro g a w z p q H;refine⟨fun h=>(by rw[h] at p;cases p),fun j r=>?_⟩;by_cases l:j=i
    · subst l;exact(q.yieldsIf (S:=fun _=>True)).wpOp hi trivial ⟨fun _ h=>h,H⟩
    · have h1:=H.2 j (ready_mono r l)
      obtain⟨B,n,s,I⟩:=mem_ready.1 r;have C:=(mem_ready.1 p).1;have J:∀e∈n.after,Region.binds md e=true->e.on≠i:=fun e he hb heq=>by
        have h1:=I e he hb;rw[heq] at h1;rcases Nat.lt_or_ge i g.size with u|u
        · simp[u] at C h1;rw[C] at h1;cases h1
        · simp[Array.getElem?_eq_none u] at h1
      have K:=wpOp_put s (z j n s l B J) (fun cs b=>y i m cs b hi) (fun cs b=>y j n cs b s) F q h1;have L:∀k ok,ops[k]? =some ok->k≠i->(g.setIfInBounds j true).getD k true=false->
          (∀e∈ok.after,Region.binds md e=true->e.on≠i)->m.apart ops ok=true:=fun k ok hk M D N=>by
        refine z k ok hk M ?_ N;by_cases E:j=k
        · subst E;exact B
        · rw[getD_set_ne true E] at D;exact D
      refine wpOp_mono (fun a' w' x=>⟨x.2.1,G (g.setIfInBounds j true) a' w' L (ready_mono p (Ne.symm l)) x.1 ?_⟩) K;rw[Array.setIfInBounds_comm _ _ l];exact x.2.2
theorem yb {i:Nat} {e:Oper} {v:Value} {fuel:Nat} {b:Array Bool} {a:Act} {w:World} (hi:ops[i]? =some e)
    (g:Region.noSelect ops=true) (hf:Region.free md ops b i=true) (j:(Region.ready md ops b).contains i=true)
    (k:Region.ma md ops b=true) (l:Region.ny md ops b ds i=true)
    (m:∀c a w,Q (.panic c) (a.put e.dst v) w->Q (.panic c) a w) (n:YieldsIf P ops S e v a) (hS:S w)
    (h:cS P md ops Q S ds fuel (b.setIfInBounds i true) (a.put e.dst v) w):cS P md ops Q S ds (fuel+1) b a w:=
  x_ hi (Region.noSelect_spec g) m ops.size fuel b a w (Region.free_spec hi hf) (Region.xY k)
    (fun d hm o=>by have:=List.all_eq_true.1 l d hm;rw[o] at this;simpa using this) (by simpa using j) n hS h
theorem yc {rs:List Nat} {fuel:Nat} {b:Array Bool} {a:Act} {w:World} (e:Region.ready md ops b=rs) (g:rs≠[])
    (h:∀i∈rs,wpOp P ops Q i (fun a' w'=>(i∉ds->S w->S w')/\cS P md ops Q S ds fuel (b.setIfInBounds i true) a' w') a w):cS P md ops Q S ds (fuel+1) b a w:=
  ⟨fun j=>absurd (e▸j) g,e▸h⟩
theorem yd {b:Array Bool} {a:Act} {w:World} (e:Region.ready md ops b=[]) (h:Q .normal a w):
    ∀fuel,cS P md ops Q S ds fuel b a w
  |0=>⟨e,h⟩
  |_+1=>⟨fun _=>h,by rw[e];simp⟩
theorem ye {id:Nat} {a:Act} {w:World} (hm:P.follows .mixedOrders=true)
    (h:cS P .any ops Q S ds ops.size (Array.replicate ops.size false) a {w with drawn:=w.drawn+1}):(Code.region id ops true).wp P Q a w:=
  wp_region_any hm (sk _ _ _ _ h)
end
section
variable {P:Program} {ops:Array Oper} {Q:Exit->Act->World->Prop} {md:Region.Mode} {S:World->Prop} {ds:List Nat}
def gB (P:Program) (md:Region.Mode) (ops:Array Oper) (Q:Exit->Act->World->Prop) (S:World->Prop) (ds:List Nat) (fuel:Nat) (b:Array Bool) (a:Act) (w:World) (rs:List Nat):Prop:=
  ∀i∈rs,wpOp P ops Q i (fun a' w'=>(i∉ds->S w->S w')/\cS P md ops Q S ds fuel (b.setIfInBounds i true) a' w') a w
theorem gB.nil {fuel:Nat} {b:Array Bool} {a:Act} {w:World}:gB P md ops Q S ds fuel b a w []:=fun _ h=>by cases h
theorem gB.cons {fuel:Nat} {e:Array Bool} {a:Act} {w:World} {i:Nat} {o:Oper} {rs:List Nat} (k:ops[i]? =some o) (hd:i∉ds)
    (h:∀b:Act->World->Prop,Shut (∀a w,S w->(S w->cS P md ops Q S ds fuel (e.setIfInBounds i true) a w)->b a w)->if Region.wanted o (yielded ops a.tmps)=true then Oper.wp P o a w b Q else b (a.put o.dst undef) w)
    (l:gB P md ops Q S ds fuel e a w rs):gB P md ops Q S ds fuel e a w (i::rs):=fun j g=>by
  rcases List.mem_cons.1 g with rfl|g
  · exact wpOp_step k (fun b m=>h b (fun a w hS n=>m a w ⟨fun _ _=>hS,n hS⟩))
  · exact l j g
theorem gB.yf {fuel:Nat} {e:Array Bool} {a:Act} {w:World} {i:Nat} {o:Oper} {rs:List Nat} (k:ops[i]? =some o) (hd:i∈ds)
    (h:∀b:Act->World->Prop,Shut (∀a w,cS P md ops Q S ds fuel (e.setIfInBounds i true) a w->b a w)->if Region.wanted o (yielded ops a.tmps)=true then Oper.wp P o a w b Q else b (a.put o.dst undef) w)
    (l:gB P md ops Q S ds fuel e a w rs):gB P md ops Q S ds fuel e a w (i::rs):=fun j g=>by
  rcases List.mem_cons.1 g with rfl|g
  · exact wpOp_step k (fun b m=>h b (fun a w n=>m a w ⟨fun hn=>absurd hd hn,n⟩))
  · exact l j g
theorem sm {rs:List Nat} {fuel:Nat} {b:Array Bool} {a:Act} {w:World} (e:Region.ready md ops b=rs) (g:rs≠[])
    (h:gB P md ops Q S ds fuel b a w rs):cS P md ops Q S ds (fuel+1) b a w:=yc e g h
theorem nz {id n:Nat} {a:Act} {w:World} (l:Array Bool) (hm:P.follows .mixedOrders=true) (hn:ops.size=n) (b:Array.replicate n false=l) (hS:S w.drew)
    (h:S w.drew->cS P .any ops Q S ds n l a w.drew):(Code.region id ops true).wp P Q a w:=by
  subst hn;subst b;exact ye hm (h hS)
def mc (md:Region.Mode) (ops:Array Oper) (ds:List Nat) (l l':Array Bool) (i:Nat):Bool:=
  Region.noSelect ops&&Region.free md ops l i&&(Region.ready md ops l).contains i&&Region.ma md ops l&&Region.ny md ops l ds i&&(l.setIfInBounds i true==l')
theorem iU {i:Nat} {N:Option Tmp} {b:Oper} {v:Value} {fuel:Nat} {l:Array Bool} {a:Act} {w:World} (l':Array Bool) (hi:ops[i]? =some b) (g:b.dst=N) (e:mc md ops ds l l' i=true)
    (j:∀c a w,Q (.panic c) (a.put b.dst v) w->Q (.panic c) a w) (k:YieldsIf P ops S b v a) (hS:S w) {a':Act} (m:a.put N v=a')
    (h:cS P md ops Q S ds fuel l' a' w):cS P md ops Q S ds (fuel+1) l a w:=by
  subst m;subst g;simp only[mc,Bool.and_eq_true,beq_iff_eq] at e;obtain⟨⟨⟨⟨⟨h1,n⟩,o⟩,p⟩,q⟩,r⟩:=e;subst r;exact yb hi h1 n o p q j k hS h
def nA (md:Region.Mode) (ops:Array Oper) (l l':Array Bool) (i:Nat):Bool:=
  Region.noSelect ops&&Region.free md ops l i&&(Region.ready md ops l).contains i&&(l.setIfInBounds i true==l')
theorem yg {i:Nat} {N:Option Tmp} {b:Oper} {v:Value} {fuel:Nat} {l:Array Bool} {a:Act} {w:World} (l':Array Bool) (hi:ops[i]? =some b) (g:b.dst=N) (e:nA md ops l l' i=true)
    (j:∀c a w,Q (.panic c) (a.put b.dst v) w->Q (.panic c) a w) (k:Yields P ops b v a) {a':Act} (m:a.put N v=a')
    (h:cS P md ops Q S ds fuel l' a' w):cS P md ops Q S ds (fuel+1) l a w:=by
  subst m;subst g;simp only[nA,Bool.and_eq_true,beq_iff_eq] at e;obtain⟨⟨⟨h1,n⟩,o⟩,p⟩:=e;subst p;exact ya hi (Region.noSelect_spec h1) j fuel l a w (Region.free_spec hi n) (by simpa using o) k h
def lx (md:Region.Mode) (ops:Array Oper) (l l':Array Bool) (i:Nat):Bool:=(Region.ready md ops l==[i])&&(l.setIfInBounds i true==l')
theorem ly {i:Nat} {N:Option Tmp} {b:Oper} {fuel:Nat} {l:Array Bool} {a:Act} {w:World} (l':Array Bool) (hi:ops[i]? =some b) (g:b.dst=N) (e:lx md ops l l' i=true) (hd:i∉ds)
    (h:∀K:Act->World->Prop,Shut (∀a' w',S w'->(S w'->cS P md ops Q S ds fuel l' a' w')->K a' w')->if Region.wanted b (yielded ops a.tmps)=true then Oper.wp P b a w K Q else K (a.put N undef) w):
    cS P md ops Q S ds (fuel+1) l a w:=by
  subst g;simp only[lx,Bool.and_eq_true,beq_iff_eq] at e;obtain⟨h1,j⟩:=e;subst j;exact sm h1 (by simp) (gB.cons hi hd (fun K k=>h K k) gB.nil)
theorem pw {i:Nat} {N:Option Tmp} {b:Oper} {fuel:Nat} {l:Array Bool} {a:Act} {w:World} (l':Array Bool) (hi:ops[i]? =some b) (g:b.dst=N) (e:lx md ops l l' i=true) (hd:i∈ds)
    (h:∀K:Act->World->Prop,Shut (∀a' w',cS P md ops Q S ds fuel l' a' w'->K a' w')->if Region.wanted b (yielded ops a.tmps)=true then Oper.wp P b a w K Q else K (a.put N undef) w):
    cS P md ops Q S ds (fuel+1) l a w:=by
  subst g;simp only[lx,Bool.and_eq_true,beq_iff_eq] at e;obtain⟨h1,j⟩:=e;subst j;exact sm h1 (by simp) (gB.yf hi hd (fun K k=>h K k) gB.nil)
theorem nB {l:Array Bool} {a:Act} {w:World} {n:Nat} (b:(Region.ready md ops l==[])=true) (h:Q .normal a w):cS P md ops Q S ds n l a w:=yd (by simpa using b) h n
theorem lz {fuel:Nat} {l:Array Bool} {a a':Act} {w:World} (b:a=a') (h:cS P md ops Q S ds fuel l a' w):cS P md ops Q S ds fuel l a w:=by
  subst b;exact h
theorem yh {b:Oper} {N:Option Tmp} {a:Act} {w:World} {K:Act->World->Prop} (f:FuncId) (args:Array Value) (hw:Region.wanted b (yielded ops a.tmps)=true) (g:b.dst=N) (i:(execOp a.eval b).run P w= .ok (.enter f args) w)
    (h:Calls P f args w fun e w'=>∃v,e= .returned v/\K (a.put N v) w'):if Region.wanted b (yielded ops a.tmps)=true then Oper.wp P b a w K Q else K (a.put N undef) w:=by
  rw[if_pos hw];subst g;unfold Oper.wp;rw[i,Oper.upon_enter];refine h.mono fun e k j=>?_
  obtain⟨v,rfl,hk⟩:=j;exact hk
theorem sn {f:FuncId} {fn:Func} (hf:P.funcs[f]? =some fn) (a:(fn.name== "runtime.NumGoroutine")=false) (hb:fn.body.isSome=true) (args:Array Value) (w:World):(callFunc f args).run P w= .ok (.enter f args) w:=by
  have h1:fn.name≠ "runtime.NumGoroutine":=by simpa using a
  obtain⟨c,b⟩:=Option.isSome_iff_exists.1 hb;simp[callFunc,hf,h1,b]
theorem me {b:Oper} {N:Option Tmp} {a:Act} {w:World} {K:Act->World->Prop} {f:FuncId} {fn:Func} {g:Array Operand} {i:Array TypeId} (hf:P.funcs[f]? =some fn) (j:(fn.name== "runtime.NumGoroutine")=false) (hb:fn.body.isSome=true) (args:Array Value)
    (hw:Region.wanted b (yielded ops a.tmps)=true) (k:b.dst=N) (l:b.op= .call {callee:=.value (.func f),args:=g,argTypes:=i}) (m:g.map a.eval=args)
    (h:Calls P f args w fun e w'=>∃v,e= .returned v/\K (a.put N v) w'):if Region.wanted b (yielded ops a.tmps)=true then Oper.wp P b a w K Q else K (a.put N undef) w:=by
  refine yh f args hw k ?_ h;have he:=sn hf j hb args w;unfold execOp;simp[l,resolve,Deferred.ofValue,invoke,Act.eval,m,he]
theorem so {rest:List Oper} {b:Oper} {a:Act} {w:World} (N:Option Tmp) (hd:b.dst=N) (i:b.guard=none) {f:FuncId} {fn:Func} {g:Array Operand} {j:Array TypeId} (hf:P.funcs[f]? =some fn) (k:(fn.name== "runtime.NumGoroutine")=false) (hb:fn.body.isSome=true) (args:Array Value)
    (l:b.op= .call {callee:=.value (.func f),args:=g,argTypes:=j}) (m:g.map a.eval=args)
    (h:Calls P f args w fun e w'=>∃v,e= .returned v/\wpList P ops Q rest (a.put N v) w'):wpList P ops Q (b::rest) a w:=by
  refine wpList_plain i fun K n=>?_
  have he:=sn hf k hb args w;have o:(execOp a.eval b).run P w= .ok (.enter f args) w:=by
    unfold execOp;simp[l,resolve,Deferred.ofValue,invoke,Act.eval,m,he]
  unfold Oper.wp;rw[o,Oper.upon_enter];refine h.mono fun e q p=>?_
  obtain⟨v,rfl,hk⟩:=p;subst hd;exact n _ _ hk
theorem px {b:Oper} {a:Act} {w w1:World} {K:Act->World->Prop} (hw:Region.wanted b (yielded ops a.tmps)=true) (e:b.dst=none) (g:(execOp a.eval b).run P w= .ok .skip w1)
    (h:K a w1):if Region.wanted b (yielded ops a.tmps)=true then Oper.wp P b a w K Q else K (a.put none undef) w:=by
  rw[if_pos hw];unfold Oper.wp;rw[g];show K (a.put b.dst undef) w1
  rw[e];exact h
theorem bT (n:Int):IntKind.i64.wrap n=Go.RowKit.wrap64 n:=by unfold Go.RowKit.wrap64;exact IntKind.wrap_i64 n
theorem bW (n:Int):IntKind.i32.wrap n=Go.RowKit.wrap32 n:=by unfold Go.RowKit.wrap32;exact IntKind.wrap_i32 n
end
end Go.Proofs.YtffdiakgjakngaaGreatW.PrintLast
end
section
namespace Go.Proofs.YtffdiakgjakngaaGreatW.PrintWords
open Go.RowKit
namespace Kd
section
variable {α:Type} {d:Kd α} {e base g o n cap:Nat} {ok okp:Nat->Prop} {w W:World} {v:Value} {xs:List α}
theorem yi (h:d.Q e w base ok v xs) (hp:0<xs.length):∃g o cap,v= .slice (some ⟨g,o,none⟩) xs.length cap/\base<=g/\g<w.heap.size/\∃cells,w.heap[g]? =some (.cells cells e (0,0)):=by
  obtain⟨i,inner,b,j⟩:=h;rcases b.2 with⟨h1,_⟩|⟨g,off,cap,cur,rfl,hb,a,r⟩
  · omega
  · exact⟨g,off*d.sz,cap,rfl,hb,aE a,cur,a⟩
theorem yj (h:d.Q e W base ok (.slice (some ⟨g,o,none⟩) n cap) xs) (z:α) (i:Int) (q:0<=i) (h1:i<n):
    ∃c,c.length=d.sz/\d.M W base (fun k=>ok k/\k≠g) (xs.getD i.toNat z) c/\(∀j u,c[j]? =some u->W.cell? ⟨g,o+i.toNat*d.sz+j,none⟩=some u)/\∀j,W.frozen? ⟨g,o+i.toNat*d.sz+j,none⟩=false:=by
  obtain⟨hn,r,hC⟩:=r9 h;obtain⟨_,inner,l,m⟩:=h;have a:i.toNat<xs.length:=by omega
  have s:i.toNat*d.sz+d.sz<=inner.length:=by rw[m.1,<-Nat.succ_mul];exact Nat.mul_le_mul_right _ a
  have p:=m.2 i.toNat _ (List.getElem?_eq_getElem a);refine⟨(inner.drop (i.toNat*d.sz)).take d.sz,by rw[List.length_take,List.length_drop];omega,?_,fun j u hu=>?_,fun j=>?_⟩
  · rw[List.getD_eq_getElem?_getD,List.getElem?_eq_getElem a]
    exact d.cy (fun k hk=>⟨hk.1,fun he=>hk.2 (by rw[he];simp[Value.ownBlock])⟩) p
  · rw[List.getElem?_take] at hu
    split at hu
    · rw[List.getElem?_drop] at hu
      subst hn;obtain⟨ad,he,b⟩:=rY l (by omega);injection he with he
      subst he;have:=b _ u hu;rwa [gT,<-Nat.add_assoc] at this
    · cases hu
  · obtain⟨_,cells,b⟩:=kr l g (by simp[Value.ownBlock])
    exact bD b _
end
section
variable {α:Type} {enc:α->Value} {h1:∀x,(enc x).oneCell'=true} {e base g o n cap:Nat} {ok:Nat->Prop} {W:World} {xs:List α}
theorem yk (d:α) (h:(scalar enc h1).Q e W base ok (.slice (some ⟨g,o,none⟩) n cap) xs) (i:Int) (j:0<=i) (hi:i<n):W.cell? ⟨g,o+i.toNat,none⟩=some (enc (bO d xs i))/\W.frozen? ⟨g,o+i.toNat,none⟩=false:=by
  obtain⟨c,_,k,l,hf⟩:=yj h d i j hi;have m:c=[enc (xs.getD i.toNat d)]:=k;subst m;have a:=l 0 _ rfl;have b:=hf 0;rw[show (scalar enc h1).sz=1 from rfl,Nat.mul_one,Nat.add_zero] at a b;exact⟨a,b⟩
end
end Kd
end Go.Proofs.YtffdiakgjakngaaGreatW.PrintWords
end
section
namespace Go.Proofs.YtffdiakgjakngaaGreatW.PrintWords
open Go.RowKit
namespace Kd
def tag {α:Type} (f:Nat->Nat) (d:Kd α):Kd (α×Nat) where
  sz:=d.sz
  E:=d.E
  K:=fun w x cs=>d.K w x.1 cs
  M:=fun w base ok x cs=>d.M w base (fun k=>ok k/\f k=x.2) x.1 cs
  dZ:=fun h=>d.dZ h
  d_:=fun h=>d.d_ h
  gz:=fun hb h=>d.gz hb h
  cV:=fun h=>d.cV h
  cy:=fun a h=>d.cy (fun k hk=>⟨a k hk.1,hk.2⟩) h
  en:=fun h=>d.cy (fun _ hk=>⟨⟨hk.1.1,hk.2⟩,hk.1.2⟩) (d.en h)
  ez:=fun hm h=>d.ez (fun k hk=>hm k hk.1) h
  gA:=fun hb h=>d.gA hb h
def raw (sz:Nat):Kd (List Value) where
  sz:=sz
  E:=[]
  K:=fun _ x cs=>cs=x/\cs.length=sz/\∀u∈cs,u.oneCell'=true
  M:=fun _ _ _ x cs=>cs=x/\cs.length=sz/\∀u∈cs,u.oneCell'=true
  dZ:=fun h=>h.2.1
  d_:=fun h=>h.2.2
  gz:=fun _ h=>h
  cV:=fun h=>h
  cy:=fun _ h=>h
  en:=fun h=>h
  ez:=fun _ h=>h
  gA:=fun _ h=>h
def S {α:Type} (d:Kd α) (e:Nat) (w:World) (base:Nat) (ok:Nat->Prop) (v:Value) (xs:List α):Prop:=∃f,(tag f d).R e w base ok v xs.zipIdx
section
variable {α β:Type} {d:Kd α} {d':Kd β} {e e':Nat} {w w1 W:World} {base b:Nat} {ok ok' okv oku:Nat->Prop} {u v:Value} {xs:List α} {ys:List β}
theorem jV {xs:List α} {j:Nat} {p:α} (h:xs[j]? =some p):xs.zipIdx[j]? =some (p,j):=by rw[List.getElem?_zipIdx,h,Nat.zero_add];rfl
theorem kz (h:S d e w base ok v xs):d.R e w base ok v xs:=by
  obtain⟨f,g,inner,a,b⟩:=h;rw[List.length_zipIdx] at a;exact⟨g,inner,a,by have:=b.1;rw[List.length_zipIdx] at this;exact this,fun j p i=>d.cy (fun _ hk=>hk.1) (b.2 j (p,j) (jV i))⟩
theorem lA {ad:Addr} {n cap:Nat} (h:d.R e w base ok (.slice (some ad) n cap) xs):∃g,ad=⟨g,0,none⟩:=by
  obtain⟨_,inner,i,j⟩:=h;rcases i.2 with⟨a,_⟩|⟨g,k,cur,a,_⟩
  · cases a
  · injection a with b _ _
    injection b with b
    exact⟨g,b⟩
theorem gC (b:d.E=[]) (h:d.R e w base ok v xs):d.R e w base (fun k=>some k=v.ownBlock) v xs:=by
  obtain⟨j,inner,g,i⟩:=h;refine⟨fun k hk=>hk.symm,inner,g,i.eG (fun p c hp=>d.cy (fun k hk=>?_) (d.en hp))⟩;obtain⟨_,_,_,q,a,_⟩:=hk;rw[b] at a;cases a
theorem fh (d:Kd α) (e:Nat) (w:World) (base:Nat) (ok:Nat->Prop):S d e w base ok (.slice none 0 0) []:=⟨fun _=>0,cW _ _ _ _ _⟩
theorem kA (h:S d e w base ok v xs) (a:∀k,ok k->ok' k):S d e w base ok' v xs:=by
  obtain⟨f,h⟩:=h;exact⟨f,a_ h a⟩
theorem mf (h:S d e w base ok v xs):S d e w base (fun k=>ok k/\base<=k/\k<w.heap.size/\∃q,q∈e::d.E/\∃cells,w.heap[k]? =some (.cells cells q (0,0))) v xs:=by
  obtain⟨f,h⟩:=h;exact⟨f,eH h⟩
theorem yl (h:S d e w base ok v xs) (hm:∀k,ok k->w1.heap[k]? =w.heap[k]?):S d e w1 base ok v xs:=by
  obtain⟨f,h⟩:=h;exact⟨f,ff h hm⟩
theorem py (h:S d e w base ok v xs) (hm:∀k,ok k->k<w.heap.size->w1.heap[k]? =w.heap[k]?):S d e w1 base ok v xs:=
  kA (yl (mf h) (fun k hk=>hm k hk.1 hk.2.2.1)) (fun _ hk=>hk.1)
theorem nC (h:S d e w base ok v xs) (hb:Below w.heap.size w w1):S d e w1 base ok v xs:=py h (fun k _ hk=>hb.block k hk)
theorem pz (h:S d e w base ok v xs) (o:Obj):S d e (w.alloc o) base ok v xs:=nC h (aq (Below.refl _ _) o)
theorem sr (h:S d e w base ok v xs):S d e w.drew base ok v xs:=nC h (gS (Below.refl _ _))
theorem ym (h:S d e w base ok v xs) (m:Nat):S d e (w.drewN m) base ok v xs:=nC h (bY (Below.refl _ _) m)
theorem ss (h:S d e w base ok v xs) {row:Option Nat} (a:w.grownBy w1 row) (b:∀k,ok k->some k≠row):S d e w1 base ok v xs:=py h (fun k g hk=>a.block k hk (b k g))
theorem yn (h:S d e w base ok v xs) {p:Addr} (a:∀k,ok k->k≠p.block) (u:Value):S d e (w.setCell p u) base ok v xs:=py h (fun k b _=>Below.heap_setCell w p u k (a k b))
theorem yo (h:S d e w base ok v xs) {g t:Nat} {cells:Array Value} (hb:w.heap[g]? =some (.cells cells t (0,0))) (a:∀q,q∈e::d.E->q≠t):S d e w base (fun k=>ok k/\k≠g) v xs:=by
  obtain⟨f,h⟩:=h;exact⟨f,fS h hb a⟩
theorem pA (h:S d e w base ok v xs) {g t:Nat} {cells:Array Value} (hb:w.heap[g]? =some (.cells cells t (0,0))) (a:∀q,q∈e::d.E->q≠t) (j:Nat) (u:Value):S d e (w.setCell ⟨g,j,none⟩ u) base ok v xs:=
  kA (yn (p:=⟨g,j,none⟩) (yo h hb a) (fun _ hk=>hk.2) u) (fun _ hk=>hk.1)
theorem nD (h:S d e w base ok v xs):∀k,v.ownBlock=some k->∃cells,w.heap[k]? =some (.cells cells e (0,0)):=fT (kz h)
theorem yp (h:S d e w base ok v xs):∀k,v.ownBlock=some k->k<w.heap.size:=a7 (kz h)
theorem yq {f a:Nat->Nat} {zs:List (α×Nat)} (h:(tag f d).R e w base ok v zs) (hf:∀k,ok k->k<w.heap.size->a k=f k):(tag a d).R e w base ok v zs:=by
  obtain⟨g,inner,i,b⟩:=eH h;exact⟨fun k hk=>(g k hk).1,inner,i,b.1,fun j p l=>d.cy (fun k hk=>⟨⟨hk.1.1.1,hk.1.2⟩,(hf k hk.1.1.1 hk.1.1.2.2.1).trans hk.2⟩) (b.2 j p l)⟩
end
section
variable {α β:Type} {d:Kd α} {d':Kd β} {e e' g:Nat} {w w1 W:World} {base b:Nat} {ok ok' okv oku:Nat->Prop} {u v:Value} {xs:List α} {ys:List β}
theorem yr (h:S d e w base ok v xs) {t:Nat} {cells:Array Value} (hb:w.heap[g]? =some (.cells cells t (0,0))) (a:e≠t):some g≠v.ownBlock:=db (kz h) hb a
theorem pB (h:S d e w base ok v xs) (hp:0<xs.length):∃g cap,v= .slice (some ⟨g,0,none⟩) xs.length cap/\base<=g/\g<w.heap.size/\∃cells,w.heap[g]? =some (.cells cells e (0,0)):=eV (kz h) hp
theorem lB (h:S d e w base ok v xs):∃A c,v= .slice A xs.length c:=bb (kz h)
theorem su (xs:List α) (p:α):(xs++[p]).zipIdx=xs.zipIdx++[(p,xs.length)]:=by rw[List.zipIdx_append];simp
end
section
open Classical in
theorem sw {α:Type} {d:Kd α} {e base:Nat} {okv:Nat->Prop} {w:World} {v:Value} {xs:List α} (h:S d e w base okv v xs) (m:Nat) (okp:Nat->Prop) (a:∀k,okp k->¬okv k):∃f,(∀k,okp k->f k=m)/\(tag f d).R e w base okv v xs.zipIdx:=by
  obtain⟨f,h⟩:=h;exact⟨fun k=>if okp k then m else f k,fun k hk=>if_pos hk,yq h (fun k hk _=>if_neg (fun b=>a k b hk))⟩
variable {P:Program} {ops:Array Oper} {rest:List Oper} {o:Oper} {a:Act} {Q:Exit->Act->World->Prop} {Kc:Act->World->Prop} {α:Type}
theorem yt (d:Kd α) {w0 W:World} (base:Nat) (j:o.guard=none) (s x:Operand) (t e:TypeId) (z:Value) (bytes:Nat)
    (l:o.op= .call {callee:=.builtin .append,args:=#[s,x],argTypes:=#[t,t]})
    (m:P.underlying t=some (.slice e)) (n:(P.info? e).map (fun i=>(i.zero,i.size,i.bytes))=some (some z,d.sz,bytes)) (q:z.cells.size=d.sz) (r:0<d.sz) (u:0<bytes)
    (v:Value) (xs:List α) (p:α) (cs:List Value) (ok okp:Nat->Prop) (w:a.eval s=v) (y:a.eval x= .slice (some ⟨W.heap.size,0,none⟩) 1 1) (hp:d.M W base okp p cs) (B:∀k,okp k->ok k/\some k≠v.ownBlock) (C:∀k,W.heap.size<=k->ok k)
    (D:S d e W base (fun k=>ok k/\¬okp k) v xs) (E:Below base w0 W) (F:base<=W.heap.size) (G:(xs.length+1)*bytes<=140737488355328)
    (h:∀v1 w1,S d e w1 base ok v1 (xs++[p])->Below base w0 w1->W.grownBy w1 v.ownBlock->(v1.ownBlock=v.ownBlock\/∃b,v1.ownBlock=some b/\W.heap.size<=b)->wpList P ops Q rest (a.put o.dst v1) w1):
    wpList P ops Q (o::rest) a (W.alloc (.cells cs.toArray e)):=by
  obtain⟨f,hf,H⟩:=sw D xs.length okp (fun _ hk I=>I.2 hk);refine l6 (tag f d) base j s x t e z bytes l m n q r u v xs.zipIdx (p,xs.length) cs ok okp w y (d.cy (fun k hk=>⟨hk,hf k hk⟩) hp) B C (a_ H (fun _ hk=>hk.1)) E F (by rw[List.length_zipIdx];exact G) ?_;intro v1 w1 g;rw[<-su] at g;exact h v1 w1 ⟨f,g⟩
theorem yu (d:Kd α) {w0 W:World} (base:Nat) (hw:Region.wanted o (yielded ops a.tmps)=true) (s x:Operand) (t e:TypeId) (z:Value) (bytes:Nat)
    (j:o.op= .call {callee:=.builtin .append,args:=#[s,x],argTypes:=#[t,t]})
    (l:P.underlying t=some (.slice e)) (m:(P.info? e).map (fun i=>(i.zero,i.size,i.bytes))=some (some z,d.sz,bytes)) (n:z.cells.size=d.sz) (q:0<d.sz) (r:0<bytes)
    (v:Value) (xs:List α) (p:α) (cs:List Value) (ok okp:Nat->Prop) (u:a.eval s=v) (w:a.eval x= .slice (some ⟨W.heap.size,0,none⟩) 1 1) (hp:d.M W base okp p cs) (y:∀k,okp k->ok k/\some k≠v.ownBlock) (B:∀k,W.heap.size<=k->ok k)
    (C:S d e W base (fun k=>ok k/\¬okp k) v xs) (D:Below base w0 W) (E:base<=W.heap.size) (F:(xs.length+1)*bytes<=140737488355328)
    (h:∀v1 w1,S d e w1 base ok v1 (xs++[p])->Below base w0 w1->W.grownBy w1 v.ownBlock->(v1.ownBlock=v.ownBlock\/∃b,v1.ownBlock=some b/\W.heap.size<=b)->Kc (a.put o.dst v1) w1):
    if Region.wanted o (yielded ops a.tmps)=true then Oper.wp P o a (W.alloc (.cells cs.toArray e)) Kc Q else Kc (a.put o.dst undef) (W.alloc (.cells cs.toArray e)):=by
  obtain⟨f,hf,G⟩:=sw C xs.length okp (fun _ hk H=>H.2 hk);refine pd (tag f d) base hw s x t e z bytes j l m n q r v xs.zipIdx (p,xs.length) cs ok okp u w (d.cy (fun k hk=>⟨hk,hf k hk⟩) hp) y B (a_ G (fun _ hk=>hk.1)) D E (by rw[List.length_zipIdx];exact F) ?_;intro v1 w1 g;rw[<-su] at g;exact h v1 w1 ⟨f,g⟩
end
def jW {α:Type} (f:Nat->Nat) (d:Kd α) (i:Nat) (c:List Value):Kd (α×Nat) where
  sz:=d.sz
  E:=d.E
  K:=fun w x cs=>(x.2=i->cs=c/\cs.length=d.sz/\∀u∈cs,u.oneCell'=true)/\(x.2≠i->d.K w x.1 cs)
  M:=fun w base ok x cs=>(x.2=i->cs=c/\cs.length=d.sz/\∀u∈cs,u.oneCell'=true)/\(x.2≠i->d.M w base (fun k=>ok k/\f k=x.2) x.1 cs)
  dZ:=fun {w x cs} h=>by
    by_cases a:x.2=i
    · exact(h.1 a).2.1
    · exact d.dZ (h.2 a)
  d_:=fun {w x cs} h=>by
    by_cases a:x.2=i
    · exact(h.1 a).2.2
    · exact d.d_ (h.2 a)
  gz:=fun hb h=>⟨h.1,fun a=>d.gz hb (h.2 a)⟩
  cV:=fun h=>⟨h.1,fun a=>d.cV (h.2 a)⟩
  cy:=fun b h=>⟨h.1,fun a=>d.cy (fun k hk=>⟨b k hk.1,hk.2⟩) (h.2 a)⟩
  en:=fun h=>⟨h.1,fun a=>d.cy (fun _ hk=>⟨⟨hk.1.1,hk.2⟩,hk.1.2⟩) (d.en (h.2 a))⟩
  ez:=fun hm h=>⟨h.1,fun a=>d.ez (fun k hk=>hm k hk.1) (h.2 a)⟩
  gA:=fun hb h=>⟨h.1,fun a=>d.gA hb (h.2 a)⟩
def H {α:Type} (d:Kd α) (e:Nat) (w:World) (base:Nat) (ok:Nat->Prop) (v:Value) (xs:List α) (i:Int) (oki:Nat->Prop) (c:List Value):Prop:=
  (∀k,oki k->ok k)/\∃f,(jW f d i.toNat c).R e w base (fun k=>ok k/\¬oki k) v xs.zipIdx
section
variable {α β:Type} {d:Kd α} {e e' g n cap:Nat} {w w1 W:World} {base:Nat} {ok ok' oki okp:Nat->Prop} {u v:Value} {xs:List α} {i:Int} {c:List Value}
theorem sx (h:S d e W base ok (.slice (some ⟨g,0,none⟩) n cap) xs) (z:α) (i:Int) (C:0<=i) (h1:i<n):
    ∃(oki:Nat->Prop) (c:List Value),c.length=d.sz/\d.M W base oki (xs.getD i.toNat z) c/\(∀j u,c[j]? =some u->W.cell? ⟨g,i.toNat*d.sz+j,none⟩=some u)/\(∀k,oki k->ok k/\k≠g)/\H d e W base ok (.slice (some ⟨g,0,none⟩) n cap) xs i oki c:=by
  obtain⟨f,s⟩:=h;have hn:=(aD s).1;rw[List.length_zipIdx] at hn;have b:some g=(Value.slice (some ⟨g,0,none⟩) n cap).ownBlock:=by simp[Value.ownBlock]
  obtain⟨x,inner,v,a⟩:=s;have l:i.toNat<xs.length:=by omega
  have hlen:inner.length=xs.length*d.sz:=by have:=a.1;rw[List.length_zipIdx] at this;exact this
  have D:i.toNat*d.sz+d.sz<=inner.length:=by rw[hlen,<-Nat.succ_mul];exact Nat.mul_le_mul_right _ l
  have o:=a.2 i.toNat _ (jV (List.getElem?_eq_getElem l));have y:∀k,some k≠(Value.slice (some ⟨g,0,none⟩) n cap).ownBlock->k≠g:=fun k hk he=>hk (by rw[he];exact b)
  refine⟨fun k=>(ok k/\k≠g)/\f k=i.toNat,(inner.drop (i.toNat*d.sz)).take d.sz,by rw[List.length_take,List.length_drop];omega,?_,fun j u hu=>?_,fun k hk=>hk.1,fun k hk=>hk.1.1,f,fun k hk=>⟨x k hk,fun r=>r.1.2 ?_⟩,inner,v,a.1,fun m p hm=>?_⟩
  · rw[List.getD_eq_getElem?_getD,List.getElem?_eq_getElem l]
    exact d.cy (fun k hk=>⟨⟨hk.1.1,y k hk.1.2⟩,hk.2⟩) o
  · rw[List.getElem?_take] at hu
    split at hu
    · rw[List.getElem?_drop] at hu
      have:=v.cells (g:=g) b.symm _ u hu;rwa [add_plain] at this
    · cases hu
  · rw[<-b] at hk;injection hk with hk;exact hk.symm
  · have hold:=a.2 m p hm
    have E:p.2=m:=by
      rw[List.getElem?_zipIdx,Nat.zero_add] at hm;obtain⟨q,_,rfl⟩:=Option.map_eq_some_iff.1 hm;rfl
    refine⟨fun w=>?_,fun w=>d.cy (fun k hk=>⟨⟨⟨hk.1.1,fun r=>w ?_⟩,hk.1.2⟩,hk.2⟩) hold⟩
    · have B:m=i.toNat:=by omega
      subst B;exact⟨rfl,d.dZ (d.cV o),d.d_ (d.cV o)⟩
    · rw[<-hk.2];exact r.2
open Classical in
theorem sy (h:H d e w base ok v xs i oki c) {x':α} (r:d.M w base okp x' c) (b:∀k,okp k->oki k):S d e w base ok v (xs.set i.toNat x'):=by
  obtain⟨s,f,l,inner,n,g⟩:=h;refine⟨fun k=>if oki k then i.toNat else f k,fun k hk=>(l k hk).1,inner,by rw[List.length_zipIdx,List.length_set];rw[List.length_zipIdx] at n;exact n,by have:=g.1;rw[List.length_zipIdx] at this;rw[List.length_zipIdx,List.length_set];exact this,fun m p hm=>?_⟩;rw[List.getElem?_zipIdx,Nat.zero_add] at hm;obtain⟨q,a,rfl⟩:=Option.map_eq_some_iff.1 hm;have o:m<xs.length:=by
    have:=(List.getElem?_eq_some_iff.1 a).1;rwa [List.length_set] at this
  by_cases j:m=i.toNat
  · subst j
    rw[List.getElem?_set_self o] at a;injection a with a
    subst a;have u:=((g.2 i.toNat _ (jV (List.getElem?_eq_getElem o))).1 rfl).1;show d.M w base _ x' ((inner.drop (i.toNat*d.sz)).take d.sz)
    rw[show (inner.drop (i.toNat*d.sz)).take d.sz=c from u];exact d.cy (fun k hk=>⟨⟨s k (b k hk),fun he=>(l k he.symm).2 (b k hk)⟩,if_pos (b k hk)⟩) r
  · rw[List.getElem?_set_ne (Ne.symm j)] at a
    exact d.cy (fun k hk=>⟨⟨hk.1.1.1,hk.1.2⟩,(if_neg hk.1.1.2).trans hk.2⟩) ((g.2 m (q,m) (jV a)).2 j)
theorem sA (h:H d e w base ok v xs i oki c) (hm:∀k,ok k->¬oki k->k<w.heap.size->w1.heap[k]? =w.heap[k]?):H d e w1 base ok v xs i oki c:=by
  obtain⟨a,f,h⟩:=h;exact⟨a,f,ln h (fun k hk b=>hm k hk.1 hk.2 b)⟩
theorem sB (h:H d e w base ok v xs i oki c) {row:Option Nat} (a:w.grownBy w1 row) (b:∀k,row=some k->oki k):H d e w1 base ok v xs i oki c:=
  sA h (fun k _ hn g=>a.block k g (fun he=>hn (b k he.symm)))
theorem yv (h:H d e w base ok v xs i oki c) (hb:Below w.heap.size w w1):H d e w1 base ok v xs i oki c:=sA h (fun k _ _ a=>hb.block k a)
theorem yw (h:H d e w base ok v xs i oki c):H d e w.drew base ok v xs i oki c:=yv h (gS (Below.refl _ _))
theorem yx {okg:Nat->Prop} (h:H d e w base (fun k=>ok k/\¬okg k) v xs i oki c) (b:∀k,okg k->ok k):H d e w base ok v xs i (fun k=>oki k\/okg k) c:=by
  obtain⟨g,f,h⟩:=h;exact⟨fun k hk=>hk.elim (fun a=>(g k a).1) (b k),f,a_ h (fun k hk=>⟨hk.1.1,fun a=>a.elim hk.2 hk.1.2⟩)⟩
theorem yy {ad:Addr} (h:S d e W base ok (.slice (some ad) n cap) xs) (z:α) (i:Int) (b:0<=i) (h1:i<n):
    ∃(oki:Nat->Prop) (c:List Value),c.length=d.sz/\d.M W base oki (xs.getD i.toNat z) c/\(∀j u,c[j]? =some u->W.cell? (ad.add (i.toNat*d.sz+j))=some u)/\(∀k,oki k->ok k/\some k≠(Value.slice (some ad) n cap).ownBlock)/\
      ∀{w1:World} {row:Option Nat} {x':α},W.grownBy w1 row->(∀k,row=some k->oki k)->d.M w1 base oki x' c->S d e w1 base ok (.slice (some ad) n cap) (xs.set i.toNat x'):=by
  obtain⟨g,rfl⟩:=lA (kz h);obtain⟨oki,c,l,m,o,a,hH⟩:=sx h z i b h1;refine⟨oki,c,l,m,fun j u hu=>?_,fun k hk=>⟨(a k hk).1,fun he=>(a k hk).2 ?_⟩,fun p q r=>sy (sB hH p q) r (fun _ hk=>hk)⟩
  · rw[gT,Nat.zero_add]
    exact o j u hu
  · simpa [Value.ownBlock] using he
theorem sC (h:S d e W base ok (.slice (some ⟨g,0,none⟩) n cap) xs) (z:α) (i:Int) (a:0<=i) (h1:i<n):
    ∃(oki:Nat->Prop) (c:List Value),c.length=d.sz/\d.M W base oki (xs.getD i.toNat z) c/\(∀j u,c[j]? =some u->W.cell? ⟨g,i.toNat*d.sz+j,none⟩=some u)/\(∀j,W.frozen? ⟨g,i.toNat*d.sz+j,none⟩=false)/\(∀k,oki k->ok k/\k≠g)/\H d e W base ok (.slice (some ⟨g,0,none⟩) n cap) xs i oki c:=by
  obtain⟨_,_,_,_,b⟩:=sb (kz h) z i a h1;obtain⟨oki,c,l,m,o,p,hH⟩:=sx h z i a h1;exact⟨oki,c,l,m,o,b,p,hH⟩
theorem yz (h:H d e W base ok (.slice (some ⟨g,0,none⟩) n cap) xs i oki c) (S:0<=i) (h1:i<n):
    ∃rows:List (List Value),rows.length=xs.length/\(raw d.sz).R e W base (fun _=>True) (.slice (some ⟨g,0,none⟩) n cap) rows/\c.length=d.sz/\(∀u∈c,u.oneCell'=true)/\(∀j u,c[j]? =some u->W.cell? ⟨g,i.toNat*d.sz+j,none⟩=some u)/\
      ∀w1 b,W.grownBy w1 (some g)->(raw d.sz).R e w1 base (fun _=>True) (.slice (some ⟨g,0,none⟩) n cap) (rows.set i.toNat b)->H d e w1 base ok (.slice (some ⟨g,0,none⟩) n cap) xs i oki b:=by
  obtain⟨G,f,x⟩:=h;have hn:=(aD x).1;rw[List.length_zipIdx] at hn;have y:some g=(Value.slice (some ⟨g,0,none⟩) n cap).ownBlock:=by simp[Value.ownBlock]
  obtain⟨I,inner,s,a⟩:=x;have z:i.toNat<xs.length:=by omega
  have hlen:inner.length=xs.length*d.sz:=by have:=a.1;rw[List.length_zipIdx] at this;exact this
  have J:∀k,some k≠(Value.slice (some ⟨g,0,none⟩) n cap).ownBlock->k≠g:=fun k hk he=>hk (by rw[he];exact y)
  have l:=(a.2 i.toNat _ (jV (List.getElem?_eq_getElem z))).1 rfl;rw[l.1] at l;have K:=((a.2 i.toNat _ (jV (List.getElem?_eq_getElem z))).1 rfl).1;refine⟨(List.range xs.length).map fun j=>(inner.drop (j*d.sz)).take d.sz,by rw[List.length_map,List.length_range],⟨fun _ _=>trivial,inner,?_,?_,fun j p B=>?_⟩,l.2.1,l.2.2,fun j u hu=>?_,fun w1 b L N=>?_⟩
  · rw[List.length_map,List.length_range];rw[List.length_zipIdx] at s;exact s
  · rw[List.length_map,List.length_range];exact hlen
  · rw[List.getElem?_map] at B
    obtain⟨T,O,rfl⟩:=Option.map_eq_some_iff.1 B;obtain⟨C,he⟩:=List.getElem?_eq_some_iff.1 O;rw[List.getElem_range] at he;subst he;rw[List.length_range] at C;have hm:=(jW f d i.toNat c).cV (a.2 j _ (jV (List.getElem?_eq_getElem C)));exact⟨rfl,(jW f d i.toNat c).dZ hm,(jW f d i.toNat c).d_ hm⟩
  · rw[<-K,List.getElem?_take] at hu
    split at hu
    · rw[List.getElem?_drop] at hu
      have:=s.cells (g:=g) y.symm _ u hu;rwa [add_plain] at this
    · cases hu
  · obtain⟨_,o,D,v⟩:=N
    have P:o.length=xs.length*d.sz:=by have:=v.1;rw[List.length_set,List.length_map,List.length_range] at this;exact this
    rw[List.length_set,List.length_map,List.length_range] at D;refine⟨G,f,I,o,by rw[List.length_zipIdx];exact D,by rw[List.length_zipIdx];exact P,fun m p hm=>?_⟩;rw[List.getElem?_zipIdx,Nat.zero_add] at hm;obtain⟨q,E,rfl⟩:=Option.map_eq_some_iff.1 hm;have F:m<xs.length:=(List.getElem?_eq_some_iff.1 E).1;have hold:=a.2 m (q,m) (jV E);refine⟨fun r=>?_,fun r=>?_⟩
    · have w:m=i.toNat:=r
      subst w;exact v.2 i.toNat b (List.getElem?_set_self (by rw[List.length_map,List.length_range];exact F))
    · have w:m≠i.toNat:=r
      have Q:=(v.2 m ((inner.drop (m*d.sz)).take d.sz) (by
        rw[List.getElem?_set_ne (Ne.symm w),List.getElem?_map,List.getElem?_eq_getElem (by rw[List.length_range];exact F),List.getElem_range];rfl)).1
      show d.M w1 base _ q ((o.drop (m*d.sz)).take d.sz)
      rw[show (o.drop (m*d.sz)).take d.sz=_ from Q];exact d.cy (fun k hk=>hk.1) (d.ez (w1:=w1) (fun k hk=>L.block k hk.2.2.1 (fun he=>J k hk.1.1.2 (by injection he))) (d.en (hold.2 r)))
theorem yA (h:H d e W base ok (.slice (some ⟨g,0,none⟩) n cap) xs i oki c) (a:0<=i) (h1:i<n) {seg:List Value} {j:Nat} (l:j+seg.length<=d.sz) (m:∀q∈seg,q.oneCell'=true):
    H d e (W.setCells g (i.toNat*d.sz+j) seg) base ok (.slice (some ⟨g,0,none⟩) n cap) xs i oki (c.take j++seg++c.drop (j+seg.length))/\W.grownBy (W.setCells g (i.toNat*d.sz+j) seg) (some g):=by
  obtain⟨rows,_,o,p,b,r,s⟩:=yz h a h1;obtain⟨v,k⟩:=sd o i a h1 (c:=c) (seg:=seg) (j:=j) (x':=c.take j++seg++c.drop (j+seg.length)) (okp:=fun _=>False) p r l
    ⟨rfl,by
      show (c.take j++seg++c.drop (j+seg.length)).length=d.sz
      simp only[List.length_append,List.length_take,List.length_drop];omega,fun u hu=>by
      rcases List.mem_append.1 hu with hu|hu
      · rcases List.mem_append.1 hu with hu|hu
        · exact b u (List.mem_of_mem_take hu)
        · exact m u hu
      · exact b u (List.mem_of_mem_drop hu)⟩ (fun _ hk=>hk.elim)
  exact⟨s _ _ k v,k⟩
theorem yB {okg:Nat->Prop} (hH:H d e W base (fun k=>ok k/\¬okg k) (.slice (some ⟨g,0,none⟩) n cap) xs i oki c) (m:0<=i) (h1:i<n) {seg:List Value} {j:Nat} (o:j+seg.length<=d.sz)
    {x':α} (a:d.M W base okp x' (c.take j++seg++c.drop (j+seg.length))) (b:∀k,okp k->oki k\/okg k) (h:∀k,okg k->ok k/\k≠g):
    S d e (W.setCells g (i.toNat*d.sz+j) seg) base ok (.slice (some ⟨g,0,none⟩) n cap) (xs.set i.toNat x')/\W.grownBy (W.setCells g (i.toNat*d.sz+j) seg) (some g):=by
  have p:∀k,oki k\/okg k->k≠g:=by
    intro k hk he;subst he;rcases hk with hk|hk
    · obtain⟨_,f,r⟩:=hH
      exact(r.1 k (by simp[Value.ownBlock])).2 hk
    · exact(h k hk).2 rfl
  obtain⟨s,l⟩:=yA (yx hH (fun k hk=>(h k hk).1)) m h1 o (fun q u=>d.d_ (d.cV a) q (List.mem_append_left _ (List.mem_append_right _ u)));exact⟨sy s (o_ a (fun k hk v=>l.block k v (fun he=>p k (b k hk) (by injection he)))) b,l⟩
end
end Kd
end Go.Proofs.YtffdiakgjakngaaGreatW.PrintWords
end
section
namespace Go.Proofs.YtffdiakgjakngaaGreatW.PrintWords
open Go.RowKit
end Go.Proofs.YtffdiakgjakngaaGreatW.PrintWords
end
section
namespace Go.Proofs.YtffdiakgjakngaaGreatW.PrintWords
open Go.RowKit
end Go.Proofs.YtffdiakgjakngaaGreatW.PrintWords
end
section
namespace Go.Proofs.YtffdiakgjakngaaGreatW.PrintWords
open Go.RowKit
end Go.Proofs.YtffdiakgjakngaaGreatW.PrintWords
end
section
namespace Go.Proofs.YtffdiakgjakngaaGreatW.PrintWords
open Go.RowKit
end Go.Proofs.YtffdiakgjakngaaGreatW.PrintWords
end
section
namespace Go.Proofs.YtffdiakgjakngaaGreatW.PrintWords
open Go.RowKit
def ec (P:World->Prop) (W:World) (ok:Nat->Prop):Prop:=∀W':World,(∀k,ok k->k<W.heap.size->W'.heap[k]? =W.heap[k]?)->P W'
theorem yC {W W1:World} {k:Nat} (h:W1.heap[k]? =W.heap[k]?) (a:k<W.heap.size):k<W1.heap.size:=by
  rw[Array.getElem?_eq_getElem a] at h;exact(Array.getElem?_eq_some_iff.1 h).1
namespace ec
variable {P Q:World->Prop} {W W1:World} {ok ok':Nat->Prop}
theorem now (h:ec P W ok):P W:=h W (fun _ _ _=>rfl)
theorem mono (h:ec P W ok) (a:∀k,ok k->ok' k):ec P W ok':=fun W' b=>h W' (fun k hk e=>b k (a k hk) e)
theorem bound (h:ec P W ok):ec P W (fun k=>ok k/\k<W.heap.size):=fun W' b=>h W' (fun k hk a=>b k ⟨hk,a⟩ a)
theorem step (h:ec P W ok) (hm:∀k,ok k->k<W.heap.size->W1.heap[k]? =W.heap[k]?):ec P W1 ok:=fun W' b=>h W' (fun k hk a=>(b k hk (yC (hm k hk a) a)).trans (hm k hk a))
theorem yD (h:ec P W ok) (hb:Below W.heap.size W W1):ec P W1 (fun k=>ok k/\k<W.heap.size):=(h.bound).step (fun k _ a=>hb.block k a)
end ec
namespace Kd
def F {α:Type} (d:Kd α) (W:World) (ok:Nat->Prop) (A:Option Addr) (n:Nat) (xs:List α):Prop:=ec (fun W=>d.C W A n xs) W ok
def FK {α:Type} (d:Kd α) (W:World) (ok:Nat->Prop) (x:α) (c:List Value):Prop:=ec (fun W=>d.K W x c) W ok
section
variable {α β:Type} {d:Kd α} {e base n n' cc g N:Nat} {ok ok' okp S:Nat->Prop} {w w0 w1 W W1:World} {A A':Option Addr} {u v v1:Value} {xs:List α} {xs':List β} {d':Kd β} {x:α} {c:List Value}
theorem jX (h:F d W ok A n xs):d.C W A n xs:=ec.now h
theorem nE (h:F d W ok A n xs) (a:∀k,ok k->ok' k):F d W ok' A n xs:=ec.mono h a
theorem yE (h:F d W ok A n xs):F d W (fun k=>ok k/\k<W.heap.size) A n xs:=ec.bound h
theorem pC (h:F d W ok A n xs) (hm:∀k,ok k->k<W.heap.size->W1.heap[k]? =W.heap[k]?):F d W1 ok A n xs:=ec.step h hm
theorem pD (h:F d W ok A n xs) (hb:Below W.heap.size W W1):F d W1 ok A n xs:=pC h (fun k _ a=>hb.block k a)
theorem yF (h:F d W ok A n xs) (m:Nat):F d (W.drewN m) ok A n xs:=pD h (bY (Below.refl _ _) m)
theorem yG (h:F d W ok A n xs):n<=9223372036854775807:=(jX h).2.1
theorem yH (h:F d W ok A n xs) (a:∀k,v.ownBlock=some k->W.heap.size<=k) (hb:Below W.heap.size W W1):F d W1 (fun k=>ok k/\some k≠v.ownBlock) A n xs:=
  nE (ec.yD h hb) (fun k hk=>⟨hk.1,fun he=>by have:=a k he.symm;have:=hk.2;omega⟩)
theorem yI (h:F d W (fun k=>ok k/\some k≠v.ownBlock) A n xs) (e:W.grownBy W1 v.ownBlock) (a:v1.ownBlock=v.ownBlock\/∃b,v1.ownBlock=some b/\W.heap.size<=b):F d W1 (fun k=>ok k/\some k≠v1.ownBlock) A n xs:=by
  refine nE (ec.step (yE h) (fun k hk g=>e.block k g hk.1.2)) (fun k hk=>⟨hk.1.1,?_⟩);rcases a with a|⟨b,hb,hle⟩
  · rw[a];exact hk.1.2
  · rw[hb]
    intro he;injection he with he
    have:=hk.2;omega
theorem yJ (h:d.R e W base ok (.slice A n cc) xs):F d W ok A n xs:=fun W' b=>by
  have a:=aD (ln h b);rw[a.1];exact a.2.2
theorem lC (h:FK d W ok x c):d.K W x c:=ec.now h
theorem kB (h:FK d W ok x c) (a:∀k,ok k->ok' k):FK d W ok' x c:=ec.mono h a
theorem sD (h:FK d W ok x c):FK d W (fun k=>ok k/\k<W.heap.size) x c:=ec.bound h
theorem lD (h:FK d W ok x c) (hm:∀k,ok k->k<W.heap.size->W1.heap[k]? =W.heap[k]?):FK d W1 ok x c:=ec.step h hm
theorem yK (h:FK d W ok x c) (hb:Below W.heap.size W W1):FK d W1 ok x c:=lD h (fun k _ a=>hb.block k a)
theorem yL (h:d.M W base ok x c):FK d W ok x c:=fun _ a=>d.cV (o_ h a)
end
end Kd
end Go.Proofs.YtffdiakgjakngaaGreatW.PrintWords
end
section
namespace Go.Proofs.YtffdiakgjakngaaGreatW.PrintWords
open Go.RowKit
namespace Kd
def chunks (sz:Nat) (n:Nat) (inner:List Value):List (List Value):=(List.range n).map fun j=>(inner.drop (j*sz)).take sz
theorem mg (sz n:Nat) (inner:List Value):(chunks sz n inner).length=n:=by simp[chunks]
theorem yM {sz n:Nat} {inner:List Value} {j:Nat} (a:j<n):(chunks sz n inner)[j]? =some ((inner.drop (j*sz)).take sz):=by simp[chunks,a]
theorem sE {sz n:Nat} {inner:List Value} {j:Nat} {c:List Value} (h:(chunks sz n inner)[j]? =some c):c=(inner.drop (j*sz)).take sz:=by
  have a:j<n:=by have:=(List.getElem?_eq_some_iff.1 h).1;rwa [mg] at this
  rw[yM a] at h;injection h with h
  exact h.symm
theorem yN {α:Type} {a:α->List Value->Prop} {sz:Nat} {xs:List α} {inner:List Value} (h:aU a sz xs inner) (e:∀x c,a x c->c.length=sz/\∀u∈c,u.oneCell'=true):aU (fun x cs=>cs=x/\cs.length=sz/\∀u∈cs,u.oneCell'=true) sz (chunks sz xs.length inner) inner:=by
  refine⟨by rw[mg];exact h.1,fun j p b=>?_⟩;have g:j<xs.length:=by have:=(List.getElem?_eq_some_iff.1 b).1;rwa [mg] at this
  have hp:=sE b;exact⟨hp.symm,e _ _ (h.2 j _ (List.getElem?_eq_getElem g))⟩
section
variable {α:Type} {d:Kd α} {e base n cc g:Nat} {ok ok' okp S:Nat->Prop} {w w1 W W1:World} {A:Option Addr} {u v v1:Value} {xs:List α} {x:α} {c:List Value}
def N {α:Type} (d:Kd α) (e:Nat) (w:World) (base:Nat) (ok:Nat->Prop) (v:Value) (xs:List α):Prop:=
  (∀k,v.ownBlock=some k->ok k)/\∃rows:List (List Value),rows.length=xs.length/\(raw d.sz).R e w base (fun k=>some k=v.ownBlock) v rows/\∀(j:Nat) (x:α) (c:List Value),xs[j]? =some x->rows[j]? =some c->FK d w (fun k=>ok k/\some k≠v.ownBlock) x c
theorem pE {sz:Nat} {rows:List (List Value)} (h:(raw sz).R e w base ok v rows):(raw sz).R e w base (fun k=>some k=v.ownBlock) v rows:=gC rfl h
theorem nF {sz:Nat} {rows:List (List Value)} (h:(raw sz).R e w base ok v rows):(raw sz).R e w base (fun _=>True) v rows:=a_ h (fun _ _=>trivial)
theorem nG (h:d.R e w base ok v xs):N d e w base ok v xs:=by
  obtain⟨b,inner,g,a⟩:=h;refine⟨b,chunks d.sz xs.length inner,mg _ _ _,⟨fun k hk=>hk.symm,inner,by rw[mg];exact g,yN a (fun x c hp=>⟨d.dZ (d.cV hp),d.d_ (d.cV hp)⟩)⟩,fun j x c i l=>?_⟩;rw[sE l];exact yL (a.2 j x i)
theorem fx (d:Kd α) (e:Nat) (w:World) (base:Nat) (ok:Nat->Prop):N d e w base ok (.slice none 0 0) []:=nG (cW _ _ _ _ _)
theorem eI (h:N d e w base ok v xs) (a:∀k,ok k->ok' k):N d e w base ok' v xs:=by
  obtain⟨b,rows,g,i,hf⟩:=h;exact⟨fun k hk=>a k (b k hk),rows,g,i,fun j x c l m=>kB (hf j x c l m) (fun k hk=>⟨a k hk.1,hk.2⟩)⟩
theorem sF (h:N d e w base ok v xs):∀k,v.ownBlock=some k->k<w.heap.size:=by
  obtain⟨_,rows,_,a,_⟩:=h;exact a7 a
theorem nH (h:N d e w base ok v xs):∀k,v.ownBlock=some k->∃cells,w.heap[k]? =some (.cells cells e (0,0)):=by
  obtain⟨_,rows,_,a,_⟩:=h;exact fT a
theorem yO (h:N d e w base ok v xs) {t:Nat} {cells:Array Value} (hb:w.heap[g]? =some (.cells cells t (0,0))) (a:e≠t):some g≠v.ownBlock:=by
  obtain⟨_,rows,_,b,_⟩:=h;exact db b hb a
theorem pF (h:N d e w base ok v xs):N d e w base (fun k=>ok k/\k<w.heap.size) v xs:=by
  have a:=sF h;obtain⟨b,rows,g,i,hf⟩:=h;exact⟨fun k hk=>⟨b k hk,a k hk⟩,rows,g,i,fun j x c l m=>kB (sD (hf j x c l m)) (fun k hk=>⟨⟨hk.1.1,hk.2⟩,hk.1.2⟩)⟩
theorem mh {base':Nat} (h:N d e w base ok v xs) (hb:base'<=base):N d e w base' ok v xs:=by
  obtain⟨a,rows,b,g,hf⟩:=h;exact⟨a,rows,b,ba g hb,hf⟩
theorem mi (h:N d e w base ok v xs) (hm:∀k,ok k->k<w.heap.size->w1.heap[k]? =w.heap[k]?):N d e w1 base ok v xs:=by
  obtain⟨b,rows,g,i,hf⟩:=h;exact⟨b,rows,g,ln i (fun k hk a=>hm k (b k hk.symm) a),fun j x c l m=>lD (hf j x c l m) (fun k hk a=>hm k hk.1 a)⟩
theorem gD (h:N d e w base ok v xs) (hb:Below w.heap.size w w1):N d e w1 base ok v xs:=mi h (fun k _ hk=>hb.block k hk)
theorem eP (h:N d e w base ok v xs) (o:Obj):N d e (w.alloc o) base ok v xs:=gD h (aq (Below.refl _ _) o)
theorem fU (h:N d e w base ok v xs):N d e w.drew base ok v xs:=gD h (gS (Below.refl _ _))
theorem fV (h:N d e w base ok v xs) (m:Nat):N d e (w.drewN m) base ok v xs:=gD h (bY (Below.refl _ _) m)
theorem sG (h:N d e w base ok v xs) {p:Addr} (a:∀k,ok k->k≠p.block) (u:Value):N d e (w.setCell p u) base ok v xs:=mi h (fun k b _=>Below.heap_setCell w p u k (a k b))
theorem yP (h:N d e W base ok v xs) (a:∀k,u.ownBlock=some k->W.heap.size<=k) (hb:Below W.heap.size W w1):N d e w1 base (fun k=>ok k/\some k≠u.ownBlock) v xs:=
  eI (gD (pF h) hb) (fun k hk=>⟨hk.1,fun he=>by have:=a k he.symm;have:=hk.2;omega⟩)
theorem yQ (h:N d e W base (fun k=>ok k/\some k≠u.ownBlock) v xs) {u1:Value} (g:W.grownBy w1 u.ownBlock) (a:u1.ownBlock=u.ownBlock\/∃b,u1.ownBlock=some b/\W.heap.size<=b):N d e w1 base (fun k=>ok k/\some k≠u1.ownBlock) v xs:=by
  refine eI (mi (pF h) (fun k hk i=>g.block k i hk.1.2)) (fun k hk=>⟨hk.1.1,?_⟩);rcases a with a|⟨b,hb,hle⟩
  · rw[a];exact hk.1.2
  · rw[hb]
    intro he;injection he with he
    have:=hk.2;omega
theorem mj (h:N d e w base ok v xs):∃A c,v= .slice A xs.length c:=by
  obtain⟨_,rows,a,b,_⟩:=h;obtain⟨A,c,he⟩:=bb b;exact⟨A,c,by rw[he,a]⟩
theorem yR (h:N d e w base ok v xs) (hp:0<xs.length):∃g cap,v= .slice (some ⟨g,0,none⟩) xs.length cap/\base<=g/\g<w.heap.size/\∃cells,w.heap[g]? =some (.cells cells e (0,0)):=by
  obtain⟨_,rows,a,b,_⟩:=h;rw[<-a] at hp⊢;exact eV b hp
theorem iV {n c:Nat} (h:N d e w base ok (.slice A n c) xs):n=xs.length/\n<=c/\d.C w A xs.length xs:=by
  obtain⟨_,rows,i,k,hf⟩:=h;obtain⟨hn,l,hC⟩:=aD k;refine⟨by omega,l,?_⟩;rw[i] at hC;refine⟨rfl,hC.2.1,fun hp=>?_⟩;obtain⟨ad,he,m⟩:=hC.2.2 hp;refine⟨ad,he,fun j p a=>?_⟩;have b:j<rows.length:=by have:=(List.getElem?_eq_some_iff.1 a).1;omega
  obtain⟨g,o,q,r⟩:=m j _ (List.getElem?_eq_getElem b);have hk:=lC (hf j p _ a (List.getElem?_eq_getElem b));refine⟨g,o,?_,r⟩;rw[show g=rows[j] from q.1];exact hk
theorem yS (h:N d e w base ok v xs):∃A c,v= .slice A xs.length c/\xs.length<=c/\d.C w A xs.length xs:=by
  obtain⟨A,c,rfl⟩:=mj h;exact⟨A,c,rfl,(iV h).2⟩
theorem pG {n cap:Nat} (h:N d e W base ok (.slice (some ⟨g,0,none⟩) n cap) xs) (z:α) (i:Int) (m:0<=i) (h1:i<n):
    ∃c,c.length=d.sz/\FK d W (fun k=>ok k/\k≠g) (xs.getD i.toNat z) c/\(∀j u,c[j]? =some u->W.cell? ⟨g,i.toNat*d.sz+j,none⟩=some u)/\∀j,W.frozen? ⟨g,i.toNat*d.sz+j,none⟩=false:=by
  obtain⟨_,rows,w,a,hf⟩:=h;have hn:=(aD a).1;obtain⟨c,o,p,q,r⟩:=sb a [] i m h1;have b:i.toNat<rows.length:=by omega
  have l:i.toNat<xs.length:=by omega
  have s:c=rows[i.toNat]:=by
    have v:=p.1;rwa [List.getD_eq_getElem?_getD,List.getElem?_eq_getElem b] at v
  refine⟨c,o,?_,q,r⟩;rw[List.getD_eq_getElem?_getD,List.getElem?_eq_getElem l];exact kB (hf _ _ _ (List.getElem?_eq_getElem l) (by rw[s];exact List.getElem?_eq_getElem b)) (fun k hk=>⟨hk.1,fun he=>hk.2 (by rw[he];simp[Value.ownBlock])⟩)
theorem nI {ad:Addr} {n cap:Nat} (h:N d e W base ok (.slice (some ad) n cap) xs) (z:α) (i:Int) (a:0<=i) (h1:i<n):
    ∃c,c.length=d.sz/\FK d W (fun k=>ok k/\some k≠(Value.slice (some ad) n cap).ownBlock) (xs.getD i.toNat z) c/\∀j u,c[j]? =some u->W.cell? (ad.add (i.toNat*d.sz+j))=some u:=by
  obtain⟨g,rfl⟩:∃g,ad=⟨g,0,none⟩:=by
    obtain⟨_,rows,_,b,_⟩:=h;exact lA b
  obtain⟨c,l,m,o,_⟩:=pG h z i a h1;refine⟨c,l,kB m (fun k hk=>⟨hk.1,fun he=>hk.2 (by simpa [Value.ownBlock] using he)⟩),fun j u hu=>?_⟩;rw[gT,Nat.zero_add];exact o j u hu
end
end Kd
end Go.Proofs.YtffdiakgjakngaaGreatW.PrintWords
end
section
namespace Go.Proofs.YtffdiakgjakngaaGreatW.PrintWords
open Go.RowKit
namespace Kd
section
variable {α:Type} {d:Kd α} {e base n cap g:Nat} {ok ok' okp:Nat->Prop} {w w1 W:World} {v v1:Value} {xs ys:List α}
theorem yT {rows news:List (List Value)} (n:∀k,v.ownBlock=some k->ok k) (m:rows.length=xs.length) (hf:∀(j:Nat) (x:α) (c:List Value),xs[j]? =some x->rows[j]? =some c->FK d W (fun k=>ok k/\some k≠v.ownBlock) x c)
    (p:news.length=ys.length) (q:∀(j:Nat) (x:α) (c:List Value),ys[j]? =some x->news[j]? =some c->FK d W okp x c) (r:∀k,okp k->ok k/\some k≠v.ownBlock) (s:∀k,W.heap.size<=k->ok k)
    (u:(raw d.sz).R e w1 base (fun _=>True) v1 (rows++news)) (w:W.grownBy w1 v.ownBlock) (a:v1.ownBlock=v.ownBlock\/∃b,v1.ownBlock=some b/\W.heap.size<=b):N d e w1 base ok v1 (xs++ys):=by
  have y:∀k,some k≠v.ownBlock->k<W.heap.size->some k≠v1.ownBlock:=by
    intro k hk g;rcases a with a|⟨b,hb,hle⟩
    · rw[a];exact hk
    · rw[hb]
      intro he;injection he with he
      omega
  have step:∀{x:α} {c:List Value} {o:Nat->Prop},FK d W o x c->(∀k,o k->ok k/\some k≠v.ownBlock)->FK d w1 (fun k=>ok k/\some k≠v1.ownBlock) x c:=by
    intro x c o z l;exact kB (lD (sD z) (fun k hk g=>w.block k g (l k hk.1).2)) (fun k hk=>⟨(l k hk.1).1,y k (l k hk.1).2 hk.2⟩)
  refine⟨fun k hk=>?_,rows++news,by rw[List.length_append,List.length_append,m,p],pE u,fun j x c h i=>?_⟩
  · rcases a with a|⟨b,hb,hle⟩
    · exact n k (a▸hk)
    · rw[hb] at hk
      injection hk with hk
      exact s k (by omega)
  · rcases Nat.lt_or_ge j xs.length with g|B
    · rw[List.getElem?_append_left g] at h
      rw[List.getElem?_append_left (by omega)] at i;exact step (hf j x c h i) (fun _ hk=>hk)
    · rw[List.getElem?_append_right B] at h
      rw[List.getElem?_append_right (by omega),m] at i;exact step (q _ x c h i) r
theorem yU {x:α} {c:List Value} (h:FK d W ok x c):c=c/\c.length=d.sz/\∀u∈c,u.oneCell'=true:=⟨rfl,d.dZ (lC h),d.d_ (lC h)⟩
theorem yV {rows:List (List Value)} {i:Int} {x':α} {h:List Value} (r:∀k,(Value.slice (some ⟨g,0,none⟩) n cap).ownBlock=some k->ok k) (s:rows.length=xs.length) (hf:∀(j:Nat) (x:α) (c:List Value),xs[j]? =some x->rows[j]? =some c->FK d W (fun k=>ok k/\some k≠(Value.slice (some ⟨g,0,none⟩) n cap).ownBlock) x c)
    (u:(raw d.sz).R e w1 base (fun _=>True) (.slice (some ⟨g,0,none⟩) n cap) (rows.set i.toNat h)) (o:W.grownBy w1 (some g)) (v:FK d W okp x' h) (l:∀k,okp k->ok k/\k≠g):N d e w1 base ok (.slice (some ⟨g,0,none⟩) n cap) (xs.set i.toNat x'):=by
  have p:some g=(Value.slice (some ⟨g,0,none⟩) n cap).ownBlock:=by simp[Value.ownBlock]
  refine⟨r,rows.set i.toNat h,by rw[List.length_set,List.length_set,s],pE u,fun j x c a b=>?_⟩;have w:j<xs.length:=by have:=(List.getElem?_eq_some_iff.1 a).1;rwa [List.length_set] at this
  by_cases q:j=i.toNat
  · subst q
    rw[List.getElem?_set_self w] at a;rw[List.getElem?_set_self (by omega)] at b;injection a with a
    injection b with b
    rw[<-a,<-b];exact kB (lD v (fun k hk m=>o.block k m (fun he=>(l k hk).2 (by injection he)))) (fun k hk=>⟨(l k hk).1,fun he=>(l k hk).2 (by rw[<-p] at he;injection he)⟩)
  · rw[List.getElem?_set_ne (Ne.symm q)] at a b
    exact lD (hf j x c a b) (fun k hk m=>o.block k m (by rw[p];exact hk.2))
theorem yW {A:Option Addr} {m c:Nat} (h:N d e w base ok (.slice A n c) xs) (hm:m<=xs.length):N d e w base ok (.slice A m c) (xs.take m):=by
  obtain⟨g,rows,i,l,hf⟩:=h;have hb:∀x y:Nat,(Value.slice A x c).ownBlock=(Value.slice A y c).ownBlock:=by
    intro x y;cases A<;>rfl
  refine⟨fun k hk=>g k (by rw[hb _ m];exact hk),rows.take m,by rw[List.length_take,List.length_take,i],pE (xI (nF l) (by omega)),fun j x o a b=>?_⟩;rw[List.getElem?_take] at a b;split at a
  · rename_i p
    rw[if_pos p] at b;rw[hb m n];exact hf j x o a b
  · cases a
theorem yX (h:N d e W base ok (.slice (some ⟨g,0,none⟩) n cap) xs) (i:Int) (l:0<=i) (h1:i<n) {c seg:List Value} {j:Nat} (m:c.length=d.sz) (o:∀j u,c[j]? =some u->W.cell? ⟨g,i.toNat*d.sz+j,none⟩=some u)
    (p:j+seg.length<=d.sz) {x':α} (a:FK d W okp x' (c.take j++seg++c.drop (j+seg.length))) (q:∀k,okp k->ok k/\k≠g):
    N d e (W.setCells g (i.toNat*d.sz+j) seg) base ok (.slice (some ⟨g,0,none⟩) n cap) (xs.set i.toNat x')/\W.grownBy (W.setCells g (i.toNat*d.sz+j) seg) (some g):=by
  obtain⟨r,rows,s,v,hf⟩:=h;obtain⟨w,b⟩:=sd (nF v) i l h1 (c:=c) (seg:=seg) (j:=j) (x':=c.take j++seg++c.drop (j+seg.length)) (okp:=fun _=>False) m o p ⟨rfl,d.dZ (lC a),d.d_ (lC a)⟩ (fun _ hk=>hk.elim);exact⟨yV r s hf w b a q,b⟩
end
section
variable {P:Program} {ops:Array Oper} {rest:List Oper} {o:Oper} {a:Act} {Q:Exit->Act->World->Prop} {Kc:Act->World->Prop} {α:Type}
theorem yY (d:Kd α) {w0 W:World} (base:Nat) (r:o.guard=none) (s x:Operand) (t e:TypeId) (z:Value) (bytes:Nat)
    (u:o.op= .call {callee:=.builtin .append,args:=#[s,x],argTypes:=#[t,t]})
    (w:P.underlying t=some (.slice e)) (B:(P.info? e).map (fun i=>(i.zero,i.size,i.bytes))=some (some z,d.sz,bytes)) (C:z.cells.size=d.sz) (D:0<d.sz) (E:0<bytes)
    (v:Value) (xs:List α) (p:α) (cs:List Value) (ok okp:Nat->Prop) (F:a.eval s=v) (G:a.eval x= .slice (some ⟨W.heap.size,0,none⟩) 1 1) (hp:FK d W okp p cs) (H:∀k,okp k->ok k/\some k≠v.ownBlock) (I:∀k,W.heap.size<=k->ok k)
    (J:N d e W base ok v xs) (K:Below base w0 W) (L:base<=W.heap.size) (M:(xs.length+1)*bytes<=140737488355328)
    (h:∀v1 w1,N d e w1 base ok v1 (xs++[p])->Below base w0 w1->W.grownBy w1 v.ownBlock->(v1.ownBlock=v.ownBlock\/∃b,v1.ownBlock=some b/\W.heap.size<=b)->wpList P ops Q rest (a.put o.dst v1) w1):
    wpList P ops Q (o::rest) a (W.alloc (.cells cs.toArray e)):=by
  obtain⟨O,rows,l,R,hf⟩:=J;refine l6 (raw d.sz) base r s x t e z bytes u w B C D E v rows cs cs (fun _=>True) (fun _=>False) F G (yU hp) (fun _ hk=>hk.elim) (fun _ _=>trivial) (nF R) K L (by rw[l];exact M) ?_;intro v1 w1 S hb m n;exact h v1 w1 (yT O l hf (ys:=[p]) (news:=[cs]) rfl (fun j y c g q=>by
    rcases j with _|j
    · simp only[List.getElem?_cons_zero,Option.some.injEq] at g q
      rw[<-g,<-q];exact hp
    · simp at g) H I S m n) hb m n
end
end Kd
end Go.Proofs.YtffdiakgjakngaaGreatW.PrintWords
end
section
namespace Go.Proofs.YtffdiakgjakngaaGreatW.PrintMore
open Go.RowKit Go.Proofs.YtffdiakgjakngaaGreatW.PrintWords
namespace Kd
open Go.Proofs.YtffdiakgjakngaaGreatW.PrintWords.Kd
end Kd
namespace Kd
open Go.Proofs.YtffdiakgjakngaaGreatW.PrintWords.Kd
section
variable {α:Type} {d:Kd α} {e base g N:Nat} {ok:Nat->Prop} {W w1:World} {u v:Value} {xs:List α}
theorem yZ (hu:d.R e W base ok u xs) (hb:Below W.heap.size W w1):d.R e w1 base (fun k=>ok k/\k<W.heap.size) u xs:=
  a_ (cU (eH hu) hb) (fun _ h=>⟨h.1,h.2.2.1⟩)
theorem sH (h:d.R e w1 base (fun k=>ok k/\k<N) u xs) (a:∀k,v.ownBlock=some k->N<=k):d.R e w1 base (fun k=>(ok k/\some k≠v.ownBlock)/\k<N) u xs:=
  a_ h (fun k hk=>⟨⟨hk.1,fun e=>Nat.lt_irrefl _ (Nat.lt_of_lt_of_le hk.2 (a k e.symm))⟩,hk.2⟩)
end
end Kd
theorem jr (k k':IntKind) (x y:Int):Builtin.max2 (.int k x) (.int k' y)=pure (.int k (if x<y then y else x)):=by simp only[Builtin.max2,gt_iff_lt]
theorem js (k k':IntKind) (x y:Int):Builtin.min2 (.int k x) (.int k' y)=pure (.int k (if y<x then y else x)):=by simp only[Builtin.min2]
theorem jt (e:Array TypeId) (ty:TypeId) (a b:Value):Builtin.max_ e ty #[a,b]=(Builtin.max2 a b>>=fun s=>pure s):=by simp only[Builtin.max_,List.foldlM_cons,List.foldlM_nil]
theorem ju (e:Array TypeId) (ty:TypeId) (a b:Value):Builtin.min_ e ty #[a,b]=(Builtin.min2 a b>>=fun s=>pure s):=by simp only[Builtin.min_,List.foldlM_cons,List.foldlM_nil]
theorem mo (e:Array TypeId) (ty:TypeId) (a b c:Value):Builtin.max_ e ty #[a,b,c]=(Builtin.max2 a b>>=fun s=>Builtin.max2 s c>>=fun s=>pure s):=by simp only[Builtin.max_,List.foldlM_cons,List.foldlM_nil]
theorem mq (e:Array TypeId) (ty:TypeId) (a b c:Value):Builtin.min_ e ty #[a,b,c]=(Builtin.min2 a b>>=fun s=>Builtin.min2 s c>>=fun s=>pure s):=by simp only[Builtin.min_,List.foldlM_cons,List.foldlM_nil]
theorem mr (e:Array TypeId) (ty:TypeId) (a b c d:Value):Builtin.max_ e ty #[a,b,c,d]=(Builtin.max2 a b>>=fun s=>Builtin.max2 s c>>=fun s=>Builtin.max2 s d>>=fun s=>pure s):=by simp only[Builtin.max_,List.foldlM_cons,List.foldlM_nil]
theorem mu (e:Array TypeId) (ty:TypeId) (a b c d:Value):Builtin.min_ e ty #[a,b,c,d]=(Builtin.min2 a b>>=fun s=>Builtin.min2 s c>>=fun s=>Builtin.min2 s d>>=fun s=>pure s):=by simp only[Builtin.min_,List.foldlM_cons,List.foldlM_nil]
end Go.Proofs.YtffdiakgjakngaaGreatW.PrintMore
namespace Go.Proofs.YtffdiakgjakngaaGreatW.PrintWords
open Go.RowKit
section
variable {P:Program} {ops:Array Oper} {rest:List Oper} {o:Oper} {a:Act} {Q:Exit->Act->World->Prop} {W:World}
theorem aC {f:FuncId} {b:Array Operand} {e:Array TypeId} (_ho:o.op= .call {callee:=.value (.func f),args:=b,argTypes:=e}) (h:wpList P ops Q (o::rest) a W):wpList P ops Q (o::rest) a W:=h
theorem nJ {b:Builtin} {xs:Array Operand} {e:Array TypeId} (_ho:o.op= .call {callee:=.builtin b,args:=xs,argTypes:=e}) (h:wpList P ops Q (o::rest) a W):wpList P ops Q (o::rest) a W:=h
end
def mx (a b:Int):Int:=if a<b then b else a
def mn (a b:Int):Int:=if b<a then b else a
theorem sI (w:World) (n:Nat):w.drewN n=w.drewN n:=rfl
namespace Kd
section
variable {α:Type} {d:Kd α} {e base:Nat} {ok:Nat->Prop} {W w1:World} {v:Value} {xs:List α}
theorem iu (h:d.R e W base ok v xs) (a:d.E=[]) {row:Option Nat} (b:W.grownBy w1 row) (g:row≠v.ownBlock):d.R e w1 base ok v xs:=
  a_ (lq (gC a h) b (fun _ hk i=>g (i.symm.trans hk))) (fun k hk=>h.1 k hk.symm)
end
section
variable {α:Type} {d:Kd α} {e base b b' g N:Nat} {ok ok1:Nat->Prop} {W W2 w1:World} {u v:Value} {xs ys:List α} {S:Nat->Prop}
theorem sJ (a:d.E=[]) (h:d.R e W base ok1 v xs) (b:∀k,v.ownBlock=some k->ok k):d.R e W base ok v xs:=a_ (gC a h) (fun k hk=>b k hk.symm)
end
end Kd
namespace Kd
def V {α:Type} (d:Kd α) (_e:Nat) (W:World) (_base:Nat) (ok:Nat->Prop) (v:Value) (xs:List α):Prop:=∃A c,v= .slice A xs.length c/\xs.length<=c/\F d W ok A xs.length xs
section
variable {α β:Type} {d:Kd α} {e base base' n m c g N' lo hi:Nat} {ok ok' S:Nat->Prop} {w W w1:World} {A:Option Addr} {ad:Addr} {u v v1:Value} {xs:List α}
theorem nK (h:V d e W base ok v xs) (hF:∀A,F d W ok A xs.length xs->F d w1 ok' A xs.length xs):V d e w1 base' ok' v xs:=by
  obtain⟨A,c,a,b,hf⟩:=h;exact⟨A,c,a,b,hF A hf⟩
theorem pH (a:xs.length<=c) (hf:F d W ok A xs.length xs):V d e W base ok (.slice A xs.length c) xs:=⟨A,c,rfl,a,hf⟩
theorem sK (h:V d e W base ok v xs) (a:∀k,ok k->ok' k):V d e W base ok' v xs:=nK h (fun _ hf=>nE hf a)
theorem lE (h:V d e W base ok v xs) (m:Nat):V d e (W.drewN m) base ok v xs:=nK h (fun _ hf=>yF hf m)
theorem za (h:V d e W base (fun k=>ok k/\some k≠u.ownBlock) v xs) (a:W.grownBy w1 u.ownBlock) (g:v1.ownBlock=u.ownBlock\/∃b,v1.ownBlock=some b/\W.heap.size<=b):V d e w1 base (fun k=>ok k/\some k≠v1.ownBlock) v xs:=nK h (fun _ hf=>yI hf a g)
theorem sL (h:V d e W base (fun k=>ok k/\some k≠v.ownBlock) u xs) (a:W.grownBy w1 v.ownBlock) (g:v1.ownBlock=v.ownBlock\/∃b,v1.ownBlock=some b/\W.heap.size<=b):V d e w1 base (fun k=>ok k/\some k≠v1.ownBlock) u xs:=za h a g
theorem pI (h:N d e W base (fun k=>ok k/\some k≠v.ownBlock) u xs) (a:W.grownBy w1 v.ownBlock) (g:v1.ownBlock=v.ownBlock\/∃b,v1.ownBlock=some b/\W.heap.size<=b):N d e w1 base (fun k=>ok k/\some k≠v1.ownBlock) u xs:=yQ h a g
theorem nL (h:V d e W base ok v xs) (a:∀k,u.ownBlock=some k->W.heap.size<=k) (hb:Below W.heap.size W w1):V d e w1 base (fun k=>ok k/\some k≠u.ownBlock) v xs:=nK h (fun _ hf=>yH hf a hb)
theorem kC {l:List α} {cs:List Value} (h:FK (Kd.slice e d) W ok l cs):∃A c,cs=[.slice A l.length c]/\l.length<=c/\F d W ok A l.length l:=by
  obtain⟨A,c,rfl,a,_⟩:=lC h;refine⟨A,c,rfl,a,fun W' b=>?_⟩;obtain⟨A',j,he,_,g⟩:=h W' b;injection he with he _
  injection he with i _ _
  rw[i];exact g
theorem zc {l:List α} (a:l.length<=c) (hf:F d W ok A l.length l):FK (Kd.slice e d) W ok l [.slice A l.length c]:=fun W' b=>⟨A,c,rfl,a,hf W' b⟩
theorem zd {k:IntKind} {l:List Int} (h:(Kd.int k).C w (some ad) n l) (i:Int) (a:0<=i) (h1:i<n):w.cell? (ad.add i.toNat)=some (.int k (rd l i)):=by
  obtain⟨e,he,b⟩:=bL h i a h1;injection he with he
  subst he;exact b
theorem ze {M:Nat->Prop} (h:d.R e w1 W.heap.size ok v xs) (hle:w.heap.size<=W.heap.size) (a:∀k,w.heap.size<=k->M k):d.R e w1 W.heap.size (fun k=>M k/\ok k) v xs:=a_ (eH h) (fun k hk=>⟨a k (Nat.le_trans hle hk.2.1),hk.1⟩)
end
end Kd
end Go.Proofs.YtffdiakgjakngaaGreatW.PrintWords
end
section
namespace Go.Proofs.YtffdiakgjakngaaGreatW.PrintLast
open Go.Proofs.YtffdiakgjakngaaGreatW.PrintWords (Aside0)
def lF (md:Region.Mode) (o:Oper):List Nat:=(o.after.toList.filter (fun e=>Region.binds md e)).map (fun e=>e.on)
def pJ (md:Region.Mode) (ops:Array Oper) (i:Nat) (b:Oper):List Nat:=(List.range ops.size).filter fun j=> !(j==i)&&match ops[j]? with
  |some a=> !(a.after.any (fun e=>Region.binds md e&&e.on==i)||b.apart ops a)
  |none=>false
def dE (md:Region.Mode) (ops:Array Oper):Bool×List (List Nat×List Nat):=(Region.noSelect ops,(List.range ops.size).map fun i=>match ops[i]? with
  |some o=>(lF md o,pJ md ops i o)
  |none=>([],[]))
def jY (T:List (List Nat×List Nat)) (l:List Bool) (i:Nat):Bool:= !l.getD i true&&match T[i]? with
  |some r=>r.1.all (fun j=>l.getD j false)
  |none=>false
def mw (T:List (List Nat×List Nat)) (l:List Bool):List Nat:=(List.range T.length).filter (jY T l)
def my (T:List (List Nat×List Nat)) (l:List Bool) (i:Nat):Bool:=match T[i]? with
  |some r=>r.2.all (fun j=>l.getD j true)
  |none=>false
def nM (T:List (List Nat×List Nat)) (l:List Bool):Bool:=(List.range T.length).all fun j=> !l.getD j false||match T[j]? with
  |some r=>r.1.all (fun k=>l.getD k false)
  |none=>true
def lG (T:List (List Nat×List Nat)) (i:Nat):Nat->Nat->Bool
  |0,_=>false
  |fuel+1,d=>match T[d]? with
    |some r=>r.1.any fun j=>j==i||lG T i fuel j
    |none=>false
def nN (T:List (List Nat×List Nat)) (l:List Bool) (ds:List Nat) (i:Nat):Bool:=ds.all fun d=>l.getD d true||lG T i T.length d
section
variable {md:Region.Mode} {ops:Array Oper} {T:Bool×List (List Nat×List Nat)} {l l' li lj lk:Array Bool} {ds:List Nat} {i j k:Nat}
theorem gd (l:Array Bool) (j:Nat) (b:Bool):l.getD j b=l.toList.getD j b:=by simp[Array.getD_eq_getD_getElem?,List.getD_eq_getElem?_getD]
theorem sM (o:Oper) (p:Nat->Bool):o.after.all (fun e=> !Region.binds md e||p e.on)=(lF md o).all p:=by
  unfold lF;rw[<-Array.all_toList];induction o.after.toList with
  |nil=>rfl
  |cons e r a=>
    rw[List.all_cons,a,List.filter_cons];cases h:Region.binds md e<;>simp
theorem zf (o:Oper) (p:Nat->Bool):o.after.any (fun e=>Region.binds md e&&p e.on)=(lF md o).any p:=by
  unfold lF;rw[<-Array.any_toList];induction o.after.toList with
  |nil=>rfl
  |cons e r a=>
    rw[List.any_cons,a,List.filter_cons];cases h:Region.binds md e<;>simp
theorem nO:(dE md ops).2.length=ops.size:=by simp[dE]
theorem nP {o:Oper} (h:ops[i]? =some o):(dE md ops).2[i]? =some (lF md o,pJ md ops i o):=by
  have hi:=(Array.getElem?_eq_some_iff.1 h).1;unfold dE;rw[List.getElem?_map,List.getElem?_range hi,Option.map_some,h]
theorem nQ (h:ops[i]? =none):(dE md ops).2[i]? =none:=by
  have hi:ops.size<=i:=Array.getElem?_eq_none_iff.1 h;exact List.getElem?_eq_none (by rw[nO];exact hi)
theorem zg:jY (dE md ops).2 l.toList i=(!l.getD i true&&((ops[i]?).map (·.after.all fun e=> !Region.binds md e||l.getD e.on false)).getD false):=by
  unfold jY;rw[gd];cases h:ops[i]? with
  |none=>rw[nQ h];rfl
  |some o=>
    rw[nP h];simp only[Option.map_some,Option.getD_some];rw[<-sM];simp only[gd]
theorem pK:Region.ready md ops l=mw (dE md ops).2 l.toList:=by
  unfold Region.ready mw;rw[nO];refine List.filter_congr (fun i _=>?_);rw[zg]
theorem sO:Region.free md ops l i=my (dE md ops).2 l.toList i:=by
  unfold Region.free my;cases h:ops[i]? with
  |none=>rw[nQ h]
  |some b=>
    rw[nP h];simp only[pJ];rw[List.all_filter];congr 1
    funext j
    rw[gd];cases g:ops[j]? with
    |none=>cases (j==i)<;>cases (l.toList.getD j true)<;>simp
    |some a=>
      cases (j==i)<;>cases (l.toList.getD j true)<;>cases (a.after.any (fun e=>Region.binds md e&&e.on==i)||b.apart ops a)<;>simp_all
theorem zl:Region.ma md ops l=nM (dE md ops).2 l.toList:=by
  unfold Region.ma nM;rw[nO];congr 1
  funext j
  rw[gd];cases h:ops[j]? with
  |none=>rw[nQ h]
  |some o=>
    rw[nP h];simp only;rw[<-sM];simp only[gd]
theorem sP:∀(fuel d:Nat),Region.gU md ops i fuel d=lG (dE md ops).2 i fuel d
  |0,_=>rfl
  |fuel+1,d=>by
    unfold Region.gU lG;cases h:ops[d]? with
    |none=>rw[nQ h]
    |some o=>
      rw[nP h];simp only;rw[<-zf];congr 1
      funext e
      rw[sP fuel]
theorem zm:Region.ny md ops l ds i=nN (dE md ops).2 l.toList ds i:=by
  unfold Region.ny nN;rw[nO];congr 1
  funext d
  rw[gd,sP]
theorem sQ (h:jY T.2 l.toList i=true) (b:dE md ops=T):(Region.ready md ops l).contains i=true:=by
  subst b;rw[pK];unfold mw;rw[List.contains_iff_mem,List.mem_filter,List.mem_range];refine⟨?_,h⟩;unfold jY at h;rw[Bool.and_eq_true] at h;cases a:(dE md ops).2[i]? with
  |none=>rw[a] at h;simp at h
  |some r=>exact(List.getElem?_eq_some_iff.1 a).1
theorem pL (h:(l.toList.set i true==l'.toList)=true):(l.setIfInBounds i true==l')=true:=by
  rw[beq_iff_eq] at h⊢;apply Array.ext'
  rw[Array.toList_setIfInBounds];exact h
def pM (T:Bool×List (List Nat×List Nat)) (l l':List Bool) (i:Nat):Bool:=T.1&&my T.2 l i&&jY T.2 l i&&(l.set i true==l')
theorem zp (a:dE md ops=T) (h:pM T l.toList l'.toList i=true):nA md ops l l' i=true:=by
  simp only[pM,Bool.and_eq_true] at h;obtain⟨⟨⟨h1,b⟩,e⟩,g⟩:=h;have j:=sQ e a;have k:=pL g;subst a;simp only[nA,Bool.and_eq_true];exact⟨⟨⟨h1,by rw[sO];exact b⟩,j⟩,k⟩
def pN (T:Bool×List (List Nat×List Nat)) (ds:List Nat) (l l':List Bool) (i:Nat):Bool:=T.1&&my T.2 l i&&jY T.2 l i&&nM T.2 l&&nN T.2 l ds i&&(l.set i true==l')
theorem zq (a:dE md ops=T) (h:pN T ds l.toList l'.toList i=true):mc md ops ds l l' i=true:=by
  simp only[pN,Bool.and_eq_true] at h;obtain⟨⟨⟨⟨⟨h1,b⟩,e⟩,g⟩,j⟩,k⟩:=h;have m:=sQ e a;have n:=pL k;subst a;simp only[mc,Bool.and_eq_true];exact⟨⟨⟨⟨⟨h1,by rw[sO];exact b⟩,m⟩,by rw[zl];exact g⟩,by rw[zm];exact j⟩,n⟩
theorem jv (a:dE md ops=T) (h:(mw T.2 l.toList==[i]&&l.toList.set i true==l'.toList)=true):lx md ops l l' i=true:=by
  simp only[Bool.and_eq_true] at h;obtain⟨h1,b⟩:=h;subst a;simp only[lx,Bool.and_eq_true];exact⟨by rw[pK];exact h1,pL b⟩
theorem nR (a:dE md ops=T) (h:(mw T.2 l.toList==[])=true):(Region.ready md ops l==[])=true:=by
  subst a;rw[pK];exact h
def kD (B:List Nat) (d:Nat):List Nat->Nat
  |[]=>0
  |n::r=>(2 ^ n|||(if n<d then B.getD n 0 else 0))|||kD B d r
def jZ (T:List (List Nat×List Nat)) (B:List Nat):Bool:=(List.range T.length).all fun d=>match T[d]? with
  |some r=>(B.getD d 0|||kD B d r.1)==kD B d r.1
  |none=>false
theorem sR {B:List Nat} {d i:Nat}:∀{ns:List Nat},(kD B d ns).testBit i=true->∃n∈ns,n=i\/(n<d/\(B.getD n 0).testBit i=true)
  |[],h=>by simp[kD] at h
  |n::r,h=>by
    unfold kD at h;rw[Nat.testBit_or,Nat.testBit_or,Bool.or_eq_true,Bool.or_eq_true] at h;rcases h with (h|h)|h
    · rw[Nat.testBit_two_pow] at h
      exact⟨n,List.mem_cons_self,.inl (by simpa using h)⟩
    · by_cases hn:n<d
      · rw[if_pos hn] at h
        exact⟨n,List.mem_cons_self,.inr ⟨hn,h⟩⟩
      · rw[if_neg hn] at h
        simp at h
    · obtain⟨m,hm,a⟩:=sR h
      exact⟨m,List.mem_cons_of_mem _ hm,a⟩
theorem sS {T:List (List Nat×List Nat)} {B:List Nat} (b:jZ T B=true):∀(fuel d:Nat),d<fuel->d<T.length->(B.getD d 0).testBit i=true->lG T i fuel d=true
  |0,d,h,_,_=>by omega
  |fuel+1,d,h,hd,hb=>by
    have h1:=List.all_eq_true.1 b d (List.mem_range.2 hd);cases a:T[d]? with
    |none=>rw[a] at h1;simp at h1
    |some r=>
      rw[a] at h1;simp only[beq_iff_eq] at h1;have e:(kD B d r.1).testBit i=true:=by rw[<-h1,Nat.testBit_or,hb,Bool.true_or]
      obtain⟨n,hn,g⟩:=sR e;unfold lG;rw[a];simp only;rw[List.any_eq_true];refine⟨n,hn,?_⟩;rcases g with rfl|⟨k,j⟩
      · simp
      · rw[sS b fuel n (by omega) (by omega) j,Bool.or_true]
def sT (T:List (List Nat×List Nat)) (B:List Nat) (l:List Bool) (ds:List Nat) (i:Nat):Bool:=ds.all fun d=>l.getD d true||(decide (d<T.length)&&(B.getD d 0).testBit i)
def sU (T:Bool×List (List Nat×List Nat)) (B:List Nat) (ds:List Nat) (l l':List Bool) (i:Nat):Bool:=T.1&&my T.2 l i&&jY T.2 l i&&nM T.2 l&&sT T.2 B l ds i&&(l.set i true==l')
theorem iW {B:List Nat} (g:dE md ops=T) (j:jZ T.2 B=true) (h:sU T B ds l.toList l'.toList i=true):mc md ops ds l l' i=true:=by
  refine zq g ?_;simp only[sU,pN,Bool.and_eq_true] at h⊢;obtain⟨⟨⟨⟨⟨h1,k⟩,m⟩,n⟩,b⟩,o⟩:=h;refine⟨⟨⟨⟨⟨h1,k⟩,m⟩,n⟩,?_⟩,o⟩;unfold sT at b;unfold nN;rw[List.all_eq_true] at b⊢;intro d hd;have a:=b d hd;rw[Bool.or_eq_true,Bool.and_eq_true,decide_eq_true_eq] at a;rcases a with a|⟨e,p⟩
  · rw[a,Bool.true_or]
  · rw[sS j _ d e e p,Bool.or_true]
theorem nS {P:Program} {Q:Exit->Act->World->Prop} {S:World->Prop} {n:Nat} {a:Act} {w:World} {B:List Nat} (b:dE md ops=T) (e:jZ T.2 B=true) (h:Aside0 (dE md ops=T)->Aside0 (jZ T.2 B=true)->cS P md ops Q S ds n l a w):cS P md ops Q S ds n l a w:=h ⟨b⟩ ⟨e⟩
end
def iX:Code->Nat->Option (Array Oper)
  | .region id ops _,k=>if id==k then some ops else none
  | .seq a b,k=>match iX a k with
    |some o=>some o
    |none=>iX b k
  | .cond _ a b,k=>match iX a k with
    |some o=>some o
    |none=>iX b k
  | .block _ c,k=>iX c k
  | .loop c,k=>iX c k
  | .scope c,k=>iX c k
  | .rangeFunc _ _ a b,k=>match iX a k with
    |some o=>some o
    |none=>iX b k
  |_,_=>none
def opsOf (f:Func) (k:Nat):Array Oper:=((f.body.bind fun c=>iX c k)).getD #[]
end Go.Proofs.YtffdiakgjakngaaGreatW.PrintLast
end
section
end
section
namespace Go.Proofs.YtffdiakgjakngaaGreatW.PrintWords
open Go.RowKit
end Go.Proofs.YtffdiakgjakngaaGreatW.PrintWords
end
section
namespace Go.Proofs.YtffdiakgjakngaaGreatW.PrintWords
open Go.RowKit
end Go.Proofs.YtffdiakgjakngaaGreatW.PrintWords
end
section
namespace Go.Proofs.YtffdiakgjakngaaGreatW.PrintWords
open Go.RowKit
end Go.Proofs.YtffdiakgjakngaaGreatW.PrintWords
end
section
namespace Go.Proofs.YtffdiakgjakngaaGreatW.PrintWords
theorem aU.one {α:Type} {R:α->List Value->Prop} {ps:List α} {cs:List Value} {p:α} {v:Value} (hp:R p [v]) (h:aU R 1 ps cs):aU R 1 (p::ps) (v::cs):=by
  refine⟨by simp[h.1],fun j q a=>?_⟩;cases j with
  |zero=>
    simp only[List.getElem?_cons_zero,Option.some.injEq] at a;subst a;simpa using hp
  |succ j=>
    simp only[List.getElem?_cons_succ] at a;have h1:=h.2 j q a;simpa [Nat.mul_one] using h1
theorem aU.front {α:Type} {R:α->List Value->Prop} {size:Nat} {ps:List α} {cs c all:List Value} {p:α} (hp:R p c) (b:c.length=size) (h:aU R size ps cs) (e:c++cs=all):aU R size (p::ps) all:=by
  subst e;refine⟨by rw[List.length_append,b,h.1,List.length_cons,Nat.succ_mul,Nat.add_comm],fun j q a=>?_⟩;cases j with
  |zero=>
    simp only[List.getElem?_cons_zero,Option.some.injEq] at a;subst a;rw[Nat.zero_mul,List.drop_zero,List.take_append_of_le_length (by omega),List.take_of_length_le (by omega)];exact hp
  |succ j=>
    simp only[List.getElem?_cons_succ] at a;have h1:=h.2 j q a;rw[Nat.succ_mul,List.drop_append,List.drop_of_length_le (by rw[b];exact Nat.le_add_left _ _),List.nil_append,b,Nat.add_sub_cancel];exact h1
theorem aU.c3 {α:Type} {R:α->List Value->Prop} {ps:List α} {cs:List Value} {p:α} {a b e:Value} (hp:R p [a,b,e]) (h:aU R 3 ps cs):aU R 3 (p::ps) (a::b::e::cs):=aU.front hp rfl h rfl
end Go.Proofs.YtffdiakgjakngaaGreatW.PrintWords
end
section
end
section
namespace Go.Proofs.YtffdiakgjakngaaGreatW.PrintWords
open Go.RowKit
end Go.Proofs.YtffdiakgjakngaaGreatW.PrintWords
end
section
namespace Go.Proofs.YtffdiakgjakngaaGreatW.PrintWords
open Go.RowKit
section
variable {P:Program} {ops:Array Oper} {rest:List Oper} {o:Oper} {a:Act} {Q:Exit->Act->World->Prop} {W:World}
theorem dR (hw:Region.wanted o (yielded ops a.tmps)=true) (h:wpList P ops Q ({o with guard:=none}::rest) a W):wpList P ops Q (o::rest) a W:=by
  have h1:Region.wanted {o with guard:=none} (yielded ops a.tmps)=true:=rfl;unfold wpList at h⊢;rw[if_pos h1] at h;rw[if_pos hw];exact h
end
end Go.Proofs.YtffdiakgjakngaaGreatW.PrintWords
end


namespace Go.Proofs.YtffdiakgjakngaaGreat.P
open Go.RowKit Go.Proofs.YtffdiakgjakngaaGreatW.PrintWords Go.Proofs.YtffdiakgjakngaaGreatW.PrintLast Go.Proofs.YtffdiakgjakngaaGreatW.PrintMore
set_option linter.unusedVariables false
set_option linter.unusedSimpArgs false
set_option maxHeartbeats 8000000
set_option maxRecDepth 100000
section
section
variable {w W W0 W':World}
theorem zB (h:Below w.heap.size w W:=by repeat(first|(with_reducible first|exact Aside0.out (by assumption)|apply aq|apply bY|apply bV|refine dx ?_ (Aside0.out (by assumption)))|exact Aside0.out (by assumption))):Below w.heap.size w W:=h
theorem zS (a:Aside0 (Below w.heap.size w W0)) (hb:Below W.heap.size W W') (h:Below w.heap.size w W:=by repeat(first|(with_reducible first|exact Aside0.out (by assumption)|apply aq|apply bY|apply bV|refine dx ?_ (Aside0.out (by assumption)))|exact Aside0.out (by assumption))):Aside0 (Below w.heap.size w W'):=⟨a8 h hb⟩
theorem zG {g:Nat} (b:Aside0 (Below w.heap.size w W0)) (a:g=W.heap.size) (h:Below w.heap.size w W:=by repeat(first|(with_reducible first|exact Aside0.out (by assumption)|apply aq|apply bY|apply bV|refine dx ?_ (Aside0.out (by assumption)))|exact Aside0.out (by assumption))):Aside0 (w.heap.size<=g):=⟨by rw[a];exact bp h⟩
theorem zK {g:Nat} {o:Obj} (h:Aside0 (W0.heap[g]? =some o)) (c:W0.heap[g]? =some o->W.heap[g]? =some o:=by intro h;(with_reducible repeat(first|refine ir ?_ _|refine fw ?_|refine ay ?_ _));exact h):W.heap[g]? =some o:=c h.out
theorem zk {g:Nat} {o:Obj} (h:W0.heap[g]? =some o) (c:W0.heap[g]? =some o->W.heap[g]? =some o:=by intro h;(with_reducible repeat(first|refine ir ?_ _|refine fw ?_|refine ay ?_ _));exact h):W.heap[g]? =some o:=c h
theorem zb {g:Nat} {o:Obj} (h:Aside0 (W0.heap[g]? =some o)) (hb:Below W.heap.size W W') (c:W0.heap[g]? =some o->W.heap[g]? =some o:=by intro h;(with_reducible repeat(first|refine ir ?_ _|refine fw ?_|refine ay ?_ _));exact h):Aside0 (W'.heap[g]? =some o):=⟨aM (c h.out) hb⟩
section
variable {α:Type} {d:Kd α} {e base:Nat} {ok:Nat->Prop} {v:Value} {xs:List α} {A:Option Addr} {n:Nat}
theorem zR (h:Aside0 (d.R e W0 base ok v xs)) (c:d.R e W0 base ok v xs->d.R e W base ok v xs:=by intro h;(with_reducible repeat(first|apply Kd.aK|apply Kd.bq|apply Kd.bd));exact h):d.R e W base ok v xs:=c h.out
theorem zN (h:Aside0 (d.N e W0 base ok v xs)) (c:d.N e W0 base ok v xs->d.N e W base ok v xs:=by intro h;(with_reducible repeat(first|apply Kd.eP|apply Kd.fV|apply Kd.fU));exact h):d.N e W base ok v xs:=c h.out
theorem br (h:Aside0 (d.R e W0 base ok v xs)) (hb:Below W.heap.size W W') (c:d.R e W0 base ok v xs->d.R e W base ok v xs:=by intro h;(with_reducible repeat(first|apply Kd.aK|apply Kd.bq|apply Kd.bd));exact h):Aside0 (d.R e W' base ok v xs):=⟨Kd.cU (c h.out) hb⟩
theorem zr (h:Aside0 (d.N e W0 base ok v xs)) (hb:Below W.heap.size W W') (c:d.N e W0 base ok v xs->d.N e W base ok v xs:=by intro h;(with_reducible repeat(first|apply Kd.eP|apply Kd.fV|apply Kd.fU));exact h):Aside0 (d.N e W' base ok v xs):=⟨Kd.gD (c h.out) hb⟩
section
variable {β:Type} {d2:Kd β} {e2:Nat} {ok2:Nat->Prop} {u:Value} {ys:List β} {w2:World}
theorem bH (h:Aside0 (d.R e W0 base ok v xs)) (hb:d2.R e2 w2 W.heap.size ok2 u ys) (a:Below W.heap.size W W') (c:d.R e W0 base ok v xs->d.R e W base ok v xs:=by intro h;(with_reducible repeat(first|apply Kd.aK|apply Kd.bq|apply Kd.bd));exact h):Aside0 (d.R e W' base (fun k=>ok k/\some k≠u.ownBlock) v xs):=⟨Kd.r_ (c h.out) (Kd.dD hb) a⟩
theorem gE (h:Aside0 (d.N e W0 base ok v xs)) (hb:d2.R e2 w2 W.heap.size ok2 u ys) (a:Below W.heap.size W W') (c:d.N e W0 base ok v xs->d.N e W base ok v xs:=by intro h;(with_reducible repeat(first|apply Kd.eP|apply Kd.fV|apply Kd.fU));exact h):Aside0 (d.N e W' base (fun k=>ok k/\some k≠u.ownBlock) v xs):=⟨Kd.yP (c h.out) (Kd.dD hb) a⟩
end
theorem zC (h:d.C W0 A n xs) (c:d.C W0 A n xs->d.C W A n xs:=by intro h;repeat(first|exact h|(with_reducible refine Kd.bE ?_ _)|(with_reducible refine Kd.fJ ?_ _)|(with_reducible refine Kd.fg ?_))):d.C W A n xs:=c h
end
section
variable {g:Nat} {a b c:Value} {l:List Value} {t:TypeId}
theorem z0 (h:Aside0 (W.heap[g]? =some (.cells (List.toArray (a::l)) t (0,0)))):W.cell? ⟨g,0,none⟩=some a:=(al h.out 0).trans rfl
theorem z1 (h:Aside0 (W.heap[g]? =some (.cells (List.toArray (a::b::l)) t (0,0)))):W.cell? ⟨g,1,none⟩=some b:=(al h.out 1).trans rfl
theorem z2 (h:Aside0 (W.heap[g]? =some (.cells (List.toArray (a::b::c::l)) t (0,0)))):W.cell? ⟨g,2,none⟩=some c:=(al h.out 2).trans rfl
theorem ax (h:Aside0 (W.heap[g]? =some (.cells #[a,b] t (0,0)))):W.cell? ⟨g,0,none⟩=some a/\W.cell? ⟨g,1,none⟩=some b/\W.frozen? ⟨g,0,none⟩=false/\W.frozen? ⟨g,1,none⟩=false:=⟨z0 h,z1 h,bD h.out 0,bD h.out 1⟩
theorem cg (h:Aside0 (W.heap[g]? =some (.cells #[a,b,c] t (0,0)))):W.cell? ⟨g,0,none⟩=some a/\W.cell? ⟨g,1,none⟩=some b/\W.cell? ⟨g,2,none⟩=some c/\W.frozen? ⟨g,0,none⟩=false/\W.frozen? ⟨g,1,none⟩=false/\W.frozen? ⟨g,2,none⟩=false:=⟨z0 h,z1 h,z2 h,bD h.out 0,bD h.out 1,bD h.out 2⟩
end
end
theorem zE {p:Prop} (h:p:=by first|rfl|(simp[fi,fj]<;>rfl)|(simp[*,fi,fj]<;>rfl)):p:=h
theorem zT {p:Prop} (h:p:=by first|rfl|(simp;done)|(simp[*];done)):p:=h
section
variable {P:Program} {ops:Array Oper} {Q:Exit->Act->World->Prop}
theorem zL {rest:List Oper} {b:Oper} {a:Act} {w:World} {f:FuncId} {fn:Func} {g:Array Operand} {i:Array TypeId} (N:Option Tmp) (hf:P.funcs[f]? =some fn) (args:Array Value)
  (h:Calls P f args w fun e w'=>∃v,e= .returned v/\wpList P ops Q rest (a.put N v) w') (hd:b.dst=N:=by exact rfl) (j:b.guard=none:=by exact rfl) (k:(fn.name== "runtime.NumGoroutine")=false:=by kernel_rfl) (hb:fn.body.isSome=true:=by exact rfl)
  (l:b.op= .call {callee:=.value (.func f),args:=g,argTypes:=i}:=by exact rfl) (m:g.map a.eval=args:=by(try simp only[List.map_toArray,List.map_cons,List.map_nil]);first|done|rfl|(simp only[List.length_drop,List.length_take];rfl)):wpList P ops Q (b::rest) a w:=
 so N hd j hf k hb args l m h
theorem zX {rest:List Oper} {o:Oper} {a:Act} {W:World} (N:Tmp) (cs:Array Value) (t:TypeId)
  (h:∀g,g=W.heap.size->∀w1,w1.heap[g]? =some (.cells cs t (0,0))->Below W.heap.size W w1->wpList P ops Q rest (a.put o.dst (.pointer (some ⟨g,0,none⟩))) w1) (b:o.guard=none:=by exact rfl) (hd:o.dst=some N:=by exact rfl)
  (e:(execOp a.eval o).run P W= .ok (.value (.pointer (some ⟨W.heap.size,0,none⟩))) (W.alloc (.cells cs t (0,0))):=by first|(go_simp;done)|(go_simp;rfl)):wpList P ops Q (o::rest) a W:=xU b hd e h
end
theorem zo {α β:Type} {x:Option α} {f:α->Option β} {r:β} (h:x.bind f=some r):∃a,Aside0 (x=some a)/\f a=some r:=(Option.bind_eq_some_iff.1 h).imp fun _ k=>⟨⟨k.1⟩,k.2⟩
theorem zi {α:Type} {a b r:α} (h:(if true=true then a else b)=r):a=r:=h
theorem zj {α:Type} {a b r:α} (h:(if false=true then a else b)=r):b=r:=h
theorem bF {a b:Int} (h:a=b):(a==b)=true/\(a != b)=false:=⟨beq_iff_eq.2 h,bne_eq_false_iff_eq.2 h⟩
theorem bI {a b:Int} (h:¬a=b):(a==b)=false/\(a != b)=true:=⟨beq_eq_false_iff_ne.2 h,bne_iff_ne.2 h⟩
theorem zh {α:Type} {a b:α} (e:a=b) {p q:Prop} (H:p) (h:a=b->p->q:=by intro e H;first|(rw[e];with_reducible exact H)|(have z:=(Option.bind_some _ _).symm.trans H;rw[e];with_reducible exact z)|(have z:=(Option.bind_some _ _).symm.trans H;with_reducible exact z)|with_reducible exact H|(rw[e];exact H)|exact H):q:=h e H
abbrev aH:=@Option.some.inj
abbrev bs:=@World.block_lt_of_cell?
abbrev bh:=@List.getD_eq_getElem?_getD
abbrev bX:=@List.getElem?_eq_getElem
abbrev aQ:=@Int.toNat_natCast
abbrev bm:=@heap_alloc_new
abbrev ao:=@Below.refl
abbrev aI:=@Nat.le_refl
theorem zA {p:Prop} (h:p):Aside0 p:=⟨h⟩
theorem az {p:Prop} [h:Decidable p] (k:p):decide p=true:=decide_eq_true k
theorem aZ {p:Prop} [h:Decidable p] (k:¬p):decide p=false:=decide_eq_false k
theorem aw {p:Prop} [h:Decidable p] (k:decide p=true):p:=of_decide_eq_true k
section
variable {P:Program} {ops:Array Oper} {Q:Exit->Act->World->Prop} {md:Region.Mode} {S:World->Prop} {ds:List Nat}
def pf (n b s k:Nat):Array Bool:=((List.range n).map fun i=>b.testBit i||decide (s<=i)&&decide (i<k)).toArray
theorem zs {fuel:Nat} {l:Array Bool} {a:Act} {w:World} (n b s:Nat) (e:l=pf n b s s) (h:cS P md ops Q S ds fuel (pf n b s s) a w):cS P md ops Q S ds fuel l a w:=by rw[e];exact h
theorem zn {T:Bool×List (List Nat×List Nat)} {e:Oper} {v:Value} {m:Tmp} {fuel n b s k j:Nat} {a:Act} {w:World} (g:k+1=j) (i:Aside0 (dE md ops=T)) (hi:ops[k]? =some e) (l:e.dst=some m) (o:pM T (pf n b s k).toList (pf n b s j).toList k=true)
  (p:Yields P ops e v a) {a':Act} (q:a.put (some m) v=a') (h:cS P md ops Q S ds fuel (pf n b s j) a' w) (r:∀c a w,Q (.panic c) (a.put e.dst v) w->Q (.panic c) a w:=by exact fun _ _ _ h=>h):cS P md ops Q S ds (fuel+1) (pf n b s k) a w:=by
 subst g;exact yg (N:=some m) _ hi l (zp i.out o) r p q h
end
end
def sV:Option Int->Value
 |none=>.nilIface
 |some c=>.iface 0 (.int .i64 c)
theorem fi:sV none= .nilIface:=rfl
theorem fj (c:Int):sV (some c)= .iface 0 (.int .i64 c):=rfl
theorem fW:(Tryz.prog.info? 3).map (fun i=>(i.zero,i.size,i.bytes))=some (some (.int .i64 0),1,8):=by kernel_rfl
theorem lH:(Tryz.prog.info? 4).map (fun i=>(i.zero,i.size,i.bytes))=some (some (.bool false),1,1):=by kernel_rfl
theorem sW:(Tryz.prog.info? 25).map (fun i=>(i.zero,i.size,i.bytes))=some (some (.slice none 0 0),1,24):=by kernel_rfl
theorem pO:(Tryz.prog.info? 26).map (fun i=>(i.zero,i.size,i.bytes))=some (some (.slice none 0 0),1,24):=by kernel_rfl
theorem zt:(Tryz.prog.info? 83).map (fun i=>(i.zero,i.size,i.bytes))=some (some (.agg #[(.int .i64 0),(.int .i64 0),(.int .i64 0)]),3,24):=by kernel_rfl
structure S83 where
 f0:Int
 f1:Int
 f2:Int
def sX:S83:=⟨(0:Int),(0:Int),(0:Int)⟩
def aT:Kd S83:=Kd.xw (Kd.pair (Kd.int .i64) (Kd.pair (Kd.int .i64) (Kd.int .i64))) (fun x:S83=>(x.f0,x.f1,x.f2))
theorem zu {w:World} {x:S83} {cs:List Value} (h:aT.K w x cs):cs=[.int .i64 x.f0,.int .i64 x.f1,.int .i64 x.f2]:=by
 obtain⟨_,_,rfl,rfl,⟨_,_,rfl,rfl,rfl⟩⟩:=h;exact rfl
theorem zv (w:World) (x:S83):aT.K w x [.int .i64 x.f0,.int .i64 x.f1,.int .i64 x.f2]:=⟨[.int .i64 x.f0],[.int .i64 x.f1,.int .i64 x.f2],rfl,rfl,⟨[.int .i64 x.f1],[.int .i64 x.f2],rfl,rfl,rfl⟩⟩
theorem iY (w:World) (base:Nat) (ok:Nat->Prop) (x:S83):aT.M w base ok x [.int .i64 x.f0,.int .i64 x.f1,.int .i64 x.f2]:=⟨[.int .i64 x.f0],[.int .i64 x.f1,.int .i64 x.f2],rfl,rfl,⟨[.int .i64 x.f1],[.int .i64 x.f2],rfl,rfl,rfl⟩⟩
def ae (xs:List S83) (i:Int):S83:=xs.getD i.toNat sX
theorem eJ {w:World} {A:Option Addr} {n:Nat} {xs:List S83} (h:Kd.C aT w A n xs) (i:Int) (b:0<=i) (h1:i<n):∃ad,A=some ad/\w.cell? (ad.add (i.toNat*3))=some (.int .i64 (ae xs i).f0)/\w.cell? ⟨(ad.add (i.toNat*3)).block,(ad.add (i.toNat*3)).off+1,none⟩=some (.int .i64 (ae xs i).f1)/\w.cell? ⟨(ad.add (i.toNat*3)).block,(ad.add (i.toNat*3)).off+2,none⟩=some (.int .i64 (ae xs i).f2):=by
 obtain⟨ad,c,e,_,g,k⟩:=Kd.pa h sX i b h1;have a:∀j u,c[j]? =some u->w.cell? (ad.add (i.toNat*3+j))=some u:=k;obtain rfl:=zu g;exact⟨ad,e,a 0 _ rfl,by rw[<-o8 _ _ 1 (by omega)];exact a 1 _ rfl,by rw[<-o8 _ _ 2 (by omega)];exact a 2 _ rfl⟩
def a6 (xs:List (List Int)) (i:Int):(List Int):=xs.getD i.toNat ([]:List Int)
theorem fX {w:World} {A:Option Addr} {n:Nat} {xs:List (List Int)} (h:Kd.C (Kd.slice 3 (Kd.int .i64)) w A n xs) (i:Int) (a:0<=i) (h1:i<n):∃ad A0 c0,A=some ad/\w.cell? (ad.add i.toNat)=some (.slice A0 (a6 xs i).length c0)/\(a6 xs i).length<=c0/\(Kd.int .i64).C w A0 (a6 xs i).length (a6 xs i):=by
 obtain⟨ad,c,e,_,b,g⟩:=Kd.pa h ([]:List Int) i a h1;have k:∀j u,c[j]? =some u->w.cell? (ad.add (i.toNat*1+j))=some u:=g;obtain⟨A0,c0,rfl,l0,g0⟩:=b;exact⟨ad,A0,c0,e,by have l:=k 0 _ rfl;rwa [Nat.mul_one,Nat.add_zero] at l,l0,g0⟩
def Ev {α:Type} (f:Nat->Option α) (r:α):Prop:=∃B,∀K,B<=K->f K=some r
theorem Ev.const {α:Type} (r:α):Ev (fun _=>some r) r:=⟨0,fun _ _=>rfl⟩
theorem Ev.of_succ {α:Type} {f:Nat->Option α} {r:α} (h:Ev (fun k=>f (k+1)) r):Ev f r:=by
 obtain⟨B,h⟩:=h;refine⟨B+1,fun K a=>?_⟩;obtain⟨k,rfl⟩:∃k,K=k+1:=⟨K-1,by omega⟩;exact h k (by omega)
theorem Ev.bind {α β:Type} {f:Nat->Option α} {g:α->Nat->Option β} {a:α} {r:β} (h1:Ev f a) (b:Ev (g a) r):Ev (fun k=>(f k).bind fun t=>g t k) r:=by
 obtain⟨B,h1⟩:=h1;obtain⟨C,b⟩:=b;refine⟨max B C,fun K e=>?_⟩;show (f K).bind (fun t=>g t K)=some r
 rw[h1 K (by omega),Option.bind_some];exact b K (by omega)
theorem Ev.get {α:Type} {f:Nat->Option α} {r:α} (h:Ev f r):∃k,f k=some r:=by
 obtain⟨B,h⟩:=h;exact⟨B,h B (aI _)⟩
theorem Ev.unique {α:Type} {f:Nat->Option α} {r s:α} (a:Ev f r) (b:Ev f s):r=s:=by
 obtain⟨B,a⟩:=a;obtain⟨C,b⟩:=b;have h1:=a (max B C) (by omega);rw[b (max B C) (by omega)] at h1;exact(aH h1).symm
theorem Ev.at_ {α:Type} {f:Nat->Option α} {r:α} (hm:∀k,aj (f k) (f (k+1))) {k:Nat} (h:f k=some r):Ev f r:=
 ⟨k,fun K a=>by
  obtain⟨m,rfl⟩:∃m,K=k+m:=⟨K-k,by omega⟩;clear a;induction m with
  |zero=>exact h
  |succ m b=>exact hm _ _ b⟩
theorem dF {i:Nat} (h:i<=1000000):wrap64 ((i:Int)+1)=((i+1:Nat):Int):=by
 rw[show wrap64 ((i:Int)+1)=(i:Int)+1 from by unfold wrap64;omega];omega
theorem gV {x:Int} (h: -1000000000<=x/\x<=1000000000):wrap64 x=x:=by unfold wrap64;omega
def gF.f (b:Int) (e:List (S83)) (a:Int):Option (Bool):=if a>=0 then(some (decide (a<b))) else(some false)
theorem gF.calls (i:Int) (l:Option Addr) (m:Nat) (b:List (S83)) (j:Int) (r:Bool) (w:World) (n:Kd.C aT w l b.length b) (o:b.length<=m) (h:gF.f i b j=some r):
  Calls Tryz.prog 149 #[.agg #[.int .i64 i,.slice l b.length m],.int .i64 j] w fun e w'=>e= .returned (.bool r)/\Below w.heap.size w w':=by
 have x:=Tryz.underlying24;have y:=zA n;have z:=zA o;clear n o;have a:=zA (ao w.heap.size w);have H:(if j>=0 then(some (decide (j<i))) else(some false))=some r:=h;clear h;by_cases c3:j>=0
 ·rw[if_pos c3] at H
  have q:=az c3;clear c3;obtain rfl:=aH H;go_enter Tryz.func149,Tryz.ntmps149
  go_wp2_with (first|((with_reducible refine aJ (N:=2) rfl ?_);refine zX 2 #[.int .i64 i,.slice l b.length m] 24 ?_;intro s g B k hb;have p:=zA (k);have u:=zG a g;have v:=zG a g;replace a:=zS a hb;clear hb k g;obtain⟨D,E,F,G⟩:=ax p))
  go_ret;exact⟨zE,zB⟩
 ·rw[if_neg c3] at H
  have q:=aZ c3;clear c3;obtain rfl:=aH H;go_enter Tryz.func149,Tryz.ntmps149
  go_wp2_with (first|((with_reducible refine aJ (N:=2) rfl ?_);refine zX 2 #[.int .i64 i,.slice l b.length m] 24 ?_;intro s g I k hb;have p:=zA (k);have u:=zG a g;have v:=zG a g;replace a:=zS a hb;clear hb k g))
  go_ret;exact⟨zE,zB⟩
def eX.j0:Nat->Int->Bool->Int->List (S83)->Int->Int->Int->Option (Int)
 |0,_,_,_,_,_,_,_=>none
 |k+1,x1,g,h,a,b,e,i=>if g=true then(some 2) else(if b>e then(some 9) else(if x1>0 then(if 0<=(wrap64 (x1-1)) then(if(wrap64 (x1-1))<(a.length:Int) then(if b<((ae a (wrap64 (x1-1))).f0) then(some 9) else(if b=((ae a (wrap64 (x1-1))).f0) then(if e<=((ae a (wrap64 (x1-1))).f1) then(some 9) else(some 0)) else(some 0))) else(none)) else(none)) else(some 0)))
def eX.f (k:Nat) (e:Int) (a:List (S83)) (b:Int):Option (Int):=if 0<=b then(if b<(a.length:Int) then((gF.f e a ((ae a b).f0)).bind fun t112=>(if t112=true then((gF.f e a ((ae a b).f1)).bind fun t113=>(if t113=true then(if((ae a b).f2)<1 then(eX.j0 k b true e a ((ae a b).f0) ((ae a b).f1) ((ae a b).f2)) else(eX.j0 k b (decide (((ae a b).f2)>50)) e a ((ae a b).f0) ((ae a b).f1) ((ae a b).f2))) else(eX.j0 k b true e a ((ae a b).f0) ((ae a b).f1) ((ae a b).f2)))) else(eX.j0 k b true e a ((ae a b).f0) ((ae a b).f1) ((ae a b).f2)))) else(none)) else(none)
theorem eX.calls (k:Nat) (n:Int) (aR:Option Addr) (x:Nat) (a:List (S83)) (b:Int) (r:Int) (w:World) (a5:Kd.C aT w aR a.length a) (a9:a.length<=x) (h:eX.f k n a b=some r):
  Calls Tryz.prog 153 #[.agg #[.int .i64 n,.slice aR a.length x],.int .i64 b] w fun e w'=>e= .returned (.int .i64 r)/\Below w.heap.size w w':=by
 have cb:=Tryz.underlying24;have cc:=Tryz.underlying83;have I:=zA a5;have K:=zA a9;clear a5 a9;have j:=zA (ao w.heap.size w);unfold eX.f at h;have H:=h;clear h;by_cases c3:0<=b
 ·rw[if_pos c3] at H
  have be:=az c3;clear c3;by_cases c4:b<(a.length:Int)
  ·rw[if_pos c4] at H
   have bf:=az c4;clear c4;have aS:=zA H;clear H;go_enter Tryz.func153,Tryz.ntmps153
   go_upto_region 2 with (first|((with_reducible refine aJ (N:=2) rfl ?_);refine zX 2 #[.int .i64 n,.slice aR a.length x] 24 ?_;intro p m w6 z hb;have l:=zA (z);have ce:=zG j m;have cf:=zG j m;replace j:=zS j hb;clear hb z m;obtain⟨bg,bi,bk,bn⟩:=ax l;have ad:0<=(b:Int):=aw ‹_›;have ag:b<(a.length:Int):=aw ‹_›;obtain⟨q,bo,ak,am,an⟩:=eJ I.out b ad ag;cases bo;replace ak:=(j.out.cell (bs w _ ak)).trans ak;replace am:=(j.out.cell (bs w _ am)).trans am;replace an:=(j.out.cell (bs w _ an)).trans an;replace ad:=eq_true ad;replace ag:=eq_true ag)|((with_reducible refine aJ (N:=5) rfl ?_);refine zX 5 #[.int .i64 0,.int .i64 0,.int .i64 0] 83 ?_;intro s m w8 z hb;have i:=zA (z);have ci:=zG j m;have cj:=zG j m;replace j:=zS j hb;have u:=zA ((by rw[m];exact Nat.ne_of_lt (aE (g:=p) (o:=.cells #[.int .i64 n,.slice (some q) a.length x] 24 (0,0)) (zK l)):p≠s));have J:=zA ((by rw[m];exact Nat.ne_of_gt (aE (g:=p) (o:=.cells #[.int .i64 n,.slice (some q) a.length x] 24 (0,0)) (zK l)):s≠p));replace l:=zb l hb;clear hb z m;have ck:=J.out;have cl:=u.out;obtain⟨bv,bw,bx,b0,b1,b2⟩:=cg i))
   (try simp only[Act.put,List.setIfInBounds_toArray,List.set_cons_zero,List.set_cons_succ])
   go_cut [33] (fun v33 wc=>∃(kq:Nat) (ar:Bool),v33= .bool ar/\Aside0 (eX.j0 kq b ar n a ((ae a b).f0) ((ae a b).f1) ((ae a b).f2)=some r)/\Aside0 (kq<=k)/\Aside0 (wc.heap[p]? =some (.cells #[.int .i64 n,(.slice (some q) a.length x)] 24 (0,0)))/\Aside0 (wc.heap[s]? =some (.cells #[.int .i64 ((ae a b).f0),.int .i64 ((ae a b).f1),.int .i64 ((ae a b).f2)] 83 (0,0)))/\Aside0 (Below w.heap.size w wc))
   case first=>
    have H:=aS.out;clear aS;obtain⟨t112,av,H⟩:=zo H;by_cases aB:t112=true
    ·subst aB
     replace H:=zi H;obtain⟨t113,a0,H⟩:=zo H;by_cases aF:t113=true
     ·subst aF
      replace H:=zi H;by_cases V:((ae a b).f2)<1
      ·rw[if_pos V] at H
       have aa:=az V;clear V
       (first|rw[aa]|(simp only[bT,bW];rw[aa])|skip)
       have L:=zA H;clear H;have co:=u.out;have cq:=J.out;obtain⟨cr,cv,cx,c0⟩:=ax l;obtain⟨c1,c2,c5,c6,c7,c8⟩:=cg i;go_wp2_with (first|((with_reducible refine aC (f:=149) rfl ?_);refine zL (some 15) Tryz.func149 #[.agg #[.int .i64 n,.slice (some q) a.length x],.int .i64 ((ae a b).f0)] ?_;(with_reducible refine(gF.calls n _ _ a ((ae a b).f0) true _ ?af ?ah av.out).mono ?_);(case af=>exact Kd.au I.out zB);(case ah=>exact K.out);rintro e c9 ⟨rfl,hb⟩;refine⟨_,rfl,?_⟩;replace l:=zA (aM (g:=p) (o:=.cells #[.int .i64 n,.slice (some q) a.length x] 24 (0,0)) (by refine zk ?_;refine aG ?_ u.out _;refine zk ?_;refine aG ?_ u.out _;refine zk ?_;refine aG ?_ u.out _;exact zK l) hb);replace i:=zA (aM (g:=s) (o:=.cells #[.int .i64 ((ae a b).f0),.int .i64 ((ae a b).f1),.int .i64 ((ae a b).f2)] 83 (0,0)) (by refine zk ?_;refine bC (cs:=#[.int .i64 ((ae a b).f0),.int .i64 ((ae a b).f1),.int .i64 0]) ?_ 2 _ rfl;refine zk ?_;refine bC (cs:=#[.int .i64 ((ae a b).f0),.int .i64 0,.int .i64 0]) ?_ 1 _ rfl;refine zk ?_;refine bC (cs:=#[.int .i64 0,.int .i64 0,.int .i64 0]) ?_ 0 _ rfl;exact zK i) hb);replace j:=zS j hb;(try clear hb);obtain⟨c',dd,dk,dl⟩:=ax l;obtain⟨ds,dv,d0,d1,d2,d3⟩:=cg i)|(go_at_call 149;(with_reducible refine(gF.calls n _ _ a ((ae a b).f1) true _ ?af ?ah a0.out).mono ?_);(case af=>exact Kd.au I.out zB);(case ah=>exact K.out);rintro e d4 ⟨rfl,hb⟩;replace l:=zb l hb;replace i:=zb i hb;replace j:=zS j hb;(try clear hb);obtain⟨d5,d6,d7,d8,d9,ea⟩:=cg i))
       go_meet
       case rel=>exact⟨_,(true),zT,L,⟨by first|omega|exact aI _⟩,⟨zK l⟩,⟨zK i⟩,⟨zB⟩⟩
      ·rw[if_neg V] at H
       have aa:=aZ V;clear V
       (first|rw[aa]|(simp only[bT,bW];rw[aa])|skip)
       have L:=zA H;clear H;have eb:=u.out;have ed:=J.out;obtain⟨eg,ek,el,em⟩:=ax l;obtain⟨er,es,ev,ew,ex,ey⟩:=cg i;go_wp2_with (first|((with_reducible refine aC (f:=149) rfl ?_);refine zL (some 15) Tryz.func149 #[.agg #[.int .i64 n,.slice (some q) a.length x],.int .i64 ((ae a b).f0)] ?_;(with_reducible refine(gF.calls n _ _ a ((ae a b).f0) true _ ?af ?ah av.out).mono ?_);(case af=>exact Kd.au I.out zB);(case ah=>exact K.out);rintro e e0 ⟨rfl,hb⟩;refine⟨_,rfl,?_⟩;replace l:=zA (aM (g:=p) (o:=.cells #[.int .i64 n,.slice (some q) a.length x] 24 (0,0)) (by refine zk ?_;refine aG ?_ u.out _;refine zk ?_;refine aG ?_ u.out _;refine zk ?_;refine aG ?_ u.out _;exact zK l) hb);replace i:=zA (aM (g:=s) (o:=.cells #[.int .i64 ((ae a b).f0),.int .i64 ((ae a b).f1),.int .i64 ((ae a b).f2)] 83 (0,0)) (by refine zk ?_;refine bC (cs:=#[.int .i64 ((ae a b).f0),.int .i64 ((ae a b).f1),.int .i64 0]) ?_ 2 _ rfl;refine zk ?_;refine bC (cs:=#[.int .i64 ((ae a b).f0),.int .i64 0,.int .i64 0]) ?_ 1 _ rfl;refine zk ?_;refine bC (cs:=#[.int .i64 0,.int .i64 0,.int .i64 0]) ?_ 0 _ rfl;exact zK i) hb);replace j:=zS j hb;(try clear hb);obtain⟨e1,e2,e3,e4⟩:=ax l;obtain⟨e5,e6,e_,e',fb,fd⟩:=cg i)|(go_at_call 149;(with_reducible refine(gF.calls n _ _ a ((ae a b).f1) true _ ?af ?ah a0.out).mono ?_);(case af=>exact Kd.au I.out zB);(case ah=>exact K.out);rintro e fn ⟨rfl,hb⟩;replace l:=zb l hb;replace i:=zb i hb;replace j:=zS j hb;(try clear hb);obtain⟨fo,fq,fr,ft,fv,f3⟩:=cg i))
       go_meet
       case rel=>exact⟨_,(decide (((ae a b).f2)>50)),zT,L,⟨by first|omega|exact aI _⟩,⟨zK l⟩,⟨zK i⟩,⟨zB⟩⟩
     ·replace aF:=Bool.eq_false_iff.mpr aF
      subst aF;replace H:=zj H;have L:=zA H;clear H;have f4:=u.out;have f5:=J.out;obtain⟨f6,f7,f8,f9⟩:=ax l;obtain⟨f',gb,gc,gd,ge,gf⟩:=cg i;go_wp2_with (first|((with_reducible refine aC (f:=149) rfl ?_);refine zL (some 15) Tryz.func149 #[.agg #[.int .i64 n,.slice (some q) a.length x],.int .i64 ((ae a b).f0)] ?_;(with_reducible refine(gF.calls n _ _ a ((ae a b).f0) true _ ?af ?ah av.out).mono ?_);(case af=>exact Kd.au I.out zB);(case ah=>exact K.out);rintro e gg ⟨rfl,hb⟩;refine⟨_,rfl,?_⟩;replace l:=zA (aM (g:=p) (o:=.cells #[.int .i64 n,.slice (some q) a.length x] 24 (0,0)) (by refine zk ?_;refine aG ?_ u.out _;refine zk ?_;refine aG ?_ u.out _;refine zk ?_;refine aG ?_ u.out _;exact zK l) hb);replace i:=zA (aM (g:=s) (o:=.cells #[.int .i64 ((ae a b).f0),.int .i64 ((ae a b).f1),.int .i64 ((ae a b).f2)] 83 (0,0)) (by refine zk ?_;refine bC (cs:=#[.int .i64 ((ae a b).f0),.int .i64 ((ae a b).f1),.int .i64 0]) ?_ 2 _ rfl;refine zk ?_;refine bC (cs:=#[.int .i64 ((ae a b).f0),.int .i64 0,.int .i64 0]) ?_ 1 _ rfl;refine zk ?_;refine bC (cs:=#[.int .i64 0,.int .i64 0,.int .i64 0]) ?_ 0 _ rfl;exact zK i) hb);replace j:=zS j hb;(try clear hb);obtain⟨gi,gl,gm,gn⟩:=ax l;obtain⟨go,gp,gq,gr,gs,gt⟩:=cg i)|(go_at_call 149;(with_reducible refine(gF.calls n _ _ a ((ae a b).f1) false _ ?af ?ah a0.out).mono ?_);(case af=>exact Kd.au I.out zB);(case ah=>exact K.out);rintro e gx ⟨rfl,hb⟩;replace l:=zb l hb;replace i:=zb i hb;replace j:=zS j hb;(try clear hb)))
      go_meet
      case rel=>exact⟨_,(true),zT,L,⟨by first|omega|exact aI _⟩,⟨zK l⟩,⟨zK i⟩,⟨zB⟩⟩
    ·replace aB:=Bool.eq_false_iff.mpr aB
     subst aB;replace H:=zj H;have L:=zA H;clear H;have g0:=u.out;have g1:=J.out;obtain⟨g2,g3,g4,g5⟩:=ax l;obtain⟨g6,g7,g8,g9,g',ha⟩:=cg i;go_wp2_with (first|((with_reducible refine aC (f:=149) rfl ?_);refine zL (some 15) Tryz.func149 #[.agg #[.int .i64 n,.slice (some q) a.length x],.int .i64 ((ae a b).f0)] ?_;(with_reducible refine(gF.calls n _ _ a ((ae a b).f0) false _ ?af ?ah av.out).mono ?_);(case af=>exact Kd.au I.out zB);(case ah=>exact K.out);rintro e hc ⟨rfl,hb⟩;refine⟨_,rfl,?_⟩;replace l:=zA (aM (g:=p) (o:=.cells #[.int .i64 n,.slice (some q) a.length x] 24 (0,0)) (by refine zk ?_;refine aG ?_ u.out _;refine zk ?_;refine aG ?_ u.out _;refine zk ?_;refine aG ?_ u.out _;exact zK l) hb);replace i:=zA (aM (g:=s) (o:=.cells #[.int .i64 ((ae a b).f0),.int .i64 ((ae a b).f1),.int .i64 ((ae a b).f2)] 83 (0,0)) (by refine zk ?_;refine bC (cs:=#[.int .i64 ((ae a b).f0),.int .i64 ((ae a b).f1),.int .i64 0]) ?_ 2 _ rfl;refine zk ?_;refine bC (cs:=#[.int .i64 ((ae a b).f0),.int .i64 0,.int .i64 0]) ?_ 1 _ rfl;refine zk ?_;refine bC (cs:=#[.int .i64 0,.int .i64 0,.int .i64 0]) ?_ 0 _ rfl;exact zK i) hb);replace j:=zS j hb;(try clear hb)))
     go_meet
     case rel=>exact⟨_,(true),zT,L,⟨by first|omega|exact aI _⟩,⟨zK l⟩,⟨zK i⟩,⟨zB⟩⟩
   case rest=>
    clear aS;clear be bf bv bw bx bg bi b0 b1 b2 bk bn ak am an ad ag;obtain⟨kq,ar,rfl,HA,he,l,i,j⟩:=hcut;cases kq with
    |zero=>exact absurd HA.out (by simp[eX.j0])
    |succ hf=>
     have H:=HA.out;clear HA;simp only[eX.j0] at H;by_cases aL:ar=true
     ·subst aL
      replace H:=zi H;obtain rfl:=aH H;go_wp2;go_ret;exact⟨zE,zB⟩
     ·replace aL:=Bool.eq_false_iff.mpr aL
      subst aL;replace H:=zj H;by_cases W:((ae a b).f0)>((ae a b).f1)
      ·rw[if_pos W] at H
       have b3:=az W;clear W;obtain rfl:=aH H;have hh:=J.out;have hj:=u.out;obtain⟨hk,hl,hm,hn,ho,hp⟩:=cg i;go_wp2;go_ret;exact⟨zE,zB⟩
      ·rw[if_neg W] at H
       have b3:=aZ W;clear W;by_cases X:b>0
       ·rw[if_pos X] at H
        have b4:=az X;clear X;obtain⟨v,M⟩:∃j_:Int,(wrap64 (b-1))=j_:=⟨_,rfl⟩;replace H:(if 0<=(v) then(if(v)<(a.length:Int) then(if((ae a b).f0)<((ae a (v)).f0) then(some 9) else(if((ae a b).f0)=((ae a (v)).f0) then(if((ae a b).f1)<=((ae a (v)).f1) then(some 9) else(some 0)) else(some 0))) else(none)) else(none))=some r:=by first|(rw[M] at H;exact H)|(simp only[M] at H⊢;exact H)
        have hq:(IntKind.i64.wrap (b-1))=v:=(bT _).trans M;by_cases aO:0<=(v)
        ·rw[if_pos aO] at H
         have hr:=az aO;clear aO;by_cases aP:(v)<(a.length:Int)
         ·rw[if_pos aP] at H
          have hs:=az aP;clear aP;by_cases Y:((ae a b).f0)<((ae a (v)).f0)
          ·rw[if_pos Y] at H
           have b6:=az Y;clear Y;obtain rfl:=aH H;have ht:=J.out;have hv:=u.out;obtain⟨hw,hx,hy,hz,hA,hB⟩:=cg i;obtain⟨hC,hD,hE,hG⟩:=ax l;have B:0<=((v):Int):=aw ‹_›;have D:(v)<(a.length:Int):=aw ‹_›;obtain⟨O,P,E,F,G⟩:=eJ I.out (v) B D;obtain rfl:q=O:=(by injection P);replace E:=(j.out.cell (bs w _ E)).trans E;replace F:=(j.out.cell (bs w _ F)).trans F;replace G:=(j.out.cell (bs w _ G)).trans G;replace B:=eq_true B;replace D:=eq_true D;go_wp2_with (first|((with_reducible refine aJ (N:=6) rfl ?_);refine zX 6 #[.int .i64 0,.int .i64 0,.int .i64 0] 83 ?_;intro y m hH z hb;have Q:=zA (z);have a3:=zG j m;have a4:=zG j m;replace j:=zS j hb;have R:=zA ((by rw[m];exact Nat.ne_of_lt (aE (g:=p) (o:=.cells #[.int .i64 n,.slice (some q) a.length x] 24 (0,0)) (zK l)):p≠y));have S:=zA ((by rw[m];exact Nat.ne_of_gt (aE (g:=p) (o:=.cells #[.int .i64 n,.slice (some q) a.length x] 24 (0,0)) (zK l)):y≠p));replace l:=zb l hb;have T:=zA ((by rw[m];exact Nat.ne_of_lt (aE (g:=s) (o:=.cells #[.int .i64 ((ae a b).f0),.int .i64 ((ae a b).f1),.int .i64 ((ae a b).f2)] 83 (0,0)) (zK i)):s≠y));have U:=zA ((by rw[m];exact Nat.ne_of_gt (aE (g:=s) (o:=.cells #[.int .i64 ((ae a b).f0),.int .i64 ((ae a b).f1),.int .i64 ((ae a b).f2)] 83 (0,0)) (zK i)):y≠s));replace i:=zb i hb;clear hb z m;have hI:=S.out;have hJ:=R.out;have hK:=U.out;have hL:=T.out;obtain⟨hM,hN,hO,hP,hQ,hR⟩:=cg Q;obtain⟨hT,hV,hW,hX,hY,h0⟩:=cg i))
           go_ret;exact⟨by first|rfl|(simp[fi,fj]<;>rfl)|(simp only[<-M];first|rfl|(simp[fi,fj]<;>rfl))|(simp[*,fi,fj]<;>rfl),zB⟩
          ·rw[if_neg Y] at H
           have b6:=aZ Y;clear Y;by_cases ab:((ae a b).f0)=((ae a (v)).f0)
           ·rw[if_pos ab] at H
            obtain⟨b_,b'⟩:=bF ab;clear ab;by_cases Z:((ae a b).f1)<=((ae a (v)).f1)
            ·rw[if_pos Z] at H
             have ca:=az Z;clear Z;obtain rfl:=aH H;have h1:=J.out;have h2:=u.out;obtain⟨h3,h4,h5,h6,h7,h8⟩:=cg i;obtain⟨h9,h_,h',ib⟩:=ax l;have B:0<=((v):Int):=aw ‹_›;have D:(v)<(a.length:Int):=aw ‹_›;obtain⟨O,P,E,F,G⟩:=eJ I.out (v) B D;obtain rfl:q=O:=(by injection P);replace E:=(j.out.cell (bs w _ E)).trans E;replace F:=(j.out.cell (bs w _ F)).trans F;replace G:=(j.out.cell (bs w _ G)).trans G;replace B:=eq_true B;replace D:=eq_true D;go_wp2_with (first|((with_reducible refine aJ (N:=6) rfl ?_);refine zX 6 #[.int .i64 0,.int .i64 0,.int .i64 0] 83 ?_;intro y m id z hb;have Q:=zA (z);have a3:=zG j m;have a4:=zG j m;replace j:=zS j hb;have R:=zA ((by rw[m];exact Nat.ne_of_lt (aE (g:=p) (o:=.cells #[.int .i64 n,.slice (some q) a.length x] 24 (0,0)) (zK l)):p≠y));have S:=zA ((by rw[m];exact Nat.ne_of_gt (aE (g:=p) (o:=.cells #[.int .i64 n,.slice (some q) a.length x] 24 (0,0)) (zK l)):y≠p));replace l:=zb l hb;have T:=zA ((by rw[m];exact Nat.ne_of_lt (aE (g:=s) (o:=.cells #[.int .i64 ((ae a b).f0),.int .i64 ((ae a b).f1),.int .i64 ((ae a b).f2)] 83 (0,0)) (zK i)):s≠y));have U:=zA ((by rw[m];exact Nat.ne_of_gt (aE (g:=s) (o:=.cells #[.int .i64 ((ae a b).f0),.int .i64 ((ae a b).f1),.int .i64 ((ae a b).f2)] 83 (0,0)) (zK i)):y≠s));replace i:=zb i hb;clear hb z m;have ih:=S.out;have ii:=R.out;have im:=U.out;have io:=T.out;obtain⟨ip,it,iv,i0,i1,i2⟩:=cg Q;obtain⟨i3,i4,i5,i6,i7,i8⟩:=cg i))
             go_ret;exact⟨by first|rfl|(simp[fi,fj]<;>rfl)|(simp only[<-M];first|rfl|(simp[fi,fj]<;>rfl))|(simp[*,fi,fj]<;>rfl),zB⟩
            ·rw[if_neg Z] at H
             have ca:=aZ Z;clear Z;obtain rfl:=aH H;have i9:=J.out;have i_:=u.out;obtain⟨jj,jp,j1,j2,j3,j'⟩:=cg i;obtain⟨kd,kk,km,ks⟩:=ax l;have B:0<=((v):Int):=aw ‹_›;have D:(v)<(a.length:Int):=aw ‹_›;obtain⟨O,P,E,F,G⟩:=eJ I.out (v) B D;obtain rfl:q=O:=(by injection P);replace E:=(j.out.cell (bs w _ E)).trans E;replace F:=(j.out.cell (bs w _ F)).trans F;replace G:=(j.out.cell (bs w _ G)).trans G;replace B:=eq_true B;replace D:=eq_true D;go_wp2_with (first|((with_reducible refine aJ (N:=6) rfl ?_);refine zX 6 #[.int .i64 0,.int .i64 0,.int .i64 0] 83 ?_;intro y m kt z hb;have Q:=zA (z);have a3:=zG j m;have a4:=zG j m;replace j:=zS j hb;have R:=zA ((by rw[m];exact Nat.ne_of_lt (aE (g:=p) (o:=.cells #[.int .i64 n,.slice (some q) a.length x] 24 (0,0)) (zK l)):p≠y));have S:=zA ((by rw[m];exact Nat.ne_of_gt (aE (g:=p) (o:=.cells #[.int .i64 n,.slice (some q) a.length x] 24 (0,0)) (zK l)):y≠p));replace l:=zb l hb;have T:=zA ((by rw[m];exact Nat.ne_of_lt (aE (g:=s) (o:=.cells #[.int .i64 ((ae a b).f0),.int .i64 ((ae a b).f1),.int .i64 ((ae a b).f2)] 83 (0,0)) (zK i)):s≠y));have U:=zA ((by rw[m];exact Nat.ne_of_gt (aE (g:=s) (o:=.cells #[.int .i64 ((ae a b).f0),.int .i64 ((ae a b).f1),.int .i64 ((ae a b).f2)] 83 (0,0)) (zK i)):y≠s));replace i:=zb i hb;clear hb z m;have kv:=S.out;have kw:=R.out;have kW:=U.out;have k0:=T.out;obtain⟨k1,k2,k3,k4,k5,k6⟩:=cg Q;obtain⟨k7,k8,k9,k_,la,lb⟩:=cg i))
             go_ret;exact⟨by first|rfl|(simp[fi,fj]<;>rfl)|(simp only[<-M];first|rfl|(simp[fi,fj]<;>rfl))|(simp[*,fi,fj]<;>rfl),zB⟩
           ·rw[if_neg ab] at H
            obtain⟨b_,b'⟩:=bI ab;obtain rfl:=aH H;have lc:=J.out;have ld:=u.out;obtain⟨le,lg,li,lj,lk,lm⟩:=cg i;obtain⟨lo,lp,ls,lt⟩:=ax l;have B:0<=((v):Int):=aw ‹_›;have D:(v)<(a.length:Int):=aw ‹_›;obtain⟨O,P,E,F,G⟩:=eJ I.out (v) B D;obtain rfl:q=O:=(by injection P);replace E:=(j.out.cell (bs w _ E)).trans E;replace F:=(j.out.cell (bs w _ F)).trans F;replace G:=(j.out.cell (bs w _ G)).trans G;replace B:=eq_true B;replace D:=eq_true D;go_wp2_with (first|((with_reducible refine aJ (N:=6) rfl ?_);refine zX 6 #[.int .i64 0,.int .i64 0,.int .i64 0] 83 ?_;intro y m lv z hb;have Q:=zA (z);have a3:=zG j m;have a4:=zG j m;replace j:=zS j hb;have R:=zA ((by rw[m];exact Nat.ne_of_lt (aE (g:=p) (o:=.cells #[.int .i64 n,.slice (some q) a.length x] 24 (0,0)) (zK l)):p≠y));have S:=zA ((by rw[m];exact Nat.ne_of_gt (aE (g:=p) (o:=.cells #[.int .i64 n,.slice (some q) a.length x] 24 (0,0)) (zK l)):y≠p));replace l:=zb l hb;have T:=zA ((by rw[m];exact Nat.ne_of_lt (aE (g:=s) (o:=.cells #[.int .i64 ((ae a b).f0),.int .i64 ((ae a b).f1),.int .i64 ((ae a b).f2)] 83 (0,0)) (zK i)):s≠y));have U:=zA ((by rw[m];exact Nat.ne_of_gt (aE (g:=s) (o:=.cells #[.int .i64 ((ae a b).f0),.int .i64 ((ae a b).f1),.int .i64 ((ae a b).f2)] 83 (0,0)) (zK i)):y≠s));replace i:=zb i hb;clear hb z m;have lw:=S.out;have l0:=R.out;have l1:=U.out;have l2:=T.out;obtain⟨l3,l',mb,md,mk,ml⟩:=cg Q;obtain⟨mm,mn,mp,ms,mt,mv⟩:=cg i))
            go_ret;exact⟨by first|rfl|(simp[fi,fj]<;>rfl)|(simp only[<-M];first|rfl|(simp[fi,fj]<;>rfl))|(simp[*,fi,fj]<;>rfl),zB⟩
         ·rw[if_neg aP] at H
          exact absurd H (by simp)
        ·rw[if_neg aO] at H
         exact absurd H (by simp)
       ·rw[if_neg X] at H
        have b4:=aZ X;clear X;obtain rfl:=aH H;have mx:=J.out;have m0:=u.out;obtain⟨m1,m2,m3,m4,m5,m6⟩:=cg i;go_wp2;go_ret;exact⟨zE,zB⟩
  ·rw[if_neg c4] at H
   exact absurd H (by simp)
 ·rw[if_neg c3] at H
  exact absurd H (by simp)
mutual
def dc.j0:Nat->Bool->Int->List (S83)->Option (Int)
 |0,_,_,_=>none
 |k+1,a,b,e=>if a=true then(some 2) else(dc.l0 k 0 b e)
def dc.l0:Nat->Int->Int->List (S83)->Option (Int)
 |0,_,_,_=>none
 |k+1,x3,b,a=>if x3<(a.length:Int) then((eX.f k b a x3).bind fun t117=>(if t117=0 then(dc.l0 k (wrap64 (x3+1)) b a) else(some t117))) else(some 0)
end
def dc.f (k:Nat) (a:Int) (b:List (S83)):Option (Int):=if a<1 then(dc.j0 k true a b) else(dc.j0 k (decide (a>12)) a b)
theorem dc.calls (k:Nat) (g:Int) (m:Option Addr) (n:Nat) (a:List (S83)) (r:Int) (w:World) (D:Kd.C aT w m a.length a) (E:a.length<=n) (h:dc.f k g a=some r):
  Calls Tryz.prog 103 #[.agg #[.int .i64 g,.slice m a.length n]] w fun e w'=>e= .returned (.int .i64 r)/\Below w.heap.size w w':=by
 have S:=Tryz.underlying24;have F:=zA D;have G:=zA E;clear D E;have i:=zA (ao w.heap.size w);unfold dc.f at h;have H:=h;clear h;have y:=zA H;clear H;go_enter Tryz.func103,Tryz.ntmps103
 go_upto_region 1 with (first|((with_reducible refine aJ (N:=1) rfl ?_);refine zX 1 #[.int .i64 g,.slice m a.length n] 24 ?_;intro I z w3 J hb;have b:=zA (J);have T:=zG i z;have U:=zG i z;replace i:=zS i hb;clear hb J z))
 (try simp only[Act.put,List.setIfInBounds_toArray,List.set_cons_zero,List.set_cons_succ])
 go_cut [12] (fun v12 wc=>∃(o:Nat) (v:Bool),v12= .bool v/\Aside0 (dc.j0 o v g a=some r)/\Aside0 (o<=k)/\Aside0 (wc.heap[I]? =some (.cells #[.int .i64 g,(.slice m a.length n)] 24 (0,0)))/\Aside0 (Below w.heap.size w wc))
 case first=>
  have H:=y.out;clear y;by_cases c4:g<1
  ·rw[if_pos c4] at H
   have s:=az c4;clear c4
   (first|rw[s]|(simp only[bT,bW];rw[s])|skip)
   have l:=zA H;clear H;obtain⟨V,W,X,Y⟩:=ax b;go_wp2;go_meet
   case rel=>exact⟨_,(true),zT,l,⟨by first|omega|exact aI _⟩,⟨zK b⟩,⟨zB⟩⟩
  ·rw[if_neg c4] at H
   have s:=aZ c4;clear c4
   (first|rw[s]|(simp only[bT,bW];rw[s])|skip)
   have l:=zA H;clear H;obtain⟨Z,aa,ab,ad⟩:=ax b;go_wp2;go_meet
   case rel=>exact⟨_,(decide (g>12)),zT,l,⟨by first|omega|exact aI _⟩,⟨zK b⟩,⟨zB⟩⟩
 case rest=>
  clear y;obtain⟨o,v,rfl,p,K,b,i⟩:=hcut;cases o with
  |zero=>exact absurd p.out (by simp[dc.j0])
  |succ L=>
   have H:=p.out;clear p;simp only[dc.j0] at H;by_cases x:v=true
   ·subst x
    replace H:=zi H;obtain rfl:=aH H;go_wp2;go_ret;exact⟨zE,zB⟩
   ·replace x:=Bool.eq_false_iff.mpr x
    subst x;replace H:=zj H;have l:=zA H;clear H;go_wp2;go_loopg [3] L (fun o v3 w'=>∃(j:Int),v3= .int .i64 j/\Aside0 (dc.l0 o j g a=some r)/\Aside0 (o<=L)/\Aside0 (w'.heap[I]? =some (.cells #[.int .i64 g,(.slice m a.length n)] 24 (0,0)))/\Aside0 (Below w.heap.size w w'))
    case atStart=>exact⟨(0),zT,l,⟨aI _⟩,⟨zK b⟩,⟨zB⟩⟩
    case round=>
     clear l;obtain⟨j,rfl,p,M,b,i⟩:=hrel;cases gk with
     |zero=>exact absurd p.out (by simp[dc.l0])
     |succ B=>
      have H:=p.out;clear p;simp only[dc.l0] at H;by_cases q:j<(a.length:Int)
      ·rw[if_pos q] at H
       have P:=az q;clear q;obtain⟨t117,O,H⟩:=zo H;by_cases u:t117=0
       ·rw[if_pos u] at H
        obtain⟨Q,R⟩:=bF u;clear u;have l:=zA H;clear H;obtain⟨ag,ak,am,an⟩:=ax b;go_wp2_with (first|((with_reducible refine aC (f:=153) rfl ?_);refine zL (some 22) Tryz.func153 #[.agg #[.int .i64 g,.slice m a.length n],.int .i64 j] ?_;(with_reducible refine(eX.calls B g _ _ a j t117 _ ?af ?ah O.out).mono ?_);(case af=>exact Kd.au F.out zB);(case ah=>exact G.out);rintro e ap ⟨rfl,hb⟩;refine⟨_,rfl,?_⟩;replace b:=zb b hb;replace i:=zS i hb;(try clear hb)))
        go_roundg B
        case measure=>have:=K.out;have:=M.out;omega
        case rel=>exact⟨(wrap64 (j+1)),zT,l,⟨by have:=K.out;have:=M.out;omega⟩,⟨zK b⟩,⟨zB⟩⟩
       ·rw[if_neg u] at H
        obtain⟨Q,R⟩:=bI u;obtain rfl:=aH H;obtain⟨ar,av,aB,aF⟩:=ax b;go_wp2_with (first|((with_reducible refine aC (f:=153) rfl ?_);refine zL (some 22) Tryz.func153 #[.agg #[.int .i64 g,.slice m a.length n],.int .i64 j] ?_;(with_reducible refine(eX.calls B g _ _ a j t117 _ ?af ?ah O.out).mono ?_);(case af=>exact Kd.au F.out zB);(case ah=>exact G.out);rintro e aL ⟨rfl,hb⟩;refine⟨_,rfl,?_⟩;replace b:=zb b hb;replace i:=zS i hb;(try clear hb)))
        go_ret;exact⟨zE,zB⟩
      ·rw[if_neg q] at H
       have P:=aZ q;clear q;obtain rfl:=aH H;obtain⟨aO,aP,aR,aS⟩:=ax b;go_wp2;go_ret;exact⟨zE,zB⟩
def fy.f (a0:Int) (a:Int):Option (Bool):=if a>=0 then(some (decide (a<a0))) else(some false)
theorem fy.calls (a0:Int) (a:Int) (r:Bool) (w:World) (h:fy.f a0 a=some r):
  Calls Tryz.prog 121 #[.int .i64 a0,.int .i64 a] w fun e w'=>e= .returned (.bool r)/\aA w w':=by
 have H:(if a>=0 then(some (decide (a<a0))) else(some false))=some r:=h;clear h;by_cases c3:a>=0
 ·rw[if_pos c3] at H
  have b:=az c3;clear c3;obtain rfl:=aH H;go_enter Tryz.func121,Tryz.ntmps121
  go_wp2;go_ret;exact⟨zT,by repeat(first|exact aA.refl _|apply aA.step)⟩
 ·rw[if_neg c3] at H
  have b:=aZ c3;clear c3;obtain rfl:=aH H;go_enter Tryz.func121,Tryz.ntmps121
  go_wp2;go_ret;exact⟨zT,by repeat(first|exact aA.refl _|apply aA.step)⟩
def cmp_isNaN_int.f (a0:Int):Option (Bool):=some (a0 != a0)
theorem cmp_isNaN_int.calls (a0:Int) (r:Bool) (w:World) (h:cmp_isNaN_int.f a0=some r):
  Calls Tryz.prog 164 #[.int .i64 a0] w fun e w'=>e= .returned (.bool r)/\aA w w':=by
 have H:(some (a0 != a0))=some r:=h;clear h;obtain rfl:=aH H;go_enter Tryz.func164,Tryz.ntmps164
 go_wp2;go_ret;exact⟨zT,by repeat(first|exact aA.refl _|apply aA.step)⟩
def gW.f (a0:Int) (a:Int):Option (Int):=(cmp_isNaN_int.f a0).bind fun t200=>((cmp_isNaN_int.f a).bind fun t201=>(if t200=true then(if t201=true then(some 0) else(some (-1))) else(if t201=true then(some 1) else(if a0<a then(some (-1)) else(if a0>a then(some 1) else(some 0))))))
theorem gW.calls (a0:Int) (a:Int) (r:Int) (w:World) (h:gW.f a0 a=some r):
  Calls Tryz.prog 107 #[.int .i64 a0,.int .i64 a] w fun e w'=>e= .returned (.int .i64 r)/\aA w w':=by
 unfold gW.f at h;have H:=h;clear h;obtain⟨t200,g,H⟩:=zo H;obtain⟨t201,i,H⟩:=zo H;by_cases l:t200=true
 ·subst l
  replace H:=zi H;by_cases m:t201=true
  ·subst m
   replace H:=zi H;obtain rfl:=aH H;go_enter Tryz.func107,Tryz.ntmps107
   go_wp2_with (first|((with_reducible refine aC (f:=164) rfl ?_);refine zL (some 8) Tryz.func164 #[.int .i64 a0] ?_;(with_reducible refine(cmp_isNaN_int.calls a0 true _ g.out).mono ?_);rintro e w' ⟨rfl,⟨b,rfl⟩⟩;refine⟨_,rfl,?_⟩)|((with_reducible refine aC (f:=164) rfl ?_);refine zL (some 10) Tryz.func164 #[.int .i64 a] ?_;(with_reducible refine(cmp_isNaN_int.calls a true _ i.out).mono ?_);rintro e w' ⟨rfl,⟨b,rfl⟩⟩;refine⟨_,rfl,?_⟩))
   go_ret;exact⟨zT,by repeat(first|exact aA.refl _|apply aA.step)⟩
  ·replace m:=Bool.eq_false_iff.mpr m
   subst m;replace H:=zj H;obtain rfl:=aH H;go_enter Tryz.func107,Tryz.ntmps107
   go_wp2_with (first|((with_reducible refine aC (f:=164) rfl ?_);refine zL (some 8) Tryz.func164 #[.int .i64 a0] ?_;(with_reducible refine(cmp_isNaN_int.calls a0 true _ g.out).mono ?_);rintro e w' ⟨rfl,⟨b,rfl⟩⟩;refine⟨_,rfl,?_⟩)|((with_reducible refine aC (f:=164) rfl ?_);refine zL (some 10) Tryz.func164 #[.int .i64 a] ?_;(with_reducible refine(cmp_isNaN_int.calls a false _ i.out).mono ?_);rintro e w' ⟨rfl,⟨b,rfl⟩⟩;refine⟨_,rfl,?_⟩))
   go_ret;exact⟨zT,by repeat(first|exact aA.refl _|apply aA.step)⟩
 ·replace l:=Bool.eq_false_iff.mpr l
  subst l;replace H:=zj H;by_cases n:t201=true
  ·subst n
   replace H:=zi H;obtain rfl:=aH H;go_enter Tryz.func107,Tryz.ntmps107
   go_wp2_with (first|((with_reducible refine aC (f:=164) rfl ?_);refine zL (some 8) Tryz.func164 #[.int .i64 a0] ?_;(with_reducible refine(cmp_isNaN_int.calls a0 false _ g.out).mono ?_);rintro e w' ⟨rfl,⟨b,rfl⟩⟩;refine⟨_,rfl,?_⟩)|((with_reducible refine aC (f:=164) rfl ?_);refine zL (some 10) Tryz.func164 #[.int .i64 a] ?_;(with_reducible refine(cmp_isNaN_int.calls a true _ i.out).mono ?_);rintro e w' ⟨rfl,⟨b,rfl⟩⟩;refine⟨_,rfl,?_⟩))
   go_ret;exact⟨zT,by repeat(first|exact aA.refl _|apply aA.step)⟩
  ·replace n:=Bool.eq_false_iff.mpr n
   subst n;replace H:=zj H;by_cases j:a0<a
   ·rw[if_pos j] at H
    have o:=az j;clear j;obtain rfl:=aH H;go_enter Tryz.func107,Tryz.ntmps107
    go_wp2_with (first|((with_reducible refine aC (f:=164) rfl ?_);refine zL (some 8) Tryz.func164 #[.int .i64 a0] ?_;(with_reducible refine(cmp_isNaN_int.calls a0 false _ g.out).mono ?_);rintro e w' ⟨rfl,⟨b,rfl⟩⟩;refine⟨_,rfl,?_⟩)|((with_reducible refine aC (f:=164) rfl ?_);refine zL (some 10) Tryz.func164 #[.int .i64 a] ?_;(with_reducible refine(cmp_isNaN_int.calls a false _ i.out).mono ?_);rintro e w' ⟨rfl,⟨b,rfl⟩⟩;refine⟨_,rfl,?_⟩))
    go_ret;exact⟨zT,by repeat(first|exact aA.refl _|apply aA.step)⟩
   ·rw[if_neg j] at H
    have o:=aZ j;clear j;by_cases k:a0>a
    ·rw[if_pos k] at H
     have p:=az k;clear k;obtain rfl:=aH H;go_enter Tryz.func107,Tryz.ntmps107
     go_wp2_with (first|((with_reducible refine aC (f:=164) rfl ?_);refine zL (some 8) Tryz.func164 #[.int .i64 a0] ?_;(with_reducible refine(cmp_isNaN_int.calls a0 false _ g.out).mono ?_);rintro e w' ⟨rfl,⟨b,rfl⟩⟩;refine⟨_,rfl,?_⟩)|((with_reducible refine aC (f:=164) rfl ?_);refine zL (some 10) Tryz.func164 #[.int .i64 a] ?_;(with_reducible refine(cmp_isNaN_int.calls a false _ i.out).mono ?_);rintro e w' ⟨rfl,⟨b,rfl⟩⟩;refine⟨_,rfl,?_⟩))
     go_ret;exact⟨zT,by repeat(first|exact aA.refl _|apply aA.step)⟩
    ·rw[if_neg k] at H
     have p:=aZ k;clear k;obtain rfl:=aH H;go_enter Tryz.func107,Tryz.ntmps107
     go_wp2_with (first|((with_reducible refine aC (f:=164) rfl ?_);refine zL (some 8) Tryz.func164 #[.int .i64 a0] ?_;(with_reducible refine(cmp_isNaN_int.calls a0 false _ g.out).mono ?_);rintro e w' ⟨rfl,⟨b,rfl⟩⟩;refine⟨_,rfl,?_⟩)|((with_reducible refine aC (f:=164) rfl ?_);refine zL (some 10) Tryz.func164 #[.int .i64 a] ?_;(with_reducible refine(cmp_isNaN_int.calls a false _ i.out).mono ?_);rintro e w' ⟨rfl,⟨b,rfl⟩⟩;refine⟨_,rfl,?_⟩))
     go_ret;exact⟨zT,by repeat(first|exact aA.refl _|apply aA.step)⟩
def df.l0:Nat->Int->List Int->Int->Int->Option (Int)
 |0,_,_,_,_=>none
 |k+1,x3,b,e,a=>if a<e then(if 0<=a then(if a<(b.length:Int) then(if(rd b a)=x3 then(df.l0 k x3 b e (wrap64 (a+1))) else(some (rd b a))) else(none)) else(none)) else(some x3)
def df.f (k:Nat) (l0:List Int):Option (Int):=df.l0 k 0 l0 (l0.length:Int) 0
theorem df.cm:∀k,(∀a b e g,aj (df.l0 k a b e g) (df.l0 (k+1) a b e g))
 |0=>fun _ _ _ _ r h=>by simp[df.l0] at h
 |k+1=>by
  have i:=df.cm k
  ·intro a b e g
   unfold df.l0;with_reducible repeat' first|exact i _ _ _ _|exact aj.refl _|exact aj.none _|refine aj.ite ?_ ?_|refine aj.bind ?_ (fun _=>?_)
theorem df.mono:∀a0 k,aj (df.f k a0) (df.f (k+1) a0):=by
 intro a0 k;have a:=df.cm k;unfold df.f;with_reducible repeat' first|exact a _ _ _ _|exact aj.refl _|exact aj.none _|refine aj.ite ?_ ?_|refine aj.bind ?_ (fun _=>?_)
theorem df.calls (k:Nat) (A0:Option Addr) (c0:Nat) (l0:List Int) (r:Int) (w:World) (n:Kd.C (Kd.int .i64) w A0 l0.length l0) (o:l0.length<=c0) (h:df.f k l0=some r):
  Calls Tryz.prog 177 #[.slice A0 l0.length c0] w fun e w'=>e= .returned (.int .i64 r)/\aA w w':=by
 have p:=zA n;have E:=zA o;clear n o;have H:(df.l0 k 0 l0 (l0.length:Int) 0)=some r:=h;clear h;have j:=zA H;clear H;go_enter Tryz.func177,Tryz.ntmps177
 go_wp2;go_loopg [8] k (fun q u w'=>∃(a:Int),u= .int .i64 a/\Aside0 (df.l0 q 0 l0 (l0.length:Int) a=some r)/\Aside0 (q<=k)/\aA w w')
 case atStart=>exact⟨(0),zT,j,⟨aI _⟩,by repeat(first|exact aA.refl _|apply aA.step)⟩
 case round=>
  clear j;obtain⟨a,rfl,l,s,⟨m1,rfl⟩⟩:=hrel;cases gk with
  |zero=>exact absurd l.out (by simp[df.l0])
  |succ v=>
   have H:=l.out;clear l;simp only[df.l0] at H;by_cases c2:a<(l0.length:Int)
   ·rw[if_pos c2] at H
    have x:=az c2;clear c2;by_cases c3:0<=a
    ·rw[if_pos c3] at H
     have F:=az c3;clear c3;by_cases c4:a<(l0.length:Int)
     ·rw[if_pos c4] at H
      have G:=az c4;clear c4;by_cases i:(rd l0 a)=0
      ·rw[if_pos i] at H
       obtain⟨y,z⟩:=bF i;clear i;have j:=zA H;clear H;have b:0<=(a:Int):=aw ‹_›;have g:a<(l0.length:Int):=aw ‹_›;obtain⟨B,m,D⟩:=Kd.bL p.out a b g;cases m;replace b:=eq_true b;replace g:=eq_true g;go_wp2;go_roundg v
       case measure=>have:=s.out;omega
       case rel=>exact⟨(wrap64 (a+1)),zT,j,⟨by have:=s.out;omega⟩,by repeat(first|exact aA.refl _|apply aA.step)⟩
      ·rw[if_neg i] at H
       obtain⟨y,z⟩:=bI i;obtain rfl:=aH H;have b:0<=(a:Int):=aw ‹_›;have g:a<(l0.length:Int):=aw ‹_›;obtain⟨B,m,D⟩:=Kd.bL p.out a b g;cases m;replace b:=eq_true b;replace g:=eq_true g;go_wp2;go_ret;exact⟨zT,by repeat(first|exact aA.refl _|apply aA.step)⟩
     ·rw[if_neg c4] at H
      exact absurd H (by simp)
    ·rw[if_neg c3] at H
     exact absurd H (by simp)
   ·rw[if_neg c2] at H
    have x:=aZ c2;clear c2;obtain rfl:=aH H;go_wp2;go_ret;exact⟨zT,by repeat(first|exact aA.refl _|apply aA.step)⟩
def dG.f (k:Nat) (a:Int) (b:Int) (e:Int) (g:Int):Option (Int):=(gW.f a e).bind fun t205=>((gW.f b g).bind fun t206=>((df.f k (([t205,t206]:List Int))).bind fun t210=>(some t210)))
theorem dG.mono:∀a0 a a2 a3 k,aj (dG.f k a0 a a2 a3) (dG.f (k+1) a0 a a2 a3):=by
 intro a0 a a2 a3 k;unfold dG.f;with_reducible repeat' first|exact df.mono _ _|exact aj.refl _|exact aj.none _|refine aj.ite ?_ ?_|refine aj.bind ?_ (fun _=>?_)
def dG.T1:Bool×List (List Nat×List Nat):=(true,[([],[]),([0],[0]),([],[]),([2],[2]),([1,3],[1,3]),([],[]),([5],[5]),([],[]),([7],[7]),([6,8,4],[6,8]),([4,9],[4,9]),([10,9],[10]),([11,11,0,1,2,3,4,5,6,7,8,9,10,11],[11])])
def dG.B1:List Nat:=[0,1,0,4,15,0,32,0,128,511,1023,2047,4095]
theorem dG.zw:dE .any (opsOf Tryz.f122 1)=dG.T1:=by kernel_rfl
theorem dG.zx:jZ dG.T1.2 dG.B1=true:=by kernel_rfl
theorem dG.calls (k:Nat) (p:Int) (q:Int) (s:Int) (u:Int) (r:Int) (w:World) (h:dG.f k p q s u=some r):
  Calls Tryz.prog 122 #[.agg #[.int .i64 p,.int .i64 q],.agg #[.int .i64 s,.int .i64 u]] w fun e w'=>e= .returned (.int .i64 r)/\Below w.heap.size w w':=by
 have ag:=Tryz.underlying116;have l:=zA (ao w.heap.size w);unfold dG.f at h;have H:=h;clear h;obtain⟨t205,Q,H⟩:=zo H;obtain⟨t206,R,H⟩:=zo H;obtain⟨D,E⟩:∃T:List Int,T=(([t205,t206]:List Int)):=⟨_,rfl⟩;replace H:((df.f k D).bind fun t210=>(some t210))=some r:=zh E H;have I:=zA E;clear E;obtain⟨t210,U,H⟩:=zo H;obtain rfl:=aH H;go_enter Tryz.func122,Tryz.ntmps122
 try go_wp2_with (first|((with_reducible refine aJ (N:=2) rfl ?_);refine zX 2 #[.int .i64 p,.int .i64 q] 116 ?_;intro x hg w6 y hb;have a:=zA (y);have am:=zG l hg;have an:=zG l hg;replace l:=zS l hb;clear hb y hg)|((with_reducible refine aJ (N:=3) rfl ?_);refine zX 3 #[.int .i64 s,.int .i64 u] 116 ?_;intro B hg V y hb;have b:=zA (y);have ap:=zG l hg;have ar:=zG l hg;replace l:=zS l hb;have av:=zA ((by rw[hg];exact Nat.ne_of_lt (aE (g:=x) (o:=.cells #[.int .i64 p,.int .i64 q] 116 (0,0)) (zK a)):x≠B));have aB:=zA ((by rw[hg];exact Nat.ne_of_gt (aE (g:=x) (o:=.cells #[.int .i64 p,.int .i64 q] 116 (0,0)) (zK a)):B≠x));replace a:=zb a hb;clear hb y hg))
 replace a:=zA (fw a.out);replace b:=zA (fw b.out);replace l:=zA (bV l.out);refine nz (n:=13) (S:=fun w'=>w'.cell? ⟨x,0,none⟩=some (.int .i64 p)/\w'.cell? ⟨x,1,none⟩=some (.int .i64 q)/\w'.cell? ⟨B,0,none⟩=some (.int .i64 s)/\w'.cell? ⟨B,1,none⟩=some (.int .i64 u)) (ds:=[]) #[false,false,false,false,false,false,false,false,false,false,false,false,false] (by kernel_rfl) rfl rfl ⟨(al a.out 0).trans rfl,(al a.out 1).trans rfl,(al b.out 0).trans rfl,(al b.out 1).trans rfl⟩ (fun hHeld=>?_);refine nS dG.zw dG.zx (fun j C=>?_);generalize V.drew=w8 at a b l hHeld⊢;refine zs 13 0 0 (by kernel_rfl) ?_;refine zn (v:=?_) (a':=?_) (by simp only[Nat.reduceAdd];rfl) j rfl rfl (by kernel_rfl) (Or.inl ⟨by rfl,?_⟩) ?_ ?_;rotate_left;(focus (intro w';go_simp;with_reducible rfl));rotate_left;(focus (simp only[Act.put,List.setIfInBounds_toArray,List.set_cons_zero,List.set_cons_succ,bT,bW];rfl))
 refine zs 13 1 2 (by kernel_rfl) ?_;refine zn (v:=?_) (a':=?_) (by simp only[Nat.reduceAdd];rfl) j rfl rfl (by kernel_rfl) (Or.inl ⟨by rfl,?_⟩) ?_ ?_;rotate_left;(focus (intro w';go_simp;with_reducible rfl));rotate_left;(focus (simp only[Act.put,List.setIfInBounds_toArray,List.set_cons_zero,List.set_cons_succ,bT,bW];rfl))
 refine zs 13 5 5 (by kernel_rfl) ?_;refine zn (v:=?_) (a':=?_) (by simp only[Nat.reduceAdd];rfl) j rfl rfl (by kernel_rfl) (Or.inl ⟨by rfl,?_⟩) ?_ ?_;rotate_left;(focus (intro w';go_simp;with_reducible rfl));rotate_left;(focus (simp only[Act.put,List.setIfInBounds_toArray,List.set_cons_zero,List.set_cons_succ,bT,bW];rfl))
 refine zs 13 37 7 (by kernel_rfl) ?_;refine zn (v:=?_) (a':=?_) (by simp only[Nat.reduceAdd];rfl) j rfl rfl (by kernel_rfl) (Or.inl ⟨by rfl,?_⟩) ?_ ?_;rotate_left;(focus (intro w';go_simp;with_reducible rfl));rotate_left;(focus (simp only[Act.put,List.setIfInBounds_toArray,List.set_cons_zero,List.set_cons_succ,bT,bW];rfl))
 refine iU (i:=1) (N:=some 6) (v:=?_) (a':=?_) #[true,true,true,false,false,true,false,true,false,false,false,false,false] rfl rfl (iW j.out C.out (by kernel_rfl)) (fun _ _ _ h=>h) (Or.inl ⟨by rfl,?_⟩) hHeld ?_ ?_;rotate_left
 ·rintro w' ⟨s0,s1,s2,F⟩
  go_simp
  with_reducible rfl
 rotate_left
 ·simp only[Act.put,List.setIfInBounds_toArray,List.set_cons_zero,List.set_cons_succ,bT,bW]
  rfl
 refine iU (i:=3) (N:=some 8) (v:=?_) (a':=?_) #[true,true,true,true,false,true,false,true,false,false,false,false,false] rfl rfl (iW j.out C.out (by kernel_rfl)) (fun _ _ _ h=>h) (Or.inl ⟨by rfl,?_⟩) hHeld ?_ ?_;rotate_left
 ·rintro w' ⟨s0,s1,s2,F⟩
  go_simp
  with_reducible rfl
 rotate_left
 ·simp only[Act.put,List.setIfInBounds_toArray,List.set_cons_zero,List.set_cons_succ,bT,bW]
  rfl
 refine iU (i:=6) (N:=some 11) (v:=?_) (a':=?_) #[true,true,true,true,false,true,true,true,false,false,false,false,false] rfl rfl (iW j.out C.out (by kernel_rfl)) (fun _ _ _ h=>h) (Or.inl ⟨by rfl,?_⟩) hHeld ?_ ?_;rotate_left
 ·rintro w' ⟨s0,s1,s2,F⟩
  go_simp
  with_reducible rfl
 rotate_left
 ·simp only[Act.put,List.setIfInBounds_toArray,List.set_cons_zero,List.set_cons_succ,bT,bW]
  rfl
 refine iU (i:=8) (N:=some 13) (v:=?_) (a':=?_) #[true,true,true,true,false,true,true,true,true,false,false,false,false] rfl rfl (iW j.out C.out (by kernel_rfl)) (fun _ _ _ h=>h) (Or.inl ⟨by rfl,?_⟩) hHeld ?_ ?_;rotate_left
 ·rintro w' ⟨s0,s1,s2,F⟩
  go_simp
  with_reducible rfl
 rotate_left
 ·simp only[Act.put,List.setIfInBounds_toArray,List.set_cons_zero,List.set_cons_succ,bT,bW]
  rfl
 refine ly (i:=4) (N:=some 9) #[true,true,true,true,true,true,true,true,true,false,false,false,false] rfl rfl (jv j.out (by kernel_rfl)) (by decide) (fun K m=>?_);refine me Tryz.func107 (by kernel_rfl) rfl #[.int .i64 p,.int .i64 s] (by rfl) rfl rfl (by(try simp only[List.map_toArray,List.map_cons,List.map_nil]);first|done|rfl|(simp only[List.length_drop,List.length_take];rfl)) ?_;with_reducible refine(gW.calls p s t205 _ Q.out).mono ?_
 rintro e w' ⟨rfl,⟨J,rfl⟩⟩;refine⟨_,rfl,?_⟩;refine m.out _ _ ⟨(al a.out 0).trans rfl,(al a.out 1).trans rfl,(al b.out 0).trans rfl,(al b.out 1).trans rfl⟩ (fun hHeld=>?_);clear m K;refine lz (a':=?_) ?_ ?_;rotate_left
 ·show Act.put _ (some 9) _=_
  simp only[Act.put,List.setIfInBounds_toArray,List.set_cons_zero,List.set_cons_succ,bT,bW];rfl
 refine ly (i:=9) (N:=some 14) #[true,true,true,true,true,true,true,true,true,true,false,false,false] rfl rfl (jv j.out (by kernel_rfl)) (by decide) (fun K m=>?_);refine me Tryz.func107 (by kernel_rfl) rfl #[.int .i64 q,.int .i64 u] (by rfl) rfl rfl (by(try simp only[List.map_toArray,List.map_cons,List.map_nil]);first|done|rfl|(simp only[List.length_drop,List.length_take];rfl)) ?_;with_reducible refine(gW.calls q u t206 _ R.out).mono ?_
 rintro e w' ⟨rfl,⟨J,rfl⟩⟩;refine⟨_,rfl,?_⟩;refine m.out _ _ ⟨(al a.out 0).trans rfl,(al a.out 1).trans rfl,(al b.out 0).trans rfl,(al b.out 1).trans rfl⟩ (fun hHeld=>?_);clear m K;refine lz (a':=?_) ?_ ?_;rotate_left
 ·show Act.put _ (some 14) _=_
  simp only[Act.put,List.setIfInBounds_toArray,List.set_cons_zero,List.set_cons_succ,bT,bW];rfl
 refine ly (i:=10) (N:=some 15) #[true,true,true,true,true,true,true,true,true,true,true,false,false] rfl rfl (jv j.out (by kernel_rfl)) (by decide) (fun K m=>?_);refine Kd.xW (Kd.int .i64) _ 3 ?hg (N:=15) ?hd (xs:=([t205,t206]:List Int)) (inner:=[.int .i64 t205,.int .i64 t206]) (ok:=fun _=>True) (okp:=fun _=>True) ?hr ?hp (fun _ hk=>hk) trivial (ao _ _) (aI _) (by simp) ?_;(case hd=>rfl);(case hg=>rfl);(case hr=>first|(go_simp;done)|(go_simp;rfl));(case hp=>exact(aU.one (show Kd.M (Kd.int .i64) _ _ _ t205 [.int .i64 t205] from rfl) (aU.one (show Kd.M (Kd.int .i64) _ _ _ t206 [.int .i64 t206] from rfl) (aU.none _ _))));intro v208 w9 z hb W X;clear W X
 (first|rw[<-I.out] at z|(simp only[Int.reduceToNat] at z;rw[<-I.out] at z))
 have G:=zA (Kd.ba z (bp zB));replace a:=zb a hb;replace b:=zb b hb;replace l:=zS l hb;clear hb z;obtain⟨Y,Z,L⟩:=Kd.bb G.out
 (first|subst L|(injection L with O aa P;have ab:=O.symm;have ad:=P.symm;clear O aa P;subst ab;subst ad))
 refine m.out _ _ ⟨(al a.out 0).trans rfl,(al a.out 1).trans rfl,(al b.out 0).trans rfl,(al b.out 1).trans rfl⟩ (fun hHeld=>?_);clear m K;refine lz (a':=?_) ?_ ?_;rotate_left
 ·show Act.put _ (some 15) _=_
  simp only[Act.put,List.setIfInBounds_toArray,List.set_cons_zero,List.set_cons_succ,bT,bW];rfl
 refine ly (i:=11) (N:=some 16) #[true,true,true,true,true,true,true,true,true,true,true,true,false] rfl rfl (jv j.out (by kernel_rfl)) (by decide) (fun K m=>?_);refine me Tryz.func177 (by kernel_rfl) rfl #[.slice Y D.length Z] (by rfl) rfl rfl (by(try simp only[List.map_toArray,List.map_cons,List.map_nil]);first|done|rfl|(simp only[List.length_drop,List.length_take];rfl)) ?_;with_reducible refine(df.calls k _ _ D t210 _ ?af ?ah U.out).mono ?_
 (case af=>exact zC (Kd.aD G.out).2.2)
 (case ah=>exact(Kd.aD G.out).2.1)
 rintro e w' ⟨rfl,⟨J,rfl⟩⟩;refine⟨_,rfl,?_⟩;refine m.out _ _ ⟨(al a.out 0).trans rfl,(al a.out 1).trans rfl,(al b.out 0).trans rfl,(al b.out 1).trans rfl⟩ (fun hHeld=>?_);clear m K;refine lz (a':=?_) ?_ ?_;rotate_left
 ·show Act.put _ (some 16) _=_
  simp only[Act.put,List.setIfInBounds_toArray,List.set_cons_zero,List.set_cons_succ,bT,bW];rfl
 refine zs 13 4095 12 (by kernel_rfl) ?_;refine zn (v:=?_) (a':=?_) (by simp only[Nat.reduceAdd];rfl) j rfl rfl (by kernel_rfl) (Or.inl ⟨by rfl,?_⟩) ?_ ?_;rotate_left;(focus (intro w';go_simp;with_reducible rfl));rotate_left;(focus (simp only[Act.put,List.setIfInBounds_toArray,List.set_cons_zero,List.set_cons_succ,bT,bW];rfl))
 refine nB (nR j.out (by kernel_rfl)) ?_;try go_wp2
 go_ret;exact⟨zE,zB⟩
end Go.Proofs.YtffdiakgjakngaaGreat.P


