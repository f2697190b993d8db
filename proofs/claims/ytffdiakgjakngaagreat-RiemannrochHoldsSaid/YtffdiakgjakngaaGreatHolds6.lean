/- RiemannrochHolds answers true whatever the input (text 6 of 20): own walks and plain laws; no conditions. -/
import Derived.Below
import Derived.BigRegion
import Derived.Deep.RegionHeld3
import Derived.LoopIn
import Derived.LoopNIn
import Derived.OwnWalkIn
import Derived.RangeFuncBound
import Derived.RangeFuncCalls
import Derived.RangeFuncLeaves
import Derived.RangeFuncNested
import Derived.RegionIn
import Derived.RegionTactic
import Derived.Shelf.RegionOpen
import Derived.Sort.LoopGhostIn
import Derived.TacticsInMore
import Derived.WalkKit
import Derived.WalkSpells
import Derived.Test.YtffdiakgjakngaaGreatHolds5
namespace Go.Proofs.YtffdiakgjakngaaGreat.P
open Go Go.RowKit
set_option linter.unusedVariables false
set_option linter.unusedSimpArgs false
set_option maxHeartbeats 8000000
set_option maxRecDepth 100000
section
def Bk (l:Nat) (A B:World):Prop:=∃o a,A.heap[l]? =some o∧o.isCells=false∧B=A.putObj l a
theorem Bk.cells {l:Nat} {A B:World} (h:Bk l A B) {k:Nat} {cs:Array Value} {t:TypeId} {fr:Nat×Nat} (hk:A.heap[k]? =some (.cells cs t fr)):B.heap[k]? =some (.cells cs t fr):=by
 obtain⟨o,e,a,b,rfl⟩:=h;rw[World.putObj_heap_other]; · exact hk
 rintro rfl;rw[a] at hk;injection hk with hk;subst hk;simp[Obj.isCells] at b
theorem Bk.size {l:Nat} {A B:World} (h:Bk l A B):B.heap.size=A.heap.size:=by
 obtain⟨o,a,b,e,rfl⟩:=h;simp[World.putObj]
theorem Bk.heap {l:Nat} {A B:World} (h:Bk l A B) (k:Nat) (hk:k≠l):B.heap[k]? =A.heap[k]? :=by
 obtain⟨o,a,b,e,rfl⟩:=h;exact World.putObj_heap_other hk
theorem Bk.below {l:Nat} {A B:World} (h:Bk l A B) (n:Nat) (hn:n<=l):Below n A B:=by
 obtain⟨o,a,b,g,rfl⟩:=h;exact(Below.refl n A).grown (grownBy_putObj' A l a) (by have:=(Array.getElem?_eq_some_iff.1 b).1;omega) (fun k e=>by cases e;omega)
def bX (n:Nat) (A B:World):Prop:=∀k o,n<=k->k<n+2->A.heap[k]? =some o->o.isCells=false->B.heap[k]? =some o
theorem bX.refl (n:Nat) (A:World):bX n A A:=fun _ _ _ _ h _=>h
theorem bX.trans {n:Nat} {A B C:World} (h:bX n A B) (k:bX n B C):bX n A C:=fun j o h1 a e b=>k j o h1 a (h j o h1 a e b) b
def pS {σ α:Type} (nw:Nat) (a:World->World->Prop) (I:List α->World->Prop) (b:Code->List α->World->Prop) (xs:List α) (W:World):Exit->Act->World->Prop
 | .normal,_,W'=>bX nw W W'∧a W W'∧I xs W'
 | .ret,_,W'=>bX nw W W'∧b .ret xs W'
 |_,_,_=>False
variable {F:Fence} {n:Nat} {P:Program}
def iJ {σ α:Type} (F:Fence) (n:Nat) (P:Program) (gf:Nat) (lb:Array Value) (bF:α->Array Value) (Start:σ->World->World->Prop) (a:σ->World->World->Prop) (g:σ->α->World->World->Prop) (h:σ->World->World->Prop) (S:σ->List α->World->Prop) (i:σ->List α->World->Prop) (j:List α->Prop) (W:World):Prop:=
 ∀(l:Nat) (J Jx:σ->List α->World->Prop),(∀s pre A B,J s pre A->a s A B->J s pre B)->(∀s pre A B,Jx s pre A->a s A B->Jx s pre B)->
  (∀s W1,Start s W W1->J s [] W1)->
  (∀s pre x b W1,J s pre b->g s x b W1->j pre->YieldAt F (n-1) P l (bF x) W1 fun e W'=>
   (e= .returned (.bool true)∧J s (pre++[x]) W'∧h s W1 W')∨(e= .returned (.bool false)∧Jx s (pre++[x]) W'))->
  CallsIn F n P gf (#[.func (.yield l) #[] #[]]++lb) W fun e W'=>(∃v,e= .returned v)∧((∃s xs,S s xs W'∧J s xs W')∨(∃s pre,i s pre W'∧Jx s pre W'))
theorem ie {σ α:Type} {g:Operand} {ps:Array Tmp} {assign body:Code} {Q:Exit->Act->World->Prop} {a:Act} {w:World}
  (ap:F.round=none) (h1:1<=n) {gf:Nat} {lb:Array Value} (hg:a.eval g= .func (.func gf) #[] lb) (av:F.fn gf) (eg:∀args w,(callFunc gf args).run P w= .ok (.enter gf args) w)
  {bF:α->Array Value} {Start:σ->World->World->Prop} {J:σ->World->World->Prop} {O:σ->α->World->World->Prop} {L:σ->World->World->Prop} {S Z:σ->List α->World->Prop} {Bd:List α->Prop}
  (aF:∀o,iJ F (n-1) P gf lb bF Start J O L S Z Bd ((w.alloc (.deferred (some []))).alloc (.loop o))) (aL:∀x,(bF x).size=ps.size)
  (m:σ->Prop) (aO:∀o s W1,Start s ((w.alloc (.deferred (some []))).alloc (.loop o)) W1->m s∧bX w.heap.size ((w.alloc (.deferred (some []))).alloc (.loop o)) W1)
  (M:∀s A B,m s->J s A B->bX w.heap.size A B) (aP:∀s x A B,m s->O s x A B->bX w.heap.size A B)
  (I:σ->List α->World->Prop) (u:Code->σ->List α->World->Prop)
  (aS:∀s pre A B,m s->I s pre A->J s A B->I s pre B) (a0:∀c s pre A B,m s->u c s pre A->J s A B->u c s pre B)
  (a1:∀s pre A B,I s pre A->Bk (w.heap.size+1) A B->I s pre B) (a2:∀c s pre A B,u c s pre A->Bk (w.heap.size+1) A B->u c s pre B)
  (a4:∀s A B C D,Bk (w.heap.size+1) A B->L s B C->Bk (w.heap.size+1) C D->L s A D)
  (h0:∀o s W1,Start s ((w.alloc (.deferred (some []))).alloc (.loop o)) W1->I s [] W1) (a₁:α->Act)
  (a9:∀(l:Nat) (x:α) (W:World) (K:Act->World->Prop),K (a₁ x) W->
   assign.wpIn (F.inRound l) (n-1-1) P (Exit.then K (fun _ _ _=>False)) {tmps:=(ps.zip (bF x)).foldl (fun t (p,v)=>t.setIfInBounds p v) a.tmps,defers:=[]} W)
  (be:∀(l:Nat) (s:σ) (pre:List α) (x:α) (G W1 W:World),m s->I s pre G->O s x G W1->Bd pre->Bk (w.heap.size+1) W1 W->body.wpIn (F.inRound l) (n-1-1) P (pS (σ:=σ) w.heap.size (L s) (I s) (fun c=>u c s) (pre++[x]) W) (a₁ x) W)
  (bf:∀(s:σ) (xs:List α) (W W':World),m s->S s xs W->I s xs W->Bk (w.heap.size+1) W W'->W'.heap[w.heap.size]? =some (.deferred (some []))->Q .normal {a with defers:={target:=.collected w.heap.size,args:=#[]}::a.defers} W')
  (bg:∀(c:Code) (s:σ) (pre:List α) (W W':World),m s->Z s pre W->u c s pre W->Bk (w.heap.size+1) W W'->W'.heap[w.heap.size]? =some (.deferred (some []))->c.wpIn F n P Q {a with defers:={target:=.collected w.heap.size,args:=#[]}::a.defers} W'):
  (Code.rangeFunc g ps assign body).wpIn F n P Q a w:=by
 refine wpIn_rangeFunc ?_;intro fn bi;rw[ap];obtain⟨rec,q⟩:∃rec:LoopState->Option Code->Loop,rec=fun st pe=>{state:=st,pending:=pe,fn,tmps:=a.tmps,params:=ps,assign,body,defers:=w.heap.size}:=⟨_,rfl⟩
 obtain⟨W1,y⟩:∃W1,(w.alloc (.deferred (some []))).alloc (.loop (rec .ready none))=W1:=⟨_,rfl⟩;have bn:W1.heap[w.heap.size+1]? =some (.loop (rec .ready none)):=by
  rw[<-y];have:=World.alloc_heap_new (w.alloc (.deferred (some []))) (.loop (rec .ready none));rwa [World.size_alloc] at this
 have bo:W1.heap[w.heap.size]? =some (.deferred (some [])):=by
  rw[<-y];exact(Below.heap_alloc _ _ _ (by simp)).trans (World.alloc_heap_new w _)
 refine⟨w.heap.size+1,[{target:=.collected w.heap.size,args:=#[]}],W1,{target:=.fn (.func gf) lb,args:=#[.func (.yield (w.heap.size+1)) #[] #[]]},W1,gf,
  #[.func (.yield (w.heap.size+1)) #[] #[]]++lb,W1,?_,?_,?_,?_,fun _=>h1,?_⟩
 ·rw[<-y,q];exact run_enterLoop_outer _ _ _ _ _
 ·simp only[resolve,hg]
  simp[go_sem]
 ·intro f' ad;simp[Target.leads] at ad;subst ad;exact av
 ·simp[invoke,go_sem,eg]
 ·have hs:=aF (rec .ready none)
  rw[y] at hs;have ld:∀{A B:World} {r:Loop},bX w.heap.size A B->A.heap[w.heap.size+1]? =some (.loop r)->B.heap[w.heap.size+1]? =some (.loop r):=fun h R=>h _ _ (by omega) (by omega) R rfl
  have H:∀{A B:World},bX w.heap.size A B->A.heap[w.heap.size]? =some (.deferred (some []))->B.heap[w.heap.size]? =some (.deferred (some [])):=fun h R=>h _ _ (by omega) (by omega) R rfl
  refine(hs (w.heap.size+1)
   (fun s pre W=>m s∧I s pre W∧W.heap[w.heap.size+1]? =some (.loop (rec .ready none))∧W.heap[w.heap.size]? =some (.deferred (some [])))
   (fun s pre W=>m s∧∃c,u c s pre W∧W.heap[w.heap.size+1]? =some (.loop (rec .done (some c)))∧W.heap[w.heap.size]? =some (.deferred (some [])))
   (fun s pre A B h j=>⟨h.1,aS s pre A B h.1 h.2.1 j,ld (M s A B h.1 j) h.2.2.1,H (M s A B h.1 j) h.2.2.2⟩)
   (fun s pre A B h j=>by
    obtain⟨b,c,hc,i,hk⟩:=h;exact⟨b,c,a0 c s pre A B b hc j,ld (M s A B b j) i,H (M s A B b j) hk⟩)
   (fun s W2 j=>by
    rw[<-y] at j;have hk:=aO (rec .ready none) s W2 j;have z:=hk.2;rw[y] at z;exact⟨hk.1,h0 _ s W2 j,ld z bn,H z bo⟩)
   ?_).mono ?_
  ·rintro s pre x G W ⟨b,hi,bw,bx⟩ ak b0
   have z:=aP s x G W b ak;have i:=ld z bw;have hk:=H z bx;have b1:w.heap.size+1<W.heap.size:=(Array.getElem?_eq_some_iff.1 i).1;have hy:=run_yield (P:=P) (args:=bF x) i (by rw[q];exact aL x);rw[q] at hy;have an:Bk (w.heap.size+1) W (W.putObj (w.heap.size+1) (.loop {rec .ready none with state:=.busy})):=⟨_,_,i,rfl,rfl⟩;refine⟨fn,_,assign,body,hy,roundIn_of_wpIn bi (a9 _ x W _ ⟨_,run_beginRound i (by rw[q]),?_⟩)⟩;have b2:(W.putObj (w.heap.size+1) (.loop {rec .ready none with state:=.busy})).heap[w.heap.size+1]? =some (.loop {rec .ready none with state:=.busy}):=World.putObj_heap_same b1;have b3:(W.putObj (w.heap.size+1) (.loop {rec .ready none with state:=.busy})).heap[w.heap.size]? =some (.deferred (some [])):=(World.putObj_heap_other (by omega)).trans hk;refine wpIn_mono (be _ s pre x G W _ b hi ak b0 an) ?_;have fin:∀(jump:Option Code) (k:World),bX w.heap.size (W.putObj (w.heap.size+1) (.loop {rec .ready none with state:=.busy})) k->
     (Instr.endRound (w.heap.size+1) jump).run P k= .ok (.bool jump.isNone) (k.putObj (w.heap.size+1) (.loop (rec (if jump.isNone then .ready else .done) jump)))∧
     Bk (w.heap.size+1) k (k.putObj (w.heap.size+1) (.loop (rec (if jump.isNone then .ready else .done) jump)))∧
     (k.putObj (w.heap.size+1) (.loop (rec (if jump.isNone then .ready else .done) jump))).heap[w.heap.size+1]? =some (.loop (rec (if jump.isNone then .ready else .done) jump))∧
     (k.putObj (w.heap.size+1) (.loop (rec (if jump.isNone then .ready else .done) jump))).heap[w.heap.size]? =some (.deferred (some [])):=fun jump k E=>by
    have T:=ld E b2;have:=run_endRound (P:=P) jump T;rw[q] at this⊢;exact⟨this,⟨_,_,T,rfl,rfl⟩,World.putObj_heap_same (Array.getElem?_eq_some_iff.1 T).1,(World.putObj_heap_other (by omega)).trans (H E b3)⟩
   rintro e a3 k hp;cases e with
   |normal=>
    obtain⟨E,b4,U⟩:=hp;obtain⟨V,N,X,Y⟩:=fin none k E;exact⟨_,_,V,.inl ⟨rfl,⟨b,a1 s _ _ _ U N,X,Y⟩,a4 s _ _ _ _ an b4 N⟩⟩
   |ret=>
    obtain⟨E,U⟩:=hp;obtain⟨V,N,X,Y⟩:=fin (some .ret) k E;exact⟨_,_,V,.inr ⟨rfl,b,.ret,a2 _ s _ _ _ U N,X,Y⟩⟩
   |exit id=>exact hp.elim
   |goto t=>exact hp.elim
   |panic ch=>exact hp.elim
   |outgrown=>exact hp.elim
  ·rintro e W2 ⟨⟨v,rfl⟩,(⟨s,xs,hS,b,hi,i,hk⟩|⟨s,pre,b5,b,c,hi,i,hk⟩)⟩
   ·exact⟨none,_,by have:=run_endLoop (P:=P) i (by rw[q];simp);rw[q] at this;exact this,bf s xs W2 _ b hS hi ⟨_,_,i,rfl,rfl⟩ ((World.putObj_heap_other (by omega)).trans hk)⟩
   ·exact⟨some c,_,by have:=run_endLoop (P:=P) i (by rw[q];simp);rw[q] at this;exact this,bg c s pre W2 _ b b5 hi ⟨_,_,i,rfl,rfl⟩ ((World.putObj_heap_other (by omega)).trans hk)⟩
end
end Go.Proofs.YtffdiakgjakngaaGreat.P
namespace Go.Proofs.YtffdiakgjakngaaGreat.P
open Go.RowKit Go.Proofs.YtffdiakgjakngaaGreatW.PrintWords Go.Proofs.YtffdiakgjakngaaGreatW.PrintLast Go.Proofs.YtffdiakgjakngaaGreatW.PrintMore
set_option linter.unusedVariables false
set_option linter.unusedSimpArgs false
set_option maxHeartbeats 8000000
set_option maxRecDepth 100000
section
def je (n:Nat) (c:(Nat->Bool)->Nat->Bool) (b:Nat->Bool):Option Nat:=(List.range n).find? (fun v=>c b v)
def dO (b:Nat->Bool) (v:Nat):Nat->Bool:=fun u=>if u=v then true else b u
def dD (n:Nat) (b:Nat->Bool):Nat:=(List.range n).countP (fun v=> !b v)
def fi (n:Nat) (c:(Nat->Bool)->Nat->Bool):Nat->(Nat->Bool)->List Nat
 |0,_=>[]
 |f+1,b=>match je n c b with
  |none=>[]
  |some v=>v::fi n c f (dO b v)
def eu (n:Nat) (c:(Nat->Bool)->Nat->Bool) (b:Nat->Bool):List Nat:=fi n c (dD n b) b
def cB (b:Nat->Bool) (l:List Nat):Nat->Bool:=l.foldl dO b
theorem nK (b:Nat->Bool) (l:List Nat) (v:Nat):cB b (l++[v])=dO (cB b l) v:=by simp[cB]
theorem mh {n:Nat} {b:Nat->Bool} {v:Nat} (g:v<n) (hb:b v=false):dD n b=dD n (dO b v)+1:=by
 unfold dD;induction n with
 |zero=>omega
 |succ n a=>
  rw[List.range_succ,List.countP_append,List.countP_append];by_cases e:v=n
  ·subst e
   have h1:(List.range v).countP (fun u=> !b u)=(List.range v).countP (fun u=> !dO b v u):=List.countP_congr (fun u hu=>by have:=List.mem_range.1 hu;simp[dO,show u≠v from by omega]);rw[h1];simp[dO,hb]
  ·have:=a (by omega)
   rw[this];simp[dO,show n≠v from by omega];omega
theorem tl (n:Nat) (b:Nat->Bool):dD n b<=n:=by
 unfold dD;exact Nat.le_trans List.countP_le_length (by simp)
theorem AH {n:Nat} {c:(Nat->Bool)->Nat->Bool} {b:Nat->Bool} (h:∀v,v<n->c b v=false):eu n c b=[]:=by
 have:je n c b=none:=by
  unfold je;rw[List.find?_eq_none];intro v a;simp[h v (List.mem_range.1 a)]
 unfold eu;cases dD n b<;>simp[fi,this]
theorem AI {n:Nat} {c:(Nat->Bool)->Nat->Bool} (g:∀b v,c b v=true->b v=false) {b:Nat->Bool} {v:Nat} (a:v<n) (e:c b v=true) (h:∀u,u<v->c b u=false):eu n c b=v::eu n c (dO b v):=by
 have i:je n c b=some v:=by
  unfold je;rw[List.find?_eq_some_iff_append];refine⟨e,(List.range n).take v,(List.range n).drop (v+1),?_,?_⟩
  ·have h1:(List.range n)[v]'(by simpa using a)=v:=by simp
   conv=>lhs;rw[<-List.take_append_drop v (List.range n)]
   rw[List.drop_eq_getElem_cons (by simpa using a),h1]
  ·intro u hu
   have k:u<v:=by
    rw[List.mem_take_iff_getElem] at hu;obtain⟨j,l,rfl⟩:=hu;simp at l⊢;omega
   simp[h u k]
 have m:=mh a (g b v e);unfold eu;rw[m];simp only[fi,i]
def bY (n:Nat) (times:Nat->Nat->Int) (l:List Int) (b:Nat->Bool) (v:Nat):Bool:= !b v&&decide (rd l v<dr times b v n)
theorem mi {n:Nat} {times:Nat->Nat->Int} {l:List Int} (b:Nat->Bool) (v:Nat) (h:bY n times l b v=true):b v=false:=by
 unfold bY at h;cases hb:b v<;>simp_all
theorem AJ (g:Nat) (n v:Nat) (times:Nat->Nat->Int) (A:Option Addr) (c:Nat) (l:List Int) (burnt:Nat->Bool) (w:World) (hn:n<=12) (a:v<12) (b:v<l.length) (h:∀i j,0<=times i j∧times i j<=50) (hw:ct w g n times (.slice A l.length c) burnt) (k:Kd.C (Kd.int .i64) w A l.length l):
  Calls Tryz.prog 226 #[.pointer (some ⟨g,0,none⟩),.int .i64 v] w fun e w'=>e= .returned (.bool (bY n times l burnt v))∧az w w':=by
 unfold bY;cases hb:burnt v with
 |true=>simpa using AE g n v times _ burnt w a hw hb
 |false=>simpa using AF g n v times A c l burnt w hn a b h hw k hb
attribute [local go_sem] Oper.semAt_some
theorem tn {w w1:World} (h:az w w1) (r:Option Nat):w.grownBy w1 r:=iR h.below r
theorem AK {w w1:World} {g j:Nat} {v:Value} (h:w.grownBy w1 (some g)):w.grownBy (w1.setCell ⟨g,j,none⟩ v) (some g):=
 have hb:=(Below.refl 0 w1).setCell (p:=⟨g,j,none⟩) (Nat.zero_le _) v;h.trans ⟨hb.os,hb.tape,hb.output,hb.size,fun k _ hk=>Below.heap_setCell _ _ _ _ (fun e=>hk (by rw[e]))⟩
theorem ct.of_heap {w w':World} {g:Nat} {n:Int} {times:Nat->Nat->Int} {chips:Value} {burnt:Nat->Bool} (h:ct w g n times chips burnt) (e:w'.heap[g]? =w.heap[g]?):ct w' g n times chips burnt:=by
 obtain⟨cs,hb,a⟩:=h;exact⟨cs,e.trans hb,a⟩
theorem dt {w:World} {b:Nat} {v:Value} {t:TypeId} (h:w.heap[b]? =some (.cells #[v] t (0,0))):w.cell? ⟨b,0,none⟩=some v:=(ao h 0).trans rfl
theorem AL (g b n:Nat) (times:Nat->Nat->Int) (A:Option Addr) (c:Nat) (l:List Int) (a:Nat->Bool) (W:World) (base:Nat) (hn:n<=12) (hl:n<=l.length) (ht:∀i j,0<=times i j∧times i j<=50) (aF:b≠g)
  (hW:ct W g n times (.slice A l.length c) a) (aO:W.heap[b]? =some (.cells #[.pointer (some ⟨g,0,none⟩)] 245 (0,0))) (hr:Kd.R (Kd.int .i64) 3 W base (fun k=>some k=(Value.slice A l.length c).ownBlock) (.slice A l.length c) l):
  iJ (σ:=Unit) Fence.wide 9 Tryz.prog 225 #[.pointer (some ⟨b,0,none⟩)] (fun v:Nat=>#[.int .i64 v]) (fun _ W W1=>W1=W) (fun _ A B=>A.grownBy B (some g)) (fun _ _ A B=>A.grownBy B (some g))
   (fun _ X Y=>∀k,(k=g∨k=b∨some k=(Value.slice A l.length c).ownBlock)->Y.heap[k]? =X.heap[k]?)
   (fun _ xs W'=>xs=eu n (bY n times l) a∧ct W' g n times (.slice A l.length c) (cB a xs)) (fun _ _ _=>True) (fun pre=>pre.length<n) W:=by
 intro lp J Jx K L M N;have aS:=Aside0.mk K;have b3:=Aside0.mk L;have hY:=Aside0.mk N;have a1:=M () W rfl;clear K L M N;refine callsIn_of_wp Tryz.func225 rfl trivial ?_ rfl;simp only[Tryz.ntmps225,List.size_toArray,List.length_cons,List.length_nil,Nat.reduceAdd,Nat.reduceSub,Array.replicate_succ,Array.replicate_zero,List.push_toArray,List.append_toArray,List.nil_append,List.cons_append];gi_wp2;gi_loopg [3] (13*dD n a+n) (fun kq v wr=>∃(pre:List Nat) (u:Nat),v= .int .i64 u∧u<=n∧Aside0 (J () pre wr)∧Aside0 (ct wr g n times (.slice A l.length c) (cB a pre))∧Aside0 (wr.heap[b]? =some (.cells #[.pointer (some ⟨g,0,none⟩)] 245 (0,0)))∧Aside0 (Kd.R (Kd.int .i64) 3 wr base (fun k=>some k=(Value.slice A l.length c).ownBlock) (.slice A l.length c) l)∧Aside0 (∀x,x<u->bY n times l (cB a pre) x=false)∧Aside0 (eu n (bY n times l) a=pre++eu n (bY n times l) (cB a pre))∧Aside0 (kq=13*dD n (cB a pre)+(n-u))∧Aside0 (pre.length+dD n (cB a pre)=dD n a))
 case atStart=>exact⟨[],0,rfl,Nat.zero_le _,⟨a1⟩,⟨hW⟩,⟨aO⟩,⟨hr⟩,⟨fun x O=>by omega⟩,⟨by simp[cB]⟩,⟨by simp[cB]⟩,⟨by simp[cB]⟩⟩
 case round=>
  obtain⟨pre,u,rfl,hu,y,h,z,D,E,F,P,G⟩:=hrel;have a3:=dt z.out;have b4:=h.out.nJ;by_cases Q:u<n
  ·have S:Kd.C (Kd.int .i64) wr A l.length l:=by
    obtain⟨A',c',e,_,hC⟩:=Kd.mN D.out;injection e with e1 e2 e3
    rw[e1];exact hC
   have q:=Aside0.mk (AJ g n u times A c l (cB a pre) wr hn (by omega) (by omega) ht h.out S);clear S;cases o:bY n times l (cB a pre) u with
   |false=>
    rw[o] at q;have T:=Lib.hid o;clear o;gi_wp2_with (refine⟨trivial,?_⟩;gi_at_call 226;refine(callsIn_wide.2 q.out).mono ?_;rintro e w1 ⟨rfl,p⟩;have U:=Aside0.mk p;clear p)
    gi_roundg (13*dD n (cB a pre)+(n- (u+1)))
    case measure=>rw[P.out];omega
    case rel=>
     obtain⟨m,rfl⟩:=U.out.out;refine⟨pre,u+1,by go_num,by omega,⟨aS.out () pre wr _ y.out (tn U.out _)⟩,h,z,D,⟨fun x O=>?_⟩,F,⟨rfl⟩,G⟩;by_cases e:x=u
     ·rw[e];exact T.out
     ·exact E.out x (by omega)
   |true=>
    rw[o] at q;have V:=mi _ _ o;have r:=mh Q V;have Z:=AI mi Q o E.out;have H:=Lib.hid r;have a5:=Lib.hid Z;have T:=Lib.hid o;clear o V r Z;have HG:Aside0 (∀w1,az wr w1->w1.cell? ⟨b,0,none⟩=some (.pointer (some ⟨g,0,none⟩))∧w1.cell? ⟨g,146+u,none⟩=some (.bool (cB a pre u))∧w1.frozen? ⟨g,146+u,none⟩=false∧
      ct (w1.setCell ⟨g,146+u,none⟩ (.bool true)) g n times (.slice A l.length c) (cB a (pre++[u]))∧(w1.setCell ⟨g,146+u,none⟩ (.bool true)).heap[b]? =some (.cells #[.pointer (some ⟨g,0,none⟩)] 245 (0,0))∧
      Kd.R (Kd.int .i64) 3 (w1.setCell ⟨g,146+u,none⟩ (.bool true)) base (fun k=>some k=(Value.slice A l.length c).ownBlock) (.slice A l.length c) l∧wr.grownBy (w1.setCell ⟨g,146+u,none⟩ (.bool true)) (some g)):=by
     refine⟨fun w1 p=>?_⟩;obtain⟨m,rfl⟩:=p.out;refine⟨a3,h.out.lq u (by omega),h.out.frozen _,?_,?_,?_,AK (tn p _)⟩
     ·rw[nK];exact(h.out.drewN m).tj u (by omega) true
     ·exact aC (w:=wr.drewN m) z.out aF _
     ·exact(h.out.drewN m).eK (Kd.ba D.out m) (by decide) (146+u) (.bool true)
    gi_wp2_with (refine⟨trivial,?_⟩;gi_at_call 226;refine(callsIn_wide.2 q.out).mono ?_;rintro e w1 ⟨rfl,p⟩;obtain⟨q1,q2,q3,ag,ak,am,I⟩:=HG.out w1 p;have be:=Aside0.mk ag;have bf:=Aside0.mk ak;have bg:=Aside0.mk am;have b_:=Aside0.mk I;obtain⟨fn,tmps,b',ca,hy,ap⟩:=hY.out () pre u wr _ y.out I (by have:=G.out;have:=H.out;have:=tl n a;omega);have bi:=Aside0.mk ap;clear p ag ak am I ap)
    refine bi.out.mono ?_;rintro e W3 (⟨rfl,ar,s⟩|⟨rfl,av⟩)
    ·have bk:=Aside0.mk (be.out.of_heap (s g (.inl rfl)))
     have bn:=Aside0.mk ((s b (.inr (.inl rfl))).trans bf.out);have bo:=Aside0.mk (Kd.eU bg.out (fun k hk=>s k (.inr (.inr hk))));have bv:=Aside0.mk ar;clear ar s hy q1 q2 q3;gi_wp2;gi_roundg (13*dD n (cB a (pre++[u]))+n)
     case measure=>rw[P.out,H.out,nK];omega
     case rel=>
      refine⟨pre++[u],0,rfl,by omega,bv,bk,bn,bo,⟨fun x O=>by omega⟩,⟨?_⟩,⟨rfl⟩,⟨by have:=G.out;have:=H.out;rw[nK];simp;omega⟩⟩;rw[F.out,a5.out,nK];simp
    ·clear hy q1 q2 q3
     have bx:=Aside0.mk av;clear av;gi_wp2;refine bodyPost_ret (results_none rfl _ _ _) rfl ?_;exact⟨⟨_,rfl⟩,.inr ⟨(),pre++[u],trivial,bx.out⟩⟩
  ·have r:u=n:=by omega
   subst r;gi_wp2;go_end0;exact⟨⟨_,rfl⟩,.inl ⟨(),pre,⟨by rw[F.out,AH E.out];simp,h.out⟩,y.out⟩⟩
end
section
section
variable {F:Fence} {n:Nat} {P:Program} {ops:Array Oper} {rest:List Oper} {o:Oper} {a:Act} {Q:Exit->Act->World->Prop} {α:Type}
theorem nL (d:Kd α) {w0 W:World} (base:Nat) (y:o.guard=none) (s x:Operand) (t e:TypeId) (z:Value) (bytes:Nat)
  (j:o.op= .call {callee:=.builtin .append,args:=#[s,x],argTypes:=#[t,t]})
  (B:P.underlying t=some (.slice e)) (C:(P.info? e).map (fun i=>(i.zero,i.size,i.bytes))=some (some z,d.sz,bytes)) (D:z.cells.size=d.sz) (E:0<d.sz) (G:0<bytes)
  (v:Value) (xs:List α) (p:α) (cs:List Value) (ok okp:Nat->Prop) (H:a.eval s=v) (I:a.eval x= .slice (some ⟨W.heap.size,0,none⟩) 1 1) (hp:d.M W base okp p cs) (J:∀k,okp k->ok k∧some k≠v.ownBlock) (L:∀k,W.heap.size<=k->ok k)
  (N:d.R e W base ok v xs) (O:Below base w0 W) (S:base<=W.heap.size) (l:(xs.length+1)*bytes<=140737488355328)
  (h:∀v1 w1,d.R e w1 base ok v1 (xs++[p])->Below base w0 w1->W.grownBy w1 v.ownBlock->(v1.ownBlock=v.ownBlock∨∃b,v1.ownBlock=some b∧W.heap.size<=b)->wpListIn F n P ops Q rest (a.put o.dst v1) w1):
  wpListIn F n P ops Q (o::rest) a (W.alloc (.cells cs.toArray e)):=by
 obtain⟨T,inner,m,U⟩:=N;have V:cs.length=d.sz:=d.dJ (d.cL hp);have h1:=d.dS (d.cL hp);obtain⟨i0,hi,q⟩:=Option.map_eq_some_iff.1 C;simp only[Prod.mk.injEq] at q;obtain⟨X,Y,Z⟩:=q;have hlen:xs.length+1<=140737488355328:=Nat.le_trans (Nat.le_mul_of_pos_right _ G) l;refine wpListIn_plain y fun K aa=>?_
 obtain⟨v1,w1,ab,ad,r,_,g⟩:=run_append_own_at (P:=P) (W.alloc (.cells cs.toArray e)) base t o.type e i0 z d.sz bytes B hi X Y Z D E v xs.length inner (m.alloc _) ⟨W.heap.size,0,none⟩ 1 1 cs (by rw[V];simp)
  (by simpa using World.news_of_block (cs:=cs.toArray) (t:=e) (fr:=(0,0)) (heap_alloc_new W (.cells cs.toArray e))) h1 (by simp only[maxLen];omega) l (by simp;omega)
 have u:W.grownBy w1 v.ownBlock:=World.grownBy.trans (World.grownBy_alloc W _ _) r;have w:v1.ownBlock=v.ownBlock∨∃b,v1.ownBlock=some b∧W.heap.size<=b:=by
  rcases g with g|g
  ·exact .inl g
  ·exact .inr ⟨_,g,by simp⟩
 unfold Oper.wpIn;refine⟨?_,?_⟩
 ·simp[Oper.about,j,resolve,Target.leads,Sem.run_pure]
 ·rw[Oper.semAt_plain F _ _ (by rw[j];intro c ag;cases ag)]
  simp[execOp,j,resolve,invoke,builtin,H,I,ab,Result.andThen];exact aa _ _ (h v1 w1 (Kd.oN T U hp J L ad u w) ((O.alloc S _).grown r (by simp;omega) (jv m)) u w)
end
theorem nM {α:Type} {d:Kd α} {e base nw:Nat} {ok:Nat->Prop} {v:Value} {xs:List α} {W w1:World} (g:d.R e W base ok v xs) (h:W.grownBy w1 v.ownBlock):bX nw W w1:=fun k o h1 j b i=>by
 refine(h.block k (Array.getElem?_eq_some_iff.1 b).1 (fun e=>?_)).trans b;obtain⟨cells,a⟩:=Kd.fS g k e.symm;rw[b] at a;injection a with a;subst a;simp[Obj.isCells] at i
theorem fa {nw bo j:Nat} (W:World) (v:Value) (h:bo<nw):bX nw W (W.setCell ⟨bo,j,none⟩ v):=fun k o h1 b a e=>by
 rw[Below.heap_setCell _ _ _ _ (by simp;omega)];exact a
theorem cN {nw:Nat} {W w1:World} (h:Below W.heap.size W w1):bX nw W w1:=fun k o h1 b a e=>(h.block k (Array.getElem?_eq_some_iff.1 a).1).trans a
theorem db {α:Type} {d:Kd α} {e base l:Nat} {ok:Nat->Prop} {v:Value} {xs:List α} {A B:World} (h:d.R e A base ok v xs) (hb:Bk l A B):d.R e B base ok v xs:=
 Kd.aV (Kd.eU (Kd.eC h) (fun k hk=>by obtain⟨_,_,_,q,_,cells,a⟩:=hk;exact(hb.cells a).trans a.symm)) (fun k hk=>hk.1)
theorem tp (A:Option Addr) (m a c:Nat):(Value.slice A m c).ownBlock=(Value.slice A a c).ownBlock:=by cases A<;>rfl
theorem iK {F:Fence} {n:Nat} {P:Program} {fn:Func} {R:Ending->World->Prop} {a:Act} {w:World} {D:Nat} {v:Value} (hd:a.defers=[{target:=.collected D,args:=#[]}]) (b:w.heap[D]? =some (.deferred (some [])))
  (e:(results fn a.tmps).run P (w.putObj D (.deferred none))= .ok v (w.putObj D (.deferred none))) (g:R (.returned v) (w.putObj D (.deferred none))):bodyPostM F n P fn R .ret a w:=by
 show LeavesInM F n P fn a.tmps R a.defers .returning w
 rw[hd];exact⟨by simp,.inl ⟨_,_,rfl,run_takeDeferred b,⟨_,e,g⟩⟩⟩
theorem AM {F:Fence} {n:Nat} {P:Program} {c:Code} {K:Act->World->Prop} {Q:Exit->Act->World->Prop} {a:Act} {w:World} (h:c.wpIn F n P (Exit.then K (fun _ _ _=>False)) a w):c.wpIn F n P (Exit.then K Q) a w:=
 wpIn_mono h (fun e a w h=>by cases e<;>first|exact h|exact h.elim)
end
section
attribute [local go_sem] Oper.semAt_some
theorem tq (N:Int) (A0:Option Addr) (c0:Nat) (E:List S83) (w:World):Calls Tryz.prog 85 #[.agg #[.int .i64 N,.slice A0 E.length c0]] w fun e w'=>e= .returned (.func (.func 140) #[] #[.pointer (some ⟨w.heap.size,0,none⟩)])∧w'=w.alloc (.cells #[.int .i64 N,.slice A0 E.length c0] 24):=by
 go_enter Tryz.func85,Tryz.ntmps85
 go_wp2;go_ret;exact⟨rfl,rfl⟩
def fI (s:Nat) (a b:Int):Nat->List (Nat×Int×Int)
 |0=>[]
 |j+1=>fI s a b j++[(s+j,a,b)]
def bT (E:List S83):Nat->List (Nat×Int×Int)
 |0=>[]
 |k+1=>bT E k++fI (cA E k) (ai E k).f0 (ai E k).f1 (ai E k).f2.toNat
theorem pT (s:Nat) (a b:Int):∀j,(fI s a b j).length=j
 |0=>rfl
 |j+1=>by simp[fI,pT s a b j]
theorem nN (E:List S83):∀k,(bT E k).length=cA E k
 |0=>rfl
 |k+1=>by simp[bT,cA,nN E k,pT]
def pU (base:Nat) (X Y:World):Prop:=(base<=X.heap.size->Below base X Y)∧∀(k:Nat) (cs:Array Value) (t:TypeId),(t=24∨t=83)->X.heap[k]? =some (Obj.cells cs t (0,0))->Y.heap[k]? =some (Obj.cells cs t (0,0))
theorem tr (s:Nat) (a b:Int) (j:Nat):∀m,j<m->(s+j,a,b)∈fI s a b m
 |0,h=>by omega
 |m+1,h=>by
  by_cases e:j=m
  ·subst e;exact List.mem_append.2 (.inr (List.mem_singleton.2 rfl))
  ·exact List.mem_append.2 (.inl (tr s a b j m (by omega)))
theorem tt (E:List S83):∀(m k:Nat),∀x∈bT E k,x∈bT E (k+m)
 |0,k,x,a=>a
 |m+1,k,x,a=>List.mem_append.2 (.inl (tt E m k x a))
theorem tu (s:Nat) (a b:Int):∀m,∀x∈fI s a b m,x.2.1=a∧x.2.2=b
 |0,x,e=>by cases e
 |m+1,x,e=>by
  rcases List.mem_append.1 e with e|e
  ·exact tu s a b m x e
  ·obtain rfl:=List.mem_singleton.1 e;exact⟨rfl,rfl⟩
theorem pV (E:List S83):∀k,k<=E.length->∀x∈bT E k,∃e∈E,x.2.1=e.f0∧x.2.2=e.f1
 |0,_,x,a=>by cases a
 |k+1,hk,x,a=>by
  rcases List.mem_append.1 a with a|a
  ·exact pV E k (by omega) x a
  ·have h:=tu _ _ _ _ x a
   have e:ai E k=E[k]:=by simp[ai,List.getD_eq_getElem?_getD,List.getElem?_eq_getElem (show k<E.length by omega)]
   exact⟨ai E k,by rw[e];exact List.getElem_mem _,h.1,h.2⟩
theorem tw (g:Nat) (N:Int) (A0:Option Addr) (c0:Nat) (E:List S83) (w0 W:World) (am:Kd.C aK w0 A0 E.length E) (O:eF E=true) (hB:Below w0.heap.size w0 W)
  (v:W.heap[g]? =some (.cells #[.int .i64 N,.slice A0 E.length c0] 24 (0,0))):
  iJ (σ:=Unit) Fence.wide 9 Tryz.prog 140 #[.pointer (some ⟨g,0,none⟩)] (fun x:Nat×Int×Int=>#[.int .i64 x.1,.agg #[.int .i64 x.2.1,.int .i64 x.2.2]]) (fun _ W W1=>W1=W) (fun _ A B=>Below A.heap.size A B) (fun _ x A B=>x∈bT E E.length∧Below A.heap.size A B)
   (fun _ X Y=>pU w0.heap.size X Y)
   (fun _ xs W'=>xs=bT E E.length) (fun _ _ _=>True) (fun pre=>pre.length<2000) W:=by
 intro lp J Jx P Q R S;have ap:=Aside0.mk P;have bn:=Aside0.mk Q;have hY:=Aside0.mk S;have av:=R () W rfl;clear P Q R S;have hu:=Tryz.underlying24;have bo:=Tryz.underlying83;obtain⟨hlen,hm⟩:=pQ O;have aQ:=fun i hi=>nH hm i hi
 have HM:=Aside0.mk hm;have HS:=Aside0.mk aQ;clear hm aQ O;refine callsIn_of_wp Tryz.func140 rfl trivial ?_ rfl;simp only[Tryz.ntmps140,List.size_toArray,List.length_cons,List.length_nil,Nat.reduceAdd,Nat.reduceSub,Array.replicate_succ,Array.replicate_zero,List.push_toArray,List.append_toArray,List.nil_append,List.cons_append];have bv:W.cell? ⟨g,1,none⟩=some (.slice A0 E.length c0):=(ao v 1).trans rfl;have aL:=Aside0.mk v;clear v;gi_wp2;gi_loopg [3,9] (E.length) (fun w s i wr=>∃k:Nat,i= .int .i64 k∧s= .int .i64 (cA E k:Nat)∧k<=E.length∧Aside0 (J () (bT E k) wr)∧Aside0 (wr.heap[g]? =some (.cells #[.int .i64 N,.slice A0 E.length c0] 24 (0,0)))∧Aside0 (Below w0.heap.size w0 wr)∧Aside0 (w=E.length-k))
 case atStart=>exact⟨0,rfl,rfl,Nat.zero_le _,⟨av⟩,aL,⟨hB⟩,⟨rfl⟩⟩
 case round=>
  obtain⟨k,rfl,rfl,hk,T,HX,p,HK⟩:=hrel;by_cases aS:k<E.length
  ·have y:=HM.out k aS
   have z:=Lib.hid (show cA E (k+1)=cA E k+(ai E k).f2.toNat from rfl);have D:=Lib.hid (show bT E (k+1)=bT E k++fI (cA E k) (ai E k).f0 (ai E k).f1 (ai E k).f2.toNat from rfl);have a0:=HS.out (k+1) (by omega);have F:=z.out;obtain⟨ad,rfl,l,n,o⟩:=eo am k (by omega) (by omega);rw[Int.toNat_natCast] at l n o;generalize ai E k=x at y l n o z D F;obtain⟨a,b,m⟩:=x;simp only at y l n o;obtain⟨m,rfl⟩:=Int.eq_ofNat_of_zero_le (show 0<=m by omega);simp only[Int.toNat_natCast] at F;have bw:cA E k+m<=2000:=by omega
   have b0:m<=50:=by omega
   have b1:(0:Int)<=(k:Int):=by omega
   have b2:(k:Int)<(E.length:Int):=by omega
   have l:=gU p.out l;have n:=gU p.out n;have o:=gU p.out o;have G:=Aside0.mk (ap.out () _ _ _ T.out (aq (Below.refl wr.heap.size wr) (.cells #[.int .i64 a,.int .i64 b,.int .i64 m] 83)));have H:=Aside0.mk (aw HX.out (.cells #[.int .i64 a,.int .i64 b,.int .i64 m] 83));have I:=Aside0.mk (aq p.out (.cells #[.int .i64 a,.int .i64 b,.int .i64 m] 83));have q:=Aside0.mk (show (wr.alloc (.cells #[.int .i64 a,.int .i64 b,.int .i64 m] 83)).heap[wr.heap.size]? =some (.cells #[.int .i64 a,.int .i64 b,.int .i64 m] 83 (0,0)) from heap_alloc_new _ _);clear F a0 y;gi_wp2;clear l n o;generalize (wr.alloc (.cells #[.int .i64 a,.int .i64 b,.int .i64 m] 83))=W1 at G H I q⊢;generalize wr.heap.size=r at q⊢;gi_loopg [3,15] (m) (fun w s i wi=>∃j:Nat,i= .int .i64 j∧s= .int .i64 (cA E k+j:Nat)∧j<=m∧Aside0 (J () (bT E k++fI (cA E k) a b j) wi)∧Aside0 (wi.heap[g]? =some (.cells #[.int .i64 N,.slice (some ad) E.length c0] 24 (0,0)))∧Aside0 (wi.heap[r]? =some (.cells #[.int .i64 a,.int .i64 b,.int .i64 m] 83 (0,0)))∧Aside0 (Below w0.heap.size w0 wi)∧Aside0 (w=m-j))
   case atStart=>exact⟨0,rfl,rfl,Nat.zero_le _,⟨by simpa [fI] using G.out⟩,H,q,I,⟨rfl⟩⟩
   case round=>
    clear G H I q;obtain⟨j,rfl,rfl,hj,U,V,K,L,a1⟩:=hrel;by_cases a2:j<m
    ·have a3:=nN E k
     have a4:=pT (cA E k) a b j;obtain⟨fn,tmps,b4,b5,M,Z⟩:=hY.out () (bT E k++fI (cA E k) a b j) (cA E k+j,a,b) wr wr U.out ⟨by have h:=tt E (E.length- (k+1)) (k+1) (cA E k+j,a,b) (by rw[D.out];exact List.mem_append.2 (.inr (tr _ _ _ j _ (by rw[Int.toNat_natCast];exact a2))));rw[show k+1+(E.length- (k+1))=E.length by omega] at h;exact h,Below.refl _ _⟩ (by rw[List.length_append];omega);have a5:=Aside0.mk Z;simp only[Int.natCast_add] at M;have aa:wr.cell? ⟨r,0,none⟩=some (.int .i64 a):=(ao K.out 0).trans rfl;have ab:wr.cell? ⟨r,1,none⟩=some (.int .i64 b):=(ao K.out 1).trans rfl;clear Z a3 a4;gi_wp2;refine a5.out.mono ?_;rintro e W3 (⟨rfl,ag,u⟩|⟨rfl,ak⟩)
     ·have a9:=Aside0.mk ag
      have be:=Aside0.mk (u.2 g _ _ (.inl rfl) V.out);have bf:=Aside0.mk (u.2 r _ _ (.inr rfl) K.out);have bg:=Aside0.mk (L.out.trans (u.1 L.out.size));clear ag u M aa ab;gi_wp2;gi_roundg (m- (j+1))
      case measure=>rw[a1.out];omega
      case rel=>exact⟨j+1,by go_num,by go_num,by omega,⟨by simpa [fI] using a9.out⟩,be,bf,bg,⟨rfl⟩⟩
     ·have bi:=Aside0.mk ak
      clear ak M aa ab;gi_wp2;refine bodyPost_ret (results_none rfl _ _ _) rfl ?_;exact⟨⟨_,rfl⟩,.inr ⟨(),_,trivial,bi.out⟩⟩
    ·obtain rfl:j=m:=by omega
     gi_wp2;gi_roundg (E.length- (k+1))
     case measure=>rw[HK.out];omega
     case rel=>exact⟨k+1,by go_num,by rw[z.out,Int.toNat_natCast],by omega,⟨by rw[D.out,Int.toNat_natCast];exact U.out⟩,V,L,⟨rfl⟩⟩
  ·obtain rfl:k=E.length:=by omega
   gi_wp2;go_end0;exact⟨⟨_,rfl⟩,.inl ⟨(),_,rfl,T.out⟩⟩
theorem AN (b:Nat) (N:Int) (A0:Option Addr) (c0:Nat) (E:List S83) (w0 W:World) (g:Kd.C aK w0 A0 E.length E) (h:eF E=true) (i:Below w0.heap.size w0 W)
  (j:W.heap[b]? =some (.cells #[.int .i64 N,.slice A0 E.length c0] 24 (0,0))):
  iJ (σ:=Unit) Fence.wide 9 Tryz.prog 140 #[.pointer (some ⟨b,0,none⟩)] (fun x:Nat×Int×Int=>#[.int .i64 x.1,.agg #[.int .i64 x.2.1,.int .i64 x.2.2]]) (fun _ W W1=>W1=W) (fun _ A B=>Below A.heap.size A B) (fun _ _ A B=>Below A.heap.size A B)
   (fun _ X Y=>pU w0.heap.size X Y)
   (fun _ xs W'=>xs=bT E E.length) (fun _ _ _=>True) (fun pre=>pre.length<2000) W:=fun k J Jx l m n o=>tw b N A0 c0 E w0 W g h i j k J Jx (fun s pre A B a e=>l s pre A B a e) (fun s pre A B a e=>m s pre A B a e) n (fun s pre x p W1 a q r=>o s pre x p W1 a q.2 r)
end
theorem tx (w:World) (ok:Nat->Prop) (a:ok w.heap.size) (e:Nat):(Kd.int .i64).R e (w.alloc (.cells #[] e)) w.heap.size ok (.slice (some ⟨w.heap.size,0,none⟩) 0 0) []:=
 ⟨fun k hk=>by
  have:w.heap.size=k:=by simpa [Value.ownBlock] using hk
  subst this;exact a,[],by
  show World.ownsRow _ _ _ 1 _ _ _
  simpa using World.ownsRow_lit (base:=w.heap.size) (e:=e) (size:=1) w #[] 0 (Nat.le_refl _) (by decide) rfl,aM.none _ _⟩
theorem tz {l:List Int} {w:World} (h:Kd.C (Kd.int .i64) w none l.length l):l=[]:=by
 cases l with
 |nil=>rfl
 |cons x xs=>obtain⟨ad,e,_⟩:=h.2.2 (by simp);cases e
def clone.f (l0:List Int):Option (List Int):=if l0.length<17592186044416 then some l0 else none
abbrev fw.f (l0:List Int):Option (List Int):=clone.f l0
abbrev mj.f (l0:List Int):Option (List Int):=clone.f l0
theorem fw.calls (A0:Option Addr) (c0:Nat) (l0:List Int) (r:List Int) (w:World) (b:Kd.C (Kd.int .i64) w A0 l0.length l0) (j:l0.length<=c0) (h:fw.f l0=some r):
  Calls Tryz.prog 57 #[.slice A0 l0.length c0] w fun e w'=>∃g:Value,e= .returned (g)∧Kd.R (Kd.int .i64) 3 w' w.heap.size (fun _=>True) g r∧Below w.heap.size w w':=by
 have hu:=Tryz.underlying26;have k:=fun (w:World) (a:Option Addr) (n c:Nat)=>Lib.run_eql_slice_nil (P:=Tryz.prog) w 26 3 a n c 0 0 hu
 unfold fw.f clone.f at h;split at h
 ·rename_i l
  obtain rfl:=Option.some.inj h;cases A0 with
  |none=>
   go_enter Tryz.func57,Tryz.ntmps57
   go_wp2;go_ret;obtain rfl:=tz b;exact⟨_,rfl,Kd.cV _ _ _ _ _,Below.refl _ _⟩
  |some ad=>
   go_enter Tryz.func57,Tryz.ntmps57
   go_wp2_with (at_builtin;refine Kd.rH (w0:=w) (Value.int .i64) (0:Int) (h1:=fun _=>rfl) w.heap.size rfl (.tmp 5) (.tmp 6) 26 3 (.int .i64 0) 8 rfl Tryz.underlying26 fY rfl (by decide) (.slice (some ⟨w.heap.size,0,none⟩) 0 0) [] l0 (some ad) l0.length c0 (fun _=>True) rfl rfl (fun _ _=>trivial) (tx w _ trivial 3) (Kd.al b (aq (Below.refl _ _) _)) (aq (Below.refl _ _) _) (by simp) (by simp;omega) ?_;intro v1 w1 i hb m _)
   go_ret;exact⟨_,rfl,i,hb⟩
 ·cases h
theorem mj.calls (A0:Option Addr) (c0:Nat) (l0:List Int) (r:List Int) (w:World) (b:Kd.C (Kd.int .i64) w A0 l0.length l0) (j:l0.length<=c0) (h:mj.f l0=some r):
  Calls Tryz.prog 217 #[.slice A0 l0.length c0] w fun e w'=>∃g:Value,e= .returned (g)∧Kd.R (Kd.int .i64) 3 w' w.heap.size (fun _=>True) g r∧Below w.heap.size w w':=by
 have hu:=Tryz.underlying25;have k:=fun (w:World) (a:Option Addr) (n c:Nat)=>Lib.run_eql_slice_nil (P:=Tryz.prog) w 25 3 a n c 0 0 hu
 unfold mj.f clone.f at h;split at h
 ·rename_i l
  obtain rfl:=Option.some.inj h;cases A0 with
  |none=>
   go_enter Tryz.func217,Tryz.ntmps217
   go_wp2;go_ret;obtain rfl:=tz b;exact⟨_,rfl,Kd.cV _ _ _ _ _,Below.refl _ _⟩
  |some ad=>
   go_enter Tryz.func217,Tryz.ntmps217
   go_wp2_with (at_builtin;refine Kd.rH (w0:=w) (Value.int .i64) (0:Int) (h1:=fun _=>rfl) w.heap.size rfl (.tmp 5) (.tmp 6) 25 3 (.int .i64 0) 8 rfl Tryz.underlying25 fY rfl (by decide) (.slice (some ⟨w.heap.size,0,none⟩) 0 0) [] l0 (some ad) l0.length c0 (fun _=>True) rfl rfl (fun _ _=>trivial) (tx w _ trivial 3) (Kd.al b (aq (Below.refl _ _) _)) (aq (Below.refl _ _) _) (by simp) (by simp;omega) ?_;intro v1 w1 i hb m _)
   go_ret;exact⟨_,rfl,i,hb⟩
 ·cases h
theorem pW:Tryz.zeroCells252=((List.replicate 145 (Value.int .i64 0))++[Value.slice none 0 0]++List.replicate 12 (Value.bool false)).toArray:=by kernel_rfl
theorem nI.new (n:Int) (chips:Value):nI ((Tryz.zeroCells252.setIfInBounds 0 (.int .i64 n)).setIfInBounds 145 chips) n (fun _ _=>0) chips (fun _=>false):=by
 have a:Tryz.zeroCells252.size=158:=by rw[pW];simp
 refine⟨by simp[a],?_,?_,?_,?_⟩
 ·rw[Array.getElem?_setIfInBounds_ne (by omega),Array.getElem?_setIfInBounds_self_of_lt (by omega)]
 ·intro i j hi b
  rw[Array.getElem?_setIfInBounds_ne (by omega),Array.getElem?_setIfInBounds_ne (by omega),pW];rw[List.getElem?_toArray,List.getElem?_append_left (by simp;omega),List.getElem?_append_left (by simp;omega),List.getElem?_replicate,if_pos (by omega)]
 ·rw[Array.getElem?_setIfInBounds_self_of_lt (by simp[a])]
 ·intro i hi
  rw[Array.getElem?_setIfInBounds_ne (by omega),Array.getElem?_setIfInBounds_ne (by omega),pW];rw[List.getElem?_toArray,List.getElem?_append_right (by simp),List.getElem?_replicate,if_pos (by simp;omega)]
theorem AO (n q:Nat) (A0:Option Addr) (c0:Nat) (E:List S83) (L:Option Addr) (c2:Nat) (l:List Int) (w:World) (T:Kd.C aK w A0 E.length E) (a0:E.length<=c0) (am:Kd.C (Kd.int .i64) w L l.length l) (an:l.length<=c2) (hn:n<=12) (hq:q<n) (hE:dV n E) (a2:l.length<=n) (a3:n<=l.length):
  Calls Tryz.prog 220 #[.agg #[.int .i64 n,.slice A0 E.length c0],.int .i64 q,.slice L l.length c2] w (fun e w'=>∃g h o,e= .returned (.pointer (some ⟨g,0,none⟩))∧ct w' g n (aj E) (.slice h l.length o) (fun i=>if i=q then true else false)∧Kd.R (Kd.int .i64) 3 w' w.heap.size (fun _=>True) (.slice h l.length o) l∧Below w.heap.size w w'∧w.heap.size<=g):=by
 have hu:=Tryz.underlying24;go_enter Tryz.func220,Tryz.ntmps220
 go_wp2_with fail
 go_region_held3 (fun w'=>w'.cell? ⟨w.heap.size,0,none⟩=some (.int .i64 n)∧w'.cell? ⟨w.heap.size,1,none⟩=some (.slice A0 E.length c0)) (first|go_keep|(go_split_ands;exact⟨(G.cell (p:=⟨w.heap.size,0,none⟩) (by simp)).trans (by go_simp),(G.cell (p:=⟨w.heap.size,1,none⟩) (by simp)).trans (by go_simp)⟩))
  (first|(go_at_call 57;refine(fw.calls L c2 l l _ (Kd.al am (gF (aq (Below.refl _ _) _))) an (by unfold fw.f clone.f;rw[if_pos (by omega)])).mono ?_;rintro e w1 ⟨v0,rfl,M,G⟩;obtain⟨h,o,rfl⟩:=Kd.aZ M))
 rename_i hHeld;have N:ct (w1.alloc (.cells ((Tryz.zeroCells252.setIfInBounds 0 (.int .i64 n)).setIfInBounds 145 (.slice h l.length o)) 252)) w1.heap.size n (fun _ _=>0) (.slice h l.length o) (fun _=>false):=⟨_,by simpa using heap_alloc_new w1 _,nI.new _ _⟩;have U:Below w.heap.size w (w1.alloc (.cells ((Tryz.zeroCells252.setIfInBounds 0 (.int .i64 n)).setIfInBounds 145 (.slice h l.length o)) 252)):=aq (kA (gF (aq (Below.refl _ _) _)) (by simp) G) _;have V:Kd.R (Kd.int .i64) 3 (w1.alloc (.cells ((Tryz.zeroCells252.setIfInBounds 0 (.int .i64 n)).setIfInBounds 145 (.slice h l.length o)) 252)) w.heap.size (fun _=>True) (.slice h l.length o) l:=Kd.aW (Kd.aI M _) (by simp);have hg:w.heap.size<w1.heap.size:=by have:=G.size;simp at this;omega
 clear G M;generalize av:w1.heap.size=g at N hg⊢;generalize (w1.alloc (.cells ((Tryz.zeroCells252.setIfInBounds 0 (.int .i64 n)).setIfInBounds 145 (.slice h l.length o)) 252))=W0 at N hHeld U V⊢;clear av;obtain⟨a4,a5⟩:=hHeld;go_wp2;go_loopw [19] (fun u wr=>∃k:Nat,k<=E.length∧u= .int .i64 k∧Aside0 (ct wr g n (aj (E.take k)) (.slice h l.length o) (fun _=>false))∧Aside0 (Kd.R (Kd.int .i64) 3 wr w.heap.size (fun _=>True) (.slice h l.length o) l)∧Aside0 (Below w.heap.size w wr)) (fun u _=>E.length- (intOf u).toNat)
 case atStart=>exact⟨0,Nat.zero_le _,rfl,⟨by simpa [aj] using N⟩,⟨V⟩,⟨U⟩⟩
 case round=>
  obtain⟨k,hk,rfl,y,O,z⟩:=hrel;have a9:=T.2.1;by_cases W:k<E.length
  ·obtain⟨P,X,e2,Y,Z,e5⟩:=hE.get k W
   have ab:=sI E k W;have Q:=Lib.hid ab;clear ab;obtain⟨ad,rfl,B,D,F⟩:=eo T k (by omega) (by omega);rw[Int.toNat_natCast] at B D F;replace B:=(z.out.cell (World.block_lt_of_cell? w _ B)).trans B;replace D:=(z.out.cell (World.block_lt_of_cell? w _ D)).trans D;replace F:=(z.out.cell (World.block_lt_of_cell? w _ F)).trans F;generalize ai E k=x at P X e2 Y Z e5 B D F Q;obtain⟨a,b,m⟩:=x;simp only at P X e2 Y Z e5 B D F;obtain⟨a,rfl⟩:=Int.eq_ofNat_of_zero_le P;obtain⟨b,rfl⟩:=Int.eq_ofNat_of_zero_le e2;have a12:a<12:=by omega
   have s:b<12:=by omega
   by_cases H:a=b
   ·have aB:((a:Int) != (b:Int))=false:=by rw[H];simp
    have S:=Lib.hid H;clear H;go_wp2;go_roundw
    case rel=>exact⟨k+1,by omega,by go_num,⟨by rw[Q.out];simp only[cH];rw[if_pos (by rw[S.out])];exact y.out.below (aq (Below.refl _ _) _)⟩,⟨Kd.aI O.out _⟩,⟨aq z.out _⟩⟩
    case measure=>simp[intOf];omega
   ·have aB:((a:Int) != (b:Int))=true:=by rw[bne_iff_ne];omega
    have be:1+a*12+b≠1+b*12+a:=by omega
    have bf:1+b*12+a≠1+a*12+b:=by omega
    have S:=Lib.hid H;clear H;have bg:=y.out.lt;have r:=Aside0.mk (y.out.below (aq (Below.refl _ _) (.cells #[.int .i64 a,.int .i64 b,.int .i64 m] 83)));have f1:=r.out.frozen (1+a*12+b);have f2:=r.out.frozen (1+b*12+a);have c1:=r.out.mf a b a12 s;have c2:=r.out.mf b a s a12;go_wp2;have s0:(wr.alloc (.cells #[.int .i64 a,.int .i64 b,.int .i64 m] 83)).cell? ⟨wr.heap.size,0,none⟩=some (.int .i64 a):=by go_simp
    have s1:(wr.alloc (.cells #[.int .i64 a,.int .i64 b,.int .i64 m] 83)).cell? ⟨wr.heap.size,1,none⟩=some (.int .i64 b):=by go_simp
    have s2:(wr.alloc (.cells #[.int .i64 a,.int .i64 b,.int .i64 m] 83)).cell? ⟨wr.heap.size,2,none⟩=some (.int .i64 m):=by go_simp
    have ag:=Aside0.mk (Kd.aI O.out (.cells #[.int .i64 a,.int .i64 b,.int .i64 m] 83));have ak:=Aside0.mk (aq z.out (.cells #[.int .i64 a,.int .i64 b,.int .i64 m] 83));have aF:g≠wr.heap.size:=by omega
    have aL:wr.heap.size≠g:=by omega
    generalize (wr.alloc (.cells #[.int .i64 a,.int .i64 b,.int .i64 m] 83))=W2 at s0 s1 s2 r ag ak f1 f2 c1 c2⊢;generalize wr.heap.size=eb at aF aL s0 s1 s2⊢;have d1:=(r.out.mg b a s a12 m).mf a b a12 s;have d2:=(r.out.mg a b a12 s m).mf b a s a12;go_region
    have I:=(r.out.mg a b a12 s m).mg b a s a12 m;have J:=(r.out.mg a b a12 s m).eK (r.out.eK ag.out (by decide) (1+a*12+b) (.int .i64 m)) (by decide) (1+b*12+a) (.int .i64 m);have K:=ec (ec ak.out (g:=g) (j:=1+a*12+b) (v:=.int .i64 m) (by omega)) (g:=g) (j:=1+b*12+a) (v:=.int .i64 m) (by omega);generalize ((W2.setCell ⟨g,1+a*12+b,none⟩ (.int .i64 m)).setCell ⟨g,1+b*12+a,none⟩ (.int .i64 m))=W3 at I J K⊢;replace I:=Aside0.mk I;replace J:=Aside0.mk J;replace K:=Aside0.mk K;go_wp2;go_roundw
    case rel=>exact⟨k+1,by omega,by go_num,⟨by rw[Q.out];simp only[cH];rw[if_neg (by have:=S.out;omega)];exact I.out.drew⟩,⟨Kd.a8 J.out⟩,⟨gF K.out⟩⟩
    case measure=>simp[intOf];omega
  ·obtain rfl:k=E.length:=by omega
   have fq:=y.out.frozen (146+q);have cq:=y.out.lq q (by omega);have aO:=Aside0.mk (y.out.tj q (by omega) true);have aP:=Aside0.mk (y.out.eK O.out (by decide) (146+q) (.bool true));have aS:=Aside0.mk (ec z.out (g:=g) (j:=146+q) (v:=.bool true) (by omega));go_wp2;go_ret;exact⟨g,h,o,rfl,by simpa using aO.out,aP.out,aS.out,by omega⟩
def ig.f (a0:Int):Option (Bool):=if a0>=(-1048576) then(some (decide (a0<=1048576))) else(some false)
theorem ig.calls (a0:Int) (r:Bool) (w:World) (h:ig.f a0=some r):
  Calls Tryz.prog 119 #[.int .i64 a0] w fun e w'=>e= .returned (.bool r)∧az w w':=by
 have H:(if a0>=(-1048576) then(some (decide (a0<=1048576))) else(some false))=some r:=h;clear h;by_cases c2:a0>=(-1048576)
 ·rw[if_pos c2] at H
  have a:=decide_eq_true c2;clear c2;obtain rfl:=Option.some.inj H;go_enter Tryz.func119,Tryz.ntmps119
  go_wp2;go_ret;exact⟨zT,by repeat(first|exact az.refl _|apply az.step)⟩
 ·rw[if_neg c2] at H
  have a:=decide_eq_false c2;clear c2;obtain rfl:=Option.some.inj H;go_enter Tryz.func119,Tryz.ntmps119
  go_wp2;go_ret;exact⟨zT,by repeat(first|exact az.refl _|apply az.step)⟩
def jf.f (a0:Int):Option (Int):=if a0<1 then(some 2) else(if a0>12 then(some 2) else(some 0))
theorem jf.calls (a0:Int) (r:Int) (w:World) (h:jf.f a0=some r):
  Calls Tryz.prog 141 #[.int .i64 a0] w fun e w'=>e= .returned (.int .i64 r)∧az w w':=by
 have H:(if a0<1 then(some 2) else(if a0>12 then(some 2) else(some 0)))=some r:=h;clear h;by_cases c2:a0<1
 ·rw[if_pos c2] at H
  have a:=decide_eq_true c2;clear c2;obtain rfl:=Option.some.inj H;go_enter Tryz.func141,Tryz.ntmps141
  go_wp2;go_ret;exact⟨zT,by repeat(first|exact az.refl _|apply az.step)⟩
 ·rw[if_neg c2] at H
  have a:=decide_eq_false c2;clear c2;by_cases c3:a0>12
  ·rw[if_pos c3] at H
   have b:=decide_eq_true c3;clear c3;obtain rfl:=Option.some.inj H;go_enter Tryz.func141,Tryz.ntmps141
   go_wp2;go_ret;exact⟨zT,by repeat(first|exact az.refl _|apply az.step)⟩
  ·rw[if_neg c3] at H
   have b:=decide_eq_false c3;clear c3;obtain rfl:=Option.some.inj H;go_enter Tryz.func141,Tryz.ntmps141
   go_wp2;go_ret;exact⟨zT,by repeat(first|exact az.refl _|apply az.step)⟩
def bc.l0:Nat->List Int->Int->Int->Option (Int)
 |0,_,_,_=>none
 |k+1,b,e,a=>if a<e then(if 0<=a then(if a<(b.length:Int) then((ig.f (rd b a)).bind fun t192=>(if t192=true then(bc.l0 k b e (wrap64 (a+1))) else(some 2))) else(none)) else(none)) else(some 0)
def bc.f (k:Nat) (l0:List Int) (a:Int):Option (Int):=(jf.f a).bind fun t190=>(if t190=0 then(if(l0.length:Int)=a then(bc.l0 k l0 (l0.length:Int) 0) else(some 8)) else(some t190))
theorem bc.bW:∀k,(∀a b e,ae (bc.l0 k a b e) (bc.l0 (k+1) a b e))
 |0=>fun _ _ _ r h=>by simp[bc.l0] at h
 |k+1=>by
  have g:=bc.bW k
  ·intro a b e
   unfold bc.l0;repeat' first
   |(with_reducible exact g _ _ _)
   |(with_reducible exact ae.refl _)
   |(with_reducible exact ae.none _)
   |(with_reducible refine ae.ite ?_ ?_)
   |(with_reducible refine ae.bind ?_ (fun _=>?_))
   |exact g _ _ _
   |exact ae.none _
   |refine ae.ite ?_ ?_
   |refine ae.bind ?_ (fun _=>?_)
theorem bc.mono:∀a0 a k,ae (bc.f k a0 a) (bc.f (k+1) a0 a):=by
 intro a0 a k;have b:=bc.bW k;unfold bc.f;repeat' first
   |(with_reducible exact b _ _ _)
   |(with_reducible exact ae.refl _)
   |(with_reducible exact ae.none _)
   |(with_reducible refine ae.ite ?_ ?_)
   |(with_reducible refine ae.bind ?_ (fun _=>?_))
   |exact b _ _ _
   |exact ae.none _
   |refine ae.ite ?_ ?_
   |refine ae.bind ?_ (fun _=>?_)
theorem bc.calls (k:Nat) (A0:Option Addr) (c0:Nat) (l0:List Int) (b:Int) (r:Int) (w:World) (x:Kd.C (Kd.int .i64) w A0 l0.length l0) (y:l0.length<=c0) (h:bc.f k l0 b=some r):
  Calls Tryz.prog 87 #[.slice A0 l0.length c0,.int .i64 b] w fun e w'=>e= .returned (.int .i64 r)∧az w w':=by
 have z:=Aside0.mk x;have P:=Aside0.mk y;clear x y;unfold bc.f at h;have H:=h;clear h;obtain⟨t190,s,H⟩:=zo H;by_cases c4:t190=0
 ·rw[if_pos c4] at H
  obtain⟨B,D⟩:=bt c4;clear c4;by_cases j:(l0.length:Int)=b
  ·rw[if_pos j] at H
   obtain⟨E,F⟩:=bt j;clear j;have m:=Aside0.mk H;clear H;go_enter Tryz.func87,Tryz.ntmps87
   go_wp2_with (first|((with_reducible refine ax (f:=141) rfl ?_);refine zL (some 9) Tryz.func141 #[.int .i64 b] ?_;(with_reducible refine(jf.calls b t190 _ s.out).mono ?_);rintro e w' ⟨rfl,⟨n,rfl⟩⟩;refine⟨_,rfl,?_⟩))
   go_loopg [19] k (fun G K w'=>∃(a:Int),K= .int .i64 a∧Aside0 (bc.l0 G l0 (l0.length:Int) a=some r)∧Aside0 (G<=k)∧az w w')
   case atStart=>exact⟨(0),zT,m,⟨Nat.le_refl _⟩,by repeat(first|exact az.refl _|apply az.step)⟩
   case round=>
    clear m;try clear c1
    try clear Q
    try clear c4
    try clear B
    try clear D
    try clear j
    try clear E
    try clear F
    obtain⟨a,rfl,u,I,⟨m1,rfl⟩⟩:=hrel;cases gk with
    |zero=>exact absurd u.out (by simp[bc.l0])
    |succ L=>
     have H:=u.out;clear u;simp only[bc.l0] at H;by_cases l:a<(l0.length:Int)
     ·rw[if_pos l] at H
      have M:=decide_eq_true l;clear l;by_cases o:0<=a
      ·rw[if_pos o] at H
       have R:=decide_eq_true o;clear o;by_cases p:a<(l0.length:Int)
       ·rw[if_pos p] at H
        have S:=decide_eq_true p;clear p;obtain⟨t192,J,H⟩:=zo H;by_cases q:t192=true
        ·subst q
         replace H:=zi H;have m:=Aside0.mk H;clear H;have g:0<=(a:Int):=of_decide_eq_true ‹_›;have i:a<(l0.length:Int):=of_decide_eq_true ‹_›;obtain⟨N,v,O⟩:=Kd.bG z.out a g i;cases v;replace g:=eq_true g;replace i:=eq_true i;go_wp2_with (first|((with_reducible refine ax (f:=119) rfl ?_);refine zL (some 24) Tryz.func119 #[.int .i64 (rd l0 a)] ?_;(with_reducible refine(ig.calls (rd l0 a) true _ J.out).mono ?_);rintro e w' ⟨rfl,⟨n,rfl⟩⟩;refine⟨_,rfl,?_⟩))
         go_roundg L
         case measure=>have:=I.out;omega
         case rel=>exact⟨(wrap64 (a+1)),zT,m,⟨by have:=I.out;omega⟩,by repeat(first|exact az.refl _|apply az.step)⟩
        ·replace q:=Bool.eq_false_iff.mpr q
         subst q;replace H:=zj H;obtain rfl:=Option.some.inj H;have g:0<=(a:Int):=of_decide_eq_true ‹_›;have i:a<(l0.length:Int):=of_decide_eq_true ‹_›;obtain⟨N,v,O⟩:=Kd.bG z.out a g i;cases v;replace g:=eq_true g;replace i:=eq_true i;go_wp2_with (first|((with_reducible refine ax (f:=119) rfl ?_);refine zL (some 24) Tryz.func119 #[.int .i64 (rd l0 a)] ?_;(with_reducible refine(ig.calls (rd l0 a) false _ J.out).mono ?_);rintro e w' ⟨rfl,⟨n,rfl⟩⟩;refine⟨_,rfl,?_⟩))
         go_ret;exact⟨zT,by repeat(first|exact az.refl _|apply az.step)⟩
       ·rw[if_neg p] at H
        exact absurd H (by simp)
      ·rw[if_neg o] at H
       exact absurd H (by simp)
     ·rw[if_neg l] at H
      have M:=decide_eq_false l;clear l;obtain rfl:=Option.some.inj H;go_wp2;go_ret;exact⟨zT,by repeat(first|exact az.refl _|apply az.step)⟩
  ·rw[if_neg j] at H
   obtain⟨E,F⟩:=bu j;obtain rfl:=Option.some.inj H;go_enter Tryz.func87,Tryz.ntmps87
   go_wp2_with (first|((with_reducible refine ax (f:=141) rfl ?_);refine zL (some 9) Tryz.func141 #[.int .i64 b] ?_;(with_reducible refine(jf.calls b t190 _ s.out).mono ?_);rintro e w' ⟨rfl,⟨n,rfl⟩⟩;refine⟨_,rfl,?_⟩))
   go_ret;exact⟨zT,by repeat(first|exact az.refl _|apply az.step)⟩
 ·rw[if_neg c4] at H
  obtain⟨B,D⟩:=bu c4;obtain rfl:=Option.some.inj H;go_enter Tryz.func87,Tryz.ntmps87
  go_wp2_with (first|((with_reducible refine ax (f:=141) rfl ?_);refine zL (some 9) Tryz.func141 #[.int .i64 b] ?_;(with_reducible refine(jf.calls b t190 _ s.out).mono ?_);rintro e w' ⟨rfl,⟨n,rfl⟩⟩;refine⟨_,rfl,?_⟩))
  go_ret;exact⟨zT,by repeat(first|exact az.refl _|apply az.step)⟩
def cJ.l0:Nat->Int->List Int->Int->Int->Option (Int)
 |0,_,_,_,_=>none
 |k+1,x1,b,e,a=>if a<e then(if 0<=a then(if a<(b.length:Int) then(if a=x1 then(cJ.l0 k x1 b e (wrap64 (a+1))) else(if(rd b a)<0 then(some 2) else(cJ.l0 k x1 b e (wrap64 (a+1))))) else(none)) else(none)) else(some 0)
def cJ.f (k:Nat) (a:Int) (h:List (S83)) (b:Int) (l2:List Int):Option (Int):=(cX.f k a h b).bind fun e=>(if e=0 then((bc.f k l2 a).bind fun g=>(if g=0 then(cJ.l0 k b l2 (l2.length:Int) 0) else(some g))) else(some e))
theorem cJ.bW:∀k,(∀a b e g,ae (cJ.l0 k a b e g) (cJ.l0 (k+1) a b e g))
 |0=>fun _ _ _ _ r h=>by simp[cJ.l0] at h
 |k+1=>by
  have i:=cJ.bW k
  ·intro a b e g
   unfold cJ.l0;repeat' first
   |(with_reducible exact i _ _ _ _)
   |(with_reducible exact bc.mono _ _ _)
   |(with_reducible exact cX.mono _ _ _ _)
   |(with_reducible exact ae.refl _)
   |(with_reducible exact ae.none _)
   |(with_reducible refine ae.ite ?_ ?_)
   |(with_reducible refine ae.bind ?_ (fun _=>?_))
   |exact i _ _ _ _
   |exact bc.mono _ _ _
   |exact cX.mono _ _ _ _
   |exact ae.none _
   |refine ae.ite ?_ ?_
   |refine ae.bind ?_ (fun _=>?_)
theorem cJ.mono:∀a0 a a2 a3 k,ae (cJ.f k a0 a a2 a3) (cJ.f (k+1) a0 a a2 a3):=by
 intro a0 a a2 a3 k;have b:=cJ.bW k;unfold cJ.f;repeat' first
   |(with_reducible exact b _ _ _ _)
   |(with_reducible exact bc.mono _ _ _)
   |(with_reducible exact cX.mono _ _ _ _)
   |(with_reducible exact ae.refl _)
   |(with_reducible exact ae.none _)
   |(with_reducible refine ae.ite ?_ ?_)
   |(with_reducible refine ae.bind ?_ (fun _=>?_))
   |exact b _ _ _ _
   |exact bc.mono _ _ _
   |exact cX.mono _ _ _ _
   |exact ae.none _
   |refine ae.ite ?_ ?_
   |refine ae.bind ?_ (fun _=>?_)
theorem cJ.calls (k:Nat) (i:Int) (q:Option Addr) (s:Nat) (j:List (S83)) (p:Int) (G:Option Addr) (c2:Nat) (l2:List Int) (r:Int) (w:World) (T:Kd.C aK w q j.length j) (U:j.length<=s) (V:Kd.C (Kd.int .i64) w G l2.length l2) (W:l2.length<=c2) (h:cJ.f k i j p l2=some r):
  Calls Tryz.prog 224 #[.agg #[.int .i64 i,.slice q j.length s],.int .i64 p,.slice G l2.length c2] w fun e w'=>e= .returned (.int .i64 r)∧Below w.heap.size w w':=by
 have a9:=Tryz.underlying24;have M:=Aside0.mk T;have O:=Aside0.mk U;clear T U;have D:=Aside0.mk V;have X:=Aside0.mk W;clear V W;have a:=Aside0.mk (Below.refl w.heap.size w);unfold cJ.f at h;have H:=h;clear h;obtain⟨I,P,H⟩:=zo H;by_cases v:I=0
 ·rw[if_pos v] at H
  obtain⟨Y,Z⟩:=bt v;clear v;obtain⟨Q,A6,H⟩:=zo H;by_cases x:Q=0
  ·rw[if_pos x] at H
   obtain⟨ab,ad⟩:=bt x;clear x;have y:=Aside0.mk H;clear H;go_enter Tryz.func224,Tryz.ntmps224
   go_wp2_with (first|((with_reducible refine aH (N:=3) rfl ?_);refine zX 3 #[.int .i64 i,.slice q j.length s] 24 ?_;intro R l w8 u hb;have g:=Aside0.mk (u);have ag:=zG a l;have ak:=zG a l;replace a:=zS a hb;clear hb u l;obtain⟨ar,av,aB,aF⟩:=au g)|((with_reducible refine ax (f:=211) rfl ?_);refine zL (some 13) Tryz.func211 #[.agg #[.int .i64 i,.slice q j.length s],.int .i64 p] ?_;(with_reducible refine(cX.calls k i _ _ j p I _ ?af ?ah P.out).mono ?_);(case af=>exact Kd.al M.out zB);(case ah=>exact O.out);rintro e bf ⟨rfl,hb⟩;refine⟨_,rfl,?_⟩;replace g:=zb g hb;replace a:=zS a hb;(try clear hb);obtain⟨aL,aO,aP,aS⟩:=au g)|((with_reducible refine ax (f:=87) rfl ?_);refine zL (some 20) Tryz.func87 #[.slice G l2.length c2,.int .i64 i] ?_;(with_reducible refine(bc.calls k _ _ l2 i Q _ ?af ?ah A6.out).mono ?_);(case af=>exact Kd.al D.out zB);(case ah=>exact X.out);rintro e w' ⟨rfl,⟨nd,rfl⟩⟩;refine⟨_,rfl,?_⟩))
   go_loopg [26] k (fun kq v26 w'=>∃(b:Int),v26= .int .i64 b∧Aside0 (cJ.l0 kq p l2 (l2.length:Int) b=some r)∧Aside0 (kq<=k)∧Aside0 (w'.heap[R]? =some (.cells #[.int .i64 i,(.slice q j.length s)] 24 (0,0)))∧Aside0 (Below w.heap.size w w'))
   case atStart=>exact⟨(0),zT,y,⟨Nat.le_refl _⟩,⟨zK g⟩,⟨zB⟩⟩
   case round=>
    clear y;try clear c2
    try clear p2
    try clear v
    try clear Y
    try clear Z
    try clear x
    try clear ab
    try clear ad
    try clear c8
    try clear aL
    try clear aO
    try clear ar
    try clear av
    try clear aP
    try clear aS
    try clear aB
    try clear aF
    obtain⟨b,rfl,S,J,g,a⟩:=hrel;cases gk with
    |zero=>exact absurd S.out (by simp[cJ.l0])
    |succ k1=>
     have H:=S.out;clear S;simp only[cJ.l0] at H;by_cases z:b<(l2.length:Int)
     ·rw[if_pos z] at H
      have a2:=decide_eq_true z;clear z;by_cases K:0<=b
      ·rw[if_pos K] at H
       have bk:=decide_eq_true K;clear K;by_cases L:b<(l2.length:Int)
       ·rw[if_pos L] at H
        have bn:=decide_eq_true L;clear L;by_cases E:b=p
        ·rw[if_pos E] at H
         obtain⟨a3,a4⟩:=bt E;clear E;have y:=Aside0.mk H;clear H;have m:0<=(b:Int):=of_decide_eq_true ‹_›;have n:b<(l2.length:Int):=of_decide_eq_true ‹_›;obtain⟨ap,F,o⟩:=Kd.bG D.out b m n;cases F;replace o:=(a.out.cell (World.block_lt_of_cell? w _ o)).trans o;replace m:=eq_true m;replace n:=eq_true n;go_wp2;go_roundg k1
         case measure=>have:=J.out;omega
         case rel=>exact⟨(wrap64 (b+1)),zT,y,⟨by have:=J.out;omega⟩,⟨zK g⟩,⟨zB⟩⟩
        ·rw[if_neg E] at H
         obtain⟨a3,a4⟩:=bu E;by_cases B:(rd l2 b)<0
         ·rw[if_pos B] at H
          have a5:=decide_eq_true B;clear B;obtain rfl:=Option.some.inj H;have m:0<=(b:Int):=of_decide_eq_true ‹_›;have n:b<(l2.length:Int):=of_decide_eq_true ‹_›;obtain⟨ap,F,o⟩:=Kd.bG D.out b m n;cases F;replace o:=(a.out.cell (World.block_lt_of_cell? w _ o)).trans o;replace m:=eq_true m;replace n:=eq_true n;go_wp2;go_ret;exact⟨zE,zB⟩
         ·rw[if_neg B] at H
          have a5:=decide_eq_false B;clear B;have y:=Aside0.mk H;clear H;have m:0<=(b:Int):=of_decide_eq_true ‹_›;have n:b<(l2.length:Int):=of_decide_eq_true ‹_›;obtain⟨ap,F,o⟩:=Kd.bG D.out b m n;cases F;replace o:=(a.out.cell (World.block_lt_of_cell? w _ o)).trans o;replace m:=eq_true m;replace n:=eq_true n;go_wp2;go_roundg k1
          case measure=>have:=J.out;omega
          case rel=>exact⟨(wrap64 (b+1)),zT,y,⟨by have:=J.out;omega⟩,⟨zK g⟩,⟨zB⟩⟩
       ·rw[if_neg L] at H
        exact absurd H (by simp)
      ·rw[if_neg K] at H
       exact absurd H (by simp)
     ·rw[if_neg z] at H
      have a2:=decide_eq_false z;clear z;obtain rfl:=Option.some.inj H;go_wp2;go_ret;exact⟨zE,zB⟩
  ·rw[if_neg x] at H
   obtain⟨ab,ad⟩:=bu x;obtain rfl:=Option.some.inj H;go_enter Tryz.func224,Tryz.ntmps224
   go_wp2_with (first|((with_reducible refine aH (N:=3) rfl ?_);refine zX 3 #[.int .i64 i,.slice q j.length s] 24 ?_;intro R l bo u hb;have g:=Aside0.mk (u);have ag:=zG a l;have ak:=zG a l;replace a:=zS a hb;clear hb u l;obtain⟨bv,bw,bx,b0⟩:=au g)|((with_reducible refine ax (f:=211) rfl ?_);refine zL (some 13) Tryz.func211 #[.agg #[.int .i64 i,.slice q j.length s],.int .i64 p] ?_;(with_reducible refine(cX.calls k i _ _ j p I _ ?af ?ah P.out).mono ?_);(case af=>exact Kd.al M.out zB);(case ah=>exact O.out);rintro e b1 ⟨rfl,hb⟩;refine⟨_,rfl,?_⟩;replace g:=zb g hb;replace a:=zS a hb;(try clear hb);obtain⟨b2,b3,b4,b5⟩:=au g)|((with_reducible refine ax (f:=87) rfl ?_);refine zL (some 20) Tryz.func87 #[.slice G l2.length c2,.int .i64 i] ?_;(with_reducible refine(bc.calls k _ _ l2 i Q _ ?af ?ah A6.out).mono ?_);(case af=>exact Kd.al D.out zB);(case ah=>exact X.out);rintro e w' ⟨rfl,⟨nd,rfl⟩⟩;refine⟨_,rfl,?_⟩))
   go_ret;exact⟨zE,zB⟩
 ·rw[if_neg v] at H
  obtain⟨Y,Z⟩:=bu v;obtain rfl:=Option.some.inj H;go_enter Tryz.func224,Tryz.ntmps224
  go_wp2_with (first|((with_reducible refine aH (N:=3) rfl ?_);refine zX 3 #[.int .i64 i,.slice q j.length s] 24 ?_;intro R l b6 u hb;have g:=Aside0.mk (u);have ag:=zG a l;have ak:=zG a l;replace a:=zS a hb;clear hb u l;obtain⟨b_,b',ca,cb⟩:=au g)|((with_reducible refine ax (f:=211) rfl ?_);refine zL (some 13) Tryz.func211 #[.agg #[.int .i64 i,.slice q j.length s],.int .i64 p] ?_;(with_reducible refine(cX.calls k i _ _ j p I _ ?af ?ah P.out).mono ?_);(case af=>exact Kd.al M.out zB);(case ah=>exact O.out);rintro e cc ⟨rfl,hb⟩;refine⟨_,rfl,?_⟩;replace g:=zb g hb;replace a:=zS a hb;(try clear hb)))
  go_ret;exact⟨zE,zB⟩
def gv.f (k:Nat) (e:Int) (g:List (S83)) (a:Int) (l2:List Int):Option (Int):=(cJ.f k e g a l2).bind fun b=>(if b=0 then(if 0<=a then(if a<(l2.length:Int) then(if(rd l2 a)=0 then(some 0) else(some 3)) else(none)) else(none)) else(some b))
theorem gv.mono:∀a0 a a2 a3 k,ae (gv.f k a0 a a2 a3) (gv.f (k+1) a0 a a2 a3):=by
 intro a0 a a2 a3 k;unfold gv.f;repeat' first
   |(with_reducible exact cJ.mono _ _ _ _ _)
   |(with_reducible exact ae.refl _)
   |(with_reducible exact ae.none _)
   |(with_reducible refine ae.ite ?_ ?_)
   |(with_reducible refine ae.bind ?_ (fun _=>?_))
   |exact cJ.mono _ _ _ _ _
   |exact ae.none _
   |refine ae.ite ?_ ?_
   |refine ae.bind ?_ (fun _=>?_)
theorem gv.calls (k:Nat) (i:Int) (m:Option Addr) (n:Nat) (g:List (S83)) (b:Int) (u:Option Addr) (c2:Nat) (l2:List Int) (r:Int) (w:World) (K:Kd.C aK w m g.length g) (L:g.length<=n) (M:Kd.C (Kd.int .i64) w u l2.length l2) (O:l2.length<=c2) (h:gv.f k i g b l2=some r):
  Calls Tryz.prog 219 #[.agg #[.int .i64 i,.slice m g.length n],.int .i64 b,.slice u l2.length c2] w fun e w'=>e= .returned (.int .i64 r)∧Below w.heap.size w w':=by
 have X:=Tryz.underlying24;have E:=Aside0.mk K;have F:=Aside0.mk L;clear K L;have v:=Aside0.mk M;have G:=Aside0.mk O;clear M O;have a:=Aside0.mk (Below.refl w.heap.size w);unfold gv.f at h;have H:=h;clear h;obtain⟨z,I,H⟩:=zo H;by_cases x:z=0
 ·rw[if_pos x] at H
  obtain⟨S,T⟩:=bt x;clear x;by_cases B:0<=b
  ·rw[if_pos B] at H
   have Y:=decide_eq_true B;clear B;by_cases D:b<(l2.length:Int)
   ·rw[if_pos D] at H
    have Z:=decide_eq_true D;clear D;by_cases y:(rd l2 b)=0
    ·rw[if_pos y] at H
     obtain⟨U,V⟩:=bt y;clear y;obtain rfl:=Option.some.inj H;go_enter Tryz.func219,Tryz.ntmps219
     go_wp2_with (first|((with_reducible refine aH (N:=3) rfl ?_);refine zX 3 #[.int .i64 i,.slice m g.length n] 24 ?_;intro P j w9 o hb;have l:=Aside0.mk (o);have Q:=zG a j;have R:=zG a j;replace a:=zS a hb;clear hb o j;obtain⟨ab,ad,ag,ak⟩:=au l)|((with_reducible refine ax (f:=224) rfl ?_);refine zL (some 11) Tryz.func224 #[.agg #[.int .i64 i,.slice m g.length n],.int .i64 b,.slice u l2.length c2] ?_;(with_reducible refine(cJ.calls k i _ _ g b _ _ l2 z _ ?af ?ah ?aD ?aE I.out).mono ?_);(case af=>exact Kd.al E.out zB);(case ah=>exact F.out);(case aD=>exact Kd.al v.out zB);(case aE=>exact G.out);rintro e iy ⟨rfl,hb⟩;refine⟨_,rfl,?_⟩;replace l:=zb l hb;replace a:=zS a hb;(try clear hb);have p:0<=(b:Int):=of_decide_eq_true ‹_›;have q:b<(l2.length:Int):=of_decide_eq_true ‹_›;obtain⟨W,J,s⟩:=Kd.bG v.out b p q;cases J;replace s:=(a.out.cell (World.block_lt_of_cell? w _ s)).trans s;replace p:=eq_true p;replace q:=eq_true q))
     go_ret;exact⟨zE,zB⟩
    ·rw[if_neg y] at H
     obtain⟨U,V⟩:=bu y;obtain rfl:=Option.some.inj H;go_enter Tryz.func219,Tryz.ntmps219
     go_wp2_with (first|((with_reducible refine aH (N:=3) rfl ?_);refine zX 3 #[.int .i64 i,.slice m g.length n] 24 ?_;intro P j am o hb;have l:=Aside0.mk (o);have Q:=zG a j;have R:=zG a j;replace a:=zS a hb;clear hb o j;obtain⟨an,ap,ar,av⟩:=au l)|((with_reducible refine ax (f:=224) rfl ?_);refine zL (some 11) Tryz.func224 #[.agg #[.int .i64 i,.slice m g.length n],.int .i64 b,.slice u l2.length c2] ?_;(with_reducible refine(cJ.calls k i _ _ g b _ _ l2 z _ ?af ?ah ?aD ?aE I.out).mono ?_);(case af=>exact Kd.al E.out zB);(case ah=>exact F.out);(case aD=>exact Kd.al v.out zB);(case aE=>exact G.out);rintro e aB ⟨rfl,hb⟩;refine⟨_,rfl,?_⟩;replace l:=zb l hb;replace a:=zS a hb;(try clear hb);have p:0<=(b:Int):=of_decide_eq_true ‹_›;have q:b<(l2.length:Int):=of_decide_eq_true ‹_›;obtain⟨W,J,s⟩:=Kd.bG v.out b p q;cases J;replace s:=(a.out.cell (World.block_lt_of_cell? w _ s)).trans s;replace p:=eq_true p;replace q:=eq_true q))
     go_ret;exact⟨zE,zB⟩
   ·rw[if_neg D] at H
    exact absurd H (by simp)
  ·rw[if_neg B] at H
   exact absurd H (by simp)
 ·rw[if_neg x] at H
  obtain⟨S,T⟩:=bu x;obtain rfl:=Option.some.inj H;go_enter Tryz.func219,Tryz.ntmps219
  go_wp2_with (first|((with_reducible refine aH (N:=3) rfl ?_);refine zX 3 #[.int .i64 i,.slice m g.length n] 24 ?_;intro P j aF o hb;have l:=Aside0.mk (o);have Q:=zG a j;have R:=zG a j;replace a:=zS a hb;clear hb o j;obtain⟨aL,aO,aP,aS⟩:=au l)|((with_reducible refine ax (f:=224) rfl ?_);refine zL (some 11) Tryz.func224 #[.agg #[.int .i64 i,.slice m g.length n],.int .i64 b,.slice u l2.length c2] ?_;(with_reducible refine(cJ.calls k i _ _ g b _ _ l2 z _ ?af ?ah ?aD ?aE I.out).mono ?_);(case af=>exact Kd.al E.out zB);(case ah=>exact F.out);(case aD=>exact Kd.al v.out zB);(case aE=>exact G.out);rintro e a0 ⟨rfl,hb⟩;refine⟨_,rfl,?_⟩;replace l:=zb l hb;replace a:=zS a hb;(try clear hb)))
  go_ret;exact⟨zE,zB⟩
section
theorem ct.bk {l:Nat} {A B:World} {g:Nat} {n:Int} {times:Nat->Nat->Int} {chips:Value} {burnt:Nat->Bool} (h:ct A g n times chips burnt) (hb:Bk l A B):ct B g n times chips burnt:=by
 obtain⟨cs,a,b⟩:=h;exact⟨cs,hb.cells a,b⟩
attribute [local go_sem] Oper.semAt_some
theorem AP (g:Nat) (w:World):Calls Tryz.prog 221 #[.pointer (some ⟨g,0,none⟩)] w fun e w'=>e= .returned (.func (.func 225) #[] #[.pointer (some ⟨w.heap.size,0,none⟩)])∧w'=w.alloc (.cells #[.pointer (some ⟨g,0,none⟩)] 245):=by
 go_enter Tryz.func221,Tryz.ntmps221
 go_wp2;go_ret;exact⟨rfl,rfl⟩
def nO (N:Int) (E:List S83) (q:Int) (c:List Int):Bool:=decide (0<=q∧q<N∧N<=12∧(c.length:Int)=N)&&iI N E
def cC (q:Nat):Nat->Bool:=fun i=>if i=q then true else false
def nP (n:Nat) (E:List S83) (q:Nat) (c:List Int):List Nat:=eu n (bY n (aj E) c) (cC q)
def gL.f (k:Nat) (N:Int) (E:List S83) (q:Int) (c:List Int):Option (List Int×List Int×Int):=
 (gv.f k N E q c).bind fun t=>if t=0 then(if nO N E q c=true then
  some (q::(nP N.toNat E q.toNat c).map Int.ofNat,gu (cB (cC q.toNat) (nP N.toNat E q.toNat c)) N.toNat,0) else none) else some ([],[],t)
theorem gL.mono:∀N E q c k,ae (gL.f k N E q c) (gL.f (k+1) N E q c):=by
 intro N E q c k;unfold gL.f;exact ae.bind (gv.mono _ _ _ _ _) (fun _=>ae.refl _)
theorem gL.calls (k:Nat) (P:Int) (bn:Option Addr) (Q:Nat) (a:List (S83)) (S:Int) (A2:Option Addr) (c2:Nat) (l2:List Int) (r1:List Int) (r2:List Int) (r3:Int) (w:World) (av:Kd.C aK w bn a.length a) (aB:a.length<=Q) (aF:Kd.C (Kd.int .i64) w A2 l2.length l2) (aL:l2.length<=c2) (h:gL.f k P a S l2=some (r1,r2,r3)):
  Calls Tryz.prog 213 #[.agg #[.int .i64 P,.slice bn a.length Q],.int .i64 S,.slice A2 l2.length c2] w fun e w'=>∃aO aP:Value,e= .returned (.tuple #[aO,aP,.int .i64 r3])∧Kd.R (Kd.int .i64) 3 w' w.heap.size (fun G=>some G≠(aP:Value).ownBlock) aO r1∧Kd.R (Kd.int .i64) 3 w' w.heap.size (fun G=>some G≠(aO:Value).ownBlock) aP r2∧Below w.heap.size w w':=by
 have hu:=Tryz.underlying24;obtain⟨t,J,H⟩:=Option.bind_eq_some_iff.mp h;clear h;by_cases i:t=0
 ·subst i
  rw[if_pos rfl] at H;by_cases hv:nO P a S l2=true
  ·rw[if_pos hv] at H
   simp only[Option.some.injEq,Prod.mk.injEq] at H;obtain⟨rfl,rfl,rfl⟩:=H;simp only[nO,Bool.and_eq_true,decide_eq_true_eq] at hv;obtain⟨⟨q0,qn,n12,hlen⟩,hE⟩:=hv;obtain⟨n,rfl⟩:=Int.eq_ofNat_of_zero_le (show 0<=P by omega);obtain⟨q,rfl⟩:=Int.eq_ofNat_of_zero_le q0;simp only[Int.toNat_natCast];have b':=Aside0.mk (kT hE);have c3:l2.length<=n:=by omega
   have ca:n<=l2.length:=by omega
   have Ht:=Aside0.mk J;clear hlen hE J;refine(callsIn_wide (n:=10)).1 ?_;refine callsIn_of_wp_marks Tryz.func213 rfl trivial ?_ rfl;simp only[Tryz.ntmps213,List.size_toArray,List.length_cons,List.length_nil,Nat.reduceAdd,Nat.reduceSub,Array.replicate_succ,Array.replicate_zero,List.push_toArray,List.append_toArray,List.nil_append,List.cons_append];gi_wp2_with (first|(refine⟨trivial,?_⟩;gi_at_call 219;refine(callsIn_wide.2 (gv.calls k _ _ Q a _ _ c2 l2 0 _ (Kd.br av _) aB (Kd.br aF _) aL Ht.out)).mono ?_;rintro e w1 ⟨rfl,hb⟩;have hx:=(hb.cell (p:=⟨w.heap.size,0,none⟩) (by simp));have hy:=(hb.cell (p:=⟨w.heap.size,1,none⟩) (by simp));have E:=Aside0.mk (kA (aq (Below.refl _ _) _) (by simp) hb);clear hb)|(refine⟨trivial,?_⟩;gi_at_call 220;refine(callsIn_wide.2 (AO n q _ Q a _ c2 l2 _ (Kd.al av E.out) aB (Kd.al aF E.out) aL (by omega) (by omega) b'.out c3 ca)).mono ?_;rintro e w2 ⟨g,r,u,rfl,hW,hR,hB,hg⟩;have a0:=Aside0.mk hW;have a2:=Aside0.mk hR;have a3:=Aside0.mk (kA E.out E.out.size hB);clear hW hR hB)|(refine⟨trivial,?_⟩;gi_at_call 221;refine(callsIn_wide.2 (AP g _)).mono ?_;rintro e w3 ⟨rfl,rfl⟩))
   have c4:=a0.out.lt;have ea:w.heap.size<=w1.heap.size:=E.out.size;have c5:w.heap.size<=w2.heap.size:=a3.out.size;have a4:∀k,some k=(Value.slice r l2.length u).ownBlock->k<w2.heap.size:=fun k hk=>Kd.aX a2.out k hk.symm
   have L:=Aside0.mk (a0.out.below (aq (aq (aq (Below.refl _ _) (.cells #[.int .i64 q] 3)) (.cells #[.slice (some ⟨w2.heap.size,0,none⟩) 1 1] 25)) (.cells #[.pointer (some ⟨g,0,none⟩)] 245)));have T:=Aside0.mk (Kd.aI (Kd.aI (Kd.aI (Kd.fU rfl a2.out) (.cells #[.int .i64 q] 3)) (.cells #[.slice (some ⟨w2.heap.size,0,none⟩) 1 1] 25)) (.cells #[.pointer (some ⟨g,0,none⟩)] 245));have M:=Aside0.mk (aq (aq (aq a3.out (.cells #[.int .i64 q] 3)) (.cells #[.slice (some ⟨w2.heap.size,0,none⟩) 1 1] 25)) (.cells #[.pointer (some ⟨g,0,none⟩)] 245));have ce:Aside0 (Kd.R (Kd.int .i64) 3 (((w2.alloc (.cells #[.int .i64 q] 3)).alloc (.cells #[.slice (some ⟨w2.heap.size,0,none⟩) 1 1] 25)).alloc (.cells #[.pointer (some ⟨g,0,none⟩)] 245)) w.heap.size (fun k=>k≠g∧some k≠(Value.slice r l2.length u).ownBlock) (.slice (some ⟨w2.heap.size,0,none⟩) 1 1) [(q:Int)]):=by
    refine⟨Kd.aI (Kd.aI (Kd.lJ (enc:=Value.int .i64) (h1:=fun _=>rfl) ?_ ?_) _) _⟩
    ·simpa [bF] using World.ownsRow_lit (base:=w.heap.size) (e:=3) (size:=1) w2 #[.int .i64 q] 1 c5 (by decide) rfl
    ·intro k hk
     have e:w2.heap.size=k:=by simpa [Value.ownBlock] using hk
     refine⟨by omega,fun e2=>?_⟩;have:=a4 k e2;omega
   have ab:Aside0 ((((w2.alloc (.cells #[.int .i64 q] 3)).alloc (.cells #[.slice (some ⟨w2.heap.size,0,none⟩) 1 1] 25)).alloc (.cells #[.pointer (some ⟨g,0,none⟩)] 245)).heap[w2.heap.size+1]? =some (.cells #[.slice (some ⟨w2.heap.size,0,none⟩) 1 1] 25 (0,0))):=
    ⟨by have h:=heap_alloc_new (w2.alloc (.cells #[.int .i64 q] 3)) (.cells #[.slice (some ⟨w2.heap.size,0,none⟩) 1 1] 25);rw[World.size_alloc] at h;exact aw h _⟩
   have U:Aside0 ((((w2.alloc (.cells #[.int .i64 q] 3)).alloc (.cells #[.slice (some ⟨w2.heap.size,0,none⟩) 1 1] 25)).alloc (.cells #[.pointer (some ⟨g,0,none⟩)] 245)).heap[w2.heap.size+1+1]? =some (.cells #[.pointer (some ⟨g,0,none⟩)] 245 (0,0))):=
    ⟨by have h:=heap_alloc_new ((w2.alloc (.cells #[.int .i64 q] 3)).alloc (.cells #[.slice (some ⟨w2.heap.size,0,none⟩) 1 1] 25)) (.cells #[.pointer (some ⟨g,0,none⟩)] 245);simpa using h⟩
   have ad:w2.heap.size+1≠g:=by omega
   have ag:w2.heap.size+1+1≠g:=by omega
   have ak:w2.heap.size+1+1≠w2.heap.size+1:=by omega
   have cf:some (w2.heap.size+1)≠(Value.slice r l2.length u).ownBlock:=fun e=>by have:=a4 _ e;omega
   have ch:w.heap.size<=w2.heap.size+1:=by omega
   have ci:w.heap.size<=g:=by omega
   clear a4 a0 a2 a3 E;generalize (((w2.alloc (.cells #[.int .i64 q] 3)).alloc (.cells #[.slice (some ⟨w2.heap.size,0,none⟩) 1 1] 25)).alloc (.cells #[.pointer (some ⟨g,0,none⟩)] 245))=I at L T M ce ab U⊢;generalize w2.heap.size+1+1=N at U ag ak⊢;generalize w2.heap.size+1=bo at ab ad ak cf ch⊢;refine ie (σ:=Unit) (α:=Nat) (F:=Fence.wide) (n:=10) rfl (by decide) (gf:=225) (lb:=#[.pointer (some ⟨N,0,none⟩)]) rfl trivial (enters_of Tryz.func225 (by kernel_rfl) rfl)
    (fun o=>AL g N n (aj a) r u l2 (cC q) _ w1.heap.size (by omega) ca ?J ag (L.out.below (aq (aq (Below.refl _ _) _) _)) (aw (aw U.out _) _) (Kd.aV (Kd.aI (Kd.aI T.out _) _) (fun _ h=>h))) (fun _=>rfl)
    (fun _=>True) ?ei ?st ?ar
    (fun _ pre W=>I.heap.size<=W.heap.size∧∃v,W.heap[N]? =some (.cells #[.pointer (some ⟨g,0,none⟩)] 245 (0,0))∧W.heap[bo]? =some (.cells #[v] 25 (0,0))∧Kd.R (Kd.int .i64) 3 W w.heap.size (fun k=>k≠g∧some k≠(Value.slice r l2.length u).ownBlock) v ((q:Int)::pre.map Int.ofNat)∧Below w.heap.size w W) (fun _ _ _ _=>False)
    ?is (fun _ _ _ _ _ _ h _=>h) ?ib (fun _ _ _ _ _ h _=>h) ?kt ?i ?S ?assign ?body ?done (fun _ _ _ _ _ _ _ h=>h.elim)
   case assign=>
    intro l x W K hK;gi_wp2;exact hK
   case J=>exact b'.out.times
   case ei=>
    intro o s W1 h;exact⟨trivial,by rw[h];exact bX.refl _ _⟩
   case st=>intro s A B _ h k o h1 y j _;exact(h.block k (Array.getElem?_eq_some_iff.1 j).1 (fun e=>by cases e;have:=L.out.lt;omega)).trans j
   case ar=>intro s x A B _ h k o h1 y j _;exact(h.block k (Array.getElem?_eq_some_iff.1 j).1 (fun e=>by cases e;have:=L.out.lt;omega)).trans j
   case is=>
    rintro s pre A B _ ⟨V,v,i,h1,y,j⟩ X;exact⟨Nat.le_trans V X.size,v,(X.block N (ay i) (fun e=>by cases e;exact ag rfl)).trans i,(X.block bo (ay h1) (fun e=>by cases e;exact ad rfl)).trans h1,Kd.kE y X (fun k hk e=>hk.1 (by cases e;rfl)),ju j (some g) j.size X (fun k e=>by cases e;exact ci)⟩
   case ib=>
    rintro s pre A B ⟨V,v,i,h1,y,j⟩ hb;exact⟨by rw[hb.size];exact V,v,hb.cells i,hb.cells h1,db y hb,j.trans (hb.below w.heap.size (by have:=M.out.size;omega))⟩
   case kt=>
    intro s A B C D c' dd dk k hk;have cj:k≠I.heap.size+1:=by
     rcases hk with rfl|rfl|hk
     ·have:=L.out.lt;omega
     ·have:=ay U.out;omega
     ·have:=Kd.aX T.out k hk.symm;omega
    exact(dk.heap k cj).trans ((dd k hk).trans (c'.heap k cj))
   case i=>
    rintro o s W1 rfl;exact⟨by simp;omega,_,aw (aw U.out _) _,aw (aw ab.out _) _,Kd.aI (Kd.aI ce.out _) _,aq (aq M.out _) _⟩
   case body=>
    rintro l s pre x Wb W1 W _ ⟨V,v,i0,i1,i2,i3⟩ O ed m;have Y:=Aside0.mk (m.cells ((O.block N (ay i0) (fun e=>by cases e;exact ag rfl)).trans i0));have z:=Aside0.mk (m.cells ((O.block bo (ay i1) (fun e=>by cases e;exact ad rfl)).trans i1));have b:=Aside0.mk (db (Kd.kE i2 O (fun k hk e=>hk.1 (by cases e;rfl))) m);have b3:=Aside0.mk ((ju i3 (some g) i3.size O (fun k e=>by cases e;exact ci)).trans (m.below w.heap.size (by have:=M.out.size;omega)));have c4:I.heap.size<=W.heap.size:=by have:=m.size;have:=O.size;omega
    have eg:=L.out.lt;clear i0 i1 i2 i3 O;obtain⟨Ar,cr,rfl⟩:=Kd.aZ b.out;replace b:=Aside0.mk (show Kd.R (Kd.int .i64) 3 W w.heap.size (fun k=>k≠g∧some k≠(Value.slice r l2.length u).ownBlock) (.slice Ar (pre.length+1) cr) ((q:Int)::pre.map Int.ofNat) from by have h:=b.out;rw[show ((q:Int)::pre.map Int.ofNat).length=pre.length+1 from by simp] at h;exact h);rw[show ((q:Int)::pre.map Int.ofNat).length=pre.length+1 from by simp] at z;have hc:=dt z.out;have hf:=bq z.out 0;have FR:Aside0 (∀k,W.heap.size<=k->k≠g∧some k≠(Value.slice r l2.length u).ownBlock):=⟨fun k hk=>⟨by omega,fun e=>by have:=Kd.aX T.out k e.symm;omega⟩⟩;have LN:Aside0 ((((q:Int)::pre.map Int.ofNat).length+1)*8<=140737488355328):=⟨by simp;omega⟩;gi_wp2_with (gi_at_builtin;go_loud (refine nL (Kd.int .i64) (w0:=w) w.heap.size rfl (.tmp 29) (.tmp 31) 25 3 (.int .i64 0) 8 rfl Tryz.underlying25 fY rfl (by decide) (by omega) _ _ (x:Int) [.int .i64 x] (fun k=>k≠g∧some k≠(Value.slice r l2.length u).ownBlock) (fun _=>False) rfl rfl rfl (fun _ hk=>hk.elim) FR.out b.out b3.out b3.out.size LN.out ?_;intro v1 ek a5 hb an dv;obtain⟨A1,c1,rfl⟩:=Kd.aZ a5;have X1:=Aside0.mk ((an.block bo (ay z.out) (Kd.dh b.out z.out (by decide))).trans z.out);have X0:=Aside0.mk ((an.block N (ay Y.out) (Kd.dh b.out Y.out (by decide))).trans Y.out);have el:=dt X1.out;have em:=bq X1.out 0;have d1:=Aside0.mk a5;have d2:=Aside0.mk hb;have Z:=Aside0.mk an;clear a5 hb an dv))
    refine⟨(nM b.out Z.out).trans (fa _ _ (ay ab.out)),fun k hk=>?_,by have:=Z.out.size;simp;omega,_,aC X0.out ak _,by simpa using bE X1.out 0 (.slice A1 (pre.length+1+1) c1),?_,ec d2.out ch⟩
    ·have d3:k≠bo:=by
      rcases hk with rfl|rfl|hk
      ·exact fun e=>ad e.symm
      ·exact ak
      ·rintro rfl;exact cf hk
     rw[Below.heap_setCell _ _ _ _ d3];rcases hk with rfl|rfl|hk
     ·exact Z.out.block k (by omega) (fun e=>(b.out.1 k e.symm).1 rfl)
     ·exact Z.out.block k (ay Y.out) (Kd.dh b.out Y.out (by decide))
     ·exact Z.out.block k (by have:=Kd.aX T.out k hk.symm;omega) (fun e=>(b.out.1 k e.symm).2 hk)
    ·have h:=Kd.eK d1.out X1.out (by decide) 0 (.slice A1 (pre.length+1+1) c1)
     simpa using h
   case done=>
    rintro s xs W W' _ ⟨rfl,co⟩ ⟨V,v,i0,i1,i2,i3⟩ m cq;have z:=Aside0.mk (m.cells i1);have b:=Aside0.mk (db i2 m);have b3:=Aside0.mk (i3.trans (m.below w.heap.size (by have:=M.out.size;omega)));have b4:=Aside0.mk (co.bk m);have cs:=Aside0.mk cq;clear i0 i1 i2 i3 co cq;have hc:=dt z.out;obtain⟨Ar,cr,rfl⟩:=Kd.aZ b.out;have d4:=ay z.out;gi_wp2_with fail
    refine AM ?_;gi_region_with (refine⟨trivial,?_⟩;gi_at_call 222;refine(callsIn_wide.2 (AG g n (aj a) _ _ _ (by omega) b4.out.drew)).mono ?_;rintro e w5 ⟨v1,rfl,cx,be⟩;have er:=(be.cell (p:=⟨bo,0,none⟩) d4).trans hc;have bf:=Aside0.mk cx;have bg:=Aside0.mk be;clear cx be)
    all_goals gi_wp2
    all_goals
     have c0:w5.heap[I.heap.size]? =some (.deferred (some [])):=(bg.out.block _ (Array.getElem?_eq_some_iff.1 cs.out).1).trans cs.out;have bi:Bk I.heap.size w5 (w5.putObj I.heap.size (.deferred none)):=⟨_,_,c0,rfl,rfl⟩;have d5:=Kd.cp (w:=W'.drew) b.out bg.out;refine iK (D:=I.heap.size) rfl c0 (results_tmp3 rfl _ _ _) ⟨_,_,rfl,db (ok:=fun G=>some G≠v1.ownBlock) (v:=.slice Ar ((eu n (bY n (aj a) l2) (cC q)).length+1) cr) ?_ bi,db (ok:=fun G=>some G≠(Value.slice Ar ((eu n (bY n (aj a) l2) (cC q)).length+1) cr).ownBlock) (v:=v1) ?_ bi,?_⟩
     ·refine Kd.r7 rfl (ok1:=fun k=>k≠g∧some k≠(Value.slice r l2.length u).ownBlock) ?_ (fun k hk e=>?_)
      ·have h:=d5
       rw[show ((q:Int)::(eu n (bY n (aj a) l2) (cC q)).map Int.ofNat).length=(eu n (bY n (aj a) l2) (cC q)).length+1 from by simp] at h;exact h
      ·have h1:=Kd.aX b.out k ((tp _ _ _ _).trans hk)
       have y:=Kd.dK bf.out k e.symm;exact absurd h1 (Nat.not_lt.2 y)
     ·refine Kd.r7 rfl (ok1:=fun _=>True) (Kd.aW bf.out b3.out.size) (fun k hk e=>?_)
      have h1:=Kd.aX b.out k ((tp _ _ _ _).trans e.symm);have y:=Kd.dK bf.out k hk;exact absurd h1 (Nat.not_lt.2 y)
     ·exact(kA (gF b3.out) b3.out.size bg.out).trans (bi.below w.heap.size M.out.size)
  ·rw[if_neg hv] at H
   cases H
 ·rw[if_neg i] at H
  simp only[Option.some.injEq,Prod.mk.injEq] at H;obtain⟨rfl,rfl,rfl⟩:=H;have Ht:=Aside0.mk J;have es:(t != 0)=true:=by simpa using i
  clear J i;go_enter Tryz.func213,Tryz.ntmps213
  go_wp2_with (go_at_call 219;refine(gv.calls k P _ Q a S _ c2 l2 t _ (Kd.br av _) aB (Kd.br aF _) aL Ht.out).mono ?_;rintro e w1 ⟨rfl,hb⟩;have E:=Aside0.mk (kA (aq (Below.refl _ _) _) (by simp) hb);clear hb)
  go_ret3
  exact⟨_,_,rfl,Kd.cV _ _ _ _ _,Kd.cV _ _ _ _ _,E.out⟩
end
end Go.Proofs.YtffdiakgjakngaaGreat.P

