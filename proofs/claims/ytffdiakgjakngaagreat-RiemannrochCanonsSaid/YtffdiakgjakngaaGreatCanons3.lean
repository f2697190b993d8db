/- Canons answers true whatever the input (text 3 of 7): own walks and plain laws; no conditions. -/
import Derived.AtR
import Derived.Below
import Derived.BigQuiet
import Derived.BigRegion
import Derived.BigRegionIn
import Derived.Deep.QuietTactic
import Derived.Deep.RegionHeld3
import Derived.Deep.RegionLaw
import Derived.Lib.Hide
import Derived.LoopIn
import Derived.LoopNIn
import Derived.Outline
import Derived.OwnWalkIn
import Derived.RangeFuncBound
import Derived.RangeFuncCalls
import Derived.RangeFuncLeaves
import Derived.RangeFuncNested
import Derived.RegionIn
import Derived.RegionTactic
import Derived.Shelf.RegionOpen
import Derived.Sort.LoopGhostIn
import Derived.Sort.QuietIn
import Derived.TacticsInMore
import Derived.WalkKit
import Derived.WalkSpells
import Derived.Test.YtffdiakgjakngaaGreatCanons2
namespace Go.Proofs.YtffdiakgjakngaaGreat.P
open Go Go.RowKit
set_option linter.unusedVariables false
set_option linter.unusedSimpArgs false
set_option maxHeartbeats 8000000
set_option maxRecDepth 100000
section
def Bk (l:Nat) (A B:World):Prop:=∃o a,A.heap[l]? =some o/\o.isCells=false/\B=A.putObj l a
theorem Bk.cells {l:Nat} {A B:World} (h:Bk l A B) {k:Nat} {cs:Array Value} {t:TypeId} {fr:Nat×Nat} (hk:A.heap[k]? =some (.cells cs t fr)):B.heap[k]? =some (.cells cs t fr):=by
 obtain⟨o,e,a,b,rfl⟩:=h;rw[World.putObj_heap_other]; · exact hk
 rintro rfl;rw[a] at hk;injection hk with hk;subst hk;simp[Obj.isCells] at b
theorem Bk.size {l:Nat} {A B:World} (h:Bk l A B):B.heap.size=A.heap.size:=by
 obtain⟨o,a,b,e,rfl⟩:=h;simp[World.putObj]
theorem Bk.heap {l:Nat} {A B:World} (h:Bk l A B) (k:Nat) (hk:k≠l):B.heap[k]? =A.heap[k]? :=by
 obtain⟨o,a,b,e,rfl⟩:=h;exact World.putObj_heap_other hk
theorem Bk.below {l:Nat} {A B:World} (h:Bk l A B) (n:Nat) (hn:n<=l):Below n A B:=by
 obtain⟨o,a,b,g,rfl⟩:=h;exact(ao n A).grown (grownBy_putObj' A l a) (by have:=(Array.getElem?_eq_some_iff.1 b).1;omega) (fun k e=>by cases e;omega)
def cn (n:Nat) (A B:World):Prop:=∀k o,n<=k->k<n+2->A.heap[k]? =some o->o.isCells=false->B.heap[k]? =some o
theorem cn.refl (n:Nat) (A:World):cn n A A:=fun _ _ _ _ h _=>h
theorem cn.trans {n:Nat} {A B C:World} (h:cn n A B) (k:cn n B C):cn n A C:=fun j o h1 a e b=>k j o h1 a (h j o h1 a e b) b
def ql {σ α:Type} (nw:Nat) (a:World->World->Prop) (I:List α->World->Prop) (b:Code->List α->World->Prop) (xs:List α) (W:World):Exit->Act->World->Prop
 | .normal,_,W'=>cn nw W W'/\a W W'/\I xs W'
 | .ret,_,W'=>cn nw W W'/\b .ret xs W'
 |_,_,_=>False
variable {F:Fence} {n:Nat} {P:Program}
def jb {σ α:Type} (F:Fence) (n:Nat) (P:Program) (gf:Nat) (lb:Array Value) (bS:α->Array Value) (Start:σ->World->World->Prop) (a:σ->World->World->Prop) (g:σ->α->World->World->Prop) (h:σ->World->World->Prop) (S:σ->List α->World->Prop) (i:σ->List α->World->Prop) (j:List α->Prop) (W:World):Prop:=
 ∀(l:Nat) (J Jx:σ->List α->World->Prop),(∀s pre A B,J s pre A->a s A B->J s pre B)->(∀s pre A B,Jx s pre A->a s A B->Jx s pre B)->
  (∀s W1,Start s W W1->J s [] W1)->
  (∀s pre x b W1,J s pre b->g s x b W1->j pre->YieldAt F (n-1) P l (bS x) W1 fun e W'=>
   (e= .returned (.bool true)/\J s (pre++[x]) W'/\h s W1 W')\/(e= .returned (.bool false)/\Jx s (pre++[x]) W'))->
  CallsIn F n P gf (#[.func (.yield l) #[] #[]]++lb) W fun e W'=>(∃v,e= .returned v)/\((∃s xs,S s xs W'/\J s xs W')\/(∃s pre,i s pre W'/\Jx s pre W'))
theorem iC {σ α:Type} {g:Operand} {ps:Array Tmp} {assign body:Code} {Q:Exit->Act->World->Prop} {a:Act} {w:World}
  (ap:F.round=none) (h1:1<=n) {gf:Nat} {lb:Array Value} (hg:a.eval g= .func (.func gf) #[] lb) (av:F.fn gf) (eg:∀args w,(callFunc gf args).run P w= .ok (.enter gf args) w)
  {bS:α->Array Value} {Start:σ->World->World->Prop} {J:σ->World->World->Prop} {O:σ->α->World->World->Prop} {L:σ->World->World->Prop} {S Z:σ->List α->World->Prop} {Bd:List α->Prop}
  (aF:∀o,jb F (n-1) P gf lb bS Start J O L S Z Bd ((w.alloc (.deferred (some []))).alloc (.loop o))) (aL:∀x,(bS x).size=ps.size)
  (m:σ->Prop) (aO:∀o s W1,Start s ((w.alloc (.deferred (some []))).alloc (.loop o)) W1->m s/\cn w.heap.size ((w.alloc (.deferred (some []))).alloc (.loop o)) W1)
  (M:∀s A B,m s->J s A B->cn w.heap.size A B) (aP:∀s x A B,m s->O s x A B->cn w.heap.size A B)
  (I:σ->List α->World->Prop) (u:Code->σ->List α->World->Prop)
  (aR:∀s pre A B,m s->I s pre A->J s A B->I s pre B) (aS:∀c s pre A B,m s->u c s pre A->J s A B->u c s pre B)
  (a0:∀s pre A B,I s pre A->Bk (w.heap.size+1) A B->I s pre B) (a1:∀c s pre A B,u c s pre A->Bk (w.heap.size+1) A B->u c s pre B)
  (a2:∀s A B C D,Bk (w.heap.size+1) A B->L s B C->Bk (w.heap.size+1) C D->L s A D)
  (h0:∀o s W1,Start s ((w.alloc (.deferred (some []))).alloc (.loop o)) W1->I s [] W1) (a₁:α->Act)
  (a5:∀(l:Nat) (x:α) (W:World) (K:Act->World->Prop),K (a₁ x) W->
   assign.wpIn (F.inRound l) (n-1-1) P (Exit.then K (fun _ _ _=>False)) {tmps:=(ps.zip (bS x)).foldl (fun t (p,v)=>t.setIfInBounds p v) a.tmps,defers:=[]} W)
  (a9:∀(l:Nat) (s:σ) (pre:List α) (x:α) (G W1 W:World),m s->I s pre G->O s x G W1->Bd pre->Bk (w.heap.size+1) W1 W->body.wpIn (F.inRound l) (n-1-1) P (ql (σ:=σ) w.heap.size (L s) (I s) (fun c=>u c s) (pre++[x]) W) (a₁ x) W)
  (be:∀(s:σ) (xs:List α) (W W':World),m s->S s xs W->I s xs W->Bk (w.heap.size+1) W W'->W'.heap[w.heap.size]? =some (.deferred (some []))->Q .normal {a with defers:={target:=.collected w.heap.size,args:=#[]}::a.defers} W')
  (bf:∀(c:Code) (s:σ) (pre:List α) (W W':World),m s->Z s pre W->u c s pre W->Bk (w.heap.size+1) W W'->W'.heap[w.heap.size]? =some (.deferred (some []))->c.wpIn F n P Q {a with defers:={target:=.collected w.heap.size,args:=#[]}::a.defers} W'):
  (Code.rangeFunc g ps assign body).wpIn F n P Q a w:=by
 refine wpIn_rangeFunc ?_;intro fn bg;rw[ap];obtain⟨rec,q⟩:∃rec:LoopState->Option Code->Loop,rec=fun st pe=>{state:=st,pending:=pe,fn,tmps:=a.tmps,params:=ps,assign,body,defers:=w.heap.size}:=⟨_,rfl⟩
 obtain⟨W1,y⟩:∃W1,(w.alloc (.deferred (some []))).alloc (.loop (rec .ready none))=W1:=⟨_,rfl⟩;have bk:W1.heap[w.heap.size+1]? =some (.loop (rec .ready none)):=by
  rw[<-y];have:=World.alloc_heap_new (w.alloc (.deferred (some []))) (.loop (rec .ready none));rwa [World.size_alloc] at this
 have bn:W1.heap[w.heap.size]? =some (.deferred (some [])):=by
  rw[<-y];exact(Below.heap_alloc _ _ _ (by simp)).trans (World.alloc_heap_new w _)
 refine⟨w.heap.size+1,[{target:=.collected w.heap.size,args:=#[]}],W1,{target:=.fn (.func gf) lb,args:=#[.func (.yield (w.heap.size+1)) #[] #[]]},W1,gf,
  #[.func (.yield (w.heap.size+1)) #[] #[]]++lb,W1,?_,?_,?_,?_,fun _=>h1,?_⟩
 ·rw[<-y,q];exact run_enterLoop_outer _ _ _ _ _
 ·simp only[resolve,hg]
  simp[go_sem]
 ·intro f' ad;simp[Target.leads] at ad;subst ad;exact av
 ·simp[invoke,go_sem,eg]
 ·have hs:=aF (rec .ready none)
  rw[y] at hs;have ld:∀{A B:World} {r:Loop},cn w.heap.size A B->A.heap[w.heap.size+1]? =some (.loop r)->B.heap[w.heap.size+1]? =some (.loop r):=fun h R=>h _ _ (by omega) (by omega) R rfl
  have H:∀{A B:World},cn w.heap.size A B->A.heap[w.heap.size]? =some (.deferred (some []))->B.heap[w.heap.size]? =some (.deferred (some [])):=fun h R=>h _ _ (by omega) (by omega) R rfl
  refine(hs (w.heap.size+1)
   (fun s pre W=>m s/\I s pre W/\W.heap[w.heap.size+1]? =some (.loop (rec .ready none))/\W.heap[w.heap.size]? =some (.deferred (some [])))
   (fun s pre W=>m s/\∃c,u c s pre W/\W.heap[w.heap.size+1]? =some (.loop (rec .done (some c)))/\W.heap[w.heap.size]? =some (.deferred (some [])))
   (fun s pre A B h j=>⟨h.1,aR s pre A B h.1 h.2.1 j,ld (M s A B h.1 j) h.2.2.1,H (M s A B h.1 j) h.2.2.2⟩)
   (fun s pre A B h j=>by
    obtain⟨b,c,hc,i,hk⟩:=h;exact⟨b,c,aS c s pre A B b hc j,ld (M s A B b j) i,H (M s A B b j) hk⟩)
   (fun s W2 j=>by
    rw[<-y] at j;have hk:=aO (rec .ready none) s W2 j;have z:=hk.2;rw[y] at z;exact⟨hk.1,h0 _ s W2 j,ld z bk,H z bn⟩)
   ?_).mono ?_
  ·rintro s pre x G W ⟨b,hi,bv,bw⟩ ak bx
   have z:=aP s x G W b ak;have i:=ld z bv;have hk:=H z bw;have b0:w.heap.size+1<W.heap.size:=(Array.getElem?_eq_some_iff.1 i).1;have hy:=run_yield (P:=P) (args:=bS x) i (by rw[q];exact aL x);rw[q] at hy;have an:Bk (w.heap.size+1) W (W.putObj (w.heap.size+1) (.loop {rec .ready none with state:=.busy})):=⟨_,_,i,rfl,rfl⟩;refine⟨fn,_,assign,body,hy,roundIn_of_wpIn bg (a5 _ x W _ ⟨_,run_beginRound i (by rw[q]),?_⟩)⟩;have b1:(W.putObj (w.heap.size+1) (.loop {rec .ready none with state:=.busy})).heap[w.heap.size+1]? =some (.loop {rec .ready none with state:=.busy}):=World.putObj_heap_same b0;have b2:(W.putObj (w.heap.size+1) (.loop {rec .ready none with state:=.busy})).heap[w.heap.size]? =some (.deferred (some [])):=(World.putObj_heap_other (by omega)).trans hk;refine wpIn_mono (a9 _ s pre x G W _ b hi ak bx an) ?_;have fin:∀(jump:Option Code) (k:World),cn w.heap.size (W.putObj (w.heap.size+1) (.loop {rec .ready none with state:=.busy})) k->
     (Instr.endRound (w.heap.size+1) jump).run P k= .ok (.bool jump.isNone) (k.putObj (w.heap.size+1) (.loop (rec (if jump.isNone then .ready else .done) jump)))/\
     Bk (w.heap.size+1) k (k.putObj (w.heap.size+1) (.loop (rec (if jump.isNone then .ready else .done) jump)))/\
     (k.putObj (w.heap.size+1) (.loop (rec (if jump.isNone then .ready else .done) jump))).heap[w.heap.size+1]? =some (.loop (rec (if jump.isNone then .ready else .done) jump))/\
     (k.putObj (w.heap.size+1) (.loop (rec (if jump.isNone then .ready else .done) jump))).heap[w.heap.size]? =some (.deferred (some [])):=fun jump k E=>by
    have T:=ld E b1;have:=run_endRound (P:=P) jump T;rw[q] at this⊢;exact⟨this,⟨_,_,T,rfl,rfl⟩,World.putObj_heap_same (Array.getElem?_eq_some_iff.1 T).1,(World.putObj_heap_other (by omega)).trans (H E b2)⟩
   rintro e a3 k hp;cases e with
   |normal=>
    obtain⟨E,b3,U⟩:=hp;obtain⟨V,N,X,Y⟩:=fin none k E;exact⟨_,_,V,.inl ⟨rfl,⟨b,a0 s _ _ _ U N,X,Y⟩,a2 s _ _ _ _ an b3 N⟩⟩
   |ret=>
    obtain⟨E,U⟩:=hp;obtain⟨V,N,X,Y⟩:=fin (some .ret) k E;exact⟨_,_,V,.inr ⟨rfl,b,.ret,a1 _ s _ _ _ U N,X,Y⟩⟩
   |exit id=>exact hp.elim
   |goto t=>exact hp.elim
   |panic ch=>exact hp.elim
   |outgrown=>exact hp.elim
  ·rintro e W2 ⟨⟨v,rfl⟩,(⟨s,xs,hS,b,hi,i,hk⟩|⟨s,pre,b4,b,c,hi,i,hk⟩)⟩
   ·exact⟨none,_,by have:=run_endLoop (P:=P) i (by rw[q];simp);rw[q] at this;exact this,be s xs W2 _ b hS hi ⟨_,_,i,rfl,rfl⟩ ((World.putObj_heap_other (by omega)).trans hk)⟩
   ·exact⟨some c,_,by have:=run_endLoop (P:=P) i (by rw[q];simp);rw[q] at this;exact this,bf c s pre W2 _ b b4 hi ⟨_,_,i,rfl,rfl⟩ ((World.putObj_heap_other (by omega)).trans hk)⟩
end
end Go.Proofs.YtffdiakgjakngaaGreat.P
namespace Go.Proofs.YtffdiakgjakngaaGreat.P
open Go.RowKit Go.Proofs.YtffdiakgjakngaaGreatW.PrintWords Go.Proofs.YtffdiakgjakngaaGreatW.PrintLast Go.Proofs.YtffdiakgjakngaaGreatW.PrintMore
set_option linter.unusedVariables false
set_option linter.unusedSimpArgs false
set_option maxHeartbeats 8000000
set_option maxRecDepth 100000
section
def jI (n:Nat) (c:(Nat->Bool)->Nat->Bool) (b:Nat->Bool):Option Nat:=(List.range n).find? (fun v=>c b v)
def ef (b:Nat->Bool) (v:Nat):Nat->Bool:=fun u=>if u=v then true else b u
def dT (n:Nat) (b:Nat->Bool):Nat:=(List.range n).countP (fun v=> !b v)
def fC (n:Nat) (c:(Nat->Bool)->Nat->Bool):Nat->(Nat->Bool)->List Nat
 |0,_=>[]
 |f+1,b=>match jI n c b with
  |none=>[]
  |some v=>v::fC n c f (ef b v)
def eL (n:Nat) (c:(Nat->Bool)->Nat->Bool) (b:Nat->Bool):List Nat:=fC n c (dT n b) b
def cO (b:Nat->Bool) (l:List Nat):Nat->Bool:=l.foldl ef b
theorem ow (b:Nat->Bool) (l:List Nat) (v:Nat):cO b (l++[v])=ef (cO b l) v:=by simp[cO]
theorem mL {n:Nat} {b:Nat->Bool} {v:Nat} (g:v<n) (hb:b v=false):dT n b=dT n (ef b v)+1:=by
 unfold dT;induction n with
 |zero=>omega
 |succ n a=>
  rw[List.range_succ,List.countP_append,List.countP_append];by_cases e:v=n
  ·subst e
   have h1:(List.range v).countP (fun u=> !b u)=(List.range v).countP (fun u=> !ef b v u):=List.countP_congr (fun u hu=>by have:=List.mem_range.1 hu;simp[ef,show u≠v from by omega]);rw[h1];simp[ef,hb]
  ·have:=a (by omega)
   rw[this];simp[ef,show n≠v from by omega];omega
theorem tQ (n:Nat) (b:Nat->Bool):dT n b<=n:=by
 unfold dT;exact Nat.le_trans List.countP_le_length (by simp)
theorem Bo {n:Nat} {c:(Nat->Bool)->Nat->Bool} {b:Nat->Bool} (h:∀v,v<n->c b v=false):eL n c b=[]:=by
 have:jI n c b=none:=by
  unfold jI;rw[List.find?_eq_none];intro v a;simp[h v (List.mem_range.1 a)]
 unfold eL;cases dT n b<;>simp[fC,this]
theorem Bp {n:Nat} {c:(Nat->Bool)->Nat->Bool} (g:∀b v,c b v=true->b v=false) {b:Nat->Bool} {v:Nat} (a:v<n) (e:c b v=true) (h:∀u,u<v->c b u=false):eL n c b=v::eL n c (ef b v):=by
 have i:jI n c b=some v:=by
  unfold jI;rw[List.find?_eq_some_iff_append];refine⟨e,(List.range n).take v,(List.range n).drop (v+1),?_,?_⟩
  ·have h1:(List.range n)[v]'(by simpa using a)=v:=by simp
   conv=>lhs;rw[<-List.take_append_drop v (List.range n)]
   rw[List.drop_eq_getElem_cons (by simpa using a),h1]
  ·intro u hu
   have k:u<v:=by
    rw[List.mem_take_iff_getElem] at hu;obtain⟨j,l,rfl⟩:=hu;simp at l⊢;omega
   simp[h u k]
 have m:=mL a (g b v e);unfold eL;rw[m];simp only[fC,i]
def cw (n:Nat) (times:Nat->Nat->Int) (l:List Int) (b:Nat->Bool) (v:Nat):Bool:= !b v&&decide (rd l v<dJ times b v n)
theorem mM {n:Nat} {times:Nat->Nat->Int} {l:List Int} (b:Nat->Bool) (v:Nat) (h:cw n times l b v=true):b v=false:=by
 unfold cw at h;cases hb:b v<;>simp_all
theorem Bq (g:Nat) (n v:Nat) (times:Nat->Nat->Int) (A:Option Addr) (c:Nat) (l:List Int) (burnt:Nat->Bool) (w:World) (hn:n<=12) (a:v<12) (b:v<l.length) (h:∀i j,0<=times i j/\times i j<=50) (hw:cH w g n times (.slice A l.length c) burnt) (k:Kd.C (Kd.int .i64) w A l.length l):
  Calls Tryz.prog 226 #[.pointer (some ⟨g,0,none⟩),.int .i64 v] w fun e w'=>e= .returned (.bool (cw n times l burnt v))/\aA w w':=by
 unfold cw;cases hb:burnt v with
 |true=>simpa using Bl g n v times _ burnt w a hw hb
 |false=>simpa using Bm g n v times A c l burnt w hn a b h hw k hb
attribute [local go_sem] Oper.semAt_some
theorem tR {w w1:World} (h:aA w w1) (r:Option Nat):w.grownBy w1 r:=jl h.below r
theorem Br {w w1:World} {g j:Nat} {v:Value} (h:w.grownBy w1 (some g)):w.grownBy (w1.setCell ⟨g,j,none⟩ v) (some g):=
 have hb:=(ao 0 w1).setCell (p:=⟨g,j,none⟩) (Nat.zero_le _) v;h.trans ⟨hb.os,hb.tape,hb.output,hb.size,fun k _ hk=>Below.heap_setCell _ _ _ _ (fun e=>hk (by rw[e]))⟩
theorem cH.of_heap {w w':World} {g:Nat} {n:Int} {times:Nat->Nat->Int} {chips:Value} {burnt:Nat->Bool} (h:cH w g n times chips burnt) (e:w'.heap[g]? =w.heap[g]?):cH w' g n times chips burnt:=by
 obtain⟨cs,hb,a⟩:=h;exact⟨cs,e.trans hb,a⟩
theorem dK {w:World} {b:Nat} {v:Value} {t:TypeId} (h:w.heap[b]? =some (.cells #[v] t (0,0))):w.cell? ⟨b,0,none⟩=some v:=(al h 0).trans rfl
theorem Bs (g b n:Nat) (times:Nat->Nat->Int) (A:Option Addr) (c:Nat) (l:List Int) (a:Nat->Bool) (W:World) (base:Nat) (hn:n<=12) (hl:n<=l.length) (ht:∀i j,0<=times i j/\times i j<=50) (aF:b≠g)
  (hW:cH W g n times (.slice A l.length c) a) (aO:W.heap[b]? =some (.cells #[.pointer (some ⟨g,0,none⟩)] 245 (0,0))) (hr:Kd.R (Kd.int .i64) 3 W base (fun k=>some k=(Value.slice A l.length c).ownBlock) (.slice A l.length c) l):
  jb (σ:=Unit) Fence.wide 9 Tryz.prog 225 #[.pointer (some ⟨b,0,none⟩)] (fun v:Nat=>#[.int .i64 v]) (fun _ W W1=>W1=W) (fun _ A B=>A.grownBy B (some g)) (fun _ _ A B=>A.grownBy B (some g))
   (fun _ X Y=>∀k,(k=g\/k=b\/some k=(Value.slice A l.length c).ownBlock)->Y.heap[k]? =X.heap[k]?)
   (fun _ xs W'=>xs=eL n (cw n times l) a/\cH W' g n times (.slice A l.length c) (cO a xs)) (fun _ _ _=>True) (fun pre=>pre.length<n) W:=by
 intro lp J Jx K L M N;have aR:=zA K;have b2:=zA L;have hY:=zA N;have a0:=M () W rfl;clear K L M N;refine callsIn_of_wp Tryz.func225 rfl trivial ?_ rfl;simp only[Tryz.ntmps225,List.size_toArray,List.length_cons,List.length_nil,Nat.reduceAdd,Nat.reduceSub,Array.replicate_succ,Array.replicate_zero,List.push_toArray,List.append_toArray,List.nil_append,List.cons_append];gi_wp2;gi_loopg [3] (13*dT n a+n) (fun kq v wr=>∃(pre:List Nat) (u:Nat),v= .int .i64 u/\u<=n/\Aside0 (J () pre wr)/\Aside0 (cH wr g n times (.slice A l.length c) (cO a pre))/\Aside0 (wr.heap[b]? =some (.cells #[.pointer (some ⟨g,0,none⟩)] 245 (0,0)))/\Aside0 (Kd.R (Kd.int .i64) 3 wr base (fun k=>some k=(Value.slice A l.length c).ownBlock) (.slice A l.length c) l)/\Aside0 (∀x,x<u->cw n times l (cO a pre) x=false)/\Aside0 (eL n (cw n times l) a=pre++eL n (cw n times l) (cO a pre))/\Aside0 (kq=13*dT n (cO a pre)+(n-u))/\Aside0 (pre.length+dT n (cO a pre)=dT n a))
 case atStart=>exact⟨[],0,rfl,Nat.zero_le _,⟨a0⟩,⟨hW⟩,⟨aO⟩,⟨hr⟩,⟨fun x O=>by omega⟩,⟨by simp[cO]⟩,⟨by simp[cO]⟩,⟨by simp[cO]⟩⟩
 case round=>
  obtain⟨pre,u,rfl,hu,y,h,z,D,E,F,P,G⟩:=hrel;have a2:=dK z.out;have b3:=h.out.ou;by_cases Q:u<n
  ·have S:Kd.C (Kd.int .i64) wr A l.length l:=by
    obtain⟨A',c',e,_,hC⟩:=Kd.nj D.out;injection e with e1 e2 e3
    rw[e1];exact hC
   have q:=zA (Bq g n u times A c l (cO a pre) wr hn (by omega) (by omega) ht h.out S);clear S;cases o:cw n times l (cO a pre) u with
   |false=>
    rw[o] at q;have T:=Lib.hid o;clear o;gi_wp2_with (refine⟨trivial,?_⟩;gi_at_call 226;refine(callsIn_wide.2 q.out).mono ?_;rintro e w1 ⟨rfl,p⟩;have U:=zA p;clear p)
    gi_roundg (13*dT n (cO a pre)+(n- (u+1)))
    case measure=>rw[P.out];omega
    case rel=>
     obtain⟨m,rfl⟩:=U.out.out;refine⟨pre,u+1,by go_num,by omega,⟨aR.out () pre wr _ y.out (tR U.out _)⟩,h,z,D,⟨fun x O=>?_⟩,F,⟨rfl⟩,G⟩;by_cases e:x=u
     ·rw[e];exact T.out
     ·exact E.out x (by omega)
   |true=>
    rw[o] at q;have V:=mM _ _ o;have r:=mL Q V;have Z:=Bp mM Q o E.out;have H:=Lib.hid r;have a4:=Lib.hid Z;have T:=Lib.hid o;clear o V r Z;have HG:Aside0 (∀w1,aA wr w1->w1.cell? ⟨b,0,none⟩=some (.pointer (some ⟨g,0,none⟩))/\w1.cell? ⟨g,146+u,none⟩=some (.bool (cO a pre u))/\w1.frozen? ⟨g,146+u,none⟩=false/\
      cH (w1.setCell ⟨g,146+u,none⟩ (.bool true)) g n times (.slice A l.length c) (cO a (pre++[u]))/\(w1.setCell ⟨g,146+u,none⟩ (.bool true)).heap[b]? =some (.cells #[.pointer (some ⟨g,0,none⟩)] 245 (0,0))/\
      Kd.R (Kd.int .i64) 3 (w1.setCell ⟨g,146+u,none⟩ (.bool true)) base (fun k=>some k=(Value.slice A l.length c).ownBlock) (.slice A l.length c) l/\wr.grownBy (w1.setCell ⟨g,146+u,none⟩ (.bool true)) (some g)):=by
     refine⟨fun w1 p=>?_⟩;obtain⟨m,rfl⟩:=p.out;refine⟨a2,h.out.lP u (by omega),h.out.frozen _,?_,?_,?_,Br (tR p _)⟩
     ·rw[ow];exact(h.out.drewN m).tO u (by omega) true
     ·exact aG (w:=wr.drewN m) z.out aF _
     ·exact(h.out.drewN m).eU (Kd.bq D.out m) (by decide) (146+u) (.bool true)
    gi_wp2_with (refine⟨trivial,?_⟩;gi_at_call 226;refine(callsIn_wide.2 q.out).mono ?_;rintro e w1 ⟨rfl,p⟩;obtain⟨q1,q2,q3,ag,ak,am,I⟩:=HG.out w1 p;have a9:=zA ag;have be:=zA ak;have bf:=zA am;have b6:=zA I;obtain⟨fn,tmps,b_,b',hy,ap⟩:=hY.out () pre u wr _ y.out I (by have:=G.out;have:=H.out;have:=tQ n a;omega);have bg:=zA ap;clear p ag ak am I ap)
    refine bg.out.mono ?_;rintro e W3 (⟨rfl,ar,s⟩|⟨rfl,av⟩)
    ·have bi:=zA (a9.out.of_heap (s g (.inl rfl)))
     have bk:=zA ((s b (.inr (.inl rfl))).trans be.out);have bn:=zA (Kd.ff bf.out (fun k hk=>s k (.inr (.inr hk))));have bo:=zA ar;clear ar s hy q1 q2 q3;gi_wp2;gi_roundg (13*dT n (cO a (pre++[u]))+n)
     case measure=>rw[P.out,H.out,ow];omega
     case rel=>
      refine⟨pre++[u],0,rfl,by omega,bo,bi,bk,bn,⟨fun x O=>by omega⟩,⟨?_⟩,⟨rfl⟩,⟨by have:=G.out;have:=H.out;rw[ow];simp;omega⟩⟩;rw[F.out,a4.out,ow];simp
    ·clear hy q1 q2 q3
     have bv:=zA av;clear av;gi_wp2;refine bodyPost_ret (results_none rfl _ _ _) rfl ?_;exact⟨⟨_,rfl⟩,.inr ⟨(),pre++[u],trivial,bv.out⟩⟩
  ·have r:u=n:=by omega
   subst r;gi_wp2;go_end0;exact⟨⟨_,rfl⟩,.inl ⟨(),pre,⟨by rw[F.out,Bo E.out];simp,h.out⟩,y.out⟩⟩
end
section
section
variable {F:Fence} {n:Nat} {P:Program} {ops:Array Oper} {rest:List Oper} {o:Oper} {a:Act} {Q:Exit->Act->World->Prop} {α:Type}
theorem oA (d:Kd α) {w0 W:World} (base:Nat) (y:o.guard=none) (s x:Operand) (t e:TypeId) (z:Value) (bytes:Nat)
  (j:o.op= .call {callee:=.builtin .append,args:=#[s,x],argTypes:=#[t,t]})
  (B:P.underlying t=some (.slice e)) (C:(P.info? e).map (fun i=>(i.zero,i.size,i.bytes))=some (some z,d.sz,bytes)) (D:z.cells.size=d.sz) (E:0<d.sz) (G:0<bytes)
  (v:Value) (xs:List α) (p:α) (cs:List Value) (ok okp:Nat->Prop) (H:a.eval s=v) (I:a.eval x= .slice (some ⟨W.heap.size,0,none⟩) 1 1) (hp:d.M W base okp p cs) (J:∀k,okp k->ok k/\some k≠v.ownBlock) (L:∀k,W.heap.size<=k->ok k)
  (N:d.R e W base ok v xs) (O:Below base w0 W) (S:base<=W.heap.size) (l:(xs.length+1)*bytes<=140737488355328)
  (h:∀v1 w1,d.R e w1 base ok v1 (xs++[p])->Below base w0 w1->W.grownBy w1 v.ownBlock->(v1.ownBlock=v.ownBlock\/∃b,v1.ownBlock=some b/\W.heap.size<=b)->wpListIn F n P ops Q rest (a.put o.dst v1) w1):
  wpListIn F n P ops Q (o::rest) a (W.alloc (.cells cs.toArray e)):=by
 obtain⟨T,inner,m,U⟩:=N;have V:cs.length=d.sz:=d.dZ (d.cV hp);have h1:=d.d_ (d.cV hp);obtain⟨i0,hi,q⟩:=Option.map_eq_some_iff.1 C;simp only[Prod.mk.injEq] at q;obtain⟨X,Y,Z⟩:=q;have hlen:xs.length+1<=140737488355328:=Nat.le_trans (Nat.le_mul_of_pos_right _ G) l;refine wpListIn_plain y fun K aa=>?_
 obtain⟨v1,w1,ab,ad,r,_,g⟩:=run_append_own_at (P:=P) (W.alloc (.cells cs.toArray e)) base t o.type e i0 z d.sz bytes B hi X Y Z D E v xs.length inner (m.alloc _) ⟨W.heap.size,0,none⟩ 1 1 cs (by rw[V];simp)
  (by simpa using World.news_of_block (cs:=cs.toArray) (t:=e) (fr:=(0,0)) (bm W (.cells cs.toArray e))) h1 (by simp only[maxLen];omega) l (by simp;omega)
 have u:W.grownBy w1 v.ownBlock:=World.grownBy.trans (World.grownBy_alloc W _ _) r;have w:v1.ownBlock=v.ownBlock\/∃b,v1.ownBlock=some b/\W.heap.size<=b:=by
  rcases g with g|g
  ·exact .inl g
  ·exact .inr ⟨_,g,by simp⟩
 unfold Oper.wpIn;refine⟨?_,?_⟩
 ·simp[Oper.about,j,resolve,Target.leads,Sem.run_pure]
 ·rw[Oper.semAt_plain F _ _ (by rw[j];intro c ag;cases ag)]
  simp[execOp,j,resolve,invoke,builtin,H,I,ab,Result.andThen];exact aa _ _ (h v1 w1 (Kd.pc T U hp J L ad u w) ((O.alloc S _).grown r (by simp;omega) (jm m)) u w)
end
theorem oB {α:Type} {d:Kd α} {e base nw:Nat} {ok:Nat->Prop} {v:Value} {xs:List α} {W w1:World} (g:d.R e W base ok v xs) (h:W.grownBy w1 v.ownBlock):cn nw W w1:=fun k o h1 j b i=>by
 refine(h.block k (Array.getElem?_eq_some_iff.1 b).1 (fun e=>?_)).trans b;obtain⟨cells,a⟩:=Kd.fT g k e.symm;rw[b] at a;injection a with a;subst a;simp[Obj.isCells] at i
theorem fp {nw bo j:Nat} (W:World) (v:Value) (h:bo<nw):cn nw W (W.setCell ⟨bo,j,none⟩ v):=fun k o h1 b a e=>by
 rw[Below.heap_setCell _ _ _ _ (by simp;omega)];exact a
theorem cZ {nw:Nat} {W w1:World} (h:Below W.heap.size W w1):cn nw W w1:=fun k o h1 b a e=>(h.block k (Array.getElem?_eq_some_iff.1 a).1).trans a
theorem du {α:Type} {d:Kd α} {e base l:Nat} {ok:Nat->Prop} {v:Value} {xs:List α} {A B:World} (h:d.R e A base ok v xs) (hb:Bk l A B):d.R e B base ok v xs:=
 Kd.a_ (Kd.ff (Kd.eH h) (fun k hk=>by obtain⟨_,_,_,q,_,cells,a⟩:=hk;exact(hb.cells a).trans a.symm)) (fun k hk=>hk.1)
theorem tS (A:Option Addr) (m a c:Nat):(Value.slice A m c).ownBlock=(Value.slice A a c).ownBlock:=by cases A<;>rfl
theorem jc {F:Fence} {n:Nat} {P:Program} {fn:Func} {R:Ending->World->Prop} {a:Act} {w:World} {D:Nat} {v:Value} (hd:a.defers=[{target:=.collected D,args:=#[]}]) (b:w.heap[D]? =some (.deferred (some [])))
  (e:(results fn a.tmps).run P (w.putObj D (.deferred none))= .ok v (w.putObj D (.deferred none))) (g:R (.returned v) (w.putObj D (.deferred none))):bodyPostM F n P fn R .ret a w:=by
 show LeavesInM F n P fn a.tmps R a.defers .returning w
 rw[hd];exact⟨by simp,.inl ⟨_,_,rfl,run_takeDeferred b,⟨_,e,g⟩⟩⟩
theorem Bt {F:Fence} {n:Nat} {P:Program} {c:Code} {K:Act->World->Prop} {Q:Exit->Act->World->Prop} {a:Act} {w:World} (h:c.wpIn F n P (Exit.then K (fun _ _ _=>False)) a w):c.wpIn F n P (Exit.then K Q) a w:=
 wpIn_mono h (fun e a w h=>by cases e<;>first|exact h|exact h.elim)
end
section
attribute [local go_sem] Oper.semAt_some
theorem tT (N:Int) (A0:Option Addr) (c0:Nat) (E:List S83) (w:World):Calls Tryz.prog 85 #[.agg #[.int .i64 N,.slice A0 E.length c0]] w fun e w'=>e= .returned (.func (.func 140) #[] #[.pointer (some ⟨w.heap.size,0,none⟩)])/\w'=w.alloc (.cells #[.int .i64 N,.slice A0 E.length c0] 24):=by
 go_enter Tryz.func85,Tryz.ntmps85
 go_wp2;go_ret;exact⟨rfl,rfl⟩
def f_ (s:Nat) (a b:Int):Nat->List (Nat×Int×Int)
 |0=>[]
 |j+1=>f_ s a b j++[(s+j,a,b)]
def dj (E:List S83):Nat->List (Nat×Int×Int)
 |0=>[]
 |k+1=>dj E k++f_ (cK E k) (ae E k).f0 (ae E k).f1 (ae E k).f2.toNat
theorem qm (s:Nat) (a b:Int):∀j,(f_ s a b j).length=j
 |0=>rfl
 |j+1=>by simp[f_,qm s a b j]
theorem qo (E:List S83):∀k,(dj E k).length=cK E k
 |0=>rfl
 |k+1=>by simp[dj,cK,qo E k,qm]
def qp (base:Nat) (X Y:World):Prop:=(base<=X.heap.size->Below base X Y)/\∀(k:Nat) (cs:Array Value) (t:TypeId),(t=24\/t=83)->X.heap[k]? =some (Obj.cells cs t (0,0))->Y.heap[k]? =some (Obj.cells cs t (0,0))
theorem tU (s:Nat) (a b:Int) (j:Nat):∀m,j<m->(s+j,a,b)∈f_ s a b m
 |0,h=>by omega
 |m+1,h=>by
  by_cases e:j=m
  ·subst e;exact List.mem_append.2 (.inr (List.mem_singleton.2 rfl))
  ·exact List.mem_append.2 (.inl (tU s a b j m (by omega)))
theorem tV (E:List S83):∀(m k:Nat),∀x∈dj E k,x∈dj E (k+m)
 |0,k,x,a=>a
 |m+1,k,x,a=>List.mem_append.2 (.inl (tV E m k x a))
theorem tW (s:Nat) (a b:Int):∀m,∀x∈f_ s a b m,x.2.1=a/\x.2.2=b
 |0,x,e=>by cases e
 |m+1,x,e=>by
  rcases List.mem_append.1 e with e|e
  ·exact tW s a b m x e
  ·obtain rfl:=List.mem_singleton.1 e;exact⟨rfl,rfl⟩
theorem tX (E:List S83):∀k,k<=E.length->∀x∈dj E k,∃e∈E,x.2.1=e.f0/\x.2.2=e.f1
 |0,_,x,a=>by cases a
 |k+1,hk,x,a=>by
  rcases List.mem_append.1 a with a|a
  ·exact tX E k (by omega) x a
  ·have h:=tW _ _ _ _ x a
   have e:ae E k=E[k]:=by simp[ae,bh,bX (show k<E.length by omega)]
   exact⟨ae E k,by rw[e];exact List.getElem_mem _,h.1,h.2⟩
theorem tY (g:Nat) (N:Int) (A0:Option Addr) (c0:Nat) (E:List S83) (w0 W:World) (am:Kd.C aT w0 A0 E.length E) (O:e8 E=true) (hB:Below w0.heap.size w0 W)
  (v:W.heap[g]? =some (.cells #[.int .i64 N,.slice A0 E.length c0] 24 (0,0))):
  jb (σ:=Unit) Fence.wide 9 Tryz.prog 140 #[.pointer (some ⟨g,0,none⟩)] (fun x:Nat×Int×Int=>#[.int .i64 x.1,.agg #[.int .i64 x.2.1,.int .i64 x.2.2]]) (fun _ W W1=>W1=W) (fun _ A B=>Below A.heap.size A B) (fun _ x A B=>x∈dj E E.length/\Below A.heap.size A B)
   (fun _ X Y=>qp w0.heap.size X Y)
   (fun _ xs W'=>xs=dj E E.length) (fun _ _ _=>True) (fun pre=>pre.length<2000) W:=by
 intro lp J Jx P Q R S;have ap:=zA P;have bk:=zA Q;have hY:=zA S;have av:=R () W rfl;clear P Q R S;have hu:=Tryz.underlying24;have bn:=Tryz.underlying83;obtain⟨hlen,hm⟩:=qj O;have aY:=fun i hi=>om hm i hi
 have HM:=zA hm;have HS:=zA aY;clear hm aY O;refine callsIn_of_wp Tryz.func140 rfl trivial ?_ rfl;simp only[Tryz.ntmps140,List.size_toArray,List.length_cons,List.length_nil,Nat.reduceAdd,Nat.reduceSub,Array.replicate_succ,Array.replicate_zero,List.push_toArray,List.append_toArray,List.nil_append,List.cons_append];have bo:W.cell? ⟨g,1,none⟩=some (.slice A0 E.length c0):=(al v 1).trans rfl;have aL:=zA v;clear v;gi_wp2;gi_loopg [3,9] (E.length) (fun w s i wr=>∃k:Nat,i= .int .i64 k/\s= .int .i64 (cK E k:Nat)/\k<=E.length/\Aside0 (J () (dj E k) wr)/\Aside0 (wr.heap[g]? =some (.cells #[.int .i64 N,.slice A0 E.length c0] 24 (0,0)))/\Aside0 (Below w0.heap.size w0 wr)/\Aside0 (w=E.length-k))
 case atStart=>exact⟨0,rfl,rfl,Nat.zero_le _,⟨av⟩,aL,⟨hB⟩,⟨rfl⟩⟩
 case round=>
  obtain⟨k,rfl,rfl,hk,T,HX,p,HK⟩:=hrel;by_cases aR:k<E.length
  ·have y:=HM.out k aR
   have z:=Lib.hid (show cK E (k+1)=cK E k+(ae E k).f2.toNat from rfl);have D:=Lib.hid (show dj E (k+1)=dj E k++f_ (cK E k) (ae E k).f0 (ae E k).f1 (ae E k).f2.toNat from rfl);have aS:=HS.out (k+1) (by omega);have F:=z.out;obtain⟨ad,rfl,l,n,o⟩:=eJ am k (by omega) (by omega);rw[aQ] at l n o;generalize ae E k=x at y l n o z D F;obtain⟨a,b,m⟩:=x;simp only at y l n o;obtain⟨m,rfl⟩:=Int.eq_ofNat_of_zero_le (show 0<=m by omega);simp only[aQ] at F;have bv:cK E k+m<=2000:=by omega
   have bw:m<=50:=by omega
   have b0:(0:Int)<=(k:Int):=by omega
   have b1:(k:Int)<(E.length:Int):=by omega
   have l:=iq p.out l;have n:=iq p.out n;have o:=iq p.out o;have G:=zA (ap.out () _ _ _ T.out (aq (ao wr.heap.size wr) (.cells #[.int .i64 a,.int .i64 b,.int .i64 m] 83)));have H:=zA (ay HX.out (.cells #[.int .i64 a,.int .i64 b,.int .i64 m] 83));have I:=zA (aq p.out (.cells #[.int .i64 a,.int .i64 b,.int .i64 m] 83));have q:=zA (show (wr.alloc (.cells #[.int .i64 a,.int .i64 b,.int .i64 m] 83)).heap[wr.heap.size]? =some (.cells #[.int .i64 a,.int .i64 b,.int .i64 m] 83 (0,0)) from bm _ _);clear F aS y;gi_wp2;clear l n o;generalize (wr.alloc (.cells #[.int .i64 a,.int .i64 b,.int .i64 m] 83))=W1 at G H I q⊢;generalize wr.heap.size=r at q⊢;gi_loopg [3,15] (m) (fun w s i wi=>∃j:Nat,i= .int .i64 j/\s= .int .i64 (cK E k+j:Nat)/\j<=m/\Aside0 (J () (dj E k++f_ (cK E k) a b j) wi)/\Aside0 (wi.heap[g]? =some (.cells #[.int .i64 N,.slice (some ad) E.length c0] 24 (0,0)))/\Aside0 (wi.heap[r]? =some (.cells #[.int .i64 a,.int .i64 b,.int .i64 m] 83 (0,0)))/\Aside0 (Below w0.heap.size w0 wi)/\Aside0 (w=m-j))
   case atStart=>exact⟨0,rfl,rfl,Nat.zero_le _,⟨by simpa [f_] using G.out⟩,H,q,I,⟨rfl⟩⟩
   case round=>
    clear G H I q;obtain⟨j,rfl,rfl,hj,U,V,K,L,a0⟩:=hrel;by_cases a1:j<m
    ·have a2:=qo E k
     have a3:=qm (cK E k) a b j;obtain⟨fn,tmps,b3,b4,M,Z⟩:=hY.out () (dj E k++f_ (cK E k) a b j) (cK E k+j,a,b) wr wr U.out ⟨by have h:=tV E (E.length- (k+1)) (k+1) (cK E k+j,a,b) (by rw[D.out];exact List.mem_append.2 (.inr (tU _ _ _ j _ (by rw[aQ];exact a1))));rw[show k+1+(E.length- (k+1))=E.length by omega] at h;exact h,ao _ _⟩ (by rw[List.length_append];omega);have a4:=zA Z;simp only[Int.natCast_add] at M;have aa:wr.cell? ⟨r,0,none⟩=some (.int .i64 a):=(al K.out 0).trans rfl;have ab:wr.cell? ⟨r,1,none⟩=some (.int .i64 b):=(al K.out 1).trans rfl;clear Z a2 a3;gi_wp2;refine a4.out.mono ?_;rintro e W3 (⟨rfl,ag,u⟩|⟨rfl,ak⟩)
     ·have a5:=zA ag
      have a9:=zA (u.2 g _ _ (.inl rfl) V.out);have be:=zA (u.2 r _ _ (.inr rfl) K.out);have bf:=zA (L.out.trans (u.1 L.out.size));clear ag u M aa ab;gi_wp2;gi_roundg (m- (j+1))
      case measure=>rw[a0.out];omega
      case rel=>exact⟨j+1,by go_num,by go_num,by omega,⟨by simpa [f_] using a5.out⟩,a9,be,bf,⟨rfl⟩⟩
     ·have bg:=zA ak
      clear ak M aa ab;gi_wp2;refine bodyPost_ret (results_none rfl _ _ _) rfl ?_;exact⟨⟨_,rfl⟩,.inr ⟨(),_,trivial,bg.out⟩⟩
    ·obtain rfl:j=m:=by omega
     gi_wp2;gi_roundg (E.length- (k+1))
     case measure=>rw[HK.out];omega
     case rel=>exact⟨k+1,by go_num,by rw[z.out,aQ],by omega,⟨by rw[D.out,aQ];exact U.out⟩,V,L,⟨rfl⟩⟩
  ·obtain rfl:k=E.length:=by omega
   gi_wp2;go_end0;exact⟨⟨_,rfl⟩,.inl ⟨(),_,rfl,T.out⟩⟩
theorem Bu (b:Nat) (N:Int) (A0:Option Addr) (c0:Nat) (E:List S83) (w0 W:World) (g:Kd.C aT w0 A0 E.length E) (h:e8 E=true) (i:Below w0.heap.size w0 W)
  (j:W.heap[b]? =some (.cells #[.int .i64 N,.slice A0 E.length c0] 24 (0,0))):
  jb (σ:=Unit) Fence.wide 9 Tryz.prog 140 #[.pointer (some ⟨b,0,none⟩)] (fun x:Nat×Int×Int=>#[.int .i64 x.1,.agg #[.int .i64 x.2.1,.int .i64 x.2.2]]) (fun _ W W1=>W1=W) (fun _ A B=>Below A.heap.size A B) (fun _ _ A B=>Below A.heap.size A B)
   (fun _ X Y=>qp w0.heap.size X Y)
   (fun _ xs W'=>xs=dj E E.length) (fun _ _ _=>True) (fun pre=>pre.length<2000) W:=fun k J Jx l m n o=>tY b N A0 c0 E w0 W g h i j k J Jx (fun s pre A B a e=>l s pre A B a e) (fun s pre A B a e=>m s pre A B a e) n (fun s pre x p W1 a q r=>o s pre x p W1 a q.2 r)
end
theorem tZ (w:World) (ok:Nat->Prop) (a:ok w.heap.size) (e:Nat):(Kd.int .i64).R e (w.alloc (.cells #[] e)) w.heap.size ok (.slice (some ⟨w.heap.size,0,none⟩) 0 0) []:=
 ⟨fun k hk=>by
  have:w.heap.size=k:=by simpa [Value.ownBlock] using hk
  subst this;exact a,[],by
  show World.ownsRow _ _ _ 1 _ _ _
  simpa using World.ownsRow_lit (base:=w.heap.size) (e:=e) (size:=1) w #[] 0 (aI _) (by decide) rfl,aU.none _ _⟩
theorem t_ {l:List Int} {w:World} (h:Kd.C (Kd.int .i64) w none l.length l):l=[]:=by
 cases l with
 |nil=>rfl
 |cons x xs=>obtain⟨ad,e,_⟩:=h.2.2 (by simp);cases e
def clone.f (l0:List Int):Option (List Int):=if l0.length<17592186044416 then some l0 else none
abbrev fL.f (l0:List Int):Option (List Int):=clone.f l0
abbrev mN.f (l0:List Int):Option (List Int):=clone.f l0
theorem fL.calls (A0:Option Addr) (c0:Nat) (l0:List Int) (r:List Int) (w:World) (b:Kd.C (Kd.int .i64) w A0 l0.length l0) (j:l0.length<=c0) (h:fL.f l0=some r):
  Calls Tryz.prog 57 #[.slice A0 l0.length c0] w fun e w'=>∃g:Value,e= .returned (g)/\Kd.R (Kd.int .i64) 3 w' w.heap.size (fun _=>True) g r/\Below w.heap.size w w':=by
 have hu:=Tryz.underlying26;have k:=fun (w:World) (a:Option Addr) (n c:Nat)=>Lib.run_eql_slice_nil (P:=Tryz.prog) w 26 3 a n c 0 0 hu
 unfold fL.f clone.f at h;split at h
 ·rename_i l
  obtain rfl:=aH h;cases A0 with
  |none=>
   go_enter Tryz.func57,Tryz.ntmps57
   go_wp2;go_ret;obtain rfl:=t_ b;exact⟨_,rfl,Kd.cW _ _ _ _ _,ao _ _⟩
  |some ad=>
   go_enter Tryz.func57,Tryz.ntmps57
   go_wp2_with (at_builtin;refine Kd.sg (w0:=w) (Value.int .i64) (0:Int) (h1:=fun _=>rfl) w.heap.size rfl (.tmp 5) (.tmp 6) 26 3 (.int .i64 0) 8 rfl Tryz.underlying26 fW rfl (by decide) (.slice (some ⟨w.heap.size,0,none⟩) 0 0) [] l0 (some ad) l0.length c0 (fun _=>True) rfl rfl (fun _ _=>trivial) (tZ w _ trivial 3) (Kd.au b (aq (ao _ _) _)) (aq (ao _ _) _) (by simp) (by simp;omega) ?_;intro v1 w1 i hb m _)
   go_ret;exact⟨_,rfl,i,hb⟩
 ·cases h
theorem mN.calls (A0:Option Addr) (c0:Nat) (l0:List Int) (r:List Int) (w:World) (b:Kd.C (Kd.int .i64) w A0 l0.length l0) (j:l0.length<=c0) (h:mN.f l0=some r):
  Calls Tryz.prog 217 #[.slice A0 l0.length c0] w fun e w'=>∃g:Value,e= .returned (g)/\Kd.R (Kd.int .i64) 3 w' w.heap.size (fun _=>True) g r/\Below w.heap.size w w':=by
 have hu:=Tryz.underlying25;have k:=fun (w:World) (a:Option Addr) (n c:Nat)=>Lib.run_eql_slice_nil (P:=Tryz.prog) w 25 3 a n c 0 0 hu
 unfold mN.f clone.f at h;split at h
 ·rename_i l
  obtain rfl:=aH h;cases A0 with
  |none=>
   go_enter Tryz.func217,Tryz.ntmps217
   go_wp2;go_ret;obtain rfl:=t_ b;exact⟨_,rfl,Kd.cW _ _ _ _ _,ao _ _⟩
  |some ad=>
   go_enter Tryz.func217,Tryz.ntmps217
   go_wp2_with (at_builtin;refine Kd.sg (w0:=w) (Value.int .i64) (0:Int) (h1:=fun _=>rfl) w.heap.size rfl (.tmp 5) (.tmp 6) 25 3 (.int .i64 0) 8 rfl Tryz.underlying25 fW rfl (by decide) (.slice (some ⟨w.heap.size,0,none⟩) 0 0) [] l0 (some ad) l0.length c0 (fun _=>True) rfl rfl (fun _ _=>trivial) (tZ w _ trivial 3) (Kd.au b (aq (ao _ _) _)) (aq (ao _ _) _) (by simp) (by simp;omega) ?_;intro v1 w1 i hb m _)
   go_ret;exact⟨_,rfl,i,hb⟩
 ·cases h
theorem qq:Tryz.zeroCells252=((List.replicate 145 (Value.int .i64 0))++[Value.slice none 0 0]++List.replicate 12 (Value.bool false)).toArray:=by kernel_rfl
theorem ot.new (n:Int) (chips:Value):ot ((Tryz.zeroCells252.setIfInBounds 0 (.int .i64 n)).setIfInBounds 145 chips) n (fun _ _=>0) chips (fun _=>false):=by
 have a:Tryz.zeroCells252.size=158:=by rw[qq];simp
 refine⟨by simp[a],?_,?_,?_,?_⟩
 ·rw[Array.getElem?_setIfInBounds_ne (by omega),Array.getElem?_setIfInBounds_self_of_lt (by omega)]
 ·intro i j hi b
  rw[Array.getElem?_setIfInBounds_ne (by omega),Array.getElem?_setIfInBounds_ne (by omega),qq];rw[List.getElem?_toArray,List.getElem?_append_left (by simp;omega),List.getElem?_append_left (by simp;omega),List.getElem?_replicate,if_pos (by omega)]
 ·rw[Array.getElem?_setIfInBounds_self_of_lt (by simp[a])]
 ·intro i hi
  rw[Array.getElem?_setIfInBounds_ne (by omega),Array.getElem?_setIfInBounds_ne (by omega),qq];rw[List.getElem?_toArray,List.getElem?_append_right (by simp),List.getElem?_replicate,if_pos (by simp;omega)]
theorem Bv (n q:Nat) (A0:Option Addr) (c0:Nat) (E:List S83) (L:Option Addr) (c2:Nat) (l:List Int) (w:World) (T:Kd.C aT w A0 E.length E) (aS:E.length<=c0) (am:Kd.C (Kd.int .i64) w L l.length l) (an:l.length<=c2) (hn:n<=12) (hq:q<n) (hE:ep n E) (a1:l.length<=n) (a2:n<=l.length):
  Calls Tryz.prog 220 #[.agg #[.int .i64 n,.slice A0 E.length c0],.int .i64 q,.slice L l.length c2] w (fun e w'=>∃g h o,e= .returned (.pointer (some ⟨g,0,none⟩))/\cH w' g n (ai E) (.slice h l.length o) (fun i=>if i=q then true else false)/\Kd.R (Kd.int .i64) 3 w' w.heap.size (fun _=>True) (.slice h l.length o) l/\Below w.heap.size w w'/\w.heap.size<=g):=by
 have hu:=Tryz.underlying24;go_enter Tryz.func220,Tryz.ntmps220
 go_wp2_with fail
 go_region_held3 (fun w'=>w'.cell? ⟨w.heap.size,0,none⟩=some (.int .i64 n)/\w'.cell? ⟨w.heap.size,1,none⟩=some (.slice A0 E.length c0)) (first|go_keep|(go_split_ands;exact⟨(G.cell (p:=⟨w.heap.size,0,none⟩) (by simp)).trans (by go_simp),(G.cell (p:=⟨w.heap.size,1,none⟩) (by simp)).trans (by go_simp)⟩))
  (first|(go_at_call 57;refine(fL.calls L c2 l l _ (Kd.au am (gS (aq (ao _ _) _))) an (by unfold fL.f clone.f;rw[if_pos (by omega)])).mono ?_;rintro e w1 ⟨v0,rfl,M,G⟩;obtain⟨h,o,rfl⟩:=Kd.bb M))
 rename_i hHeld;have N:cH (w1.alloc (.cells ((Tryz.zeroCells252.setIfInBounds 0 (.int .i64 n)).setIfInBounds 145 (.slice h l.length o)) 252)) w1.heap.size n (fun _ _=>0) (.slice h l.length o) (fun _=>false):=⟨_,by simpa using bm w1 _,ot.new _ _⟩;have U:Below w.heap.size w (w1.alloc (.cells ((Tryz.zeroCells252.setIfInBounds 0 (.int .i64 n)).setIfInBounds 145 (.slice h l.length o)) 252)):=aq (lf (gS (aq (ao _ _) _)) (by simp) G) _;have V:Kd.R (Kd.int .i64) 3 (w1.alloc (.cells ((Tryz.zeroCells252.setIfInBounds 0 (.int .i64 n)).setIfInBounds 145 (.slice h l.length o)) 252)) w.heap.size (fun _=>True) (.slice h l.length o) l:=Kd.ba (Kd.aK M _) (by simp);have hg:w.heap.size<w1.heap.size:=by have:=G.size;simp at this;omega
 clear G M;generalize av:w1.heap.size=g at N hg⊢;generalize (w1.alloc (.cells ((Tryz.zeroCells252.setIfInBounds 0 (.int .i64 n)).setIfInBounds 145 (.slice h l.length o)) 252))=W0 at N hHeld U V⊢;clear av;obtain⟨a3,a4⟩:=hHeld;go_wp2;go_loopw [19] (fun u wr=>∃k:Nat,k<=E.length/\u= .int .i64 k/\Aside0 (cH wr g n (ai (E.take k)) (.slice h l.length o) (fun _=>false))/\Aside0 (Kd.R (Kd.int .i64) 3 wr w.heap.size (fun _=>True) (.slice h l.length o) l)/\Aside0 (Below w.heap.size w wr)) (fun u _=>E.length- (intOf u).toNat)
 case atStart=>exact⟨0,Nat.zero_le _,rfl,⟨by simpa [ai] using N⟩,⟨V⟩,⟨U⟩⟩
 case round=>
  obtain⟨k,hk,rfl,y,O,z⟩:=hrel;have a5:=T.2.1;by_cases W:k<E.length
  ·obtain⟨P,X,e2,Y,Z,e5⟩:=hE.get k W
   have ab:=tf E k W;have Q:=Lib.hid ab;clear ab;obtain⟨ad,rfl,B,D,F⟩:=eJ T k (by omega) (by omega);rw[aQ] at B D F;replace B:=(z.out.cell (bs w _ B)).trans B;replace D:=(z.out.cell (bs w _ D)).trans D;replace F:=(z.out.cell (bs w _ F)).trans F;generalize ae E k=x at P X e2 Y Z e5 B D F Q;obtain⟨a,b,m⟩:=x;simp only at P X e2 Y Z e5 B D F;obtain⟨a,rfl⟩:=Int.eq_ofNat_of_zero_le P;obtain⟨b,rfl⟩:=Int.eq_ofNat_of_zero_le e2;have a12:a<12:=by omega
   have s:b<12:=by omega
   by_cases H:a=b
   ·have aB:((a:Int) != (b:Int))=false:=by rw[H];simp
    have S:=Lib.hid H;clear H;go_wp2;go_roundw
    case rel=>exact⟨k+1,by omega,by go_num,⟨by rw[Q.out];simp only[dh];rw[if_pos (by rw[S.out])];exact y.out.below (aq (ao _ _) _)⟩,⟨Kd.aK O.out _⟩,⟨aq z.out _⟩⟩
    case measure=>simp[intOf];omega
   ·have aB:((a:Int) != (b:Int))=true:=by rw[bne_iff_ne];omega
    have a9:1+a*12+b≠1+b*12+a:=by omega
    have be:1+b*12+a≠1+a*12+b:=by omega
    have S:=Lib.hid H;clear H;have bf:=y.out.lt;have r:=zA (y.out.below (aq (ao _ _) (.cells #[.int .i64 a,.int .i64 b,.int .i64 m] 83)));have f1:=r.out.frozen (1+a*12+b);have f2:=r.out.frozen (1+b*12+a);have c1:=r.out.mJ a b a12 s;have c2:=r.out.mJ b a s a12;go_wp2;have s0:(wr.alloc (.cells #[.int .i64 a,.int .i64 b,.int .i64 m] 83)).cell? ⟨wr.heap.size,0,none⟩=some (.int .i64 a):=by go_simp
    have s1:(wr.alloc (.cells #[.int .i64 a,.int .i64 b,.int .i64 m] 83)).cell? ⟨wr.heap.size,1,none⟩=some (.int .i64 b):=by go_simp
    have s2:(wr.alloc (.cells #[.int .i64 a,.int .i64 b,.int .i64 m] 83)).cell? ⟨wr.heap.size,2,none⟩=some (.int .i64 m):=by go_simp
    have ag:=zA (Kd.aK O.out (.cells #[.int .i64 a,.int .i64 b,.int .i64 m] 83));have ak:=zA (aq z.out (.cells #[.int .i64 a,.int .i64 b,.int .i64 m] 83));have aF:g≠wr.heap.size:=by omega
    have aL:wr.heap.size≠g:=by omega
    generalize (wr.alloc (.cells #[.int .i64 a,.int .i64 b,.int .i64 m] 83))=W2 at s0 s1 s2 r ag ak f1 f2 c1 c2⊢;generalize wr.heap.size=eb at aF aL s0 s1 s2⊢;have d1:=(r.out.mK b a s a12 m).mJ a b a12 s;have d2:=(r.out.mK a b a12 s m).mJ b a s a12;go_region
    have I:=(r.out.mK a b a12 s m).mK b a s a12 m;have J:=(r.out.mK a b a12 s m).eU (r.out.eU ag.out (by decide) (1+a*12+b) (.int .i64 m)) (by decide) (1+b*12+a) (.int .i64 m);have K:=dx (dx ak.out (g:=g) (j:=1+a*12+b) (v:=.int .i64 m) (by omega)) (g:=g) (j:=1+b*12+a) (v:=.int .i64 m) (by omega);generalize ((W2.setCell ⟨g,1+a*12+b,none⟩ (.int .i64 m)).setCell ⟨g,1+b*12+a,none⟩ (.int .i64 m))=W3 at I J K⊢;replace I:=zA I;replace J:=zA J;replace K:=zA K;go_wp2;go_roundw
    case rel=>exact⟨k+1,by omega,by go_num,⟨by rw[Q.out];simp only[dh];rw[if_neg (by have:=S.out;omega)];exact I.out.drew⟩,⟨Kd.bd J.out⟩,⟨gS K.out⟩⟩
    case measure=>simp[intOf];omega
  ·obtain rfl:k=E.length:=by omega
   have fq:=y.out.frozen (146+q);have cq:=y.out.lP q (by omega);have aO:=zA (y.out.tO q (by omega) true);have aP:=zA (y.out.eU O.out (by decide) (146+q) (.bool true));have aR:=zA (dx z.out (g:=g) (j:=146+q) (v:=.bool true) (by omega));go_wp2;go_ret;exact⟨g,h,o,rfl,by simpa using aO.out,aP.out,aR.out,by omega⟩
def gI.f (a0:Int):Option (Bool):=if a0>=(-1048576) then(some (decide (a0<=1048576))) else(some false)
theorem gI.calls (a0:Int) (r:Bool) (w:World) (h:gI.f a0=some r):
  Calls Tryz.prog 119 #[.int .i64 a0] w fun e w'=>e= .returned (.bool r)/\aA w w':=by
 have H:(if a0>=(-1048576) then(some (decide (a0<=1048576))) else(some false))=some r:=h;clear h;by_cases c2:a0>=(-1048576)
 ·rw[if_pos c2] at H
  have a:=az c2;clear c2;obtain rfl:=aH H;go_enter Tryz.func119,Tryz.ntmps119
  go_wp2;go_ret;exact⟨zT,by repeat(first|exact aA.refl _|apply aA.step)⟩
 ·rw[if_neg c2] at H
  have a:=aZ c2;clear c2;obtain rfl:=aH H;go_enter Tryz.func119,Tryz.ntmps119
  go_wp2;go_ret;exact⟨zT,by repeat(first|exact aA.refl _|apply aA.step)⟩
def jd.f (a0:Int):Option (Int):=if a0<1 then(some 2) else(if a0>12 then(some 2) else(some 0))
theorem jd.calls (a0:Int) (r:Int) (w:World) (h:jd.f a0=some r):
  Calls Tryz.prog 141 #[.int .i64 a0] w fun e w'=>e= .returned (.int .i64 r)/\aA w w':=by
 have H:(if a0<1 then(some 2) else(if a0>12 then(some 2) else(some 0)))=some r:=h;clear h;by_cases c2:a0<1
 ·rw[if_pos c2] at H
  have a:=az c2;clear c2;obtain rfl:=aH H;go_enter Tryz.func141,Tryz.ntmps141
  go_wp2;go_ret;exact⟨zT,by repeat(first|exact aA.refl _|apply aA.step)⟩
 ·rw[if_neg c2] at H
  have a:=aZ c2;clear c2;by_cases c3:a0>12
  ·rw[if_pos c3] at H
   have b:=az c3;clear c3;obtain rfl:=aH H;go_enter Tryz.func141,Tryz.ntmps141
   go_wp2;go_ret;exact⟨zT,by repeat(first|exact aA.refl _|apply aA.step)⟩
  ·rw[if_neg c3] at H
   have b:=aZ c3;clear c3;obtain rfl:=aH H;go_enter Tryz.func141,Tryz.ntmps141
   go_wp2;go_ret;exact⟨zT,by repeat(first|exact aA.refl _|apply aA.step)⟩
def bt.l0:Nat->List Int->Int->Int->Option (Int)
 |0,_,_,_=>none
 |k+1,b,e,a=>if a<e then(if 0<=a then(if a<(b.length:Int) then((gI.f (rd b a)).bind fun t192=>(if t192=true then(bt.l0 k b e (wrap64 (a+1))) else(some 2))) else(none)) else(none)) else(some 0)
def bt.f (k:Nat) (l0:List Int) (a:Int):Option (Int):=(jd.f a).bind fun t190=>(if t190=0 then(if(l0.length:Int)=a then(bt.l0 k l0 (l0.length:Int) 0) else(some 8)) else(some t190))
theorem bt.cm:∀k,(∀a b e,aj (bt.l0 k a b e) (bt.l0 (k+1) a b e))
 |0=>fun _ _ _ r h=>by simp[bt.l0] at h
 |k+1=>by
  have g:=bt.cm k
  ·intro a b e
   unfold bt.l0;with_reducible repeat' first|exact g _ _ _|exact aj.refl _|exact aj.none _|refine aj.ite ?_ ?_|refine aj.bind ?_ (fun _=>?_)
theorem bt.mono:∀a0 a k,aj (bt.f k a0 a) (bt.f (k+1) a0 a):=by
 intro a0 a k;have b:=bt.cm k;unfold bt.f;with_reducible repeat' first|exact b _ _ _|exact aj.refl _|exact aj.none _|refine aj.ite ?_ ?_|refine aj.bind ?_ (fun _=>?_)
theorem bt.calls (k:Nat) (A0:Option Addr) (c0:Nat) (l0:List Int) (b:Int) (r:Int) (w:World) (x:Kd.C (Kd.int .i64) w A0 l0.length l0) (y:l0.length<=c0) (h:bt.f k l0 b=some r):
  Calls Tryz.prog 87 #[.slice A0 l0.length c0,.int .i64 b] w fun e w'=>e= .returned (.int .i64 r)/\aA w w':=by
 have z:=zA x;have P:=zA y;clear x y;unfold bt.f at h;have H:=h;clear h;obtain⟨t190,s,H⟩:=zo H;by_cases c4:t190=0
 ·rw[if_pos c4] at H
  obtain⟨B,D⟩:=bF c4;clear c4;by_cases l:(l0.length:Int)=b
  ·rw[if_pos l] at H
   obtain⟨E,F⟩:=bF l;clear l;have m:=zA H;clear H;go_enter Tryz.func87,Tryz.ntmps87
   go_wp2_with (first|((with_reducible refine aC (f:=141) rfl ?_);refine zL (some 9) Tryz.func141 #[.int .i64 b] ?_;(with_reducible refine(jd.calls b t190 _ s.out).mono ?_);rintro e w' ⟨rfl,⟨n,rfl⟩⟩;refine⟨_,rfl,?_⟩))
   go_loopg [19] k (fun G K w'=>∃(a:Int),K= .int .i64 a/\Aside0 (bt.l0 G l0 (l0.length:Int) a=some r)/\Aside0 (G<=k)/\aA w w')
   case atStart=>exact⟨(0),zT,m,⟨aI _⟩,by repeat(first|exact aA.refl _|apply aA.step)⟩
   case round=>
    clear m;clear B D E F;obtain⟨a,rfl,u,I,⟨m1,rfl⟩⟩:=hrel;cases gk with
    |zero=>exact absurd u.out (by simp[bt.l0])
    |succ L=>
     have H:=u.out;clear u;simp only[bt.l0] at H;by_cases j:a<(l0.length:Int)
     ·rw[if_pos j] at H
      have M:=az j;clear j;by_cases o:0<=a
      ·rw[if_pos o] at H
       have Q:=az o;clear o;by_cases p:a<(l0.length:Int)
       ·rw[if_pos p] at H
        have R:=az p;clear p;obtain⟨t192,J,H⟩:=zo H;by_cases q:t192=true
        ·subst q
         replace H:=zi H;have m:=zA H;clear H;have g:0<=(a:Int):=aw ‹_›;have i:a<(l0.length:Int):=aw ‹_›;obtain⟨N,v,O⟩:=Kd.bL z.out a g i;cases v;replace g:=eq_true g;replace i:=eq_true i;go_wp2_with (first|((with_reducible refine aC (f:=119) rfl ?_);refine zL (some 24) Tryz.func119 #[.int .i64 (rd l0 a)] ?_;(with_reducible refine(gI.calls (rd l0 a) true _ J.out).mono ?_);rintro e w' ⟨rfl,⟨n,rfl⟩⟩;refine⟨_,rfl,?_⟩))
         go_roundg L
         case measure=>have:=I.out;omega
         case rel=>exact⟨(wrap64 (a+1)),zT,m,⟨by have:=I.out;omega⟩,by repeat(first|exact aA.refl _|apply aA.step)⟩
        ·replace q:=Bool.eq_false_iff.mpr q
         subst q;replace H:=zj H;obtain rfl:=aH H;have g:0<=(a:Int):=aw ‹_›;have i:a<(l0.length:Int):=aw ‹_›;obtain⟨N,v,O⟩:=Kd.bL z.out a g i;cases v;replace g:=eq_true g;replace i:=eq_true i;go_wp2_with (first|((with_reducible refine aC (f:=119) rfl ?_);refine zL (some 24) Tryz.func119 #[.int .i64 (rd l0 a)] ?_;(with_reducible refine(gI.calls (rd l0 a) false _ J.out).mono ?_);rintro e w' ⟨rfl,⟨n,rfl⟩⟩;refine⟨_,rfl,?_⟩))
         go_ret;exact⟨zT,by repeat(first|exact aA.refl _|apply aA.step)⟩
       ·rw[if_neg p] at H
        exact absurd H (by simp)
      ·rw[if_neg o] at H
       exact absurd H (by simp)
     ·rw[if_neg j] at H
      have M:=aZ j;clear j;obtain rfl:=aH H;go_wp2;go_ret;exact⟨zT,by repeat(first|exact aA.refl _|apply aA.step)⟩
  ·rw[if_neg l] at H
   obtain⟨E,F⟩:=bI l;obtain rfl:=aH H;go_enter Tryz.func87,Tryz.ntmps87
   go_wp2_with (first|((with_reducible refine aC (f:=141) rfl ?_);refine zL (some 9) Tryz.func141 #[.int .i64 b] ?_;(with_reducible refine(jd.calls b t190 _ s.out).mono ?_);rintro e w' ⟨rfl,⟨n,rfl⟩⟩;refine⟨_,rfl,?_⟩))
   go_ret;exact⟨zT,by repeat(first|exact aA.refl _|apply aA.step)⟩
 ·rw[if_neg c4] at H
  obtain⟨B,D⟩:=bI c4;obtain rfl:=aH H;go_enter Tryz.func87,Tryz.ntmps87
  go_wp2_with (first|((with_reducible refine aC (f:=141) rfl ?_);refine zL (some 9) Tryz.func141 #[.int .i64 b] ?_;(with_reducible refine(jd.calls b t190 _ s.out).mono ?_);rintro e w' ⟨rfl,⟨n,rfl⟩⟩;refine⟨_,rfl,?_⟩))
  go_ret;exact⟨zT,by repeat(first|exact aA.refl _|apply aA.step)⟩
def c_.l0:Nat->Int->List Int->Int->Int->Option (Int)
 |0,_,_,_,_=>none
 |k+1,x1,b,e,a=>if a<e then(if 0<=a then(if a<(b.length:Int) then(if a=x1 then(c_.l0 k x1 b e (wrap64 (a+1))) else(if(rd b a)<0 then(some 2) else(c_.l0 k x1 b e (wrap64 (a+1))))) else(none)) else(none)) else(some 0)
def c_.f (k:Nat) (a:Int) (h:List (S83)) (b:Int) (l2:List Int):Option (Int):=(dt.f k a h b).bind fun e=>(if e=0 then((bt.f k l2 a).bind fun g=>(if g=0 then(c_.l0 k b l2 (l2.length:Int) 0) else(some g))) else(some e))
theorem c_.cm:∀k,(∀a b e g,aj (c_.l0 k a b e g) (c_.l0 (k+1) a b e g))
 |0=>fun _ _ _ _ r h=>by simp[c_.l0] at h
 |k+1=>by
  have i:=c_.cm k
  ·intro a b e g
   unfold c_.l0;with_reducible repeat' first|exact i _ _ _ _|exact bt.mono _ _ _|exact dt.mono _ _ _ _|exact aj.refl _|exact aj.none _|refine aj.ite ?_ ?_|refine aj.bind ?_ (fun _=>?_)
theorem c_.mono:∀a0 a a2 a3 k,aj (c_.f k a0 a a2 a3) (c_.f (k+1) a0 a a2 a3):=by
 intro a0 a a2 a3 k;have b:=c_.cm k;unfold c_.f;with_reducible repeat' first|exact b _ _ _ _|exact bt.mono _ _ _|exact dt.mono _ _ _ _|exact aj.refl _|exact aj.none _|refine aj.ite ?_ ?_|refine aj.bind ?_ (fun _=>?_)
theorem c_.calls (k:Nat) (i:Int) (q:Option Addr) (s:Nat) (j:List (S83)) (p:Int) (G:Option Addr) (c2:Nat) (l2:List Int) (r:Int) (w:World) (T:Kd.C aT w q j.length j) (U:j.length<=s) (V:Kd.C (Kd.int .i64) w G l2.length l2) (W:l2.length<=c2) (h:c_.f k i j p l2=some r):
  Calls Tryz.prog 224 #[.agg #[.int .i64 i,.slice q j.length s],.int .i64 p,.slice G l2.length c2] w fun e w'=>e= .returned (.int .i64 r)/\Below w.heap.size w w':=by
 have a5:=Tryz.underlying24;have M:=zA T;have O:=zA U;clear T U;have z:=zA V;have X:=zA W;clear V W;have a:=zA (ao w.heap.size w);unfold c_.f at h;have H:=h;clear h;obtain⟨I,P,H⟩:=zo H;by_cases B:I=0
 ·rw[if_pos B] at H
  obtain⟨Y,Z⟩:=bF B;clear B;obtain⟨Q,A6,H⟩:=zo H;by_cases D:Q=0
  ·rw[if_pos D] at H
   obtain⟨ab,ad⟩:=bF D;clear D;have v:=zA H;clear H;go_enter Tryz.func224,Tryz.ntmps224
   go_wp2_with (first|((with_reducible refine aJ (N:=3) rfl ?_);refine zX 3 #[.int .i64 i,.slice q j.length s] 24 ?_;intro R l w8 u hb;have g:=zA (u);have ag:=zG a l;have ak:=zG a l;replace a:=zS a hb;clear hb u l;obtain⟨ar,av,aB,aF⟩:=ax g)|((with_reducible refine aC (f:=211) rfl ?_);refine zL (some 13) Tryz.func211 #[.agg #[.int .i64 i,.slice q j.length s],.int .i64 p] ?_;(with_reducible refine(dt.calls k i _ _ j p I _ ?af ?ah P.out).mono ?_);(case af=>exact Kd.au M.out zB);(case ah=>exact O.out);rintro e be ⟨rfl,hb⟩;refine⟨_,rfl,?_⟩;replace g:=zb g hb;replace a:=zS a hb;(try clear hb);obtain⟨aL,aO,aP,aR⟩:=ax g)|((with_reducible refine aC (f:=87) rfl ?_);refine zL (some 20) Tryz.func87 #[.slice G l2.length c2,.int .i64 i] ?_;(with_reducible refine(bt.calls k _ _ l2 i Q _ ?af ?ah A6.out).mono ?_);(case af=>exact Kd.au z.out zB);(case ah=>exact X.out);rintro e w' ⟨rfl,⟨nd,rfl⟩⟩;refine⟨_,rfl,?_⟩))
   go_loopg [26] k (fun kq v26 w'=>∃(b:Int),v26= .int .i64 b/\Aside0 (c_.l0 kq p l2 (l2.length:Int) b=some r)/\Aside0 (kq<=k)/\Aside0 (w'.heap[R]? =some (.cells #[.int .i64 i,(.slice q j.length s)] 24 (0,0)))/\Aside0 (Below w.heap.size w w'))
   case atStart=>exact⟨(0),zT,v,⟨aI _⟩,⟨zK g⟩,⟨zB⟩⟩
   case round=>
    clear v;clear Y Z ab ad aL aO ar av aP aR aB aF;obtain⟨b,rfl,S,J,g,a⟩:=hrel;cases gk with
    |zero=>exact absurd S.out (by simp[c_.l0])
    |succ k1=>
     have H:=S.out;clear S;simp only[c_.l0] at H;by_cases x:b<(l2.length:Int)
     ·rw[if_pos x] at H
      have a0:=az x;clear x;by_cases K:0<=b
      ·rw[if_pos K] at H
       have bf:=az K;clear K;by_cases L:b<(l2.length:Int)
       ·rw[if_pos L] at H
        have bg:=az L;clear L;by_cases E:b=p
        ·rw[if_pos E] at H
         obtain⟨a2,a3⟩:=bF E;clear E;have v:=zA H;clear H;have m:0<=(b:Int):=aw ‹_›;have n:b<(l2.length:Int):=aw ‹_›;obtain⟨ap,F,o⟩:=Kd.bL z.out b m n;cases F;replace o:=(a.out.cell (bs w _ o)).trans o;replace m:=eq_true m;replace n:=eq_true n;go_wp2;go_roundg k1
         case measure=>have:=J.out;omega
         case rel=>exact⟨(wrap64 (b+1)),zT,v,⟨by have:=J.out;omega⟩,⟨zK g⟩,⟨zB⟩⟩
        ·rw[if_neg E] at H
         obtain⟨a2,a3⟩:=bI E;by_cases y:(rd l2 b)<0
         ·rw[if_pos y] at H
          have a4:=az y;clear y;obtain rfl:=aH H;have m:0<=(b:Int):=aw ‹_›;have n:b<(l2.length:Int):=aw ‹_›;obtain⟨ap,F,o⟩:=Kd.bL z.out b m n;cases F;replace o:=(a.out.cell (bs w _ o)).trans o;replace m:=eq_true m;replace n:=eq_true n;go_wp2;go_ret;exact⟨zE,zB⟩
         ·rw[if_neg y] at H
          have a4:=aZ y;clear y;have v:=zA H;clear H;have m:0<=(b:Int):=aw ‹_›;have n:b<(l2.length:Int):=aw ‹_›;obtain⟨ap,F,o⟩:=Kd.bL z.out b m n;cases F;replace o:=(a.out.cell (bs w _ o)).trans o;replace m:=eq_true m;replace n:=eq_true n;go_wp2;go_roundg k1
          case measure=>have:=J.out;omega
          case rel=>exact⟨(wrap64 (b+1)),zT,v,⟨by have:=J.out;omega⟩,⟨zK g⟩,⟨zB⟩⟩
       ·rw[if_neg L] at H
        exact absurd H (by simp)
      ·rw[if_neg K] at H
       exact absurd H (by simp)
     ·rw[if_neg x] at H
      have a0:=aZ x;clear x;obtain rfl:=aH H;go_wp2;go_ret;exact⟨zE,zB⟩
  ·rw[if_neg D] at H
   obtain⟨ab,ad⟩:=bI D;obtain rfl:=aH H;go_enter Tryz.func224,Tryz.ntmps224
   go_wp2_with (first|((with_reducible refine aJ (N:=3) rfl ?_);refine zX 3 #[.int .i64 i,.slice q j.length s] 24 ?_;intro R l bi u hb;have g:=zA (u);have ag:=zG a l;have ak:=zG a l;replace a:=zS a hb;clear hb u l;obtain⟨bk,bn,bo,bv⟩:=ax g)|((with_reducible refine aC (f:=211) rfl ?_);refine zL (some 13) Tryz.func211 #[.agg #[.int .i64 i,.slice q j.length s],.int .i64 p] ?_;(with_reducible refine(dt.calls k i _ _ j p I _ ?af ?ah P.out).mono ?_);(case af=>exact Kd.au M.out zB);(case ah=>exact O.out);rintro e bw ⟨rfl,hb⟩;refine⟨_,rfl,?_⟩;replace g:=zb g hb;replace a:=zS a hb;(try clear hb);obtain⟨bx,b0,b1,b2⟩:=ax g)|((with_reducible refine aC (f:=87) rfl ?_);refine zL (some 20) Tryz.func87 #[.slice G l2.length c2,.int .i64 i] ?_;(with_reducible refine(bt.calls k _ _ l2 i Q _ ?af ?ah A6.out).mono ?_);(case af=>exact Kd.au z.out zB);(case ah=>exact X.out);rintro e w' ⟨rfl,⟨nd,rfl⟩⟩;refine⟨_,rfl,?_⟩))
   go_ret;exact⟨zE,zB⟩
 ·rw[if_neg B] at H
  obtain⟨Y,Z⟩:=bI B;obtain rfl:=aH H;go_enter Tryz.func224,Tryz.ntmps224
  go_wp2_with (first|((with_reducible refine aJ (N:=3) rfl ?_);refine zX 3 #[.int .i64 i,.slice q j.length s] 24 ?_;intro R l b3 u hb;have g:=zA (u);have ag:=zG a l;have ak:=zG a l;replace a:=zS a hb;clear hb u l;obtain⟨b4,b5,b6,b_⟩:=ax g)|((with_reducible refine aC (f:=211) rfl ?_);refine zL (some 13) Tryz.func211 #[.agg #[.int .i64 i,.slice q j.length s],.int .i64 p] ?_;(with_reducible refine(dt.calls k i _ _ j p I _ ?af ?ah P.out).mono ?_);(case af=>exact Kd.au M.out zB);(case ah=>exact O.out);rintro e b' ⟨rfl,hb⟩;refine⟨_,rfl,?_⟩;replace g:=zb g hb;replace a:=zS a hb;(try clear hb)))
  go_ret;exact⟨zE,zB⟩
def gJ.f (k:Nat) (e:Int) (g:List (S83)) (a:Int) (l2:List Int):Option (Int):=(c_.f k e g a l2).bind fun b=>(if b=0 then(if 0<=a then(if a<(l2.length:Int) then(if(rd l2 a)=0 then(some 0) else(some 3)) else(none)) else(none)) else(some b))
theorem gJ.mono:∀a0 a a2 a3 k,aj (gJ.f k a0 a a2 a3) (gJ.f (k+1) a0 a a2 a3):=by
 intro a0 a a2 a3 k;unfold gJ.f;with_reducible repeat' first|exact c_.mono _ _ _ _ _|exact aj.refl _|exact aj.none _|refine aj.ite ?_ ?_|refine aj.bind ?_ (fun _=>?_)
theorem gJ.calls (k:Nat) (i:Int) (m:Option Addr) (n:Nat) (g:List (S83)) (b:Int) (u:Option Addr) (c2:Nat) (l2:List Int) (r:Int) (w:World) (K:Kd.C aT w m g.length g) (L:g.length<=n) (M:Kd.C (Kd.int .i64) w u l2.length l2) (O:l2.length<=c2) (h:gJ.f k i g b l2=some r):
  Calls Tryz.prog 219 #[.agg #[.int .i64 i,.slice m g.length n],.int .i64 b,.slice u l2.length c2] w fun e w'=>e= .returned (.int .i64 r)/\Below w.heap.size w w':=by
 have X:=Tryz.underlying24;have E:=zA K;have F:=zA L;clear K L;have v:=zA M;have G:=zA O;clear M O;have a:=zA (ao w.heap.size w);unfold gJ.f at h;have H:=h;clear h;obtain⟨z,I,H⟩:=zo H;by_cases x:z=0
 ·rw[if_pos x] at H
  obtain⟨S,T⟩:=bF x;clear x;by_cases B:0<=b
  ·rw[if_pos B] at H
   have Y:=az B;clear B;by_cases D:b<(l2.length:Int)
   ·rw[if_pos D] at H
    have Z:=az D;clear D;by_cases y:(rd l2 b)=0
    ·rw[if_pos y] at H
     obtain⟨U,V⟩:=bF y;clear y;obtain rfl:=aH H;go_enter Tryz.func219,Tryz.ntmps219
     go_wp2_with (first|((with_reducible refine aJ (N:=3) rfl ?_);refine zX 3 #[.int .i64 i,.slice m g.length n] 24 ?_;intro P j w9 o hb;have l:=zA (o);have Q:=zG a j;have R:=zG a j;replace a:=zS a hb;clear hb o j;obtain⟨ab,ad,ag,ak⟩:=ax l)|((with_reducible refine aC (f:=224) rfl ?_);refine zL (some 11) Tryz.func224 #[.agg #[.int .i64 i,.slice m g.length n],.int .i64 b,.slice u l2.length c2] ?_;(with_reducible refine(c_.calls k i _ _ g b _ _ l2 z _ ?af ?ah ?aX ?aW I.out).mono ?_);(case af=>exact Kd.au E.out zB);(case ah=>exact F.out);(case aX=>exact Kd.au v.out zB);(case aW=>exact G.out);rintro e ie ⟨rfl,hb⟩;refine⟨_,rfl,?_⟩;replace l:=zb l hb;replace a:=zS a hb;(try clear hb);have p:0<=(b:Int):=aw ‹_›;have q:b<(l2.length:Int):=aw ‹_›;obtain⟨W,J,s⟩:=Kd.bL v.out b p q;cases J;replace s:=(a.out.cell (bs w _ s)).trans s;replace p:=eq_true p;replace q:=eq_true q))
     go_ret;exact⟨zE,zB⟩
    ·rw[if_neg y] at H
     obtain⟨U,V⟩:=bI y;obtain rfl:=aH H;go_enter Tryz.func219,Tryz.ntmps219
     go_wp2_with (first|((with_reducible refine aJ (N:=3) rfl ?_);refine zX 3 #[.int .i64 i,.slice m g.length n] 24 ?_;intro P j am o hb;have l:=zA (o);have Q:=zG a j;have R:=zG a j;replace a:=zS a hb;clear hb o j;obtain⟨an,ap,ar,av⟩:=ax l)|((with_reducible refine aC (f:=224) rfl ?_);refine zL (some 11) Tryz.func224 #[.agg #[.int .i64 i,.slice m g.length n],.int .i64 b,.slice u l2.length c2] ?_;(with_reducible refine(c_.calls k i _ _ g b _ _ l2 z _ ?af ?ah ?aX ?aW I.out).mono ?_);(case af=>exact Kd.au E.out zB);(case ah=>exact F.out);(case aX=>exact Kd.au v.out zB);(case aW=>exact G.out);rintro e aB ⟨rfl,hb⟩;refine⟨_,rfl,?_⟩;replace l:=zb l hb;replace a:=zS a hb;(try clear hb);have p:0<=(b:Int):=aw ‹_›;have q:b<(l2.length:Int):=aw ‹_›;obtain⟨W,J,s⟩:=Kd.bL v.out b p q;cases J;replace s:=(a.out.cell (bs w _ s)).trans s;replace p:=eq_true p;replace q:=eq_true q))
     go_ret;exact⟨zE,zB⟩
   ·rw[if_neg D] at H
    exact absurd H (by simp)
  ·rw[if_neg B] at H
   exact absurd H (by simp)
 ·rw[if_neg x] at H
  obtain⟨S,T⟩:=bI x;obtain rfl:=aH H;go_enter Tryz.func219,Tryz.ntmps219
  go_wp2_with (first|((with_reducible refine aJ (N:=3) rfl ?_);refine zX 3 #[.int .i64 i,.slice m g.length n] 24 ?_;intro P j aF o hb;have l:=zA (o);have Q:=zG a j;have R:=zG a j;replace a:=zS a hb;clear hb o j;obtain⟨aL,aO,aP,aR⟩:=ax l)|((with_reducible refine aC (f:=224) rfl ?_);refine zL (some 11) Tryz.func224 #[.agg #[.int .i64 i,.slice m g.length n],.int .i64 b,.slice u l2.length c2] ?_;(with_reducible refine(c_.calls k i _ _ g b _ _ l2 z _ ?af ?ah ?aX ?aW I.out).mono ?_);(case af=>exact Kd.au E.out zB);(case ah=>exact F.out);(case aX=>exact Kd.au v.out zB);(case aW=>exact G.out);rintro e aS ⟨rfl,hb⟩;refine⟨_,rfl,?_⟩;replace l:=zb l hb;replace a:=zS a hb;(try clear hb)))
  go_ret;exact⟨zE,zB⟩
section
theorem cH.bk {l:Nat} {A B:World} {g:Nat} {n:Int} {times:Nat->Nat->Int} {chips:Value} {burnt:Nat->Bool} (h:cH A g n times chips burnt) (hb:Bk l A B):cH B g n times chips burnt:=by
 obtain⟨cs,a,b⟩:=h;exact⟨cs,hb.cells a,b⟩
attribute [local go_sem] Oper.semAt_some
theorem Bw (g:Nat) (w:World):Calls Tryz.prog 221 #[.pointer (some ⟨g,0,none⟩)] w fun e w'=>e= .returned (.func (.func 225) #[] #[.pointer (some ⟨w.heap.size,0,none⟩)])/\w'=w.alloc (.cells #[.pointer (some ⟨g,0,none⟩)] 245):=by
 go_enter Tryz.func221,Tryz.ntmps221
 go_wp2;go_ret;exact⟨rfl,rfl⟩
def oC (N:Int) (E:List S83) (q:Int) (c:List Int):Bool:=decide (0<=q/\q<N/\N<=12/\(c.length:Int)=N)&&ja N E
def cP (q:Nat):Nat->Bool:=fun i=>if i=q then true else false
def oD (n:Nat) (E:List S83) (q:Nat) (c:List Int):List Nat:=eL n (cw n (ai E) c) (cP q)
def iD.f (k:Nat) (N:Int) (E:List S83) (q:Int) (c:List Int):Option (List Int×List Int×Int):=
 (gJ.f k N E q c).bind fun t=>if t=0 then(if oC N E q c=true then
  some (q::(oD N.toNat E q.toNat c).map Int.ofNat,gH (cO (cP q.toNat) (oD N.toNat E q.toNat c)) N.toNat,0) else none) else some ([],[],t)
theorem iD.mono:∀N E q c k,aj (iD.f k N E q c) (iD.f (k+1) N E q c):=by
 intro N E q c k;unfold iD.f;exact aj.bind (gJ.mono _ _ _ _ _) (fun _=>aj.refl _)
theorem iD.calls (k:Nat) (N:Int) (be:Option Addr) (O:Nat) (a:List (S83)) (a1:Int) (A2:Option Addr) (c2:Nat) (l2:List Int) (r1:List Int) (r2:List Int) (r3:Int) (w:World) (am:Kd.C aT w be a.length a) (an:a.length<=O) (ap:Kd.C (Kd.int .i64) w A2 l2.length l2) (av:l2.length<=c2) (h:iD.f k N a a1 l2=some (r1,r2,r3)):
  Calls Tryz.prog 213 #[.agg #[.int .i64 N,.slice be a.length O],.int .i64 a1,.slice A2 l2.length c2] w fun e w'=>∃aB aF:Value,e= .returned (.tuple #[aB,aF,.int .i64 r3])/\Kd.R (Kd.int .i64) 3 w' w.heap.size (fun E=>some E≠(aF:Value).ownBlock) aB r1/\Kd.R (Kd.int .i64) 3 w' w.heap.size (fun E=>some E≠(aB:Value).ownBlock) aF r2/\Below w.heap.size w w':=by
 have hu:=Tryz.underlying24;obtain⟨t,ht,H⟩:=Option.bind_eq_some_iff.mp h;clear h;by_cases h0:t=0
 ·subst h0
  rw[if_pos rfl] at H;by_cases X:oC N a a1 l2=true
  ·rw[if_pos X] at H
   simp only[Option.some.injEq,Prod.mk.injEq] at H;obtain⟨rfl,rfl,rfl⟩:=H;simp only[oC,Bool.and_eq_true,decide_eq_true_eq] at X;obtain⟨⟨q0,qn,n12,hlen⟩,hE⟩:=X;obtain⟨n,rfl⟩:=Int.eq_ofNat_of_zero_le (show 0<=N by omega);obtain⟨q,rfl⟩:=Int.eq_ofNat_of_zero_le q0;simp only[aQ];have bx:=zA (kG hE);have cq:l2.length<=n:=by omega
   have b5:n<=l2.length:=by omega
   have Ht:=zA ht;clear hlen hE ht;refine(callsIn_wide (n:=10)).1 ?_;refine callsIn_of_wp_marks Tryz.func213 rfl trivial ?_ rfl;simp only[Tryz.ntmps213,List.size_toArray,List.length_cons,List.length_nil,Nat.reduceAdd,Nat.reduceSub,Array.replicate_succ,Array.replicate_zero,List.push_toArray,List.append_toArray,List.nil_append,List.cons_append];gi_wp2_with (first|(refine⟨trivial,?_⟩;gi_at_call 219;refine(callsIn_wide.2 (gJ.calls k _ _ O a _ _ c2 l2 0 _ (Kd.bE am _) an (Kd.bE ap _) av Ht.out)).mono ?_;rintro e w1 ⟨rfl,hb⟩;have hx:=(hb.cell (p:=⟨w.heap.size,0,none⟩) (by simp));have hy:=(hb.cell (p:=⟨w.heap.size,1,none⟩) (by simp));have z:=zA (lf (aq (ao _ _) _) (by simp) hb);clear hb)|(refine⟨trivial,?_⟩;gi_at_call 220;refine(callsIn_wide.2 (Bv n q _ O a _ c2 l2 _ (Kd.au am z.out) an (Kd.au ap z.out) av (by omega) (by omega) bx.out cq b5)).mono ?_;rintro e w2 ⟨g,m,r,rfl,hW,hR,hB,hg⟩;have aO:=zA hW;have aP:=zA hR;have aR:=zA (lf z.out z.out.size hB);clear hW hR hB)|(refine⟨trivial,?_⟩;gi_at_call 221;refine(callsIn_wide.2 (Bw g _)).mono ?_;rintro e w3 ⟨rfl,rfl⟩))
   have cs:=aO.out.lt;have d3:w.heap.size<=w1.heap.size:=z.out.size;have cx:w.heap.size<=w2.heap.size:=aR.out.size;have aS:∀k,some k=(Value.slice m l2.length r).ownBlock->k<w2.heap.size:=fun k hk=>Kd.a7 aP.out k hk.symm
   have I:=zA (aO.out.below (aq (aq (aq (ao _ _) (.cells #[.int .i64 q] 3)) (.cells #[.slice (some ⟨w2.heap.size,0,none⟩) 1 1] 25)) (.cells #[.pointer (some ⟨g,0,none⟩)] 245)));have P:=zA (Kd.aK (Kd.aK (Kd.aK (Kd.gC rfl aP.out) (.cells #[.int .i64 q] 3)) (.cells #[.slice (some ⟨w2.heap.size,0,none⟩) 1 1] 25)) (.cells #[.pointer (some ⟨g,0,none⟩)] 245));have J:=zA (aq (aq (aq aR.out (.cells #[.int .i64 q] 3)) (.cells #[.slice (some ⟨w2.heap.size,0,none⟩) 1 1] 25)) (.cells #[.pointer (some ⟨g,0,none⟩)] 245));have ca:Aside0 (Kd.R (Kd.int .i64) 3 (((w2.alloc (.cells #[.int .i64 q] 3)).alloc (.cells #[.slice (some ⟨w2.heap.size,0,none⟩) 1 1] 25)).alloc (.cells #[.pointer (some ⟨g,0,none⟩)] 245)) w.heap.size (fun k=>k≠g/\some k≠(Value.slice m l2.length r).ownBlock) (.slice (some ⟨w2.heap.size,0,none⟩) 1 1) [(q:Int)]):=by
    refine⟨Kd.aK (Kd.aK (Kd.l7 (enc:=Value.int .i64) (h1:=fun _=>rfl) ?_ ?_) _) _⟩
    ·simpa [bS] using World.ownsRow_lit (base:=w.heap.size) (e:=3) (size:=1) w2 #[.int .i64 q] 1 cx (by decide) rfl
    ·intro k hk
     have e:w2.heap.size=k:=by simpa [Value.ownBlock] using hk
     refine⟨by omega,fun e2=>?_⟩;have:=aS k e2;omega
   have Y:Aside0 ((((w2.alloc (.cells #[.int .i64 q] 3)).alloc (.cells #[.slice (some ⟨w2.heap.size,0,none⟩) 1 1] 25)).alloc (.cells #[.pointer (some ⟨g,0,none⟩)] 245)).heap[w2.heap.size+1]? =some (.cells #[.slice (some ⟨w2.heap.size,0,none⟩) 1 1] 25 (0,0))):=
    ⟨by have h:=bm (w2.alloc (.cells #[.int .i64 q] 3)) (.cells #[.slice (some ⟨w2.heap.size,0,none⟩) 1 1] 25);rw[World.size_alloc] at h;exact ay h _⟩
   have Q:Aside0 ((((w2.alloc (.cells #[.int .i64 q] 3)).alloc (.cells #[.slice (some ⟨w2.heap.size,0,none⟩) 1 1] 25)).alloc (.cells #[.pointer (some ⟨g,0,none⟩)] 245)).heap[w2.heap.size+1+1]? =some (.cells #[.pointer (some ⟨g,0,none⟩)] 245 (0,0))):=
    ⟨by have h:=bm ((w2.alloc (.cells #[.int .i64 q] 3)).alloc (.cells #[.slice (some ⟨w2.heap.size,0,none⟩) 1 1] 25)) (.cells #[.pointer (some ⟨g,0,none⟩)] 245);simpa using h⟩
   have Z:w2.heap.size+1≠g:=by omega
   have aa:w2.heap.size+1+1≠g:=by omega
   have ab:w2.heap.size+1+1≠w2.heap.size+1:=by omega
   have cb:some (w2.heap.size+1)≠(Value.slice m l2.length r).ownBlock:=fun e=>by have:=aS _ e;omega
   have cc:w.heap.size<=w2.heap.size+1:=by omega
   have cd:w.heap.size<=g:=by omega
   clear aS aO aP aR z;generalize (((w2.alloc (.cells #[.int .i64 q] 3)).alloc (.cells #[.slice (some ⟨w2.heap.size,0,none⟩) 1 1] 25)).alloc (.cells #[.pointer (some ⟨g,0,none⟩)] 245))=G at I P J ca Y Q⊢;generalize w2.heap.size+1+1=L at Q aa ab⊢;generalize w2.heap.size+1=bo at Y Z ab cb cc⊢;refine iC (σ:=Unit) (α:=Nat) (F:=Fence.wide) (n:=10) rfl (by decide) (gf:=225) (lb:=#[.pointer (some ⟨L,0,none⟩)]) rfl trivial (enters_of Tryz.func225 (by kernel_rfl) rfl)
    (fun o=>Bs g L n (ai a) m r l2 (cP q) _ w1.heap.size (by omega) b5 ?ht aa (I.out.below (aq (aq (ao _ _) _) _)) (ay (ay Q.out _) _) (Kd.a_ (Kd.aK (Kd.aK P.out _) _) (fun _ h=>h))) (fun _=>rfl)
    (fun _=>True) ?eF ?st ?ar
    (fun _ pre W=>G.heap.size<=W.heap.size/\∃v,W.heap[L]? =some (.cells #[.pointer (some ⟨g,0,none⟩)] 245 (0,0))/\W.heap[bo]? =some (.cells #[v] 25 (0,0))/\Kd.R (Kd.int .i64) 3 W w.heap.size (fun k=>k≠g/\some k≠(Value.slice m l2.length r).ownBlock) v ((q:Int)::pre.map Int.ofNat)/\Below w.heap.size w W) (fun _ _ _ _=>False)
    ?is (fun _ _ _ _ _ _ h _=>h) ?ib (fun _ _ _ _ _ h _=>h) ?kt ?h0 ?a1 ?assign ?body ?done (fun _ _ _ _ _ _ _ h=>h.elim)
   case assign=>
    intro l x W K hK;gi_wp2;exact hK
   case ht=>exact bx.out.times
   case eF=>
    intro o s W1 h;exact⟨trivial,by rw[h];exact cn.refl _ _⟩
   case st=>intro s A B _ h k o h1 u i _;exact(h.block k (Array.getElem?_eq_some_iff.1 i).1 (fun e=>by cases e;have:=I.out.lt;omega)).trans i
   case ar=>intro s x A B _ h k o h1 u i _;exact(h.block k (Array.getElem?_eq_some_iff.1 i).1 (fun e=>by cases e;have:=I.out.lt;omega)).trans i
   case is=>
    rintro s pre A B _ ⟨S,v,h0,h1,u,i⟩ T;exact⟨Nat.le_trans S T.size,v,(T.block L (aE h0) (fun e=>by cases e;exact aa rfl)).trans h0,(T.block bo (aE h1) (fun e=>by cases e;exact Z rfl)).trans h1,Kd.lq u T (fun k hk e=>hk.1 (by cases e;rfl)),jU i (some g) i.size T (fun k e=>by cases e;exact cd)⟩
   case ib=>
    rintro s pre A B ⟨S,v,h0,h1,u,i⟩ hb;exact⟨by rw[hb.size];exact S,v,hb.cells h0,hb.cells h1,du u hb,i.trans (hb.below w.heap.size (by have:=J.out.size;omega))⟩
   case kt=>
    intro s A B C D c3 c4 c5 k hk;have ce:k≠G.heap.size+1:=by
     rcases hk with rfl|rfl|hk
     ·have:=I.out.lt;omega
     ·have:=aE Q.out;omega
     ·have:=Kd.a7 P.out k hk.symm;omega
    exact(c5.heap k ce).trans ((c4 k hk).trans (c3.heap k ce))
   case h0=>
    rintro o s W1 rfl;exact⟨by simp;omega,_,ay (ay Q.out _) _,ay (ay Y.out _) _,Kd.aK (Kd.aK ca.out _) _,aq (aq J.out _) _⟩
   case body=>
    rintro l s pre x Wb W1 W _ ⟨S,v,i0,i1,i2,i3⟩ M d5 j;have U:=zA (j.cells ((M.block L (aE i0) (fun e=>by cases e;exact aa rfl)).trans i0));have y:=zA (j.cells ((M.block bo (aE i1) (fun e=>by cases e;exact Z rfl)).trans i1));have b:=zA (du (Kd.lq i2 M (fun k hk e=>hk.1 (by cases e;rfl))) j);have b3:=zA ((jU i3 (some g) i3.size M (fun k e=>by cases e;exact cd)).trans (j.below w.heap.size (by have:=J.out.size;omega)));have cs:G.heap.size<=W.heap.size:=by have:=j.size;have:=M.size;omega
    have d6:=I.out.lt;clear i0 i1 i2 i3 M;obtain⟨Ar,cr,rfl⟩:=Kd.bb b.out;replace b:=zA (show Kd.R (Kd.int .i64) 3 W w.heap.size (fun k=>k≠g/\some k≠(Value.slice m l2.length r).ownBlock) (.slice Ar (pre.length+1) cr) ((q:Int)::pre.map Int.ofNat) from by have h:=b.out;rw[show ((q:Int)::pre.map Int.ofNat).length=pre.length+1 from by simp] at h;exact h);rw[show ((q:Int)::pre.map Int.ofNat).length=pre.length+1 from by simp] at y;have hc:=dK y.out;have hf:=bD y.out 0;have FR:Aside0 (∀k,W.heap.size<=k->k≠g/\some k≠(Value.slice m l2.length r).ownBlock):=⟨fun k hk=>⟨by omega,fun e=>by have:=Kd.a7 P.out k e.symm;omega⟩⟩;have LN:Aside0 ((((q:Int)::pre.map Int.ofNat).length+1)*8<=140737488355328):=⟨by simp;omega⟩;gi_wp2_with (gi_at_builtin;go_loud (refine oA (Kd.int .i64) (w0:=w) w.heap.size rfl (.tmp 29) (.tmp 31) 25 3 (.int .i64 0) 8 rfl Tryz.underlying25 fW rfl (by decide) (by omega) _ _ (x:Int) [.int .i64 x] (fun k=>k≠g/\some k≠(Value.slice m l2.length r).ownBlock) (fun _=>False) rfl rfl rfl (fun _ hk=>hk.elim) FR.out b.out b3.out b3.out.size LN.out ?_;intro v1 d7 a0 hb ag c8;obtain⟨A1,c1,rfl⟩:=Kd.bb a0;have X1:=zA ((ag.block bo (aE y.out) (Kd.db b.out y.out (by decide))).trans y.out);have X0:=zA ((ag.block L (aE U.out) (Kd.db b.out U.out (by decide))).trans U.out);have d8:=dK X1.out;have d9:=bD X1.out 0;have c':=zA a0;have dd:=zA hb;have V:=zA ag;clear a0 hb ag c8))
    refine⟨(oB b.out V.out).trans (fp _ _ (aE Y.out)),fun k hk=>?_,by have:=V.out.size;simp;omega,_,aG X0.out ab _,by simpa using bR X1.out 0 (.slice A1 (pre.length+1+1) c1),?_,dx dd.out cc⟩
    ·have dk:k≠bo:=by
      rcases hk with rfl|rfl|hk
      ·exact fun e=>Z e.symm
      ·exact ab
      ·rintro rfl;exact cb hk
     rw[Below.heap_setCell _ _ _ _ dk];rcases hk with rfl|rfl|hk
     ·exact V.out.block k (by omega) (fun e=>(b.out.1 k e.symm).1 rfl)
     ·exact V.out.block k (aE U.out) (Kd.db b.out U.out (by decide))
     ·exact V.out.block k (by have:=Kd.a7 P.out k hk.symm;omega) (fun e=>(b.out.1 k e.symm).2 hk)
    ·have h:=Kd.eU c'.out X1.out (by decide) 0 (.slice A1 (pre.length+1+1) c1)
     simpa using h
   case done=>
    rintro s xs W W' _ ⟨rfl,ci⟩ ⟨S,v,i0,i1,i2,i3⟩ j cj;have y:=zA (j.cells i1);have b:=zA (du i2 j);have b3:=zA (i3.trans (j.below w.heap.size (by have:=J.out.size;omega)));have b4:=zA (ci.bk j);have ck:=zA cj;clear i0 i1 i2 i3 ci cj;have hc:=dK y.out;obtain⟨Ar,cr,rfl⟩:=Kd.bb b.out;have dl:=aE y.out;gi_wp2_with fail
    refine Bt ?_;gi_region_with (refine⟨trivial,?_⟩;gi_at_call 222;refine(callsIn_wide.2 (Bn g n (ai a) _ _ _ (by omega) b4.out.drew)).mono ?_;rintro e w5 ⟨v1,rfl,cl,a3⟩;have ea:=(a3.cell (p:=⟨bo,0,none⟩) dl).trans hc;have a4:=zA cl;have a5:=zA a3;clear cl a3)
    all_goals gi_wp2
    all_goals
     have co:w5.heap[G.heap.size]? =some (.deferred (some [])):=(a5.out.block _ (Array.getElem?_eq_some_iff.1 ck.out).1).trans ck.out;have a9:Bk G.heap.size w5 (w5.putObj G.heap.size (.deferred none)):=⟨_,_,co,rfl,rfl⟩;have ds:=Kd.cU (w:=W'.drew) b.out a5.out;refine jc (D:=G.heap.size) rfl co (results_tmp3 rfl _ _ _) ⟨_,_,rfl,du (ok:=fun E=>some E≠v1.ownBlock) (v:=.slice Ar ((eL n (cw n (ai a) l2) (cP q)).length+1) cr) ?_ a9,du (ok:=fun E=>some E≠(Value.slice Ar ((eL n (cw n (ai a) l2) (cP q)).length+1) cr).ownBlock) (v:=v1) ?_ a9,?_⟩
     ·refine Kd.sJ rfl (ok1:=fun k=>k≠g/\some k≠(Value.slice m l2.length r).ownBlock) ?_ (fun k hk e=>?_)
      ·have h:=ds
       rw[show ((q:Int)::(eL n (cw n (ai a) l2) (cP q)).map Int.ofNat).length=(eL n (cw n (ai a) l2) (cP q)).length+1 from by simp] at h;exact h
      ·have h1:=Kd.a7 b.out k ((tS _ _ _ _).trans hk)
       have u:=Kd.dD a4.out k e.symm;exact absurd h1 (Nat.not_lt.2 u)
     ·refine Kd.sJ rfl (ok1:=fun _=>True) (Kd.ba a4.out b3.out.size) (fun k hk e=>?_)
      have h1:=Kd.a7 b.out k ((tS _ _ _ _).trans e.symm);have u:=Kd.dD a4.out k hk;exact absurd h1 (Nat.not_lt.2 u)
     ·exact(lf (gS b3.out) b3.out.size a5.out).trans (a9.below w.heap.size J.out.size)
  ·rw[if_neg X] at H
   cases H
 ·rw[if_neg h0] at H
  simp only[Option.some.injEq,Prod.mk.injEq] at H;obtain⟨rfl,rfl,rfl⟩:=H;have Ht:=zA ht;have eb:(t != 0)=true:=by simpa using h0
  clear ht h0;go_enter Tryz.func213,Tryz.ntmps213
  go_wp2_with (go_at_call 219;refine(gJ.calls k N _ O a a1 _ c2 l2 t _ (Kd.bE am _) an (Kd.bE ap _) av Ht.out).mono ?_;rintro e w1 ⟨rfl,hb⟩;have z:=zA (lf (aq (ao _ _) _) (by simp) hb);clear hb)
  go_ret3
  exact⟨_,_,rfl,Kd.cW _ _ _ _ _,Kd.cW _ _ _ _ _,z.out⟩
end
section
attribute [local go_sem] Oper.semAt_some
def gK (w:World) (g:Nat) (N:Int) (ev:Value) (q:Int) (dv a:Value) (e:Int):Prop:=w.heap[g]? =some (.cells #[.int .i64 N,ev,.int .i64 q,dv,a,.int .i64 e] 188 (0,0))
theorem lQ (g:Nat) (v:Int) (w:World):Calls Tryz.prog 194 #[.pointer (some ⟨g,0,none⟩),.int .i64 v] w fun e w'=>e= .returned (.func (.func 207) #[] #[.pointer (some ⟨w.heap.size,0,none⟩),.pointer (some ⟨w.heap.size+1,0,none⟩)])/\w'=(w.alloc (.cells #[.pointer (some ⟨g,0,none⟩)] 135)).alloc (.cells #[.int .i64 v] 3):=by
 go_enter Tryz.func194,Tryz.ntmps194
 go_wp2;go_ret;exact⟨rfl,rfl⟩
def cz (E:List S83) (v:Int):Nat->List (Int×Int)
 |0=>[]
 |k+1=>cz E v k++(if(ae E k).f0≠(ae E k).f1/\((ae E k).f0=v\/(ae E k).f1=v) then[((ae E k).f0+(ae E k).f1-v,(ae E k).f2)] else[])
def t' (base a b c:Nat) (X Y:World):Prop:=(base<=X.heap.size->Below base X Y)/\∀k,(k=a\/k=b\/k=c)->k<X.heap.size->Y.heap[k]? =X.heap[k]?
theorem ub (E:List S83) (v:Int):∀(m k:Nat),∀x∈cz E v k,x∈cz E v (k+m)
 |0,k,x,a=>a
 |m+1,k,x,a=>List.mem_append.2 (.inl (ub E v m k x a))
theorem qt (l bv g n:Nat) (A0:Option Addr) (c0:Nat) (E:List S83) (q:Int) (dv V:Value) (Z:Int) (v:Nat) (w0 W:World) (aa:Kd.C aT w0 A0 E.length E) (hE:ep n E) (hn:n<=1000) (hv:v<n) (hB:Below w0.heap.size w0 W)
  (M:W.heap[l]? =some (.cells #[.pointer (some ⟨g,0,none⟩)] 135 (0,0))) (z:W.heap[bv]? =some (.cells #[.int .i64 v] 3 (0,0))) (N:gK W g n (.slice A0 E.length c0) q dv V Z):
  jb (σ:=Unit) Fence.wide 9 Tryz.prog 207 #[.pointer (some ⟨l,0,none⟩),.pointer (some ⟨bv,0,none⟩)] (fun x:Int×Int=>#[.int .i64 x.1,.int .i64 x.2]) (fun _ W W1=>W1=W) (fun _ A B=>Below A.heap.size A B) (fun _ x A B=>((0<=x.1/\x.1<n/\1<=x.2/\x.2<=50)/\x∈cz E v E.length)/\Below A.heap.size A B)
   (fun _ X Y=>t' w0.heap.size l bv g X Y)
   (fun _ xs W'=>xs=cz E v E.length) (fun _ _ _=>True) (fun pre=>∃k,k<E.length/\pre=cz E v k) W:=by
 intro lp J Jx ag ak am ap;have a5:=zA ag;have ca:=zA ak;have hY:=zA ap;have ar:=am () W rfl;clear ag ak am ap;have cb:=Tryz.underlying188;have hu:=Tryz.underlying24;have cc:=Tryz.underlying83;refine callsIn_of_wp Tryz.func207 rfl trivial ?_ rfl;simp only[Tryz.ntmps207,List.size_toArray,List.length_cons,List.length_nil,Nat.reduceAdd,Nat.reduceSub,Array.replicate_succ,Array.replicate_zero,List.push_toArray,List.append_toArray,List.nil_append,List.cons_append];have b0:W.cell? ⟨l,0,none⟩=some (.pointer (some ⟨g,0,none⟩)):=(al M 0).trans rfl;have s1:W.cell? ⟨g,1,none⟩=some (.slice A0 E.length c0):=(al N 1).trans rfl;have av:=zA M;have aB:=zA z;have p:=zA N;clear M z N;gi_wp2;clear b0 s1;gi_loopg [13] (E.length) (fun kq i wr=>∃k:Nat,i= .int .i64 k/\k<=E.length/\Aside0 (J () (cz E v k) wr)/\Aside0 (wr.heap[l]? =some (.cells #[.pointer (some ⟨g,0,none⟩)] 135 (0,0)))/\Aside0 (wr.heap[bv]? =some (.cells #[.int .i64 v] 3 (0,0)))/\Aside0 (gK wr g n (.slice A0 E.length c0) q dv V Z)/\Aside0 (Below w0.heap.size w0 wr)/\Aside0 (kq=E.length-k))
 case atStart=>exact⟨0,rfl,Nat.zero_le _,⟨ar⟩,av,aB,p,⟨hB⟩,⟨rfl⟩⟩
 case round=>
  clear ar hB av aB p;have cd:E.length<=9223372036854775807:=Kd.l9 aa;obtain⟨k,rfl,hk,O,HX,P,p,r,Q⟩:=hrel;by_cases aL:k<E.length
  ·obtain⟨e0,D,e2,F,e4,e5⟩:=hE.get k aL
   have G:=Lib.hid (show cz E v (k+1)=cz E v k++(if(ae E k).f0≠(ae E k).f1/\((ae E k).f0=v\/(ae E k).f1=v) then[((ae E k).f0+(ae E k).f1-v,(ae E k).f2)] else[]) from rfl);obtain⟨ad,rfl,s,u,w⟩:=eJ aa k (by omega) (by omega);rw[aQ] at s u w;generalize ae E k=x at e0 D e2 F e4 e5 s u w G;obtain⟨a,b,m⟩:=x;simp only at e0 D e2 F e4 e5 s u w;have ce:(0:Int)<=(k:Int):=by omega
   have cf:(k:Int)<(E.length:Int):=by omega
   have ch:(0:Int)<=(v:Int):=by omega
   have ci:(v:Int)<=1000:=by omega
   have s:=iq r.out s;have u:=iq r.out u;have w:=iq r.out w;have v0:(wr.alloc (.cells #[.int .i64 a,.int .i64 b,.int .i64 m] 83)).cell? ⟨bv,0,none⟩=some (.int .i64 v):=(al (ay P.out _) 0).trans rfl;have R:=zA (a5.out () _ _ _ O.out (aq (ao wr.heap.size wr) (.cells #[.int .i64 a,.int .i64 b,.int .i64 m] 83)));have H:=zA (ay HX.out (.cells #[.int .i64 a,.int .i64 b,.int .i64 m] 83));have I:=zA (ay P.out (.cells #[.int .i64 a,.int .i64 b,.int .i64 m] 83));have K:=zA (ay p.out (.cells #[.int .i64 a,.int .i64 b,.int .i64 m] 83));have L:=zA (aq r.out (.cells #[.int .i64 a,.int .i64 b,.int .i64 m] 83));have an:a<=1000:=by omega
   have bn:b<=1000:=by omega
   have HE:=zA (And.intro D F);clear D F O HX P p r;by_cases o:a=b
   ·have bi:(a != b)=false:=by simpa using o
    have S:=zA o;clear o;gi_wp2;refine⟨(fun _ h=>(by cases h)),?_⟩;gi_wp2;gi_roundg (E.length- (k+1))
    case measure=>rw[Q.out];omega
    case rel=>exact⟨k+1,by go_num,by omega,⟨by rw[G.out,if_neg (fun h=>h.1 S.out),List.append_nil];exact R.out⟩,H,I,K,L,⟨rfl⟩⟩
   ·have bi:(a != b)=true:=by simpa using o
    have S:=zA o;clear o;by_cases j:a=v\/b=v
    ·have aS:=zA (show cz E v (k+1)=cz E v k++[(a+b-v,m)] from by rw[G.out,if_pos ⟨S.out,j⟩])
     obtain⟨fn,tmps,cl,co,T,a0⟩:=hY.out () (cz E v k) (a+b-v,m) _ _ R.out ⟨⟨by have:=HE.out;show 0<=a+b- (v:Int)/\a+b- (v:Int)<n/\1<=m/\m<=50;omega,by have h:=ub E v (E.length- (k+1)) (k+1) (a+b-v,m) (by rw[aS.out];simp);rw[show k+1+(E.length- (k+1))=E.length by omega] at h;exact h⟩,ao _ _⟩ ⟨k,aL,rfl⟩;have bk:=zA a0;simp only at T;clear a0;have bo:(a==(v:Int))=true\/((a==(v:Int))=false/\(b==(v:Int))=true):=by
      by_cases h:a=v
      ·left;simpa using h
      ·right;refine⟨by simpa using h,?_⟩
       rcases j with U|U
       ·exact absurd U h
       ·simpa using U
     clear j;rcases bo with a1|⟨a1,z⟩
     all_goals
      gi_wp2;refine bk.out.mono ?_;rintro e W3 (⟨rfl,a2,y⟩|⟨rfl,a3⟩)
      ·have bw:=zA a2
       have b1:=zA ((y.2 l (.inl rfl) (aE H.out)).trans H.out);have b2:=zA ((y.2 bv (.inr (.inl rfl)) (aE I.out)).trans I.out);have b3:=zA ((y.2 g (.inr (.inr rfl)) (aE K.out)).trans K.out);have b4:=zA (L.out.trans (y.1 L.out.size));clear a2 y T v0;gi_wp2;gi_roundg (E.length- (k+1))
       case measure=>rw[Q.out];omega
       case rel=>exact⟨k+1,by go_num,by omega,⟨by rw[aS.out];exact bw.out⟩,b1,b2,b3,b4,⟨rfl⟩⟩
      ·have b5:=zA a3
       clear a3 T v0;gi_wp2;refine bodyPost_ret (results_none rfl _ _ _) rfl ?_;exact⟨⟨_,rfl⟩,.inr ⟨(),_,trivial,b5.out⟩⟩
    ·have a1:(a==(v:Int))=false:=by simp;exact fun h=>j (.inl h)
     have z:(b==(v:Int))=false:=by simp;exact fun h=>j (.inr h)
     have b6:=zA j;clear j;gi_wp2;refine⟨(fun _ h=>(by cases h)),?_⟩;gi_wp2;gi_roundg (E.length- (k+1))
     case measure=>rw[Q.out];omega
     case rel=>exact⟨k+1,by go_num,by omega,⟨by rw[G.out,if_neg (fun h=>b6.out h.2),List.append_nil];exact R.out⟩,H,I,K,L,⟨rfl⟩⟩
  ·obtain rfl:k=E.length:=by omega
   gi_wp2;go_end0;exact⟨⟨_,rfl⟩,.inl ⟨(),_,rfl,O.out⟩⟩
theorem oE (b bv g n:Nat) (A0:Option Addr) (c0:Nat) (E:List S83) (q:Int) (dv h:Value) (i:Int) (v:Nat) (w0 W:World) (l:Kd.C aT w0 A0 E.length E) (m:ep n E) (hn:n<=1000) (o:v<n) (p:Below w0.heap.size w0 W)
  (r:W.heap[b]? =some (.cells #[.pointer (some ⟨g,0,none⟩)] 135 (0,0))) (u:W.heap[bv]? =some (.cells #[.int .i64 v] 3 (0,0))) (w:gK W g n (.slice A0 E.length c0) q dv h i):
  jb (σ:=Unit) Fence.wide 9 Tryz.prog 207 #[.pointer (some ⟨b,0,none⟩),.pointer (some ⟨bv,0,none⟩)] (fun x:Int×Int=>#[.int .i64 x.1,.int .i64 x.2]) (fun _ W W1=>W1=W) (fun _ A B=>Below A.heap.size A B) (fun _ x A B=>(0<=x.1/\x.1<n/\1<=x.2/\x.2<=50)/\Below A.heap.size A B)
   (fun _ X Y=>t' w0.heap.size b bv g X Y)
   (fun _ xs W'=>xs=cz E v E.length) (fun _ _ _=>True) (fun pre=>∃k,k<E.length/\pre=cz E v k) W:=fun y J Jx z D F G=>qt b bv g n A0 c0 E q dv h i v w0 W l m hn o p r u w y J Jx (fun s pre A B a e=>z s pre A B a e) (fun s pre A B a e=>D s pre A B a e) F (fun s pre x H W1 a j I=>G s pre x H W1 a ⟨j.1.1,j.2⟩ I)
end
end Go.Proofs.YtffdiakgjakngaaGreat.P


namespace Go.Proofs.YtffdiakgjakngaaGreat.P
open Go.RowKit Go.Proofs.YtffdiakgjakngaaGreatW.PrintWords Go.Proofs.YtffdiakgjakngaaGreatW.PrintLast Go.Proofs.YtffdiakgjakngaaGreatW.PrintMore
set_option linter.unusedVariables false
set_option linter.unusedSimpArgs false
set_option maxHeartbeats 8000000
set_option maxRecDepth 100000
def b7 (out:List Int):Nat:=(out.filter fun x=>decide (0<=x)).length
theorem jz (out:List Int):b7 out<=out.length:=List.length_filter_le ..
theorem kc (xs:List Int) (v:Nat):rd xs (v:Int)=xs.getD v 0:=by simp[rd]
theorem qu:∀(out:List Int) (u:Nat) (x:Int),u<out.length->out.getD u 0<0->0<=x->b7 (out.set u x)=b7 out+1
 |[],u,x,h,_,_=>by simp at h
 |y::out,0,x,_,h,a=>by
  have b:y<0:=h;simp[b7,a,Int.not_le.2 b]
 |y::out,u+1,x,hu,h,a=>by
  have:=qu out u x (by simpa using hu) (by simpa using h) a;simp only[b7,List.set_cons_succ,List.filter_cons] at this⊢;split<;>simp[this]
theorem gZ (xs:List Int) (u:Nat) (x:Int) (h:u<xs.length):rd (xs.set u x) (u:Int)=x:=by
 rw[kc,bh,List.getElem?_set_self h];rfl
theorem fD (xs:List Int) (u v:Nat) (x:Int) (h:u≠v):rd (xs.set u x) (v:Int)=rd xs (v:Int):=by
 rw[kc,kc,bh,bh,List.getElem?_set_ne h]
structure Bf (n q:Nat) (nb:Nat->Nat->Prop) (out:List Int) (Q:List Nat) (D:Int) (ex:Nat->Nat->Prop):Prop where
 len:out.length=n
 q0:rd out (q:Int)=0
 lo:∀v:Nat,v<n-> -1<=rd out (v:Int)
 hi:∀v:Nat,v<n->rd out (v:Int)+1<=b7 out
 qv:∀x,x∈Q->x<n/\D<=rd out (x:Int)
 mO:Q.Pairwise fun (x y:Nat)=>rd out (x:Int)<=rd out (y:Int)
 top:∀v:Nat,v<n->rd out (v:Int)<=D+1
 d0:0<=D
 back:∀v:Nat,v<n->v≠q->0<=rd out (v:Int)->∃u:Nat,u<n/\nb u v/\0<=rd out (u:Int)/\rd out (u:Int)+1=rd out (v:Int)
 ke:∀v:Nat,v<n->0<=rd out (v:Int)->v∉Q->∀u:Nat,u<n->nb v u->¬ex v u->0<=rd out (u:Int)/\rd out (u:Int)<=rd out (v:Int)+1
theorem Bf.start {n q:Nat} {nb:Nat->Nat->Prop} (b:q<n):Bf n q nb ((List.replicate n (-1)).set q 0) [q] 0 (fun _ _=>False):=by
 have h1:∀v:Nat,v<n->rd ((List.replicate n (-1)).set q 0) (v:Int)=if q=v then 0 else -1:=fun v a=>by
  split
  ·rename_i e;subst e;exact gZ _ _ _ (by simpa using a)
  ·rename_i e
   rw[fD _ _ _ _ e,kc,bh,List.getElem?_replicate,if_pos a];rfl
 have g:b7 ((List.replicate n (-1)).set q 0)=b7 (List.replicate n (-1))+1:=qu _ q 0 (by simpa using b) (by rw[bh,List.getElem?_replicate,if_pos b];decide) (by decide);refine⟨by simp,by rw[h1 q b,if_pos rfl],fun v a=>?_,fun v a=>?_,fun x i=>?_,by simp,fun v a=>?_,by decide,fun v a j h=>?_,fun v a h hn=>?_⟩
 ·rw[h1 v a];split<;>omega
 ·rw[h1 v a,g];split<;>omega
 ·obtain rfl:=List.mem_singleton.1 i
  exact⟨b,by rw[h1 x b,if_pos rfl];omega⟩
 ·rw[h1 v a];split<;>omega
 ·rw[h1 v a,if_neg (fun e=>j e.symm)] at h;omega
 ·rw[h1 v a] at h
  by_cases e:q=v
  ·exact absurd (List.mem_singleton.2 e.symm) hn
  ·rw[if_neg e] at h;omega
theorem Bf.pop {n q:Nat} {nb:Nat->Nat->Prop} {out:List Int} {v:Nat} {Q:List Nat} {D:Int} (h:Bf n q nb out (v::Q) D (fun _ _=>False)):Bf n q nb out Q (rd out (v:Int)) (fun x _=>x=v):=by
 have j:=h.qv v (List.mem_cons_self ..);have b:=List.pairwise_cons.1 h.mO;refine⟨h.len,h.q0,h.lo,h.hi,fun x a=>⟨(h.qv x (List.mem_cons_of_mem _ a)).1,b.1 x a⟩,b.2,fun u hu=>?_,by have:=h.d0;omega,h.back,fun x a g hn u hu i hex=>?_⟩
 ·have:=h.top u hu;omega
 ·exact h.ke x a g (fun hm=>by rcases List.mem_cons.1 hm with e|e;exact hex e;exact hn e) u hu i (fun f=>f)
theorem Bf.look {n q:Nat} {nb:Nat->Nat->Prop} {out:List Int} {v u:Nat} {Q:List Nat} {ex:Nat->Prop} (h:Bf n q nb out Q (rd out (v:Int)) (fun x y=>x=v/\ex y)) (hu:u<n) (z:v<n) (G:nb v u):
  (0<=rd out (u:Int)->Bf n q nb out Q (rd out (v:Int)) (fun x y=>x=v/\ex y/\y≠u))/\
  (rd out (u:Int)<0->u≠v/\rd (out.set u (rd out (v:Int)+1)) (v:Int)=rd out (v:Int)/\b7 (out.set u (rd out (v:Int)+1))=b7 out+1/\Bf n q nb (out.set u (rd out (v:Int)+1)) (Q++[u]) (rd out (v:Int)) (fun x y=>x=v/\ex y/\y≠u)):=by
 have hd:=h.d0;refine⟨fun k=>⟨h.len,h.q0,h.lo,h.hi,h.qv,h.mO,h.top,hd,h.back,fun x g i hn y j l hex=>?_⟩,fun k=>?_⟩
 ·by_cases e:x=v/\ex y
  ·have:y=u:=Classical.byContradiction fun e2=>hex ⟨e.1,e.2,e2⟩
   subst this;have:=h.top y j;rw[e.1];exact⟨k,this⟩
  ·exact h.ke x g i hn y j l e
 ·have B:u≠v:=fun e=>by rw[e] at k;omega
  have C:u<out.length:=by rw[h.len];exact hu
  have r:rd (out.set u (rd out (v:Int)+1)) (v:Int)=rd out (v:Int):=fD _ _ _ _ B;have e2:∀x:Nat,x<n->rd (out.set u (rd out (v:Int)+1)) (x:Int)=if u=x then rd out (v:Int)+1 else rd out (x:Int):=fun x g=>by
   split
   ·rename_i e;subst e;exact gZ _ _ _ C
   ·rename_i e;exact fD _ _ _ _ e
  have D:=qu out u (rd out (v:Int)+1) C (by rw[<-kc];exact k) (by omega);have m:∀x:Nat,x<n->0<=rd out (x:Int)->rd (out.set u (rd out (v:Int)+1)) (x:Int)=rd out (x:Int):=fun x g i=>by
   rw[e2 x g,if_neg (fun e=>by subst e;omega)]
  have o:∀x,x∈Q->rd (out.set u (rd out (v:Int)+1)) (x:Int)=rd out (x:Int):=fun x g=>m x (h.qv x g).1 (by have:=(h.qv x g).2;omega)
  refine⟨B,r,D,by rw[List.length_set];exact h.len,?_,fun x g=>?_,fun x g=>?_,fun x g=>?_,?_,fun x g=>?_,hd,fun x g H i=>?_,fun x g i hn y j l hex=>?_⟩
  ·rw[fD _ _ _ _ (fun e=>by subst e;have:=h.q0;omega)];exact h.q0
  ·rw[e2 x g];split
   ·omega
   ·exact h.lo x g
  ·rw[e2 x g,D];split
   ·have:=h.hi v z;omega
   ·have:=h.hi x g;omega
  ·rcases List.mem_append.1 g with g|g
   ·exact⟨(h.qv x g).1,by rw[o x g];exact(h.qv x g).2⟩
   ·obtain rfl:=List.mem_singleton.1 g
    exact⟨hu,by rw[e2 x hu,if_pos rfl];omega⟩
  ·refine List.pairwise_append.2 ⟨h.mO.imp_of_mem fun {a b} p hb I=>by rw[o a p,o b hb];exact I,by simp,fun a p b hb=>?_⟩
   obtain rfl:=List.mem_singleton.1 hb;rw[o a p,e2 b hu,if_pos rfl];have:=h.top a (h.qv a p).1;omega
  ·rw[e2 x g];split
   ·omega
   ·exact h.top x g
  ·by_cases e:u=x
   ·subst e
    exact⟨v,z,G,by rw[r];omega,by rw[r,e2 u hu,if_pos rfl]⟩
   ·rw[e2 x g,if_neg e] at i⊢
    obtain⟨y,s,J,w,K⟩:=h.back x g H i;exact⟨y,s,J,by rw[m y s w];exact w,by rw[m y s w];exact K⟩
  ·have L:u≠x:=fun e=>hn (List.mem_append.2 (.inr (List.mem_singleton.2 e.symm)))
   rw[e2 x g,if_neg L] at i⊢;by_cases E:y=u
   ·subst E
    rw[e2 y j,if_pos rfl];by_cases F:x=v
    ·rw[F];omega
    ·have:=h.ke x g i (fun hm=>hn (List.mem_append.2 (.inl hm))) y j l (fun f=>F f.1)
     omega
   ·have:=h.ke x g i (fun hm=>hn (List.mem_append.2 (.inl hm))) y j l (fun f=>hex ⟨f.1,f.2,E⟩)
    rw[m y j this.1];exact this
end Go.Proofs.YtffdiakgjakngaaGreat.P
namespace Go.Proofs.YtffdiakgjakngaaGreat.P
open Go Go.RowKit Go.Proofs.YtffdiakgjakngaaGreatW.PrintWords Go.Proofs.YtffdiakgjakngaaGreatW.PrintLast Go.Proofs.YtffdiakgjakngaaGreatW.PrintMore
set_option linter.unusedVariables false
set_option linter.unusedSimpArgs false
set_option maxHeartbeats 8000000
set_option maxRecDepth 100000
def cE (e b:Nat) (ds:List Deferred) (w:World):Prop:=∃a:List Nat,ds=a.map (fun D=>{target:=.collected D,args:=#[]})/\a.Nodup/\∀D,D∈a->e<=D/\D<b/\w.heap[D]? =some (.deferred (some []))
theorem cE.nil (a b:Nat) (w:World):cE a b [] w:=⟨[],rfl,List.nodup_nil,fun _ h=>by cases h⟩
theorem cE.iE {g b:Nat} {ds:List Deferred} {w w':World} (h:cE g b ds w) (hk:∀D,D<b->w.heap[D]? =some (.deferred (some []))->w'.heap[D]? =some (.deferred (some []))):cE g b ds w':=by
 obtain⟨i,h1,j,a⟩:=h;exact⟨i,h1,j,fun D e=>⟨(a D e).1,(a D e).2.1,hk D (a D e).2.1 (a D e).2.2⟩⟩
theorem cE.below {a b:Nat} {ds:List Deferred} {w w':World} (h:cE a b ds w) (hb:Below w.heap.size w w'):cE a b ds w':=
 h.iE fun D _ e=>(hb.block D (Array.getElem?_eq_some_iff.1 e).1).trans e
theorem cE.bk {a b l:Nat} {ds:List Deferred} {w w':World} (h:cE a b ds w) (hb:Bk l w w') (e:b<=l):cE a b ds w':=
 h.iE fun D g hd=>(hb.heap D (by omega)).trans hd
theorem cE.set {a b:Nat} {ds:List Deferred} {w:World} (h:cE a b ds w) {p:Addr} {cs:Array Value} {t:TypeId} {fr:Nat×Nat} (hp:w.heap[p.block]? =some (.cells cs t fr)) (v:Value):cE a b ds (w.setCell p v):=
 h.iE fun D _ hd=>by
  rw[Below.heap_setCell _ _ _ _ (fun e=>by rw[e,hp] at hd;cases hd)];exact hd
theorem cE.push {a b D:Nat} {ds:List Deferred} {w:World} (h:cE a b ds w) (g:a<=D) (hb:b<=D) (hd:w.heap[D]? =some (.deferred (some []))):cE a (D+1) ({target:=.collected D,args:=#[]}::ds) w:=by
 obtain⟨i,h1,j,e⟩:=h;refine⟨D::i,by rw[h1];rfl,List.nodup_cons.2 ⟨fun hm=>by have:=(e D hm).2.1;omega,j⟩,fun D' k=>?_⟩;rcases List.mem_cons.1 k with rfl|hm
 ·exact⟨g,by omega,hd⟩
 ·have:=e D' hm
  exact⟨this.1,by omega,this.2.2⟩
inductive fE (b:Nat):World->World->Prop
 |refl (w:World):fE b w w
 |step {w w':World} (D:Nat) (h:w.heap[D]? =some (.deferred (some []))) (hb:b<=D) (a:fE b (w.putObj D (.deferred none)) w'):fE b w w'
theorem fE.kK {b:Nat} {w w':World} (h:fE b w w'):Below b w w':=by
 induction h with
 |refl w=>exact ao _ _
 |step D h hb _ a=>exact(Bk.below (l:=D) ⟨_,_,h,rfl,rfl⟩ b hb).trans a
theorem fE.cells {b:Nat} {w w':World} (h:fE b w w') {k:Nat} {cs:Array Value} {t:TypeId} {fr:Nat×Nat} (hk:w.heap[k]? =some (.cells cs t fr)):w'.heap[k]? =some (.cells cs t fr):=by
 induction h with
 |refl w=>exact hk
 |step D h hb _ a=>exact a (Bk.cells (l:=D) ⟨_,_,h,rfl,rfl⟩ hk)
theorem fE.size {b:Nat} {w w':World} (h:fE b w w'):w'.heap.size=w.heap.size:=by
 induction h with
 |refl w=>rfl
 |step D h hb _ a=>rw[a];simp[World.putObj]
theorem fE.R {α:Type} {d:Kd α} {e base b:Nat} {ok:Nat->Prop} {v:Value} {xs:List α} {A B:World} (h:fE b A B) (g:d.R e A base ok v xs):d.R e B base ok v xs:=
 Kd.a_ (Kd.ff (Kd.eH g) (fun k hk=>by obtain⟨_,_,_,q,_,cells,a⟩:=hk;exact(h.cells a).trans a.symm)) (fun k hk=>hk.1)
theorem ud {F:Fence} {n:Nat} {P:Program} {fn:Func} {R:Ending->World->Prop} {tm:Array Value} {g:Nat}:∀(a:List Nat) (w:World),a.Nodup->(∀D,D∈a->g<=D/\w.heap[D]? =some (.deferred (some [])))->
  (∀w',fE g w w'->∃v,(results fn tm).run P w'= .ok v w'/\R (.returned v) w')->LeavesInM F n P fn tm R (a.map (fun D=>{target:=.collected D,args:=#[]})) .returning w
 |[],w,_,_,h=>by
  obtain⟨v,h1,l⟩:=h w (fE.refl w);exact⟨_,h1,l⟩
 |D::a,w,hn,i,h=>by
  have b:=i D (List.mem_cons_self ..);have j:=List.nodup_cons.1 hn;refine⟨by simp,.inl ⟨_,_,rfl,run_takeDeferred b.2,ud a _ j.2 (fun D' k=>?_) fun w' m=>h w' (fE.step D b.2 b.1 m)⟩⟩;have h1:=i D' (List.mem_cons_of_mem _ k);exact⟨h1.1,(World.putObj_heap_other (fun e=>j.1 (by rw[<-e];exact k))).trans h1.2⟩
theorem ue {F:Fence} {n:Nat} {P:Program} {fn:Func} {R:Ending->World->Prop} {tm:Array Value} {ds:List Deferred} {a b:Nat} {w:World} (i:cE a b ds w)
  (h:∀w',fE a w w'->∃v,(results fn tm).run P w'= .ok v w'/\R (.returned v) w'):bodyPostM F n P fn R .ret {tmps:=tm,defers:=ds} w/\bodyPostM F n P fn R .normal {tmps:=tm,defers:=ds} w:=by
 obtain⟨j,rfl,k,e⟩:=i;have:=ud (F:=F) (n:=n) (P:=P) (fn:=fn) (R:=R) (tm:=tm) j w k (fun D g=>⟨(e D g).1,(e D g).2.2⟩) h;exact⟨this,this⟩
def kL (e:Nat) (J:Nat->Array Value->World->Prop) (n:Nat) (a:Act) (w:World):Prop:=(∃n',n'<n/\J n' a.tmps w)/\∃b,b<=w.heap.size/\cE e b a.defers w
theorem kL.intro {a:Nat} {J:Nat->Array Value->World->Prop} {n:Nat} {tm:Array Value} {ds:List Deferred} {w:World} (k:Nat) (h1:k<n) (e:J k tm w) (b:Nat) (hb:b<=w.heap.size) (g:cE a b ds w):kL a J n {tmps:=tm,defers:=ds} w:=⟨⟨k,h1,e⟩,b,hb,g⟩
theorem uf {F:Fence} {h:Nat} {P:Program} {Q:Exit->Act->World->Prop} {tm:Array Value} {ds:List Deferred} {w:World} {c:Code} (e:Nat) (I:Nat->Array Value->World->Prop) (i:Nat) (l:I i tm w) (b:Nat) (hb:b<=w.heap.size) (g:cE e b ds w)
  (round:∀n tm w,I n tm w->∀ds b,b<=w.heap.size->cE e b ds w->∀(J:Nat->Array Value->World->Prop) (K:Act->World->Prop),(∀k j w',I k j w'->J k j w')->(∀a' w',kL e J n a' w'->K a' w')->c.wpIn F h P (Exit.then K Q) {tmps:=tm,defers:=ds} w):
  (Code.loop c).wpIn F h P Q {tmps:=tm,defers:=ds} w:=by
 refine wpIn_loop_ghost (fun k a w=>I k a.tmps w/\∃b,b<=w.heap.size/\cE e b a.defers w) i ⟨l,b,hb,g⟩ ?_;rintro n ⟨tm,ds⟩ w ⟨m,b,hb,g⟩;exact round n tm w m ds b hb g I _ (fun _ _ _ q=>q) fun a' w' ⟨⟨n',h1,o⟩,p⟩=>⟨n',h1,o,p⟩
end Go.Proofs.YtffdiakgjakngaaGreat.P
namespace Go.Proofs.YtffdiakgjakngaaGreat.P
open Go.RowKit Go.Proofs.YtffdiakgjakngaaGreatW.PrintWords Go.Proofs.YtffdiakgjakngaaGreatW.PrintLast Go.Proofs.YtffdiakgjakngaaGreatW.PrintMore
set_option linter.unusedVariables false
set_option linter.unusedSimpArgs false
set_option maxHeartbeats 8000000
set_option maxRecDepth 100000
section
attribute [local go_sem] Oper.semAt_some
def eh (B:Nat->Bool) (L:List (Int×Int)):Int:=L.foldl (fun s x=>if B x.1.toNat=true then wrap64 (s+x.2) else s) 0
theorem qw (B:Nat->Bool) (L:List (Int×Int)) (x:Int×Int):eh B (L++[x])=if B x.1.toNat=true then wrap64 (eh B L+x.2) else eh B L:=by simp[eh,List.foldl_append]
end
section
attribute [local go_sem] Oper.semAt_some
theorem Bx (g n:Nat) (A0:Option Addr) (c0:Nat) (E:List S83) (q:Int) (dv Q:Value) (R:Int) (v:Nat) (lb:Array Value) (B:Nat->Bool) (w:World) (ab:Kd.C aT w A0 E.length E) (hE:ep n E) (hn:n<=1000) (hv:v<n) (i:gK w g n (.slice A0 E.length c0) q dv Q R)
  (hB:∀(W:World) (u:Int),Below w.heap.size w W->0<=u->u<n->Calls Tryz.prog 195 (#[.int .i64 u]++lb) W fun e w'=>e= .returned (.bool (B u.toNat))/\Below W.heap.size W w'):
  Calls Tryz.prog 168 #[.pointer (some ⟨g,0,none⟩),.int .i64 v,.func (.func 195) #[] lb] w fun e w'=>e= .returned (.int .i64 (eh B (cz E v E.length)))/\Below w.heap.size w w':=by
 have a9:=zA hB;have HE:=zA hE;have ak:=zA i;clear hB hE i;refine(callsIn_wide (n:=10)).1 ?_;refine callsIn_of_wp_marks Tryz.func168 rfl trivial ?_ rfl;simp only[Tryz.ntmps168,List.size_toArray,List.length_cons,List.length_nil,Nat.reduceAdd,Nat.reduceSub,Array.replicate_succ,Array.replicate_zero,List.push_toArray,List.append_toArray,List.nil_append,List.cons_append];gi_wp2_with (refine⟨trivial,?_⟩;gi_at_call 194;refine(callsIn_wide.2 (lQ g v _)).mono ?_;rintro e w3 ⟨rfl,rfl⟩)
 obtain⟨p,am⟩:∃o:Obj,o= .cells #[.func (.func 195) #[] lb] 121:=⟨_,rfl⟩;obtain⟨on,an⟩:∃o:Obj,o= .cells #[.int .i64 0] 3:=⟨_,rfl⟩;obtain⟨r,ap⟩:∃o:Obj,o= .cells #[.pointer (some ⟨g,0,none⟩)] 135:=⟨_,rfl⟩;obtain⟨y,av⟩:∃o:Obj,o= .cells #[.int .i64 v] 3:=⟨_,rfl⟩;have Z0:=bm w p;have S:=bm (w.alloc p) on;have T:=bm ((w.alloc p).alloc on) r;have U:=bm (((w.alloc p).alloc on).alloc r) y;simp only[World.size_alloc] at S T U;have H0:=zA ((ay (ay (ay Z0 on) r) y).trans (by rw[am]:_=some (.cells #[.func (.func 195) #[] lb] 121 (0,0))));have H1:=zA ((ay (ay S r) y).trans (by rw[an]:_=some (.cells #[.int .i64 0] 3 (0,0))));have H2:=zA ((ay T y).trans (by rw[ap]:_=some (.cells #[.pointer (some ⟨g,0,none⟩)] 135 (0,0))));have H3:=zA (U.trans (by rw[av]:_=some (.cells #[.int .i64 v] 3 (0,0))));have z:=zA (aq (aq (aq (aq (ao w.heap.size w) p) on) r) y);have aP:Aside0 (gK ((((w.alloc p).alloc on).alloc r).alloc y) g n (.slice A0 E.length c0) q dv Q R):=⟨aM ak.out z.out⟩;have bv:g<w.heap.size:=aE ak.out;have bf:=zA (Kd.au ab z.out);clear Z0 S T U;subst am an ap av;have bg:=z.out.size;have bi:((((w.alloc (.cells #[.func (.func 195) #[] lb] 121)).alloc (.cells #[.int .i64 0] 3)).alloc (.cells #[.pointer (some ⟨g,0,none⟩)] 135)).alloc (.cells #[.int .i64 v] 3)).heap.size=w.heap.size+4:=by simp
 generalize ((((w.alloc (.cells #[.func (.func 195) #[] lb] 121)).alloc (.cells #[.int .i64 0] 3)).alloc (.cells #[.pointer (some ⟨g,0,none⟩)] 135)).alloc (.cells #[.int .i64 v] 3))=j at H0 H1 H2 H3 z aP bf bg bi⊢;refine iC (σ:=Unit) (α:=Int×Int) (F:=Fence.wide) (n:=10) rfl (by decide) (gf:=207) (lb:=#[.pointer (some ⟨w.heap.size+1+1,0,none⟩),.pointer (some ⟨w.heap.size+1+1+1,0,none⟩)]) rfl trivial (enters_of Tryz.func207 (by kernel_rfl) rfl)
  (fun o=>oE (w.heap.size+1+1) (w.heap.size+1+1+1) g n A0 c0 E q dv Q R v w _ ab HE.out hn hv (aq (aq z.out _) _) (ay (ay H2.out _) _) (ay (ay H3.out _) _) (ay (ay aP.out _) _)) (fun _=>rfl)
  (fun _=>True) ?eF ?st ?ar
  (fun _ pre W=>j.heap.size<=W.heap.size/\W.heap[w.heap.size]? =some (.cells #[.func (.func 195) #[] lb] 121 (0,0))/\W.heap[w.heap.size+1]? =some (.cells #[.int .i64 (eh B pre)] 3 (0,0))/\Below w.heap.size w W) (fun _ _ _ _=>False)
  ?is (fun _ _ _ _ _ _ h _=>h) ?ib (fun _ _ _ _ _ h _=>h) ?kt ?h0 ?a1 ?assign ?body ?done (fun _ _ _ _ _ _ _ h=>h.elim)
 case assign=>
  intro l x W K hK;gi_wp2;exact hK
 case eF=>
  intro o s W1 h;exact⟨trivial,by rw[h];exact cn.refl _ _⟩
 case st=>intro s A B _ h;exact cZ h
 case ar=>intro s x A B _ h;exact cZ h.2
 case is=>
  rintro s pre A B _ ⟨H,h1,V,X⟩ i;exact⟨Nat.le_trans H i.size,aM h1 i,aM V i,a8 X i⟩
 case ib=>
  rintro s pre A B ⟨H,h1,V,X⟩ hb;exact⟨by rw[hb.size];exact H,hb.cells h1,hb.cells V,X.trans (hb.below w.heap.size (by omega))⟩
 case kt=>
  intro s A B C D N aR aS;refine⟨fun aY=>((N.below w.heap.size (by omega)).trans (aR.1 (by rw[N.size];exact aY))).trans (aS.below w.heap.size (by omega)),fun k hk I=>?_⟩;have a0:k≠j.heap.size+1:=by rcases hk with rfl|rfl|rfl<;>omega
  exact(aS.heap k a0).trans ((aR.2 k hk (by rw[N.size];exact I)).trans (N.heap k a0))
 case h0=>
  rintro o s W1 rfl;exact⟨by simp;omega,ay (ay H0.out _) _,ay (ay H1.out _) _,aq (aq z.out _) _⟩
 case body=>
  rintro l s pre ⟨u,m⟩ Wb W1 W _ ⟨H,i1,i2,i3⟩ ⟨Y,J⟩ bn b;have Z:=zA (b.cells (aM i1 J));have L:=zA (b.cells (aM i2 J));have b3:=zA ((a8 i3 J).trans (b.below w.heap.size (by omega)));have bx:j.heap.size<=W.heap.size:=by have:=b.size;have:=J.size;omega
  clear i1 i2 i3 J b bn;simp only at Y;have b0:W.cell? ⟨w.heap.size,0,none⟩=some (.func (.func 195) #[] lb):=(al Z.out 0).trans rfl;have O:=zA (a9.out W u b3.out Y.1 Y.2.1);have M:=zA (qw B pre (u,m));generalize eh B pre=s0 at L M;cases P:B u.toNat with
  |true=>
   rw[P] at O M;clear P;gi_wp2_with (refine⟨trivial,?_⟩;gi_at_call 195;refine(callsIn_wide.2 O.out).mono ?_;rintro e w5 ⟨rfl,G⟩;have a:=zA G;have D2:=zA (aM L.out G);have c5:w5.cell? ⟨w.heap.size+1,0,none⟩=some (.int .i64 s0):=(al D2.out 0).trans rfl;have f5:=bD D2.out 0;clear G)
   have aY:=a.out.size;refine⟨(cZ a.out).trans (fp _ _ (by show w.heap.size+1<j.heap.size;omega)),⟨fun aY=>Below.setCell (a.out.mono aY) (by show w.heap.size<=w.heap.size+1;omega) _,fun k hk I=>?_⟩,by simp;omega,?_,?_,Below.setCell (a8 b3.out a.out) (by show w.heap.size<=w.heap.size+1;omega) _⟩
   ·rw[Below.heap_setCell _ _ _ _ (by rcases hk with rfl|rfl|rfl<;>(show _≠w.heap.size+1)<;>omega)]
    exact a.out.block k I
   ·rw[Below.heap_setCell _ _ _ _ (by show w.heap.size≠w.heap.size+1;omega)]
    exact aM Z.out a.out
   ·have h:=bR D2.out 0 (.int .i64 (wrap64 (s0+m)))
    rw[M.out];simpa using h
  |false=>
   rw[P] at O M;clear P;gi_wp2_with (refine⟨trivial,?_⟩;gi_at_call 195;refine(callsIn_wide.2 O.out).mono ?_;rintro e w5 ⟨rfl,G⟩;have a:=zA G;clear G)
   have aY:=a.out.size;exact⟨cZ a.out,⟨fun aY=>a.out.mono aY,fun k hk I=>a.out.block k I⟩,by omega,aM Z.out a.out,by rw[M.out];exact aM L.out a.out,a8 b3.out a.out⟩
 case done=>
  rintro s xs W W' _ rfl ⟨H,i1,i2,i3⟩ b a3;have L:=zA (b.cells i2);have b3:=zA (i3.trans (b.below w.heap.size (by omega)));have a4:=zA a3;clear i1 i2 i3 a3;have hc:W'.cell? ⟨w.heap.size+1,0,none⟩=some (.int .i64 (eh B (cz E v E.length))):=(al L.out 0).trans rfl;gi_wp2_with fail
  have bo:Bk j.heap.size W' (W'.putObj j.heap.size (.deferred none)):=⟨_,_,a4.out,rfl,rfl⟩;exact jc (D:=j.heap.size) rfl a4.out (results_tmp rfl _ _ _) ⟨rfl,b3.out.trans (bo.below w.heap.size (by omega))⟩
end
section
theorem qy {b:Nat->Bool} {u:Nat}:∀(l:List Nat),b u=true->cO b l u=true:=by
 intro l;induction l generalizing b with
 |nil=>exact id
 |cons v l a=>intro h;exact a (b:=ef b v) (by unfold ef;split<;>simp_all)
theorem qz (b:Nat->Bool) (v:Nat) (l:List Nat):cO b (v::l)=cO (ef b v) l:=rfl
section
variable {n:Nat} {c:(Nat->Bool)->Nat->Bool}
theorem qA (g:∀b v,c b v=true->b v=false):∀(f:Nat) (b:Nat->Bool),dT n b<=f->∀v,v<n->c (cO b (fC n c f b)) v=false:=by
 intro f;induction f with
 |zero=>
  intro b h v e;show c b v=false
  cases i:c b v with
  |false=>rfl
  |true=>
   have:=mL e (g b v i);omega
 |succ f j=>
  intro b h v e;cases a:jI n c b with
  |none=>
   simp only[fC,a];unfold jI at a;rw[List.find?_eq_none] at a;have:=a v (List.mem_range.2 e);simpa [cO] using this
  |some v0=>
   have h1:=List.find?_some a;have k:=List.mem_of_find?_eq_some a;have l:=mL (List.mem_range.1 k) (g b v0 (by simpa using h1));simp only[fC,a,qz];exact j (ef b v0) (by omega) v e
theorem By (hm:∀(b b':Nat->Bool) v,(∀u,b u=true->b' u=true)->b' v=false->c b v=true->c b' v=true) (S:Nat->Bool):
  ∀(f:Nat) (b:Nat->Bool),(∀v,S v=true->b v=false)->(∃v,v<n/\S v=true/\cO b (fC n c f b) v=true)->∃v,v<n/\S v=true/\c (fun u=> !S u) v=true:=by
 intro f;induction f with
 |zero=>
  rintro b hb ⟨v,j,a,h⟩;have:=hb v a;simp[fC,cO,this] at h
 |succ f k=>
  rintro b hb ⟨v,j,a,h⟩;cases g:jI n c b with
  |none=>
   simp only[fC,g] at h;have:=hb v a;simp[cO,this] at h
  |some v0=>
   have h1:=List.find?_some g;have l:=List.mem_of_find?_eq_some g;simp only[fC,g,qz] at h;cases i:S v0 with
   |true=>
    refine⟨v0,List.mem_range.1 l,i,hm b _ v0 (fun u hu=>?_) (by simp[i]) (by simpa using h1)⟩;cases m:S u with
    |true=>exact absurd hu (by simp[hb u m])
    |false=>rfl
   |false=>
    refine k (ef b v0) (fun u hu=>?_) ⟨v,j,a,h⟩;unfold ef;rw[if_neg (fun e=>by subst e;rw[i] at hu;cases hu)];exact hb u hu
theorem Bz (g:∀b v,c b v=true->b v=false) (hm:∀(b b':Nat->Bool) v,(∀u,b u=true->b' u=true)->b' v=false->c b v=true->c b' v=true) (b:Nat->Bool):
  (∀v,v<n->cO b (eL n c b) v=true)↔∀S:Nat->Bool,(∃v,v<n/\S v=true)->(∀v,S v=true->b v=false)->∃v,v<n/\S v=true/\c (fun u=> !S u) v=true:=by
 constructor
 ·rintro h S ⟨v,a,i⟩ hb
  exact By hm S (dT n b) b hb ⟨v,a,i,h v a⟩
 ·intro h v a
  cases j:cO b (eL n c b) v with
  |true=>rfl
  |false=>
   obtain⟨u,hu,l,e⟩:=h (fun u=> !cO b (eL n c b) u) ⟨v,a,by simp[j]⟩ (fun u hu=>by
    cases k:b u with
    |false=>rfl
    |true=>simp[qy _ k] at hu)
   have:=qA (n:=n) g (dT n b) b (aI _) u hu;simp only[Bool.not_not] at e;rw[show eL n c b=fC n c (dT n b) b from rfl] at e;rw[this] at e;cases e
end
theorem ug {t:Nat->Nat->Int} (a:∀i j,0<=t i j) {b b':Nat->Bool} (h:∀u,b u=true->b' u=true) (v:Nat):∀u,dJ t b v u<=dJ t b' v u
 |0=>Int.le_refl _
 |u+1=>by
  have h1:=ug a h v u;have e:=h u;have g:=a v u;simp only[dJ];by_cases hb:b u=true
  ·rw[if_pos hb,if_pos (e hb)];omega
  ·rw[if_neg hb]
   split<;>omega
def oF (n:Nat) (t:Nat->Nat->Int) (q:Nat) (c:Nat->Int):Prop:=∀S:Nat->Bool,(∃v,v<n/\S v=true)->S q=false->∃v,v<n/\S v=true/\c v<dJ t (fun u=> !S u) v n
def ga (n:Nat) (t:Nat->Nat->Int) (q:Nat) (l:List Int):Bool:=(List.range n).all (cO (cP q) (eL n (cw n t l) (cP q)))
theorem qB {n:Nat} {t:Nat->Nat->Int} (m:∀i j,0<=t i j) (q:Nat) (l:List Int):ga n t q l=true↔oF n t q (fun v=>rd l v):=by
 have h:=Bz (n:=n) (c:=cw n t l) (fun b v h=>mM b v h) (fun b b' v hb a g=>by
  unfold cw at g⊢;simp only[Bool.and_eq_true,decide_eq_true_eq] at g⊢;exact⟨by simp[a],Int.lt_of_lt_of_le g.2 (ug m hb v n)⟩) (cP q)
 unfold ga oF;rw[List.all_eq_true];constructor
 ·intro h1 S hS o
  obtain⟨v,a,k,g⟩:=h.1 (fun v a=>h1 v (List.mem_range.2 a)) S hS (fun v a=>by
   unfold cP;rw[if_neg (fun e=>by subst e;rw[o] at a;cases a)])
  unfold cw at g;simp only[Bool.and_eq_true,decide_eq_true_eq] at g;exact⟨v,a,k,g.2⟩
 ·intro h1 v a
  refine h.2 (fun S hS hb=>?_) v (List.mem_range.1 a);obtain⟨v,a,k,g⟩:=h1 S hS (by
   cases p:S q with
   |false=>rfl
   |true=>have:=hb q p;simp[cP] at this)
  refine⟨v,a,k,?_⟩;unfold cw;simp[k,g]
def valOf (n:Nat) (t:Nat->Nat->Int) (v:Nat):Int:=dJ t (fun u=> !decide (u=v)) v n
theorem oF.lt {n:Nat} {t:Nat->Nat->Int} {q:Nat} {c:Nat->Int} (h:oF n t q c) {v:Nat} (a:v<n) (b:v≠q):c v<valOf n t v:=by
 obtain⟨u,hu,g,i⟩:=h (fun u=>decide (u=v)) ⟨v,a,by simp⟩ (by simpa using fun e=>b e.symm);have:u=v:=by simpa using g
 subst this;exact i
end
theorem BA (gb a cr n:Nat) (B:Nat->Bool) (ok:Nat->Prop) (base:Nat) (W:World) (u:Int) (hb:W.heap[gb]? =some (.cells #[.slice (some ⟨a,0,none⟩) n cr] 43 (0,0))) (g:Kd.bool.R 4 W base ok (.slice (some ⟨a,0,none⟩) n cr) ((List.range n).map B)) (h:0<=u) (hn:u<n):
  Calls Tryz.prog 195 #[.int .i64 u,.pointer (some ⟨gb,0,none⟩)] W fun e w'=>e= .returned (.bool (B u.toNat))/\Below W.heap.size W w':=by
 have i:W.cell? ⟨gb,0,none⟩=some (.slice (some ⟨a,0,none⟩) n cr):=(al hb 0).trans rfl;have b:=(Kd.bP false g u h hn).1;have e:bO false ((List.range n).map B) u=B u.toNat:=by
  obtain⟨m,rfl⟩:=Int.eq_ofNat_of_zero_le h;have:m<n:=by omega
  simp[bO,bh,List.getElem?_map,List.getElem?_range this]
 rw[e] at b;have b:W.cell? ⟨a,u.toNat,none⟩=some (.bool (B u.toNat)):=b;clear g hb e;go_enter Tryz.func195,Tryz.ntmps195
 go_wp2;go_ret;exact⟨rfl,ao _ _⟩
theorem BB (n:Nat) (B:Nat->Bool) (v:Nat):((List.range n).map B).set v true=(List.range n).map (ef B v):=by
 refine List.ext_getElem (by simp) fun i h1 a=>?_
 rw[List.getElem_set];simp only[List.getElem_map,List.getElem_range];unfold ef;by_cases e:v=i
 ·subst e;simp
 ·rw[if_neg e,if_neg (fun h=>e h.symm)]
theorem BC (n q:Nat):(List.replicate n false).set q true=(List.range n).map (cP q):=by
 refine List.ext_getElem (by simp) fun i h1 a=>?_
 rw[List.getElem_set];simp only[List.getElem_map,List.getElem_range,List.getElem_replicate];unfold cP;by_cases e:q=i
 ·subst e;simp
 ·rw[if_neg e,if_neg (fun h=>e h.symm)]
theorem BD {n:Nat} {c:(Nat->Bool)->Nat->Bool} {b F:Nat->Bool} (hm:∀(b b':Nat->Bool) v,(∀u,u<n->b u=true->b' u=true)->b' v=false->c b v=true->c b' v=true) (hF:∀v,v<n->c F v=false) (hb:∀v,v<n->b v=true->F v=true):
  ∀(f:Nat) (b:Nat->Bool),(∀v,v<n->b v=true->F v=true)->∀v,v<n->cO b (fC n c f b) v=true->F v=true:=by
 intro f;induction f with
 |zero=>intro b hb v a h;exact hb v a h
 |succ f j=>
  intro b hb v a h;cases g:jI n c b with
  |none=>simp only[fC,g] at h;exact hb v a h
  |some v0=>
   have h1:=List.find?_some g;have l:=List.mem_range.1 (List.mem_of_find?_eq_some g);simp only[fC,g,qz] at h;refine j (ef b v0) (fun u hu i=>?_) v a h;unfold ef at i;by_cases e:u=v0
   ·subst e
    cases k:F u with
    |true=>rfl
    |false=>have:=hm b F u hb k (by simpa using h1);rw[hF u hu] at this;cases this
   ·rw[if_neg e] at i;exact hb u hu i
def bA (n:Nat) (t:Nat->Nat->Int) (q:Nat) (d:List Int):Nat->Bool:=cO (cP q) (eL n (cw n t d) (cP q))
theorem uh {n:Nat} {t:Nat->Nat->Int} (e:∀i j,0<=t i j) {d:List Int} (b b':Nat->Bool) (v:Nat) (h:∀u,u<n->b u=true->b' u=true) (g:b' v=false) (a:cw n t d b v=true):cw n t d b' v=true:=by
 unfold cw at a⊢;simp only[Bool.and_eq_true,decide_eq_true_eq] at a⊢;have hf:∀m,m<=n->dJ t b v m<=dJ t b' v m:=by
  intro m;induction m with
  |zero=>intro _;exact Int.le_refl _
  |succ m k=>
   intro hm;have h1:=k (by omega);have o:=e v m;have l:=h m (by omega);simp only[dJ];by_cases hb:b m=true
   ·rw[if_pos hb,if_pos (l hb)];omega
   ·rw[if_neg hb];split<;>omega
 exact⟨by simp[g],Int.lt_of_lt_of_le a.2 (hf n (aI _))⟩
theorem BE {n:Nat} {t:Nat->Nat->Int} (k:∀i j,0<=t i j) {q:Nat} {d:List Int} {B:Nat->Bool} (l:B q=true) (m:∀v,v<n->B v=true->bA n t q d v=true) (o:∀v,v<n->cw n t d B v=false):∀v,v<n->bA n t q d v=B v:=by
 intro v a;cases g:B v with
 |true=>exact m v a g
 |false=>
  cases hF:bA n t q d v with
  |false=>rfl
  |true=>
   have h:∀u,u<n->cP q u=true->B u=true:=fun u _ hu=>by
    unfold cP at hu;by_cases e:u=q
    ·rw[e];exact l
    ·rw[if_neg e] at hu;cases hu
   have:=BD (b:=cP q) (fun b b' v h1 p r=>uh k b b' v h1 p r) o h _ (cP q) h v a hF;rw[g] at this;cases this
theorem BF {n:Nat} {t:Nat->Nat->Int} (g:∀i j,0<=t i j) {q:Nat} {d:List Int} {B:Nat->Bool} (a:∀v,v<n->B v=true->bA n t q d v=true) {v:Nat} (m:v<n) (k:cw n t d B v=true):∀u,u<n->ef B v u=true->bA n t q d u=true:=by
 intro u hu h;unfold ef at h;by_cases e:u=v
 ·subst e
  cases hF:bA n t q d u with
  |true=>rfl
  |false=>
   have h1:=qA (n:=n) (c:=cw n t d) (fun b v h=>mM b v h) (dT n (cP q)) (cP q) (aI _) u hu;have l:=uh g B (bA n t q d) u a hF k;rw[show cw n t d (cO (cP q) (fC n (cw n t d) (dT n (cP q)) (cP q))) u=cw n t d (bA n t q d) u from rfl,l] at h1;cases h1
 ·rw[if_neg e] at h;exact a u hu h
theorem BG (g n:Nat) (A0:Option Addr) (c0:Nat) (E:List S83) (q:Nat) (Ad:Option Addr) (cd:Nat) (d:List Int) (sv:Value) (er:Int) (w:World) (c4:Kd.C aT w A0 E.length E) (hE:ep n E) (hn:n<=1000) (hq:q<n) (aO:gK w g n (.slice A0 E.length c0) q (.slice Ad d.length cd) sv er)
  (hd:Kd.C (Kd.int .i64) w Ad d.length d) (b4:d.length=n) (b6:∀(B:Nat->Bool) (v:Nat),v<n->B v=false->eh B (cz E v E.length)=dJ (ai E) B v n):
  Calls Tryz.prog 170 #[.pointer (some ⟨g,0,none⟩)] w fun e w'=>∃G cl,e= .returned (.tuple #[.slice (some ⟨G,0,none⟩) n cl,.bool ((List.range n).any fun v=> !bA n (ai E) q d v)])/\Kd.bool.R 4 w' w.heap.size (fun _=>True) (.slice (some ⟨G,0,none⟩) n cl) ((List.range n).map fun v=> !bA n (ai E) q d v)/\Below w.heap.size w w':=by
 have eg:=Tryz.underlying188;have hu:=Tryz.underlying24;have c5:=zA b6;have HE:=zA hE;have ar:=zA aO;have HD:=zA hd;have s0:w.cell? ⟨g,0,none⟩=some (.int .i64 n):=(al aO 0).trans rfl;have cb:=b4;have c6:=zA cb;clear b6 hE aO hd b4 cb;have cc:(0:Int)<=(n:Int):=by omega
 go_enter Tryz.func170,Tryz.ntmps170
 go_wp2_with (first|((with_reducible refine aJ (N:=16) rfl ?_);refine Kd.jn Kd.bool _ 4 rfl (N:=16) rfl 43 _ _ rfl (n:Int) rfl rfl Tryz.underlying43 (.bool false) 1 lH rfl (by decide) (by omega) false (ok:=fun _=>True) (okp:=fun _=>True) rfl (fun _ hk=>hk) trivial cc (by simp;omega) (ao _ _) (aI _) ?_;intro v1 w1 H hb aP aR;rw[aQ] at H;obtain⟨l,cr,K,ce,aS, -⟩:=Kd.eV H (by rw[List.length_replicate];omega);rw[List.length_replicate] at K;subst K;have cf:=zA H;have a0:=zA hb;clear H hb aP aR))
 have c7:=a0.out.size;have L:=zA (bm w1 (.cells #[.slice (some ⟨l,0,none⟩) n cr] 43));have T:=zA (Kd.aK cf.out (.cells #[.slice (some ⟨l,0,none⟩) n cr] 43));have M:=zA (aq a0.out (.cells #[.slice (some ⟨l,0,none⟩) n cr] 43));have a1:=zA (aM ar.out M.out);have ch:=zA (Kd.au HD.out M.out);have ek:g<w.heap.size:=aE ar.out;have c8:l<w1.heap.size:=aS;clear cf a0 aS s0;generalize w1.alloc (.cells #[.slice (some ⟨l,0,none⟩) n cr] 43)=W2 at L T M a1 ch⊢;generalize w1.heap.size=gb at L c8 c7⊢;have b0:W2.cell? ⟨gb,0,none⟩=some (.slice (some ⟨l,0,none⟩) n cr):=(al L.out 0).trans rfl;have s2:W2.cell? ⟨g,2,none⟩=some (.int .i64 q):=(al a1.out 2).trans rfl;obtain⟨o,hf⟩:=Kd.bP false T.out (q:Int) (by omega) (by omega);rw[aQ] at o hf;have ci:W2.cell? ⟨l,q,none⟩=some (.bool (bO false (List.replicate n false) q)):=o;have el:(0:Int)<=(q:Int):=by omega
 have es:(q:Int)<(n:Int):=by omega
 clear o;generalize bO false (List.replicate n false) q=x0 at ci;go_region
 go_wp2;have y:=Kd.de T.out (q:Int) true;rw[aQ,BC] at y;have a2:=zA (Kd.bd y.1);have a3:=zA (fw (cR (g:=gb) L.out y.2 (fun e=>by injection e with e;omega)));have a4:=zA (bV (Below.setCell (p:=⟨l,q,none⟩) M.out ce (.bool true)));have ht:∀i j,0<=ai E i j:=fun i j=>(HE.out.times i j).1
 have HT:=zA ht;have co:=zA (show cP q q=true by simp[cP]);have cq:Aside0 (∀v,v<n->cP q v=true->bA n (ai E) q d v=true):=⟨fun v K h=>qy _ h⟩;have c9:gb≠l:=by omega
 clear y T L a1 M ch b0 s2 ci hf ht;generalize (W2.setCell ⟨l,q,none⟩ (.bool true)).drew=W3 at a2 a3 a4⊢;go_loopg [6] (2*n+2) (fun kq ag wr=>∃(B:Nat->Bool) (b:Bool),ag= .bool b/\Aside0 (B q=true)/\Aside0 (∀v,v<n->B v=true->bA n (ai E) q d v=true)/\Aside0 (b=false->∀v,v<n->cw n (ai E) d B v=false)/\Aside0 (wr.heap[gb]? =some (.cells #[.slice (some ⟨l,0,none⟩) n cr] 43 (0,0)))/\Aside0 (Kd.bool.R 4 wr w.heap.size (fun _=>True) (.slice (some ⟨l,0,none⟩) n cr) ((List.range n).map B))/\Aside0 (Below w.heap.size w wr)/\Aside0 (2*dT n B+(if b=true then 1 else 0)<=kq))
 case atStart=>exact⟨cP q,true,rfl,co,cq,⟨fun h=>by cases h⟩,a3,a2,a4,⟨by have:=tQ n (cP q);simp;omega⟩⟩
 case round=>
  clear co cq a3 a2 a4;obtain⟨B,b,rfl,I,J,be,D,F,r,HK⟩:=hrel;have O:=zA (aM ar.out r.out);have s0:wr.cell? ⟨g,0,none⟩=some (.int .i64 n):=(al O.out 0).trans rfl;cases b with
  |true=>
   go_wp2;go_loopg [6,30] (n) (fun kq ag Z wr=>∃(v:Nat) (m:Nat->Bool) (b':Bool),ag= .bool b'/\Z= .int .i64 v/\v<=n/\Aside0 (m q=true)/\Aside0 (∀v,v<n->m v=true->bA n (ai E) q d v=true)/\Aside0 (b'=false->m=B/\∀u,u<v->cw n (ai E) d B u=false)/\Aside0 (dT n m+(if b'=true then 1 else 0)<=dT n B)/\Aside0 (wr.heap[gb]? =some (.cells #[.slice (some ⟨l,0,none⟩) n cr] 43 (0,0)))/\Aside0 (Kd.bool.R 4 wr w.heap.size (fun _=>True) (.slice (some ⟨l,0,none⟩) n cr) ((List.range n).map m))/\Aside0 (Below w.heap.size w wr)/\Aside0 (kq=n-v))
   case atStart=>exact⟨0,B,false,rfl,rfl,by omega,I,J,⟨fun _=>⟨rfl,fun u hu=>by omega⟩⟩,⟨by simp⟩,D,F,r,⟨rfl⟩⟩
   case round=>
    clear O s0 I J be D F r;obtain⟨v,m,b',rfl,rfl,K,I,J,P,HU,D,F,r,bf⟩:=hrel;by_cases Q:v<n
    ·have dd:(0:Int)<=(v:Int):=by omega
     have dk:(v:Int)<(n:Int):=by omega
     have b0:wr.cell? ⟨gb,0,none⟩=some (.slice (some ⟨l,0,none⟩) n cr):=(al D.out 0).trans rfl;obtain⟨o,hf⟩:=Kd.bP false F.out (v:Int) (by omega) (by omega);rw[aQ] at o hf;have e1:bO false ((List.range n).map m) v=m v:=by simp[bO,bh,List.getElem?_map,List.getElem?_range Q]
     rw[e1] at o;replace o:wr.cell? ⟨l,v,none⟩=some (.bool (m v)):=o;clear e1;cases V:m v with
     |true=>
      rw[V] at o;have ab:=zA V;clear V;go_wp2_with fail
      go_quiet (fail)
      go_wp2;go_roundg (n- (v+1))
      case measure=>rw[bf.out];omega
      case rel=>exact⟨v+1,m,b',rfl,by go_num,by omega,I,J,⟨fun h=>⟨(P.out h).1,fun u hu=>by
       by_cases e:u=v
       ·subst e
        have:=(P.out h).1;have h3:=ab.out;rw[this] at h3;unfold cw;rw[h3];rfl
       ·exact(P.out h).2 u (by omega)⟩⟩,HU,⟨by repeat(first|exact D.out|apply ir|apply fw)⟩,⟨by repeat(first|exact F.out|apply Kd.bq|apply Kd.bd)⟩,⟨by repeat(first|exact r.out|apply bY|apply bV)⟩,⟨rfl⟩⟩
     |false=>
      rw[V] at o;have ab:=zA V;have O:=zA (aM ar.out r.out);have s3:wr.cell? ⟨g,3,none⟩=some (.slice Ad d.length cd):=(al O.out 3).trans rfl;have ds:=c6.out;obtain⟨a,ea,hx⟩:=Kd.bL (Kd.au HD.out r.out) v (by omega) (by omega);subst ea;rw[aQ] at hx;have ex:(v:Int)<(d.length:Int):=by omega
      have ey:=aE D.out;have e0:=Kd.a7 F.out l rfl;have e3:=aE O.out;have e4:=bs _ _ hx;clear V ds;go_wp2_with fail
      go_region_held3 (fun w'=>w'.cell? ⟨gb,0,none⟩=some (.slice (some ⟨l,0,none⟩) n cr)/\w'.cell? ⟨l,v,none⟩=some (.bool false)/\w'.cell? ⟨g,3,none⟩=some (.slice (some a) d.length cd)/\w'.cell? (a.add v)=some (.int .i64 (rd d v)))
       (first|go_keep|(go_split_ands;exact⟨(S.cell (p:=⟨gb,0,none⟩) (by simp;omega)).trans (by go_simp),(S.cell (p:=⟨l,v,none⟩) (by simp;omega)).trans (by go_simp),(S.cell (p:=⟨g,3,none⟩) (by simp;omega)).trans (by go_simp),(S.cell (p:=a.add v) (by simp;omega)).trans (by go_simp)⟩))
       (first|(go_at_call 168;refine(Bx g n A0 c0 E q _ sv er v #[.pointer (some ⟨gb,0,none⟩)] m _ (Kd.au c4 zB) HE.out hn Q (zK O) (fun W u cs d0 d1=>BA gb l cr n m _ _ W u (aM (zK D) cs) (Kd.cU (zR F) cs) d0 d1)).mono ?_;rintro e w5 ⟨rfl,S⟩))
      have U:=zb D S;have X:=br F S;have am:=zS r S;have cv:=zA (c5.out m v Q ab.out);have cx:cw n (ai E) d m v=decide (rd d v<eh m (cz E v E.length)):=by unfold cw;rw[ab.out,cv.out];rfl
      have bi:=zA cx;rename_i hHeld;clear hHeld cx S D F r O o hf b0 s3 hx;generalize eh m (cz E v E.length)=x at bi cv⊢;have b5:w5.cell? ⟨gb,0,none⟩=some (.slice (some ⟨l,0,none⟩) n cr):=(al U.out 0).trans rfl;obtain⟨o,hf⟩:=Kd.bP false X.out (v:Int) (by omega) (by omega);rw[aQ] at o hf;generalize bO false ((List.range n).map m) (v:Int)=z at o;replace o:w5.cell? ⟨l,v,none⟩=some (.bool z):=o;by_cases c1:rd d v<x
      ·have an:decide (rd d v<x)=true:=az c1
       have bn:Aside0 (cw n (ai E) d m v=true):=⟨bi.out.trans an⟩;have y:=Kd.de X.out (v:Int) true;rw[aQ,BB] at y;have d2:=zA y.1;have d3:=zA (cR (g:=gb) U.out y.2 (fun e=>by injection e with e;exact c9 e));have d4:=zA (Below.setCell (p:=⟨l,v,none⟩) am.out ce (.bool true));clear y;simp only[an];go_wp2;go_roundg (n- (v+1))
       case measure=>rw[bf.out];omega
       case rel=>exact⟨v+1,ef m v,true,rfl,by go_num,by omega,⟨by unfold ef;split;rfl;exact I.out⟩,⟨BF HT.out J.out Q bn.out⟩,⟨fun h=>by cases h⟩,⟨by have h1:=mL Q ab.out;have h2:=HU.out;simp;split at h2<;>omega⟩,d3,d2,d4,⟨rfl⟩⟩
      ·have an:decide (rd d v<x)=false:=aZ c1
       have bn:Aside0 (cw n (ai E) d m v=false):=⟨bi.out.trans an⟩;clear o hf b5;simp only[an];go_wp2;go_roundg (n- (v+1))
       case measure=>rw[bf.out];omega
       case rel=>exact⟨v+1,m,b',rfl,by go_num,by omega,I,J,⟨fun h=>⟨(P.out h).1,fun u hu=>by
        by_cases e:u=v
        ·subst e
         have h3:=bn.out;rw[(P.out h).1] at h3;exact h3
        ·exact(P.out h).2 u (by omega)⟩⟩,HU,U,X,am,⟨rfl⟩⟩
    ·obtain rfl:v=n:=by omega
     go_wp2;go_roundg (2*dT v m+(if b'=true then 1 else 0))
     case measure=>
      have h1:=HK.out;have h2:=HU.out;cases b'<;>simp at h1 h2⊢ <;>omega
     case rel=>exact⟨m,b',rfl,I,J,⟨fun h u hu=>by rw[(P.out h).1];exact(P.out h).2 u hu⟩,D,F,r,⟨aI _⟩⟩
  |false=>
   go_wp2_with (first|((with_reducible refine aJ (N:=61) rfl ?_);refine Kd.jn Kd.bool _ 4 rfl (N:=61) rfl 43 _ _ rfl (n:Int) rfl rfl Tryz.underlying43 (.bool false) 1 lH rfl (by decide) (by omega) false (ok:=fun _=>True) (okp:=fun _=>True) rfl (fun _ hk=>hk) trivial cc (by simp;omega) (ao _ _) (aI _) ?_;intro v1 w5 H hb aP aR;rw[aQ] at H;obtain⟨G,cl,K,d5,aS, -⟩:=Kd.eV H (by rw[List.length_replicate];omega);rw[List.length_replicate] at K;subst K;have c2:=zA H;have am:=zA (a8 r.out hb);have U:=zA (aM D.out hb);have X:=zA (Kd.a_ (Kd.cU (Kd.eH F.out) hb) (ok':=fun k=>k≠G) (fun k hk=>by have:=hk.2.2;omega));have d6:gb≠G:=(fun e=>by have:=aE D.out;omega);have d7:w.heap.size<=G:=Nat.le_trans r.out.size d5;have b5:w5.cell? ⟨gb,0,none⟩=some (.slice (some ⟨l,0,none⟩) n cr):=(al U.out 0).trans rfl;clear H hb aP aR))
   have bo:=zA (BE HT.out I.out J.out (be.out (by simp)));have d8:=r.out.size;clear O s0 I J be D F r b5;have c3:Aside0 (Kd.bool.R 4 w5 w.heap.size (fun _=>True) (.slice (some ⟨G,0,none⟩) n cl) ((List.range n).map fun u=>if u<0 then !B u else false)):=⟨by
    have h:=Kd.ba c2.out (base':=w.heap.size) d8;rw[show (List.replicate n false:List Bool)=(List.range n).map fun u=>if u<0 then !B u else false from by
     refine List.ext_getElem (by simp) fun i h1 h2=>?_
     simp] at h
    exact h⟩
   clear c2;go_loopw [9,64] (fun d9 Z wr=>∃v:Nat,v<=n/\Z= .int .i64 v/\d9= .bool ((List.range v).any fun u=> !B u)/\Aside0 (wr.heap[gb]? =some (.cells #[.slice (some ⟨l,0,none⟩) n cr] 43 (0,0)))/\Aside0 (Kd.bool.R 4 wr w.heap.size (fun k=>k≠G) (.slice (some ⟨l,0,none⟩) n cr) ((List.range n).map B))/\Aside0 (Kd.bool.R 4 wr w.heap.size (fun _=>True) (.slice (some ⟨G,0,none⟩) n cl) ((List.range n).map fun u=>if u<v then !B u else false))/\Aside0 (Below w.heap.size w wr)) (fun _ Z _=>n- (intOf Z).toNat)
   case atStart=>exact⟨0,by omega,rfl,rfl,U,X,c3,am⟩
   case round=>
    clear U X c3 am;obtain⟨v,K,rfl,rfl,D,F,HL,r⟩:=hrel;by_cases Q:v<n
    ·have dd:(0:Int)<=(v:Int):=by omega
     have dk:(v:Int)<(n:Int):=by omega
     have b0:wr.cell? ⟨gb,0,none⟩=some (.slice (some ⟨l,0,none⟩) n cr):=(al D.out 0).trans rfl;obtain⟨o, -⟩:=Kd.bP false F.out (v:Int) (by omega) (by omega);obtain⟨hz,hf⟩:=Kd.bP false HL.out (v:Int) (by omega) (by omega);rw[aQ] at o hz hf;have e1:bO false ((List.range n).map B) v=B v:=by simp[bO,bh,List.getElem?_map,List.getElem?_range Q]
     rw[e1] at o;replace o:wr.cell? ⟨l,v,none⟩=some (.bool (B v)):=o;generalize bO false ((List.range n).map fun u=>if u<v then !B u else false) (v:Int)=z at hz;replace hz:wr.cell? ⟨G,v,none⟩=some (.bool z):=hz;have y:=Kd.de HL.out (v:Int) (!B v);rw[aQ] at y;have em:(((List.range n).map fun u=>if u<v then !B u else false).set v (!B v))=(List.range n).map fun u=>if u<v+1 then !B u else false:=by
      refine List.ext_getElem (by simp) fun i h1 h2=>?_
      rw[List.getElem_set];simp only[List.getElem_map,List.getElem_range];by_cases e:v=i
      ·subst e;simp
      ·rw[if_neg e]
       by_cases h:i<v
       ·rw[if_pos h,if_pos (by omega)]
       ·rw[if_neg h,if_neg (by omega)]
     rw[em] at y;have bw:=zA y.1;have L:=zA (cR (g:=gb) D.out y.2 (fun e=>by injection e with e;exact d6 e));have T:=zA (Kd.lq F.out y.2 (fun k hk e=>hk (by injection e)));have M:=zA (Below.setCell (p:=⟨G,v,none⟩) r.out d7 (.bool (!B v)));have Y:=(Kd.bP false bw.out (v:Int) (by omega) (by omega)).1;rw[aQ] at Y;have e2:bO false ((List.range n).map fun u=>if u<v+1 then !B u else false) v= !B v:=by simp[bO,bh,List.getElem?_map,List.getElem?_range Q]
     rw[e2] at Y;have HA:=zA (show ((List.range (v+1)).any fun u=> !B u)=(((List.range v).any fun u=> !B u)|| !B v) by simp[List.range_succ,List.any_append]);replace Y:(wr.setCell ⟨G,v,none⟩ (.bool (!B v))).cell? ⟨G,v,none⟩=some (.bool (!B v)):=Y;have e5:=zA Y;clear y em e1 e2 Y;generalize hs:((List.range v).any fun u=> !B u)=s at HA⊢;clear hs;cases s with
     |true=>
      go_wp2;go_roundw
      case rel=>exact⟨v+1,by omega,by go_num,by rw[HA.out];rfl,L,T,bw,M⟩
      case measure=>exact(show n- ((v:Int)+1).toNat<n- ((v:Int)).toNat by omega)
     |false=>
      go_wp2;go_roundw
      case rel=>exact⟨v+1,by omega,by go_num,by rw[HA.out,Bool.false_or],L,T,bw,M⟩
      case measure=>exact(show n- ((v:Int)+1).toNat<n- ((v:Int)).toNat by omega)
    ·obtain rfl:v=n:=by omega
     go_wp2;go_ret2;refine⟨G,cl,?_,?_,r.out⟩
     ·rw[show ((List.range v).any fun u=> !bA v (ai E) q d u)=((List.range v).any fun u=> !B u) from by
       rw[Bool.eq_iff_iff,List.any_eq_true,List.any_eq_true];constructor
       ·rintro⟨u,hu,h⟩;exact⟨u,hu,by rw[<-bo.out u (List.mem_range.1 hu)];exact h⟩
       ·rintro⟨u,hu,h⟩;exact⟨u,hu,by rw[bo.out u (List.mem_range.1 hu)];exact h⟩]
      rfl
     ·have h:=HL.out
      rw[show ((List.range v).map fun u=>if u<v then !B u else false)=(List.range v).map fun u=> !bA v (ai E) q d u from List.map_congr_left fun u hu=>by
       have:=List.mem_range.1 hu;rw[if_pos this,bo.out u this]] at h
      exact h
section
structure SI (w0:World) (g gd gs cd cs n:Nat) (A0:Option Addr) (c0:Nat) (E:List S83) (q:Int) (d s:List Int) (W:World):Prop where
 hb:Below w0.heap.size w0 W
 st:gK W g n (.slice A0 E.length c0) q (.slice (some ⟨gd,0,none⟩) n cd) (.slice (some ⟨gs,0,none⟩) n cs) 0
 d:(Kd.int .i64).R 3 W w0.heap.size (fun _=>True) (.slice (some ⟨gd,0,none⟩) n cd) d
 s:(Kd.int .i64).R 3 W w0.heap.size (fun _=>True) (.slice (some ⟨gs,0,none⟩) n cs) s
 ne:gd≠gs/\g≠gd/\g≠gs/\w0.heap.size<=g
namespace SI
variable {w0 W W':World} {g gd gs cd cs n c0 l:Nat} {A0:Option Addr} {E:List S83} {q:Int} {d s:List Int}
theorem ld (h:SI w0 g gd gs cd cs n A0 c0 E q d s W):gd<W.heap.size/\gs<W.heap.size/\g<W.heap.size/\w0.heap.size<=gd/\w0.heap.size<=gs:=⟨Kd.a7 h.d gd rfl,Kd.a7 h.s gs rfl,aE h.st,Kd.dD h.d gd rfl,Kd.dD h.s gs rfl⟩
theorem below (h:SI w0 g gd gs cd cs n A0 c0 E q d s W) (hb:Below W.heap.size W W'):SI w0 g gd gs cd cs n A0 c0 E q d s W':=⟨a8 h.hb hb,aM h.st hb,Kd.cU h.d hb,Kd.cU h.s hb,h.ne⟩
theorem alloc (h:SI w0 g gd gs cd cs n A0 c0 E q d s W) (o:Obj):SI w0 g gd gs cd cs n A0 c0 E q d s (W.alloc o):=h.below (aq (ao _ _) o)
theorem drewN (h:SI w0 g gd gs cd cs n A0 c0 E q d s W) (m:Nat):SI w0 g gd gs cd cs n A0 c0 E q d s (W.drewN m):=h.below (bY (ao _ _) m)
theorem bk (h:SI w0 g gd gs cd cs n A0 c0 E q d s W) (hb:Bk l W W') (a:w0.heap.size<=l):SI w0 g gd gs cd cs n A0 c0 E q d s W':=⟨h.hb.trans (hb.below _ a),hb.cells h.st,du h.d hb,du h.s hb,h.ne⟩
theorem fin (h:SI w0 g gd gs cd cs n A0 c0 E q d s W) {b:Nat} (hf:fE b W W') (hb:w0.heap.size<=b):SI w0 g gd gs cd cs n A0 c0 E q d s W':=⟨h.hb.trans (hf.kK.mono hb),hf.cells h.st,hf.R h.d,hf.R h.s,h.ne⟩
theorem g_ (h:SI w0 g gd gs cd cs n A0 c0 E q d s W) (p:Addr) (v:Value) (a:p.block≠g/\p.block≠gd/\p.block≠gs) (hb:w0.heap.size<=p.block):SI w0 g gd gs cd cs n A0 c0 E q d s (W.setCell p v):=
 ⟨Below.setCell h.hb hb v,aG h.st (fun e=>a.1 e.symm) v,
  Kd.a_ (Kd.ff (Kd.gC rfl h.d) (fun k hk=>Below.heap_setCell _ _ _ _ (fun e=>a.2.1 (by rw[<-e];injection hk)))) (fun _ _=>trivial),
  Kd.a_ (Kd.ff (Kd.gC rfl h.s) (fun k hk=>Below.heap_setCell _ _ _ _ (fun e=>a.2.2 (by rw[<-e];injection hk)))) (fun _ _=>trivial),h.ne⟩
theorem oG (h:SI w0 g gd gs cd cs n A0 c0 E q d s W) (v:Nat) (x:Int):SI w0 g gd gs cd cs n A0 c0 E q (d.set v x) s (W.setCell ⟨gd,v,none⟩ (.int .i64 x)):=by
 obtain⟨h1,i,j,b,k⟩:=h.ld;have a:=Kd.de h.d (v:Int) x;rw[aQ] at a;exact⟨Below.setCell h.hb b _,aG h.st h.ne.2.1 _,a.1,Kd.iu h.s rfl a.2 (fun e=>by cases e;exact h.ne.1 rfl),h.ne⟩
theorem oH (h:SI w0 g gd gs cd cs n A0 c0 E q d s W) (v:Nat) (x:Int):SI w0 g gd gs cd cs n A0 c0 E q d (s.set v x) (W.setCell ⟨gs,v,none⟩ (.int .i64 x)):=by
 obtain⟨h1,i,j,k,b⟩:=h.ld;have a:=Kd.de h.s (v:Int) x;rw[aQ] at a;exact⟨Below.setCell h.hb b _,aG h.st h.ne.2.2.1 _,Kd.iu h.d rfl a.2 (fun e=>by cases e;exact h.ne.1 rfl),a.1,h.ne⟩
theorem kf (h:SI w0 g gd gs cd cs n A0 c0 E q d s W) (v:Nat) (a:v<n):W.cell? ⟨gd,v,none⟩=some (.int .i64 (rd d v)):=by
 have:=(Kd.bP 0 h.d (v:Int) (by omega) (by omega)).1;rw[aQ] at this;exact this
theorem cells (h:SI w0 g gd gs cd cs n A0 c0 E q d s W) (v:Nat) (a:v<n):W.cell? ⟨gs,v,none⟩=some (.int .i64 (rd s v)):=by
 have:=(Kd.bP 0 h.s (v:Int) (by omega) (by omega)).1;rw[aQ] at this;exact this
theorem oI (h:SI w0 g gd gs cd cs n A0 c0 E q d s W) (v:Nat) (a:v<n):W.frozen? ⟨gd,v,none⟩=false:=by
 have:=(Kd.bP 0 h.d (v:Int) (by omega) (by omega)).2;rw[aQ] at this;exact this
theorem ui (h:SI w0 g gd gs cd cs n A0 c0 E q d s W) (v:Nat) (a:v<n):W.frozen? ⟨gs,v,none⟩=false:=by
 have:=(Kd.bP 0 h.s (v:Int) (by omega) (by omega)).2;rw[aQ] at this;exact this
theorem f0 (h:SI w0 g gd gs cd cs n A0 c0 E q d s W):W.cell? ⟨g,0,none⟩=some (.int .i64 n):=(al h.st 0).trans rfl
theorem f2 (h:SI w0 g gd gs cd cs n A0 c0 E q d s W):W.cell? ⟨g,2,none⟩=some (.int .i64 q):=(al h.st 2).trans rfl
theorem f3 (h:SI w0 g gd gs cd cs n A0 c0 E q d s W):W.cell? ⟨g,3,none⟩=some (.slice (some ⟨gd,0,none⟩) n cd):=(al h.st 3).trans rfl
theorem f4 (h:SI w0 g gd gs cd cs n A0 c0 E q d s W):W.cell? ⟨g,4,none⟩=some (.slice (some ⟨gs,0,none⟩) n cs):=(al h.st 4).trans rfl
theorem f5 (h:SI w0 g gd gs cd cs n A0 c0 E q d s W):W.cell? ⟨g,5,none⟩=some (.int .i64 0):=(al h.st 5).trans rfl
end SI
end
end Go.Proofs.YtffdiakgjakngaaGreat.P
namespace Go.Proofs.YtffdiakgjakngaaGreat.P
open Go Go.RowKit
set_option linter.unusedVariables false
set_option linter.unusedSimpArgs false
set_option maxHeartbeats 8000000
set_option maxRecDepth 100000
section
section
variable {F:Fence} {n:Nat} {P:Program} {md:Region.Mode} {C:World->Prop}
def eQ (o:Oper):Oper:={o with op:=.move (.const undef)}
def qC (ops:List Oper):Bool:=ops.all fun o=>match o.op with| .defer _=>false|_=>true
theorem uj {l:List Oper} (h:qC l=true) {o:Oper} (a:o∈l):∀c,o.op≠ .defer c:=by
 intro c e;have:=List.all_eq_true.1 h o a;rw[e] at this;cases this
theorem uk {ops:Array Oper} {i:Nat} {a:Act} {K:Act->Prop} {m:Act->World->Prop} {Q':Exit->Act->World->Prop} {w:World} (s:∀p,ops[i]? =some p->∀c,p.op≠ .defer c) (hC:C w) (h:∀a w',C w'->K a->m a w')
  (b:qOpIn F n P ops C i K a):wpOpIn F n P ops Q' i m a w:=by
 unfold qOpIn at b;unfold wpOpIn;split
 ·rename_i k;simp only[k] at b;exact h _ _ hC b
 ·rename_i o k
  simp only[k] at b;obtain⟨q,b⟩:=b;split
  ·rename_i hw
   simp only[hw,if_true] at b;obtain⟨v,h1,l⟩:=b;have g:=h1 w hC;unfold Oper.quietAtIn at g;unfold Oper.wpIn;refine⟨q w hC,?_⟩;rw[Oper.semAt_eq _ _ _ (s o k)];generalize (execOp a.eval o).run P w=r at*;cases r with
   |ok x w'=>
    cases x<;>simp only[Oper.quietUponIn] at g<;>simp only[Oper.uponIn]
    case value u=>
     obtain⟨j,e2⟩:=g;rw[j,e2];exact h _ _ hC l
    case skip=>
     obtain⟨j,e2⟩:=g;rw[j,<-e2];exact h _ _ hC l
    case enter f args=>
     obtain⟨j,hd,y⟩:=g;rw[j];exact⟨hd,y.mono fun e B ⟨he,z⟩=>by subst he;exact h _ _ z l⟩
   |halt x w'=>simp only[Oper.quietUponIn] at g
  ·rename_i hw;simp only[hw] at b;exact⟨q w hC,h _ _ hC b⟩
def BH (md:Region.Mode) (l:List Oper):Bool:=(List.range l.length).all fun i=>((l[i]?).map fun o=>o.after.all fun e=> !Region.binds md e||decide (e.on<i)).getD true
def BI (md:Region.Mode) (m:Nat) (o:Oper):Bool:=(List.range m).all fun j=>o.after.any fun e=>Region.binds md e&&e.on==j
theorem um {ops:Array Oper} (k:∀i p,ops[i]? =some p->∀e∈p.after,Region.binds md e=true->e.on<i) (a:Array Bool) (u:a.size=ops.size):∀j,j<ops.size->a.getD j true=false->Region.ready md ops a≠[]:=by
 intro j;induction j using Nat.strongRecOn with
 |ind j l=>
  intro m n he;obtain⟨o,g⟩:∃o,ops[j]? =some o:=⟨_,Array.getElem?_eq_getElem m⟩;by_cases b:∀e∈o.after,Region.binds md e=true->a.getD e.on false=true
  ·have:=mem_ready.2 ⟨n,o,g,b⟩
   rw[he] at this;cases this
  ·simp only[Classical.not_forall] at b
   obtain⟨e,h1,q,h⟩:=b;have r:=k j o g e h1 q;refine l e.on r (by omega) ?_ he;have s:e.on<a.size:=by omega
   simp[Array.getD_eq_getD_getElem?,Array.getElem?_eq_getElem s] at h⊢;exact h
theorem BJ {l1:List Oper} {o:Oper} {Qa:Act->Prop} {Q':Exit->Act->World->Prop} (E:o.dst=none) (G:∀i p,(l1++[o]).toArray[i]? =some p->i≠l1.length->∀c,p.op≠ .defer c) (B:∀i p,(l1++[o]).toArray[i]? =some p->∀e∈p.after,Region.binds md e=true->e.on<i)
  (H:∀j,j<l1.length->∃e∈o.after,Region.binds md e=true/\e.on=j) (I:∀a w,C w->Qa a->wpListIn F n P (l1++[o]).toArray Q' [o] a w):
  ∀(fuel:Nat) (b:Array Bool) (a:Act) (w:World),b.size=l1.length+1->b.getD l1.length true=false->C w->wpAnyQIn F n P md (l1++[eQ o]).toArray C Qa fuel b a->wpAnyIn F n P md (l1++[o]).toArray Q' fuel b a w:=by
 have u:∀i,i≠l1.length->(l1++[eQ o]).toArray[i]? =(l1++[o]).toArray[i]? :=fun i hi=>by
  rw[List.getElem?_toArray,List.getElem?_toArray];by_cases h:i<l1.length
  ·rw[List.getElem?_append_left h,List.getElem?_append_left h]
  ·rw[List.getElem?_eq_none (by simp;omega),List.getElem?_eq_none (by simp;omega)]
 have hm:(l1++[o]).toArray[l1.length]? =some o:=by simp
 have x:(l1++[eQ o]).toArray[l1.length]? =some (eQ o):=by simp
 have y:∀b,Region.ready md (l1++[eQ o]).toArray b=Region.ready md (l1++[o]).toArray b:=fun b=>by
  unfold Region.ready;have aY:(l1++[eQ o]).toArray.size=(l1++[o]).toArray.size:=by simp
  rw[aY];refine List.filter_congr fun i hi=>?_
  by_cases h:i=l1.length
  ·rw[h,hm,x];rfl
  ·rw[u i h]
 have J:∀tmps,yielded (l1++[eQ o]).toArray tmps=yielded (l1++[o]).toArray tmps:=fun tmps=>by
  funext j
  unfold yielded;by_cases h:j=l1.length
  ·rw[h,hm,x];rfl
  ·rw[u j h]
 have aY:(l1++[o]).toArray.size=l1.length+1:=by simp
 have K:∀b:Array Bool,b.size=l1.length+1->l1.length∈Region.ready md (l1++[o]).toArray b->Region.ready md (l1++[o]).toArray (b.setIfInBounds l1.length true)=[]:=fun b k L=>by
  obtain⟨U,p,hp,M⟩:=mem_ready.1 L;rw[hm] at hp;obtain rfl:=aH hp;refine List.eq_nil_iff_forall_not_mem.2 fun i hi=>?_
  obtain⟨l,p,hp, -⟩:=mem_ready.1 hi;have V:i<l1.length+1:=by have:=(Array.getElem?_eq_some_iff.1 hp).1;rw[aY] at this;exact this
  by_cases he:i=l1.length
  ·subst he
   rw[Array.getD_eq_getD_getElem?,Array.getElem?_setIfInBounds_self_of_lt (by omega)] at l;cases l
  ·rw[getD_set_ne true (Ne.symm he)] at l
   obtain⟨e,h1,m,r⟩:=H i (by omega);have:=M e h1 m;rw[r] at this;have N:i<b.size:=by omega
   simp[Array.getD_eq_getD_getElem?,Array.getElem?_eq_getElem N] at this l;rw[this] at l;cases l
 intro fuel;induction fuel with
 |zero=>
  intro b a w k s hw h;have h1:Region.ready md (l1++[o]).toArray b=[]:=by rw[<-y];exact h.1
  exact absurd h1 (um B b (by rw[aY];exact k) l1.length (by rw[aY];omega) s)
 |succ fuel O=>
  intro b a w k s hw h;refine⟨fun h1=>absurd h1 (um B b (by rw[aY];exact k) l1.length (by rw[aY];omega) s),fun i hi=>?_⟩;have g:=h.2 i (by rw[y];exact hi);by_cases he:i=l1.length
  ·subst he
   have z:=K b k hi;unfold qOpIn at g;simp only[x] at g;have D:wpAnyQIn F n P md (l1++[eQ o]).toArray C Qa fuel (b.setIfInBounds l1.length true) a:=by
    have hd:(eQ o).dst=none:=E;have m:=g.2;split at m
    ·obtain⟨v, -,r⟩:=m
     rw[hd] at r;exact r
    ·rw[hd] at m;exact m
   have Q:Qa a:=by
    cases fuel with
    |zero=>exact D.2
    |succ f=>exact D.1 (by rw[y];exact z)
   have:=I a w hw Q;have R:wpOpIn F n P (l1++[o]).toArray Q' l1.length (fun a w=>Q' .normal a w) a w:=by
    unfold wpOpIn;simp only[hm];exact this
   refine wpOpIn_mono (fun a w q=>?_) R;cases fuel with
   |zero=>exact⟨z,q⟩
   |succ f=>exact⟨fun _=>q,fun i hi=>by rw[z] at hi;cases hi⟩
  ·have S:qOpIn F n P (l1++[o]).toArray C i (wpAnyQIn F n P md (l1++[eQ o]).toArray C Qa fuel (b.setIfInBounds i true)) a:=by
    unfold qOpIn at g⊢;rw[u i he] at g;simp only[J] at g;exact g
   refine uk (fun p hp=>G i p hp he) hw (fun a' w' T hk=>O _ a' w' (by simpa using k) ?_ T hk) S;rw[getD_set_ne true he];exact s
theorem oJ {id:Nat} {Q:Exit->Act->World->Prop} {a:Act} {w:World} {l:List Oper} (l1:List Oper) (o:Oper) (u:l=l1++[o]) (hm:P.follows .mixedOrders=true) (q:o.dst=none) (v:qC l1=true) (x:BH .any (l1++[o])=true) (y:BI .any l1.length o=true) (k:Region.lexB .any (l1++[eQ o]).toArray=true)
  (h:wpQuietIn F n P l.toArray (fun w'=>∃n,w'=w.drewN n) (fun a'=>∀w',(∃n,w'=w.drewN n)->wpListIn F n P l.toArray Q [o] a' w') l1 a):(Code.region id l.toArray true).wpIn F n P Q a w:=by
 subst u;refine wpIn_region_any hm ?_;have aY:(l1++[o]).toArray.size=l1.length+1:=by simp
 rw[aY];simp only[Region.lexB,Bool.and_eq_true] at k;refine BJ (C:=fun w'=>∃n,w'=w.drewN n) (Qa:=fun a'=>∀w',(∃n,w'=w.drewN n)->wpListIn F n P (l1++[o]).toArray Q [o] a' w') q (fun i p hp hi=>uj v ?_) ?_ ?_ (fun a w hw m=>m w hw) _ _ a _ (by simp) (by simp[Array.getD_eq_getD_getElem?]) ⟨1,rfl⟩ ?_
 ·rw[List.getElem?_toArray] at hp
  have g:=(List.getElem?_eq_some_iff.1 hp).1;rw[List.length_append] at g;simp at g;rw[List.getElem?_append_left (by omega)] at hp;exact List.mem_of_getElem? hp
 ·intro i p hp e he hb
  rw[List.getElem?_toArray] at hp;have g:=(List.getElem?_eq_some_iff.1 hp).1;have:=List.all_eq_true.1 x i (List.mem_range.2 g);rw[hp] at this;simp only[Option.map_some,Option.getD_some] at this;have:=Array.all_eq_true_iff_forall_mem.1 this e he;simpa [hb] using this
 ·intro j r
  have:=List.all_eq_true.1 y j (List.mem_range.2 r);rw[<-Array.any_toList,List.any_eq_true] at this;obtain⟨e,he,b⟩:=this;simp only[Bool.and_eq_true,beq_iff_eq] at b;exact⟨e,Array.mem_def.2 he,b.1,b.2⟩
 ·have m:wpQuietIn F n P (l1++[eQ o]).toArray (fun w'=>∃n,w'=w.drewN n) (fun a'=>∀w',(∃n,w'=w.drewN n)->wpListIn F n P (l1++[o]).toArray Q [o] a' w') (l1++[eQ o]) a:=by
   have z:∀tmps,yielded (l1++[eQ o]).toArray tmps=yielded (l1++[o]).toArray tmps:=fun tmps=>by
    funext j
    unfold yielded;rw[List.getElem?_toArray,List.getElem?_toArray];by_cases h:j<l1.length
    ·rw[List.getElem?_append_left h,List.getElem?_append_left h]
    ·rw[List.getElem?_append_right (by omega),List.getElem?_append_right (by omega)]
     cases r:j-l1.length<;>rfl
   have key:∀(l2:List Oper) (a:Act),wpQuietIn F n P (l1++[o]).toArray (fun w'=>∃n,w'=w.drewN n) (fun a'=>∀w',(∃n,w'=w.drewN n)->wpListIn F n P (l1++[o]).toArray Q [o] a' w') l2 a->wpQuietIn F n P (l1++[eQ o]).toArray (fun w'=>∃n,w'=w.drewN n) (fun a'=>∀w',(∃n,w'=w.drewN n)->wpListIn F n P (l1++[o]).toArray Q [o] a' w') (l2++[eQ o]) a:=by
    intro l2;induction l2 with
    |nil=>
     intro a h;refine⟨fun w _ f hf=>by simp[Oper.about,eQ] at hf,?_⟩;have hd:(eQ o).dst=none:=q;split
     ·refine BigFrame.quietIn_move (.const undef) rfl ?_
      rw[hd];exact h
     ·rw[hd];exact h
    |cons p l2 s=>
     intro a h;refine⟨h.1,?_⟩;have b:=h.2;rw[z];split at b
     ·rename_i hw
      rw[if_pos hw];exact Oper.quietIn_mono s b
     ·rename_i hw
      rw[if_neg hw];exact s _ b
   exact key l1 a h
  have:=wpAnyQIn_lex (F:=F) (n:=n) (C:=fun w'=>∃n,w'=w.drewN n) (md:=.any) k.1 (l1++[eQ o]) 0 (Array.replicate (l1.length+1) false) a (by simp) (by simpa using k.2) m;simpa using this
theorem BK {l:List Oper} {Qa:Act->Prop} {Q':Exit->Act->World->Prop} (g:∀(i:Nat) (p:Oper),l.toArray[i]? =some p->∀c,p.op≠ .defer c) (e:∀a w,C w->Qa a->Q' .normal a w):
  ∀(fuel:Nat) (b:Array Bool) (a:Act) (w:World),C w->wpAnyQIn F n P md l.toArray C Qa fuel b a->wpAnyIn F n P md l.toArray Q' fuel b a w:=by
 intro fuel;induction fuel with
 |zero=>intro b a w hw h;exact⟨h.1,e _ _ hw h.2⟩
 |succ fuel j=>
  intro b a w hw h;exact⟨fun h1=>e _ _ hw (h.1 h1),fun i hi=>uk (g i) hw (fun a' w' k hk=>j _ a' w' k hk) (h.2 i hi)⟩
theorem BL {id:Nat} {Q:Exit->Act->World->Prop} {a:Act} {w:World} {l:List Oper} (hm:P.follows .mixedOrders=true) (e:qC l=true) (b:Region.lexB .any l.toArray=true)
  (h:wpQuietIn F n P l.toArray (fun w'=>∃n,w'=w.drewN n) (fun a'=>∀w',(∃n,w'=w.drewN n)->Q .normal a' w') l a):(Code.region id l.toArray true).wpIn F n P Q a w:=by
 refine wpIn_region_any hm ?_;simp only[Region.lexB,Bool.and_eq_true] at b;refine BK (C:=fun w'=>∃n,w'=w.drewN n) (Qa:=fun a'=>∀w',(∃n,w'=w.drewN n)->Q .normal a' w') (fun i p hp=>uj e ?_) (fun a w hw g=>g w hw) _ _ a _ ⟨1,rfl⟩ ?_
 ·rw[List.getElem?_toArray] at hp
  exact List.mem_of_getElem? hp
 ·have:=wpAnyQIn_lex (F:=F) (n:=n) (C:=fun w'=>∃n,w'=w.drewN n) (md:=.any) b.1 l 0 (Array.replicate l.length false) a (by simp) (by simpa using b.2) h
  simpa using this
end
end
end Go.Proofs.YtffdiakgjakngaaGreat.P
namespace Go.Proofs.YtffdiakgjakngaaGreat.P
open Go.RowKit Go.Proofs.YtffdiakgjakngaaGreatW.PrintWords Go.Proofs.YtffdiakgjakngaaGreatW.PrintLast Go.Proofs.YtffdiakgjakngaaGreatW.PrintMore
set_option linter.unusedVariables false
set_option linter.unusedSimpArgs false
set_option maxHeartbeats 8000000
set_option maxRecDepth 100000
section
attribute [local go_sem] Oper.semAt_some jr js jt ju mo mq mr mu
def iF (t:Int) (v:Nat) (d:List Int) (x:Int×Int):List Int:=
 (d.set v (wrap64 (rd d v-wrap64 (x.2*t)))).set x.1.toNat (wrap64 (rd (d.set v (wrap64 (rd d v-wrap64 (x.2*t)))) x.1+wrap64 (x.2*t)))
def fM (t:Int) (v:Nat) (d:List Int) (L:List (Int×Int)):List Int:=L.foldl (iF t v) d
theorem BM (t:Int) (v:Nat) (d:List Int) (L:List (Int×Int)) (x:Int×Int):fM t v d (L++[x])=iF t v (fM t v d L) x:=by simp[fM,List.foldl_append]
theorem uo (t:Int) (v:Nat) (d:List Int) (x:Int×Int):(iF t v d x).length=d.length:=by simp[iF]
theorem qD (t:Int) (v:Nat):∀(L:List (Int×Int)) (d:List Int),(fM t v d L).length=d.length
 |[],_=>rfl
 |x::L,d=>(qD t v L _).trans (uo t v d x)
def bz (E:List S83) (In:Nat->Bool) (t:Int):Nat->List Int×List Int->List Int×List Int
 |0,p=>p
 |k+1,p=>if In k=true then(fM t k (bz E In t k p).1 (cz E k E.length),(bz E In t k p).2.set k (wrap64 (rd (bz E In t k p).2 k+t))) else bz E In t k p
theorem mP (E:List S83) (In:Nat->Bool) (t:Int) (p:List Int×List Int):∀k,(bz E In t k p).1.length=p.1.length/\(bz E In t k p).2.length=p.2.length
 |0=>⟨rfl,rfl⟩
 |k+1=>by
  have h:=mP E In t p k;unfold bz;split
  ·exact⟨(qD ..).trans h.1,by rw[List.length_set];exact h.2⟩
  ·exact h
structure FI (w0 w:World) (g gd gs gi cd cs ci n:Nat) (A0:Option Addr) (c0:Nat) (E:List S83) (q:Int) (In:Nat->Bool) (t:Int) (d s:List Int) (W:World):Prop where
 si:SI w0 g gd gs cd cs n A0 c0 E q d s W
 x1:W.heap[w.heap.size]? =some (.cells #[.pointer (some ⟨g,0,none⟩)] 135 (0,0))
 x2:W.heap[w.heap.size+1]? =some (.cells #[.int .i64 t] 3 (0,0))
 hi:Kd.bool.R 4 W w0.heap.size (fun _=>True) (.slice (some ⟨gi,0,none⟩) n ci) ((List.range n).map In)
 hf:∀k,k<w.heap.size->k≠gd->k≠gs->W.heap[k]? =w.heap[k]?
 aY:w.heap.size+2<=W.heap.size
 hw:w0.heap.size<=w.heap.size/\gd<w.heap.size/\gs<w.heap.size/\g<w.heap.size/\gd≠gi/\gs≠gi
namespace FI
variable {w0 w W W':World} {g gd gs gi cd cs ci n c0 l:Nat} {A0:Option Addr} {E:List S83} {q t:Int} {In:Nat->Bool} {d s:List Int}
theorem below (h:FI w0 w g gd gs gi cd cs ci n A0 c0 E q In t d s W) (hb:Below W.heap.size W W'):FI w0 w g gd gs gi cd cs ci n A0 c0 E q In t d s W':=⟨h.si.below hb,aM h.x1 hb,aM h.x2 hb,Kd.cU h.hi hb,fun k h1 a b=>(hb.block k (by have:=h.aY;omega)).trans (h.hf k h1 a b),Nat.le_trans h.aY hb.size,h.hw⟩
theorem alloc (h:FI w0 w g gd gs gi cd cs ci n A0 c0 E q In t d s W) (o:Obj):FI w0 w g gd gs gi cd cs ci n A0 c0 E q In t d s (W.alloc o):=h.below (aq (ao _ _) o)
theorem drewN (h:FI w0 w g gd gs gi cd cs ci n A0 c0 E q In t d s W) (m:Nat):FI w0 w g gd gs gi cd cs ci n A0 c0 E q In t d s (W.drewN m):=h.below (bY (ao _ _) m)
theorem drew (h:FI w0 w g gd gs gi cd cs ci n A0 c0 E q In t d s W):FI w0 w g gd gs gi cd cs ci n A0 c0 E q In t d s W.drew:=h.drewN 1
theorem bk (h:FI w0 w g gd gs gi cd cs ci n A0 c0 E q In t d s W) (hb:Bk l W W') (a:w.heap.size<=l):FI w0 w g gd gs gi cd cs ci n A0 c0 E q In t d s W':=⟨h.si.bk hb (Nat.le_trans h.hw.1 a),hb.cells h.x1,hb.cells h.x2,du h.hi hb,fun k h1 b e=>(hb.heap k (by omega)).trans (h.hf k h1 b e),by rw[hb.size];exact h.aY,h.hw⟩
theorem oG (h:FI w0 w g gd gs gi cd cs ci n A0 c0 E q In t d s W) (v:Nat) (x:Int):FI w0 w g gd gs gi cd cs ci n A0 c0 E q In t (d.set v x) s (W.setCell ⟨gd,v,none⟩ (.int .i64 x)):=
 ⟨h.si.oG v x,aG h.x1 (by show w.heap.size≠gd;have:=h.hw;omega) _,aG h.x2 (by show w.heap.size+1≠gd;have:=h.hw;omega) _,by
  have a:=Kd.de h.si.d (v:Int) x;rw[aQ] at a;exact Kd.iu h.hi rfl a.2 (fun e=>by cases e;exact h.hw.2.2.2.2.1 rfl),fun k h1 b i=>(Below.heap_setCell _ _ _ _ b).trans (h.hf k h1 b i),by simpa using h.aY,h.hw⟩
theorem oH (h:FI w0 w g gd gs gi cd cs ci n A0 c0 E q In t d s W) (v:Nat) (x:Int):FI w0 w g gd gs gi cd cs ci n A0 c0 E q In t d (s.set v x) (W.setCell ⟨gs,v,none⟩ (.int .i64 x)):=
 ⟨h.si.oH v x,aG h.x1 (by show w.heap.size≠gs;have:=h.hw;omega) _,aG h.x2 (by show w.heap.size+1≠gs;have:=h.hw;omega) _,by
  have a:=Kd.de h.si.s (v:Int) x;rw[aQ] at a;exact Kd.iu h.hi rfl a.2 (fun e=>by cases e;exact h.hw.2.2.2.2.2 rfl),fun k h1 i b=>(Below.heap_setCell _ _ _ _ b).trans (h.hf k h1 i b),by simpa using h.aY,h.hw⟩
theorem c1 (h:FI w0 w g gd gs gi cd cs ci n A0 c0 E q In t d s W):W.cell? ⟨w.heap.size,0,none⟩=some (.pointer (some ⟨g,0,none⟩)):=(al h.x1 0).trans rfl
theorem c2 (h:FI w0 w g gd gs gi cd cs ci n A0 c0 E q In t d s W):W.cell? ⟨w.heap.size+1,0,none⟩=some (.int .i64 t):=(al h.x2 0).trans rfl
theorem BN (h:FI w0 w g gd gs gi cd cs ci n A0 c0 E q In t d s W) (v:Nat) (b:v<n):W.cell? ⟨gi,v,none⟩=some (.bool (In v)):=by
 have a:=(Kd.bP false h.hi (v:Int) (by omega) (by omega)).1;rw[aQ,show bO false ((List.range n).map In) (v:Int)=In v from by simp[bO,bh,List.getElem?_map,List.getElem?_range b]] at a;exact a
end FI
theorem uq (g gd gs gi cd cs ci n:Nat) (A0:Option Addr) (c0:Nat) (E:List S83) (q:Int) (d s:List Int) (In:Nat->Bool) (t:Int) (w0 w:World) (d5:Kd.C aT w0 A0 E.length E) (hE:ep n E) (hn:n<=1000) (e_:0<n)
  (h:SI w0 g gd gs cd cs n A0 c0 E q d s w) (hi:Kd.bool.R 4 w w0.heap.size (fun _=>True) (.slice (some ⟨gi,0,none⟩) n ci) ((List.range n).map In)) (cb:gd≠gi/\gs≠gi) (d6:d.length=n) (d7:s.length=n)
  (cc:∀v,v<n-> -2097152<=rd (bz E In t n (d,s)).1 v/\rd (bz E In t n (d,s)).1 v<=2097152/\ -2097152<=rd (bz E In t n (d,s)).2 v/\rd (bz E In t n (d,s)).2 v<=2097152):
  Calls Tryz.prog 166 #[.pointer (some ⟨g,0,none⟩),.slice (some ⟨gi,0,none⟩) n ci,.int .i64 t] w fun e w'=>e= .returned (.tuple #[])/\SI w0 g gd gs cd cs n A0 c0 E q (bz E In t n (d,s)).1 (bz E In t n (d,s)).2 w'/\(∀k,k<w.heap.size->k≠gd->k≠gs->w'.heap[k]? =w.heap[k]?)/\w.heap.size<=w'.heap.size:=by
 have e':=Tryz.underlying188;have hu:=Tryz.underlying24;have HE:=zA hE;have cf:=zA cc;clear hE cc;refine(callsIn_wide (n:=10)).1 ?_;refine callsIn_of_wp_marks Tryz.func166 rfl trivial ?_ rfl;simp only[Tryz.ntmps166,List.size_toArray,List.length_cons,List.length_nil,Nat.reduceAdd,Nat.reduceSub,Array.replicate_succ,Array.replicate_zero,List.push_toArray,List.append_toArray,List.nil_append,List.cons_append];obtain⟨q1,q2,q3,q4,q5⟩:=h.ld;have cj:=h.hb.size;have fd:g≠gd:=h.ne.2.1;have r:Aside0 (FI w0 w g gd gs gi cd cs ci n A0 c0 E q In t d s ((w.alloc (.cells #[.pointer (some ⟨g,0,none⟩)] 135)).alloc (.cells #[.int .i64 t] 3))):=⟨(h.alloc _).alloc _,ay (bm w (.cells #[.pointer (some ⟨g,0,none⟩)] 135)) (.cells #[.int .i64 t] 3),heap_alloc2_new w (.cells #[.pointer (some ⟨g,0,none⟩)] 135) (.cells #[.int .i64 t] 3),Kd.aK (Kd.aK hi (.cells #[.pointer (some ⟨g,0,none⟩)] 135)) (.cells #[.int .i64 t] 3),fun k hk _ _=>by rw[Below.heap_alloc _ _ _ (by simp;omega),Below.heap_alloc _ _ _ hk],by simp,cj,q1,q2,q3,cb.1,cb.2⟩;gi_wp2;clear h hi;generalize ((w.alloc (.cells #[.pointer (some ⟨g,0,none⟩)] 135)).alloc (.cells #[.int .i64 t] 3))=W2 at r⊢;have eb:=r.out.aY;refine uf w.heap.size (fun kq tm wr=>∃(u6 u7 u14 u15 u16 u17 u18 u19 u20 u21 u22 u23 u24 u25 u26 u27 u28 u29 u30 u31 u32 u59:Value) (v:Nat),v<=n/\Aside0 (FI w0 w g gd gs gi cd cs ci n A0 c0 E q In t (bz E In t v (d,s)).1 (bz E In t v (d,s)).2 wr)/\Aside0 (kq=n-v)/\tm=#[.pointer (some ⟨g,0,none⟩),.slice (some ⟨gi,0,none⟩) n ci,.int .i64 t,.pointer (some ⟨w.heap.size,0,none⟩),undef,.pointer (some ⟨w.heap.size+1,0,none⟩),u6,u7,undef,undef,undef,.slice (some ⟨gi,0,none⟩) n ci,.int .i64 n,.int .i64 v,u14,u15,u16,u17,u18,u19,u20,u21,u22,u23,u24,u25,u26,u27,u28,u29,u30,u31,u32,undef,undef,undef,undef,undef,undef,undef,undef,undef,undef,undef,undef,undef,undef,undef,undef,undef,undef,undef,undef,undef,undef,undef,undef,undef,undef,u59,undef,undef,undef,undef,undef,undef,undef,undef,undef,undef,undef,undef,undef,undef,undef,undef,undef,undef,undef,undef,undef,undef,undef,undef,undef,undef,undef,undef,undef,undef,undef,undef,undef,undef,undef,undef,undef,undef,undef,undef,undef,undef,undef,undef,undef,undef,undef,undef,undef,undef,undef]) n ⟨_,_,_,_,_,_,_,_,_,_,_,_,_,_,_,_,_,_,_,_,_,_,0,by omega,r,⟨rfl⟩,rfl⟩ (w.heap.size) (by omega) (cE.nil _ _ _) ?_;clear r eb;rintro gk tm wr ⟨u6,u7,u14,u15,u16,u17,u18,u19,u20,u21,u22,u23,u24,u25,u26,u27,u28,u29,u30,u31,u32,u59,v,hv,y,HK,rfl⟩ ds b hb cl J K hJ hK;have a3:=zA cl;have HJ:=zA hJ;have aY:=y.out.aY;clear cl hJ;obtain⟨l1,l2⟩:=mP E In t (d,s) v;have L1:=zA (show (bz E In t v (d,s)).1.length=n from l1.trans d6);have L2:=zA (show (bz E In t v (d,s)).2.length=n from l2.trans d7);clear l1 l2;by_cases M:v<n
 ·have fo:(0:Int)<=(v:Int):=by omega
  have fq:(v:Int)<(n:Int):=by omega
  have Q:=zA (show bz E In t (v+1) (d,s)=if In v=true then(fM t v (bz E In t v (d,s)).1 (cz E v E.length),(bz E In t v (d,s)).2.set v (wrap64 (rd (bz E In t v (d,s)).2 v+t))) else bz E In t v (d,s) from rfl);have a9:=y.out.BN v M;cases hIn:In v with
  |false=>
   rw[hIn] at a9;rw[hIn,if_neg (by decide)] at Q;have z:=zA (y.out.alloc (.cells #[.int .i64 v] 3));gi_wp2;exact kL.intro (n- (v+1)) (by rw[HK.out];omega) (HJ.out _ _ _ ⟨_,_,_,_,_,_,_,_,_,_,_,_,_,_,_,_,_,_,_,_,_,_,v+1,by omega,by rw[Q.out];exact z,⟨rfl⟩,rfl⟩) b (by simp;omega) (a3.out.below (aq (ao _ _) _))
  |true=>
   rw[hIn] at a9;rw[hIn,if_pos rfl] at Q;generalize bz E In t v (d,s)=i at y Q L1 L2;clear hIn;gi_wp2;have BV:=zA (bm wr (.cells #[.int .i64 v] 3));have z:=zA (y.out.alloc (.cells #[.int .i64 v] 3));have be:=zA (a3.out.below (aq (ao _ _) (.cells #[.int .i64 v] 3)));have cr:=zA (show (wr.alloc (.cells #[.int .i64 v] 3)).heap.size=wr.heap.size+1 from by simp);generalize wr.alloc (.cells #[.int .i64 v] 3)=W1 at BV z be cr⊢;have y0:=z.out.c1;have y1:=z.out.c2;have y2:=(al BV.out 0).trans rfl;have y4:=z.out.si.f4;have y5:=z.out.si.cells v M;have y6:=z.out.si.ui v M;gi_region
   gi_wp2_with (refine⟨trivial,?_⟩;gi_at_call 194;refine(callsIn_wide.2 (lQ g v _)).mono ?_;rintro e w3 ⟨rfl,rfl⟩)
   have fr:W1.heap.size=wr.heap.size+1:=cr.out;have aa:=zA ((((z.out.oH v (wrap64 (rd i.2 v+t))).alloc (.cells #[.pointer (some ⟨g,0,none⟩)] 135)).alloc (.cells #[.int .i64 v] 3)).drew);obtain⟨fv,f0,f1,f2,f6⟩:=z.out.si.ld;have ek:wr.heap.size≠gs:=by omega
   have bn:=zA (fw (ay (ay (aG (p:=⟨gs,v,none⟩) BV.out ek (.int .i64 (wrap64 (rd i.2 v+t)))) (.cells #[.pointer (some ⟨g,0,none⟩)] 135)) (.cells #[.int .i64 v] 3)));have aL:=zA (fw (ay (bm (W1.setCell ⟨gs,v,none⟩ (.int .i64 (wrap64 (rd i.2 v+t)))) (.cells #[.pointer (some ⟨g,0,none⟩)] 135)) (.cells #[.int .i64 v] 3)));have aO:=zA (fw (heap_alloc2_new (W1.setCell ⟨gs,v,none⟩ (.int .i64 (wrap64 (rd i.2 v+t)))) (.cells #[.pointer (some ⟨g,0,none⟩)] 135) (.cells #[.int .i64 v] 3)));have bv:Aside0 (cE w.heap.size b ds (((W1.setCell ⟨gs,v,none⟩ (.int .i64 (wrap64 (rd i.2 v+t)))).alloc (.cells #[.pointer (some ⟨g,0,none⟩)] 135)).alloc (.cells #[.int .i64 v] 3)).drew):=⟨by
    obtain⟨inner,ho⟩:=Kd.iS z.out.si.s;obtain⟨cells,hc⟩:=iR ho gs rfl;exact(((be.out.set (p:=⟨gs,v,none⟩) hc _).below (aq (ao _ _) _)).below (aq (ao _ _) _)).below (bV (ao _ _))⟩
   have el:((((W1.setCell ⟨gs,v,none⟩ (.int .i64 (wrap64 (rd i.2 v+t)))).alloc (.cells #[.pointer (some ⟨g,0,none⟩)] 135)).alloc (.cells #[.int .i64 v] 3)).drew).heap.size=W1.heap.size+2:=by simp
   simp only[World.size_setCell] at aL aO;clear z be BV y0 y1 y2 y4 y5 y6;generalize (((W1.setCell ⟨gs,v,none⟩ (.int .i64 (wrap64 (rd i.2 v+t)))).alloc (.cells #[.pointer (some ⟨g,0,none⟩)] 135)).alloc (.cells #[.int .i64 v] 3)).drew=H at aa bn aL aO bv el⊢;generalize i.2.set v (wrap64 (rd i.2 v+t))=s2 at aa Q;have bw:=aa.out.si;refine iC (σ:=Unit) (α:=Int×Int) (F:=Fence.wide) (n:=10) rfl (by decide) (gf:=207) (lb:=#[.pointer (some ⟨W1.heap.size,0,none⟩),.pointer (some ⟨W1.heap.size+1,0,none⟩)]) rfl trivial (enters_of Tryz.func207 (by kernel_rfl) rfl)
    (fun o=>oE (W1.heap.size) (W1.heap.size+1) g n A0 c0 E q (.slice (some ⟨gd,0,none⟩) n cd) (.slice (some ⟨gs,0,none⟩) n cs) 0 v w0 _ d5 HE.out hn M (aq (aq bw.hb _) _) (ay (ay aL.out _) _) (ay (ay aO.out _) _) (ay (ay bw.st _) _)) (fun _=>rfl)
    (fun _=>True) ?eF ?st ?ar
    (fun _ pre W=>H.heap.size<=W.heap.size/\FI w0 w g gd gs gi cd cs ci n A0 c0 E q In t (fM t v i.1 pre) s2 W/\W.heap[wr.heap.size]? =some (.cells #[.int .i64 v] 3 (0,0))/\cE w.heap.size b ds W) (fun _ _ _ _=>False)
    ?is (fun _ _ _ _ _ _ h _=>h) ?ib (fun _ _ _ _ _ h _=>h) ?kt ?h0 ?a1 ?assign ?body ?done (fun _ _ _ _ _ _ _ h=>h.elim)
   case assign=>
    intro l x W K hK;gi_wp2;exact hK
   case eF=>
    intro o s W1 h;exact⟨trivial,by rw[h];exact cn.refl _ _⟩
   case st=>intro s A B _ h;exact cZ h
   case ar=>intro s x A B _ h;exact cZ h.2
   case is=>
    rintro s pre A B _ ⟨hs,h1,h2,h3⟩ aP;exact⟨Nat.le_trans hs aP.size,h1.below aP,aM h2 aP,h3.below aP⟩
   case ib=>
    rintro s pre A B ⟨hs,h1,h2,h3⟩ hb;exact⟨by rw[hb.size];exact hs,h1.bk hb (by omega),hb.cells h2,h3.bk hb (by omega)⟩
   case kt=>
    intro s A B C D aR cv cx;refine⟨fun aY=>((aR.below w0.heap.size (by omega)).trans (cv.1 (by rw[aR.size];exact aY))).trans (cx.below w0.heap.size (by omega)),fun k hk em=>?_⟩;have c3:k≠H.heap.size+1:=by rcases hk with rfl|rfl|rfl<;>omega
    exact(cx.heap k c3).trans ((cv.2 k hk (by rw[aR.size];exact em)).trans (aR.heap k c3))
   case h0=>
    rintro o s W1 rfl;exact⟨by simp;omega,(aa.out.alloc _).alloc _,ay (ay bn.out _) _,(bv.out.below (aq (ao _ _) _)).below (aq (ao _ _) _)⟩
   case body=>
    rintro l s' pre ⟨u,m⟩ Wb Wc W _ ⟨hs,i1,i2,i3⟩ ⟨c5,an⟩ er N;have L:=zA ((i1.below an).bk N (by omega));have I2:=zA (N.cells (aM i2 an));have I3:=zA ((i3.below an).bk N (by omega));have c7:H.heap.size<=W.heap.size:=by have:=N.size;have:=an.size;omega
    clear i1 i2 i3 an N er;simp only at c5;obtain⟨u0,u1,m0,m1⟩:=c5;obtain⟨u,rfl⟩:=Int.eq_ofNat_of_zero_le u0;have aS:u<n:=by omega
    have c8:=zA (BM t v i.1 pre (u,m));have es:=zA ((qD t v pre i.1).trans L1.out);generalize fM t v i.1 pre=I at L c8 es;have z0:=L.out.c1;have z1:=L.out.c2;have z2:W.cell? ⟨wr.heap.size,0,none⟩=some (.int .i64 v):=(al I2.out 0).trans rfl;have z3:=L.out.si.f3;have z4:=L.out.si.kf v M;have z5:=L.out.si.oI v M;clear aa bn aL aO bv bw a9;gi_wp2;refine oJ [_,_,_,_,_,_,_,_,_,_,_,_] _ rfl (by kernel_rfl) rfl (by kernel_rfl) (by kernel_rfl) (by kernel_rfl) (by kernel_rfl) ?_;repeat(gi_big_quiet_step (fail))
    refine wpQuietIn_nil ?_;rintro _ ⟨nq,rfl⟩;have G:=zA (L.out.drewN nq);have S:=zA (ir I2.out nq);have T:=zA (I3.out.below (bY (ao _ _) nq));have U:H.heap.size<=(W.drewN nq).heap.size:=by simpa using c7
    have V:=zA (cZ (nw:=H.heap.size) (bY (ao W.heap.size W) nq));have X:=zA (bY (ao w0.heap.size W) nq);have Y:Aside0 (∀k,k≠gd->(W.drewN nq).heap[k]? =W.heap[k]?):=⟨fun k _=>by simp⟩;clear z0 z1 z2 z3 z4 z5;have z4:=G.out.si.kf v M;have z5:=G.out.si.oI v M;generalize W.drewN nq=Wq at G S T U V X Y z4 z5⊢;gi_wp2;have c9:gd<H.heap.size:=by omega
    have c':wr.heap.size≠gd:=by omega
    have O:=zA (G.out.oG v (wrap64 (rd I v-wrap64 (m*t))));have b0:=zA (aG (p:=⟨gd,v,none⟩) S.out c' (.int .i64 (wrap64 (rd I v-wrap64 (m*t)))));have b1:Aside0 (cE w.heap.size b ds (Wq.setCell ⟨gd,v,none⟩ (.int .i64 (wrap64 (rd I v-wrap64 (m*t)))))):=⟨by
     obtain⟨inner,ho⟩:=Kd.iS G.out.si.d;obtain⟨cells,hc⟩:=iR ho gd rfl;exact T.out.set (p:=⟨gd,v,none⟩) hc _⟩
    have b2:H.heap.size<=(Wq.setCell ⟨gd,v,none⟩ (.int .i64 (wrap64 (rd I v-wrap64 (m*t))))).heap.size:=by simpa using U
    have b3:=zA (V.out.trans (fp (bo:=gd) (j:=v) Wq (.int .i64 (wrap64 (rd I v-wrap64 (m*t)))) c9));have b4:=zA (Below.setCell (p:=⟨gd,v,none⟩) X.out q4 (.int .i64 (wrap64 (rd I v-wrap64 (m*t)))));have b5:Aside0 (∀k,k≠gd->(Wq.setCell ⟨gd,v,none⟩ (.int .i64 (wrap64 (rd I v-wrap64 (m*t))))).heap[k]? =W.heap[k]?):=⟨fun k hk=>(Below.heap_setCell _ _ _ _ hk).trans (Y.out k hk)⟩;clear z4 z5 G S T U V X Y;generalize Wq.setCell ⟨gd,v,none⟩ (.int .i64 (wrap64 (rd I v-wrap64 (m*t))))=Wa at O b0 b1 b2 b3 b4 b5⊢;have z0:=O.out.c1;have z1:=O.out.c2;have z3:=O.out.si.f3;have z4:=O.out.si.kf u aS;have z5:=O.out.si.oI u aS;have ev:(u:Int)<(n:Int):=by omega
    refine oJ [_,_,_,_,_,_,_,_,_,_,_,_] _ rfl (by kernel_rfl) rfl (by kernel_rfl) (by kernel_rfl) (by kernel_rfl) (by kernel_rfl) ?_;repeat(gi_big_quiet_step (fail))
    refine wpQuietIn_nil ?_;rintro _ ⟨P,rfl⟩;have G:=zA (O.out.drewN P);have S:=zA (ir b0.out P);have T:=zA (b1.out.below (bY (ao _ _) P));have U:H.heap.size<=(Wa.drewN P).heap.size:=by simpa using b2
    have V:=zA (b3.out.trans (cZ (nw:=H.heap.size) (bY (ao Wa.heap.size Wa) P)));have X:=zA (bY b4.out P);have Y:Aside0 (∀k,k≠gd->(Wa.drewN P).heap[k]? =W.heap[k]?):=⟨fun k hk=>by simpa using b5.out k hk⟩;clear z0 z1 z3 z4 z5 O b0 b1 b2 b3 b4 b5;have z4:=G.out.si.kf u aS;have z5:=G.out.si.oI u aS;generalize Wa.drewN P=Wb at G S T U V X Y z4 z5⊢;gi_wp2;have ew:cE w.heap.size b ds (Wb.setCell ⟨gd,u,none⟩ (.int .i64 (wrap64 (rd (I.set v (wrap64 (rd I v-wrap64 (m*t)))) u+wrap64 (m*t))))):=by
     obtain⟨inner,ho⟩:=Kd.iS G.out.si.d;obtain⟨cells,hc⟩:=iR ho gd rfl;exact T.out.set (p:=⟨gd,u,none⟩) hc _
    refine⟨V.out.trans (fp _ _ c9),⟨fun _=>Below.setCell (p:=⟨gd,u,none⟩) X.out q4 _,fun k hk _=>(Below.heap_setCell _ _ _ _ ?_).trans (Y.out k ?_)⟩,by simpa using U,?_,aG S.out c' _,ew⟩
    ·show k≠gd
     rcases hk with rfl|rfl|rfl<;>omega
    ·rcases hk with rfl|rfl|rfl<;>omega
    ·rw[c8.out];exact G.out.oG u _
   case done=>
    rintro s' xs W W' _ rfl ⟨hs,i1,i2,i3⟩ N b6;have L:=zA (i1.bk N (by omega));have I3:=zA (i3.bk N (by omega));have ex:=zA b6;have c7:H.heap.size<W'.heap.size:=(Array.getElem?_eq_some_iff.1 b6).1;clear i1 i2 i3 b6;gi_wp2;exact kL.intro (n- (v+1)) (by rw[HK.out];omega) (HJ.out _ _ _ ⟨_,_,_,_,_,_,_,_,_,_,_,_,_,_,_,_,_,_,_,_,_,_,v+1,by omega,by rw[Q.out];exact L,⟨rfl⟩,rfl⟩) (H.heap.size+1) (by omega) (I3.out.push (by omega) (by omega) ex.out)
 ·obtain rfl:v=n:=by omega
  have x0:=y.out.c1;have s3:=y.out.si.f3;have s4:=y.out.si.f4;have s5:=y.out.si.f5;clear HJ hK;gi_wp2;gi_loopg [65] (v) (fun kq uv wq=>∃u:Nat,u<=v/\uv= .int .i64 u/\Aside0 (∃m,wq=wr.drewN m)/\Aside0 (kq=v-u))
  case atStart=>exact⟨0,by omega,rfl,⟨0,rfl⟩,⟨rfl⟩⟩
  case round=>
   obtain⟨u,hu,rfl,⟨⟨m,hm⟩⟩,e0⟩:=hrel;subst hm;by_cases b_:u<v
   ·have f8:(0:Int)<=(u:Int):=by omega
    have ev:(u:Int)<(v:Int):=by omega
    have r:=zA (y.out.drewN m);have y6:=r.out.si.kf u b_;have y7:=r.out.si.cells u b_;obtain⟨o1,o2,o3,o4⟩:=cf.out u b_;have y0:=r.out.c1;have y3:=r.out.si.f3;have y4:=r.out.si.f4;have y5:=r.out.si.f5;have HM:Aside0 (∃m',wr.drewN m=wr.drewN m'):=⟨m,rfl⟩;clear x0 s3 s4 s5 r;generalize rd (bz E In t v (d,s)).1 u=a at y6 o1 o2;generalize rd (bz E In t v (d,s)).2 u=Z at y7 o3 o4;generalize wr.drewN m=wq at y0 y3 y4 y5 y6 y7 HM⊢;have f9:decide (2097152<(if(if(if a< -a then -a else a)<Z then Z else if a< -a then -a else a)< -Z then -Z else if(if a< -a then -a else a)<Z then Z else if a< -a then -a else a))=false:=by
     rw[decide_eq_false_iff_not];repeat' split
     all_goals omega
    gi_wp2;gi_quiet (fail)
    gi_wp2
    all_goals
     gi_roundg (v- (u+1))
     case measure=>rw[e0.out];omega
     case rel=>exact⟨u+1,by omega,by go_num,⟨by obtain⟨m',e6⟩:=HM.out;rw[e6];simp only[World.drewN_drewN];exact⟨_,rfl⟩⟩,⟨rfl⟩⟩
   ·obtain rfl:u=v:=by omega
    clear L1 L2 HE cf x0 s3 s4 s5;gi_wp2;refine(ue (a3.out.below (bY (ao _ _) m)) fun w' b'=>?_).1;exact⟨_,results_none rfl _ _ _,rfl,(y.out.si.drewN m).fin b' cj,fun k h1 h2 h3=>(b'.kK.block k h1).trans (y.out.hf k h1 h2 h3),by have:=b'.size;simp at this;omega⟩
end
end Go.Proofs.YtffdiakgjakngaaGreat.P


namespace Go.Proofs.YtffdiakgjakngaaGreat.P
open Go.RowKit Go.Proofs.YtffdiakgjakngaaGreatW.PrintWords Go.Proofs.YtffdiakgjakngaaGreatW.PrintLast Go.Proofs.YtffdiakgjakngaaGreatW.PrintMore
set_option linter.unusedVariables false
set_option linter.unusedSimpArgs false
set_option maxHeartbeats 8000000
set_option maxRecDepth 100000
theorem bM.kM {N:Int} {E:List S83} (h:bM N E) {x:S83} (a:x∈E):0<=x.f0/\x.f0<=x.f1/\x.f1<N/\1<=x.f2/\x.f2<=50:=by
 have h1:=h.ok x a;have b:=h.le x a;simp[cM] at h1;omega
theorem bM.jJ {n:Nat} {E:List S83} (h:bM n E):ep n E:=fun x a=>by
 have:=h.kM a;omega
theorem bM.take {N:Int} {E:List S83} (h:bM N E) (k:Nat):bM N (E.take k):=⟨fun x a=>h.ok x (List.mem_of_mem_take a),fun x a=>h.le x (List.mem_of_mem_take a),h.order.sublist (List.take_sublist _ _)⟩
theorem ur {E:List S83} (v:Nat):∀(E:List S83) (f:Nat->Nat->Int),(∀x∈E,0<=x.f0/\0<=x.f1)->f v v=0->E.foldl dh f v v=0
 |[],f,_,hf=>hf
 |x::E,f,h,hf=>by
  rw[List.foldl_cons];refine ur (E:=E) v E _ (fun y a=>h y (List.mem_cons_of_mem _ a)) ?_;have b:=h x (List.mem_cons_self ..);unfold dh;split
  ·exact hf
  ·dsimp only
   rw[if_neg (by omega),if_neg (by omega)];exact hf
theorem bM.wt {n:Nat} {E:List S83} (h:bM n E):T.Wt n (ai E):=by
 have a:∀v,ai E v v=0:=fun v=>ur (E:=E) v E _ (fun x b=>by have:=h.kM b;omega) rfl
 refine⟨fun u v=>?_,fun u v=>?_,a⟩
 ·by_cases e:u=v
  ·subst e;rw[a];omega
  ·rw[jC h u v e];exact(pZ h _ _).1
 ·by_cases e:u=v
  ·subst e;rfl
  ·rw[jC h u v e,jC h v u (fun k=>e k.symm),ti]
theorem bM.BO {N:Int} {E:List S83} (h:bM N E) {x:S83} (a:x∈E):0<dI E x.f0 x.f1:=by
 unfold dI;have he:=h.kM a;have e:(E.find? (fY x.f0 x.f1)).isSome=true:=List.find?_isSome.2 ⟨x,a,by simp[fY];omega⟩;obtain⟨y,b⟩:=Option.isSome_iff_exists.1 e;rw[b];have:=h.kM (List.mem_of_find?_eq_some b);show 0<y.f2
 omega
theorem bM.conn {n:Nat} {E:List S83} (h:bM n E) (j:jD n E):T.dz n (ai E):=by
 intro S h1 k;obtain⟨x,i,b⟩:=j S h1 k;have he:=h.kM i;have hb:=h.BO i;have l:dI E x.f0 x.f1=ai E x.f0.toNat x.f1.toNat:=by
  rw[jC h _ _ (fun e=>b (by rw[e]))];congr 1<;>omega
 rw[l] at hb;cases g:S x.f0.toNat with
 |true=>
  have a:S x.f1.toNat=false:=by cases a:S x.f1.toNat with|false=>rfl|true=>rw[g,a] at b;exact absurd rfl b
  exact⟨_,_,by omega,by omega,g,a,hb⟩
 |false=>
  have a:S x.f1.toNat=true:=by cases a:S x.f1.toNat with|true=>rfl|false=>rw[g,a] at b;exact absurd rfl b
  exact⟨_,_,by omega,by omega,a,g,by rw[h.wt.sym];exact hb⟩
def dL (φ:Nat->Int):List (Int×Int)->Int
 |[]=>0
 |x::L=>x.2*φ x.1.toNat+dL φ L
theorem uu (φ:Nat->Int):∀A B,dL φ (A++B)=dL φ A+dL φ B
 |[],B=>by simp[dL]
 |x::A,B=>by
  simp only[List.cons_append,dL,uu φ A B];omega
theorem qE {E:List S83} {k:Nat} (hk:k<E.length):ae E k=E[k]:=by simp[ae,bh,bX hk]
theorem BP {N:Int} {E:List S83} (h:bM N E) {k:Nat} (hk:k<E.length):∀y∈E.take k,jB y (ae E k):=by
 intro y a;have h1:=h.order;rw[<-List.take_append_drop k E,List.pairwise_append] at h1;refine h1.2.2 y a _ ?_;rw[qE hk,List.drop_eq_getElem_cons hk];exact List.mem_cons_self ..
theorem uw {n:Nat} {E:List S83} (h:bM n E) (φ:Nat->Int) {v:Nat} (p:v<n):∀k,k<=E.length->dL φ (cz E v k)=T.sN (fun u=>ai (E.take k) v u*φ u) n
 |0,_=>by
  rw[T.gX (fun u _=>by simp[ai])];rfl
 |k+1,hk=>by
  have g:k<E.length:=by omega
  have q:=uw h φ p k (by omega);have l:=h.kM (show ae E k∈E by rw[qE g];exact List.getElem_mem g);have o:=BP h g;have C:=(h.take k).wt.self v;rw[tf E k g];simp only[cz,uu,q];generalize ae E k=x at l o;obtain⟨a,b,m⟩:=x;simp only at l;by_cases i:a≠b/\(a=v\/b=v)
  ·rw[if_pos i]
   obtain⟨u0,r⟩:∃u0:Nat,(u0:Int)=a+b-v:=⟨(a+b-v).toNat,by omega⟩;have s:u0<n:=by omega
   have w:v≠u0:=by omega
   have z:ai (E.take k) v u0=0:=by
    rw[jC (h.take k) v u0 w];unfold dI;rw[tj (fun y B D=>by have:=o y B;unfold jB at this;simp only at this;omega)]
   have j:∀u:Nat,u<n->dh (ai (E.take k)) ⟨a,b,m⟩ v u*φ u=ai (E.take k) v u*φ u+(if u=u0 then m*φ u else 0):=fun u hu=>by
    unfold dh;simp only[if_neg i.1];by_cases e:u=u0
    ·subst e
     rw[z,if_pos rfl];by_cases e2:v=b.toNat/\u=a.toNat
     ·rw[if_pos e2];omega
     ·rw[if_neg e2,if_pos (by omega)];omega
    ·rw[if_neg e,if_neg (by omega),if_neg (by omega)];omega
   rw[T.bQ j,T.dS,T.jx s (fun u _ hu=>if_neg hu),if_pos rfl];simp only[dL,<-r,aQ];omega
  ·rw[if_neg i]
   have j:∀u:Nat,u<n->dh (ai (E.take k)) ⟨a,b,m⟩ v u*φ u=ai (E.take k) v u*φ u:=fun u hu=>by
    unfold dh;by_cases e:a=b
    ·simp only[if_pos e]
    ·simp only[if_neg e]
     rw[if_neg (by omega),if_neg (by omega)]
   rw[T.bQ j];simp[dL]
theorem oK {n:Nat} {E:List S83} (h:bM n E) (φ:Nat->Int) {v:Nat} (a:v<n):dL φ (cz E v E.length)=T.sN (fun u=>ai E v u*φ u) n:=by
 rw[uw h φ a E.length (aI _),List.take_length]
theorem oL {n:Nat} {E:List S83} (h:bM n E) {v:Nat}:∀k,k<=E.length->∀x∈cz E v k,0<=x.1/\x.1<n/\x.1≠v/\1<=x.2/\x.2<=50
 |0,_=>fun x a=>by cases a
 |k+1,hk=>fun x a=>by
  have b:k<E.length:=by omega
  have he:=h.kM (show ae E k∈E by rw[qE b];exact List.getElem_mem b);rcases List.mem_append.1 a with a|a
  ·exact oL h k (by omega) x a
  ·split at a
   ·rename_i e
    obtain rfl:=List.mem_singleton.1 a;simp only;omega
   ·cases a
theorem ux (E:List S83) (v:Int):∀k,(cz E v k).length<=k
 |0=>aI _
 |k+1=>by
  have:=ux E v k;simp only[cz,List.length_append];split<;>simp<;>omega
theorem qF (B:Nat->Bool):∀(L:List (Int×Int)) (s:Int),(∀x∈L,1<=x.2/\x.2<=50)->0<=s->s+50*L.length<=1000000000->L.foldl (fun s x=>if B x.1.toNat=true then wrap64 (s+x.2) else s) s=s+dL (T.ind B) L
 |[],s,_,_,_=>by simp[dL]
 |x::L,s,h,g,b=>by
  have i:=h x (List.mem_cons_self ..);simp only[List.length_cons] at b;rw[List.foldl_cons];simp only[dL,T.ind];by_cases e:B x.1.toNat=true
  ·rw[if_pos e,if_pos e,gV (by omega),qF B L _ (fun y a=>h y (List.mem_cons_of_mem _ a)) (by omega) (by omega)]
   unfold T.ind;omega
  ·rw[if_neg e,if_neg e,qF B L _ (fun y a=>h y (List.mem_cons_of_mem _ a)) (by omega) (by omega)]
   unfold T.ind;omega
theorem BQ (t:Nat->Int) (B:Nat->Bool) (n:Nat):T.sN (fun u=>t u*T.ind B u) n=T.sN (fun u=>if B u=true then t u else 0) n:=T.bQ fun u _=>by
 unfold T.ind;split<;>simp
theorem qG {n:Nat} {E:List S83} (h:bM n E) (e:E.length<=1000) (B:Nat->Bool) {v:Nat} (a:v<n):eh B (cz E v E.length)=T.sN (fun u=>if B u=true then ai E v u else 0) n:=by
 have h1:=ux E v E.length;unfold eh;rw[qF B _ 0 (fun x b=>(oL h _ (aI _) x b).2.2.2) (by omega) (by omega),oK h _ a,BQ,Int.zero_add]
theorem mQ (t:Nat->Nat->Int) (B:Nat->Bool) (v:Nat):∀n,dJ t B v n=T.sN (fun u=>if B u=true then t v u else 0) n
 |0=>rfl
 |n+1=>by
  show dJ t B v n+_=T.sN _ n+_
  rw[mQ t B v n]
theorem BR {n:Nat} {E:List S83} (h:bM n E) (a:E.length<=1000) (B:Nat->Bool) {v:Nat} (b:v<n):eh B (cz E v E.length)=dJ (ai E) B v n:=by rw[qG h a B b,mQ]
def Md (a b:Int):Prop:=(a-b)%18446744073709551616=0
def dm (a:Int):Prop:= -9223372036854775808<=a/\a<=9223372036854775807
theorem Md.refl (a:Int):Md a a:=by unfold Md;omega
theorem Md.wrap {a b:Int} (h:Md a b):Md (wrap64 a) b:=by unfold Md wrap64 at*;omega
theorem Md.add {a b c d:Int} (h:Md a b) (e:Md c d):Md (a+c) (b+d):=by unfold Md at*;omega
theorem Md.sub {a b c d:Int} (h:Md a b) (e:Md c d):Md (a-c) (b-d):=by unfold Md at*;omega
theorem Md.eq {a b:Int} (h:Md a b) (e:dm a) (hb:dm b):a=b:=by unfold Md dm at*;omega
theorem qH (a:Int):dm (wrap64 a):=by unfold dm wrap64;omega
theorem uy {d:List Int} (h:∀w:Nat,w<d.length->dm (rd d w)) (v:Nat) (a:Int) (b:dm a):∀w:Nat,w<d.length->dm (rd (d.set v a) w):=fun w hw=>by
 by_cases e:v=w
 ·subst e;rw[gZ _ _ _ hw];exact b
 ·rw[fD _ _ _ _ e];exact h w hw
theorem uz (t:Int) {v n:Nat} (j:v<n):∀(L:List (Int×Int)) (d:List Int),d.length=n->(∀x∈L,0<=x.1/\x.1<n/\x.1≠v)->(∀w:Nat,w<n->dm (rd d w))->∀w:Nat,w<n->
  dm (rd (fM t v d L) w)/\Md (rd (fM t v d L) w) (rd d w-t*(if w=v then dL (fun _=>1) L else 0)+t*dL (fun u=>if u=w then 1 else 0) L)
 |[],d,hd,_,b=>fun w hw=>by
  refine⟨b w hw,?_⟩;simp[fM,dL];exact Md.refl _
 |x::L,d,hd,g,b=>fun w hw=>by
  have s:=g x (List.mem_cons_self ..);obtain⟨u,hu⟩:∃u:Nat,(u:Int)=x.1:=⟨x.1.toNat,by omega⟩;have k:u<n:=by omega
  have h:u≠v:=by omega
  have l:(iF t v d x).length=n:=by rw[uo];exact hd
  have m:∀w:Nat,w<n->dm (rd (iF t v d x) w):=by
   unfold iF;rw[<-hd] at b⊢;have h1:=uy b v (wrap64 (rd d v-wrap64 (x.2*t))) (qH _);have o:=uy (d:=d.set v (wrap64 (rd d v-wrap64 (x.2*t)))) (by simpa using h1) x.1.toNat (wrap64 (rd (d.set v (wrap64 (rd d v-wrap64 (x.2*t)))) x.1+wrap64 (x.2*t))) (qH _);simpa using o
  obtain⟨i1,i2⟩:=uz t j L (iF t v d x) l (fun y p=>g y (List.mem_cons_of_mem _ p)) m w hw;refine⟨i1,?_⟩;show Md (rd (fM t v (iF t v d x) L) w) _
  have z:Md (rd (iF t v d x) w) (rd d w-t*(if w=v then x.2 else 0)+t*(if u=w then x.2 else 0)):=by
   unfold iF;rw[<-hu,aQ];have q:rd (d.set v (wrap64 (rd d v-wrap64 (x.2*t)))) (u:Int)=rd d u:=fD _ _ _ _ (fun e=>h e.symm);have i:Md (wrap64 (x.2*t)) (t*x.2):=by rw[Int.mul_comm];exact(Md.refl _).wrap
   rw[q];by_cases a:u=w
   ·subst a
    rw[gZ _ _ _ (by simpa [hd] using k),if_neg h,if_pos rfl,Int.mul_zero,Int.sub_zero];exact((Md.refl _).add i).wrap
   ·rw[fD _ _ _ _ a,if_neg a,Int.mul_zero,Int.add_zero]
    by_cases ev:w=v
    ·subst ev
     rw[gZ _ _ _ (by simpa [hd] using hw),if_pos rfl];exact((Md.refl _).sub i).wrap
    ·rw[fD _ _ _ _ (fun e=>ev e.symm),if_neg ev,Int.mul_zero,Int.sub_zero]
     exact Md.refl _
  have r:rd d w-t*(if w=v then dL (fun _=>1) (x::L) else 0)+t*dL (fun u=>if u=w then 1 else 0) (x::L)=(rd d w-t*(if w=v then x.2 else 0)+t*(if u=w then x.2 else 0))-t*(if w=v then dL (fun _=>1) L else 0)+t*dL (fun u=>if u=w then 1 else 0) L:=by
   simp only[dL,<-hu,aQ];by_cases ev:w=v
   ·simp only[if_pos ev]
    by_cases a:u=w
    ·simp only[if_pos a,Int.mul_one,Int.mul_add];omega
    ·simp only[if_neg a,Int.mul_one,Int.mul_zero,Int.mul_add];omega
   ·simp only[if_neg ev]
    by_cases a:u=w
    ·simp only[if_pos a,Int.mul_one,Int.mul_add,Int.mul_zero];omega
    ·simp only[if_neg a,Int.mul_zero,Int.mul_add];omega
  rw[r];unfold Md at*;omega
theorem BS {n:Nat} {E:List S83} (h:bM n E) (t:Int) {v:Nat} (b:v<n) (d:List Int) (hd:d.length=n) (g:∀w:Nat,w<n->dm (rd d w)):∀w:Nat,w<n->
  dm (rd (fM t v d (cz E v E.length)) w)/\Md (rd (fM t v d (cz E v E.length)) w) (rd d w-t*T.aV n (ai E) (T.one v) w):=by
 intro w hw;obtain⟨h1,a⟩:=uz t b (cz E v E.length) d hd (fun x i=>by have:=oL h _ (aI _) x i;omega) g w hw;refine⟨h1,?_⟩;rw[oK h _ b,oK h _ b] at a;have j:T.sN (fun u=>ai E v u*1) n=T.val n (ai E) v:=T.bQ fun u _=>Int.mul_one _
 have e2:T.sN (fun u=>ai E v u*(if u=w then 1 else 0)) n=ai E v w:=by
  rw[T.jx hw (fun u _ hu=>by rw[if_neg hu,Int.mul_zero]),if_pos rfl,Int.mul_one]
 rw[j,e2] at a;by_cases e:w=v
 ·subst e
  rw[T.nY h.wt hw];rw[if_pos rfl,h.wt.self,Int.mul_zero,Int.add_zero] at a;exact a
 ·rw[T.nZ b e,h.wt.sym w v,Int.mul_neg]
  rw[if_neg e,Int.mul_zero,Int.sub_zero] at a;rw[show rd d w- -(t*ai E v w)=rd d w+t*ai E v w by omega];exact a
theorem uA {n:Nat} {E:List S83} (h:bM n E) (In:Nat->Bool) (t:Int) (d s:List Int) (hd:d.length=n) (g:s.length=n) (i:∀w:Nat,w<n->dm (rd d w)) (j:∀w:Nat,w<n->dm (rd s w)):∀k,k<=n->∀w:Nat,w<n->
  (dm (rd (bz E In t k (d,s)).1 w)/\Md (rd (bz E In t k (d,s)).1 w) (rd d w-t*T.aV n (ai E) (T.ind fun v=>In v&&decide (v<k)) w))/\(dm (rd (bz E In t k (d,s)).2 w)/\Md (rd (bz E In t k (d,s)).2 w) (rd s w+t*T.ind (fun v=>In v&&decide (v<k)) w))
 |0,_=>fun w hw=>by
  have e:T.ind (fun v=>In v&&decide (v<0))=fun _=>0:=by funext v;simp[T.ind]
  rw[e,T.i',Int.mul_zero,Int.sub_zero,Int.add_zero];exact⟨⟨i w hw,Md.refl _⟩,j w hw,Md.refl _⟩
 |k+1,hk=>fun w hw=>by
  have l:k<n:=by omega
  have a:=uA h In t d s hd g i j k (by omega);obtain⟨m,o⟩:=mP E In t (d,s) k;simp only at m o;unfold bz;cases hIn:In k with
  |false=>
   rw[if_neg (by decide)];have e:∀u,(In u&&decide (u<k+1))=(In u&&decide (u<k)):=fun u=>by
    by_cases e:u=k
    ·subst e;rw[hIn];rfl
    ·rw[show decide (u<k+1)=decide (u<k) by congr 1;exact propext (by omega)]
   rw[show (fun v=>In v&&decide (v<k+1))=(fun v=>In v&&decide (v<k)) from funext e];exact a w hw
  |true=>
   rw[if_pos rfl];have e:∀u,T.ind (fun v=>In v&&decide (v<k+1)) u=T.ind (fun v=>In v&&decide (v<k)) u+T.one k u:=fun u=>by
    unfold T.ind T.one;show (if(In u&&decide (u<k+1))=true then(1:Int) else 0)=(if(In u&&decide (u<k))=true then 1 else 0)+if u=k then 1 else 0
    by_cases e:u=k
    ·subst e;simp[hIn]
    ·rw[show decide (u<k+1)=decide (u<k) by congr 1;exact propext (by omega),if_neg e];omega
   have e2:T.aV n (ai E) (T.ind fun v=>In v&&decide (v<k+1)) w=T.aV n (ai E) (T.ind fun v=>In v&&decide (v<k)) w+T.aV n (ai E) (T.one k) w:=by
    rw[<-T.jy];exact T.lI (fun u _=>e u) hw
   rw[e2,e w];obtain⟨j1,j2⟩:=BS h t l (bz E In t k (d,s)).1 (by rw[m];exact hd) (fun w hw=>(a w hw).1.1) w hw;refine⟨⟨j1,?_⟩,?_⟩
   ·have q:=(a w hw).1.2
    rw[Int.mul_add];show Md (rd (fM t k (bz E In t k (d,s)).1 (cz E k E.length)) w) _
    unfold Md at*;omega
   ·have p:k<(bz E In t k (d,s)).2.length:=by rw[o,g];exact l
    by_cases b:k=w
    ·subst b
     rw[gZ _ _ _ p];refine⟨qH _,?_⟩;have:=(a k hw).2.2;rw[Int.mul_add,show T.one k k=1 by simp[T.one],Int.mul_one];refine Md.wrap ?_;unfold Md at*;omega
    ·rw[fD _ _ _ _ b,show T.one k w=0 by unfold T.one;rw[if_neg (fun e=>b e.symm)],Int.add_zero]
     exact(a w hw).2
theorem uB {n:Nat} {E:List S83} (h:bM n E) (In:Nat->Bool) (t:Int) (d s:List Int) (hd:d.length=n) (g:s.length=n) (i:∀w:Nat,w<n->dm (rd d w)) (j:∀w:Nat,w<n->dm (rd s w)) {w:Nat} (hw:w<n):
  (dm (rd d w-t*T.aV n (ai E) (T.ind In) w)->rd (bz E In t n (d,s)).1 w=rd d w-t*T.aV n (ai E) (T.ind In) w)/\(dm (rd s w+t*T.ind In w)->rd (bz E In t n (d,s)).2 w=rd s w+t*T.ind In w):=by
 have e:∀u,u<n->T.ind (fun v=>In v&&decide (v<n)) u=T.ind In u:=fun u hu=>by
  unfold T.ind;simp[hu]
 obtain⟨⟨h1,a⟩,k,b⟩:=uA h In t d s hd g i j n (aI _) w hw;rw[T.lI e hw] at a;rw[e w hw] at b;exact⟨fun hi=>a.eq h1 hi,fun hi=>b.eq k hi⟩
theorem qI {f:Nat->Int} {n v:Nat} (b:v<n) {a:Int} (e:a<=0) (h:∀u,u<n->a<=f u):f v<=T.sN f n-n*a:=by
 have h1:=T.fz (f:=fun u=>f u-a) b (fun u hu=>by have:=h u hu;show 0<=f u-a;omega);rw[T.dy f (fun _=>a) n,T.iZ] at h1;have g:f v-a<=T.sN f n-n*a:=h1;omega
theorem mR {n:Nat} {t:Nat->Nat->Int} (e:T.Wt n t) (hn:n<=12) (l:T.sN (T.val n t) n<=19) {D dist d s:Nat->Int} (m:∀v,v<n-> -200<=D v/\D v<=200) {k:Int} (hk:0<=k) (o:k<=n) (h:T.e7 n t D dist 200 k d s):∀v,v<n-> -102400<=d v/\d v<=1231200/\0<=s v/\s v<=1228800:=by
 have p:T.sN d n=T.sN D n:=by
  rw[T.bQ (f:=d) (g:=fun v=>D v-T.aV n t s v) h.eq,T.dy,T.mB e];omega
 have q:=(T.oe (f:=D) (n:=n) (B:=200) m).2;have i:∀v,v<n-> -102400<=d v:=fun v b=>by
  have h1:=h.low v b;have j:=T.qi e dist (B:=200) (by omega) l k;omega
 intro v b;have h1:=qI (f:=d) b (a:= -102400) (by omega) i;have j:=h.s0 v b;have r:((n:Int)-k)*(200*512)<=12*(200*512):=Int.mul_le_mul_of_nonneg_right (by omega) (by omega);exact⟨i v b,by omega,j.1,by omega⟩
theorem BU {a x:Int} (b:1<=x):a<=(a+x-1)/x*x:=by
 have e:=Int.emod_lt_of_pos (a+x-1) (show 0<x by omega);have g:=Int.mul_ediv_add_emod (a+x-1) x;rw[Int.mul_comm];omega
theorem BW {a x:Int} (b:1<=a) (e:1<=x):(a+x-1)/x<=a:=by
 refine Int.ediv_le_of_le_mul (by omega) ?_;have:=Int.mul_le_mul_of_nonneg_right (show (1:Int)<=a by omega) (show (0:Int)<=x-1 by omega);rw[show a*x=a*(x-1)+a by rw[Int.mul_sub];omega];omega
theorem BX {n:Nat} {E:List S83} (a:bM n E) (hn:n<=12) (b:T.sN (T.val n (ai E)) n<=19) {D dist:Nat->Int} (e:∀v,v<n-> -200<=D v/\D v<=200) (g:∀u v:Nat,u<n->v<n->0<ai E u v->dist v<=dist u+1) {k:Int} (hk:1<=k) (q:k<=n) {d s:List Int} (r:d.length=n) (y:s.length=n)
  (h:T.e7 n (ai E) D dist 200 k (fun v=>rd d (v:Nat)) (fun v=>rd s (v:Nat))) {x:Int} (i:0<=x) (j:x<=T.fm n (ai E) dist 200 k) (l:∀v:Nat,v<n->dist v=k->rd d v<0-> -rd d v<=x*T.sN (fun u=>if T.bG dist k u=true then ai E v u else 0) n):
  T.e7 n (ai E) D dist 200 (k-1) (fun v=>rd (bz E (T.bG dist k) x n (d,s)).1 (v:Nat)) (fun v=>rd (bz E (T.bG dist k) x n (d,s)).2 (v:Nat))/\
  ∀v:Nat,v<n-> -2097152<=rd (bz E (T.bG dist k) x n (d,s)).1 v/\rd (bz E (T.bG dist k) x n (d,s)).1 v<=2097152/\ -2097152<=rd (bz E (T.bG dist k) x n (d,s)).2 v/\rd (bz E (T.bG dist k) x n (d,s)).2 v<=2097152:=by
 have hb:=mR a.wt hn b e (by omega) q h;have h1:=T.e7.step a.wt (by omega) b g h i j l (d':=fun v=>rd d (v:Nat)-x*T.aV n (ai E) (T.ind (T.bG dist k)) v) (s':=fun v=>rd s (v:Nat)+x*T.ind (T.bG dist k) v) (fun _ _=>rfl) (fun _ _=>rfl);have m:=mR a.wt hn b e (show 0<=k-1 by omega) (by omega) h1;have o:=fun (w:Nat) (hw:w<n)=>uB a (T.bG dist k) x d s r y (fun w hw=>by have:=hb w hw;unfold dm;omega) (fun w hw=>by have:=hb w hw;unfold dm;omega) hw
 have z:∀w:Nat,w<n->rd (bz E (T.bG dist k) x n (d,s)).1 w=rd d w-x*T.aV n (ai E) (T.ind (T.bG dist k)) w:=fun w hw=>(o w hw).1 (by have:=m w hw;unfold dm;omega)
 have e2:∀w:Nat,w<n->rd (bz E (T.bG dist k) x n (d,s)).2 w=rd s w+x*T.ind (T.bG dist k) w:=fun w hw=>(o w hw).2 (by have:=m w hw;unfold dm;omega)
 have p:=T.e7.step a.wt (by omega) b g h i j l (d':=fun v=>rd (bz E (T.bG dist k) x n (d,s)).1 (v:Nat)) (s':=fun v=>rd (bz E (T.bG dist k) x n (d,s)).2 (v:Nat)) z e2;refine⟨p,fun v B=>?_⟩;have:=mR a.wt hn b e (show 0<=k-1 by omega) (by omega) p v B;omega
theorem BY {n:Nat} {E:List S83} (a:bM n E) (b:T.sN (T.val n (ai E)) n<=19) {D dist:Nat->Int} (e:∀u v:Nat,u<n->v<n->0<ai E u v->dist v<=dist u+1) {k:Int} {d s:List Int}
  (h:T.e7 n (ai E) D dist 200 k (fun v=>rd d (v:Nat)) (fun v=>rd s (v:Nat))) (g:∀v:Nat,v<n->dist v=k->rd d v<0-> -rd d v<=0*T.sN (fun u=>if T.bG dist k u=true then ai E v u else 0) n):
  T.e7 n (ai E) D dist 200 (k-1) (fun v=>rd d (v:Nat)) (fun v=>rd s (v:Nat)):=by
 refine T.e7.step a.wt (by omega) b e h (T:=0) (by omega) ?_ g (fun v _=>by rw[Int.zero_mul,Int.sub_zero]) (fun v _=>by rw[Int.zero_mul,Int.add_zero]);have:=T.oh (n:=n) (t:=ai E) dist (show (0:Int)<=200 by omega) k;omega
theorem BZ {n:Nat} {t:Nat->Nat->Int} (a:T.Wt n t) {out:List Int} {k:Int} {v u:Nat} (hu:u<n) (h1:0<t v u) (g:rd out (u:Int)+1=rd out (v:Int)) (hk:rd out (v:Int)=k):1<=T.sN (fun u=>if T.bG (fun v=>rd out (v:Nat)) k u=true then t v u else 0) n:=by
 have b:=T.fz (f:=fun u=>if T.bG (fun v=>rd out (v:Nat)) k u=true then t v u else 0) hu (fun w _=>by
  show 0<=(if T.bG (fun v=>rd out (v:Nat)) k w=true then t v w else 0)
  have:=a.pos v w;split<;>omega)
 have e:T.bG (fun v=>rd out (v:Nat)) k u=true:=by exact az (show rd out (u:Int)<k by omega)
 simp only[e,if_true] at b;omega
theorem uC (n:Nat) (t:Nat->Nat->Int) (q:Nat) (d:List Int):bA n t q d q=true:=qy _ (by simp[cP])
theorem B3 (n:Nat) (t:Nat->Nat->Int) (q:Nat) (d:List Int) {v:Nat} (a:v<n):cw n t d (bA n t q d) v=false:=
 qA (n:=n) (c:=cw n t d) (fun b v h=>mM b v h) (dT n (cP q)) (cP q) (aI _) v a
theorem uD {n:Nat} {t:Nat->Nat->Int} {q:Nat} {d:List Int} {v:Nat} (a:v<n) (h:bA n t q d v=false):T.sN (fun u=>if bA n t q d u=true then t v u else 0) n<=rd d v:=by
 have h1:=B3 n t q d a;unfold cw at h1;rw[h,mQ] at h1;simp at h1;exact h1
theorem B4 {n:Nat} {t:Nat->Nat->Int} (e:T.Wt n t) {q:Nat} {d:List Int} (h:((List.range n).any fun v=> !bA n t q d v)=false):T.j4 n t q (fun v=>rd d (v:Nat)):=by
 have h1:ga n t q d=true:=by
  unfold ga;rw[List.all_eq_true];intro v a;rw[List.any_eq_false] at h;have:=h v a;show bA n t q d v=true
  simpa using this
 have g:=(qB (fun i j=>e.pos i j) q d).1 h1;intro S hS k;obtain⟨v,a,l,b⟩:=g S hS k;refine⟨v,a,l,?_⟩;rw[mQ] at b;refine Int.lt_of_lt_of_le b (T.cN fun u _=>?_);show (if(!S u)=true then t v u else 0)<=(if S u=false then t v u else 0)
 cases S u<;>simp
theorem B6 {n:Nat} {t:Nat->Nat->Int} (g:T.dz n t) (e:T.Wt n t) {q:Nat} (i:q<n) {d:List Int} (h:((List.range n).any fun v=> !bA n t q d v)=true):∃v,v<n/\bA n t q d v=false/\0<T.sN (fun u=>if bA n t q d u=true then t v u else 0) n:=by
 obtain⟨v,j,hb⟩:=List.any_eq_true.1 h;obtain⟨a,b,k,l,h1,m,p⟩:=g (bA n t q d) ⟨q,i,uC n t q d⟩ ⟨v,List.mem_range.1 j,by simpa using hb⟩;refine⟨b,l,m,?_⟩;have o:=T.fz (f:=fun u=>if bA n t q d u=true then t b u else 0) k (fun w _=>by
  show 0<=(if bA n t q d w=true then t b w else 0)
  have:=e.pos b w;split<;>omega)
 have r:=e.sym a b;simp only[h1,if_true] at o;omega
structure je (n q:Nat) (t:Nat->Nat->Int) (D:Nat->Int) (d s:List Int):Prop where
 dl:d.length=n
 sl:s.length=n
 eq:∀v:Nat,v<n->rd d v=D v-T.aV n t (fun u=>rd s (u:Nat)) v
 kb:∀v:Nat,v<n->v≠q->0<=rd d v
 low: -102400<=rd d q
 s0:∀v:Nat,v<n->0<=rd s v
 sq:rd s q<=1228800
structure eB (n q:Nat) (t:Nat->Nat->Int) (D c σ:Nat->Int):Prop where
 red:T.j5 n t q c
 eq:∀v,v<n->c v=D v-T.aV n t σ v
 q0:σ q=0
theorem B7 {n q:Nat} {t:Nat->Nat->Int} (a:T.Wt n t) (b:T.dz n t) (e:q<n) (D:Nat->Int):∃c σ,eB n q t D c σ:=by
 obtain⟨c,⟨s,g⟩,i⟩:=T.ta a b e D;refine⟨c,fun u=>s u-s q,i,fun v j=>?_,by show s q-s q=0;omega⟩;have h:=T.kF n t s (fun _=>s q) v;rw[T.i'] at h;rw[h,g v j];omega
theorem eB.unique {n q:Nat} {t:Nat->Nat->Int} (l:T.Wt n t) (m:T.dz n t) (o:q<n) {D c σ k i:Nat->Int} (h:eB n q t D c σ) (j:eB n q t D k i):∀v,v<n->c v=k v/\σ v=i v:=by
 have e:T.bU n t c k:=⟨fun u=>i u-σ u,fun v g=>by rw[T.kF,h.eq v g,j.eq v g];omega⟩;have h1:=T.Aa l m o h.red j.red e;have p:=T.AW l m o (s:=σ) (s':=i) (by rw[h.q0,j.q0]) (fun v g=>by
  have a:=h.eq v g;have b:=j.eq v g;have c:=h1 v g;omega)
 exact fun v g=>⟨(h1 v g).symm,p v g⟩
theorem qJ {n:Nat} {t:Nat->Nat->Int} (a:T.Wt n t) {v:Nat} (b:v<n):T.val n t v<=T.sN (T.val n t) n:=T.fz b (fun u _=>T.dg fun w _=>a.pos u w)
theorem eB.bound {n q:Nat} {t:Nat->Nat->Int} (j:T.Wt n t) (r:T.dz n t) (o:q<n) (hn:n<=12) (l:T.sN (T.val n t) n<=19) {D c σ:Nat->Int} (p:∀v,v<n-> -200<=D v/\D v<=200) (h:eB n q t D c σ):∀v,v<n-> -31536<=σ v/\σ v<=31536/\ -3000<=c v/\c v<=3000/\(v≠q->0<=c v/\c v<19):=by
 have h1:=T.AX j r o h.red h.eq h.q0 (B:=200) (V:=19) (by omega) (by omega) p (fun v i=>Int.le_trans (qJ j i) l);have m:∀v,v<n->v≠q->0<=c v/\c v<=19:=fun v i k=>by
  have a:=h.red.1 v i k;have b:=T.od j h.red.2 i k;have:=Int.le_trans (qJ j i) l;omega
 have s:∀v,v<n->v≠q->0<=c v/\c v<19:=fun v i k=>by
  have a:=h.red.1 v i k;have b:=T.od j h.red.2 i k;have:=Int.le_trans (qJ j i) l;omega
 have u:=T.AZ (f:=c) o (a:=0) (b:=19) (by omega) (by omega) m;have w:T.sN c n=T.sN D n:=by
  rw[T.bQ (f:=c) (g:=fun v=>D v-T.aV n t σ v) h.eq,T.dy,T.mB j];omega
 have x:=T.oe (f:=D) (n:=n) (B:=200) p;have y:(n:Int)*(n*(200+19))<=31536:=by
  have a:(n:Int)*(200+19)<=12*(200+19):=Int.mul_le_mul_of_nonneg_right (by omega) (by omega);have b:=Int.mul_le_mul_of_nonneg_left a (show (0:Int)<=n by omega);have c:(n:Int)*(12*(200+19))<=12*(12*(200+19)):=Int.mul_le_mul_of_nonneg_right (by omega) (by omega);omega
 intro v i;have a:=h1 v i;refine⟨by omega,by omega,?_,?_,fun k=>s v i k⟩
 ·by_cases e:v=q
  ·subst e;omega
  ·have:=m v i e;omega
 ·by_cases e:v=q
  ·subst e;omega
  ·have:=m v i e;omega
theorem je.bounds {n q:Nat} {t:Nat->Nat->Int} (j:T.Wt n t) (k:T.dz n t) (l:q<n) (hn:n<=12) (p:T.sN (T.val n t) n<=19) {D c σ:Nat->Int} (m:∀v,v<n-> -200<=D v/\D v<=200) (i:eB n q t D c σ) {d s:List Int} (h:je n q t D d s):
  ∀v:Nat,v<n-> -102400<=rd d v/\rd d v<=1231200/\0<=rd s v/\rd s v<=σ v+rd s q/\rd s v<=1260336:=by
 have o:∀v:Nat,v<n-> -102400<=rd d v:=fun v b=>by
  by_cases e:v=q
  ·subst e;exact h.low
  ·have:=h.kb v b e;omega
 have r:T.sN (fun v=>rd d (v:Nat)) n=T.sN D n:=by
  rw[T.bQ (f:=fun v=>rd d (v:Nat)) (g:=fun v=>D v-T.aV n t (fun u=>rd s (u:Nat)) v) h.eq,T.dy,T.mB j];omega
 have w:=(T.oe (f:=D) (n:=n) (B:=200) m).2;have hle:=T.qh j k l i.red i.eq i.q0 (d:=fun v=>rd d (v:Nat)) h.eq h.kb;intro v b;have h1:rd d v<=T.sN (fun v=>rd d (v:Nat)) n-n* -102400:=qI (f:=fun v=>rd d (v:Nat)) b (a:= -102400) (by omega) o;have x:rd s v<=σ v+rd s q:=hle v b;have y:=i.bound j k l hn p m v b;have z:=h.s0 v b;have C:=h.sq;have E:=o v b;omega
def jK (n q:Nat) (σ:Nat->Int) (s:List Int):Int:=T.sN (fun v=>σ v+rd s q-rd s v) n
theorem je.step {n q:Nat} {E:List S83} (j:bM n E) (C:T.dz n (ai E)) (i:q<n) (hn:n<=12) (K:T.sN (T.val n (ai E)) n<=19) {D c σ:Nat->Int} (F:∀v,v<n-> -200<=D v/\D v<=200) (k:eB n q (ai E) D c σ) {d s:List Int} (h:je n q (ai E) D d s)
  (U:((List.range n).any fun v=> !bA n (ai E) q d v)=true) {x:Int} (Z:1<=x) (V:∀v:Nat,v<n->bA n (ai E) q d v=false->x*T.sN (fun u=>if bA n (ai E) q d u=true then ai E v u else 0) n<=rd d v):
  je n q (ai E) D (bz E (fun v=> !bA n (ai E) q d v) x n (d,s)).1 (bz E (fun v=> !bA n (ai E) q d v) x n (d,s)).2/\
  (∀v:Nat,v<n-> -2097152<=rd (bz E (fun v=> !bA n (ai E) q d v) x n (d,s)).1 v/\rd (bz E (fun v=> !bA n (ai E) q d v) x n (d,s)).1 v<=2097152/\ -2097152<=rd (bz E (fun v=> !bA n (ai E) q d v) x n (d,s)).2 v/\rd (bz E (fun v=> !bA n (ai E) q d v) x n (d,s)).2 v<=2097152)/\
  0<=jK n q σ (bz E (fun v=> !bA n (ai E) q d v) x n (d,s)).2/\jK n q σ (bz E (fun v=> !bA n (ai E) q d v) x n (d,s)).2<jK n q σ s:=by
 obtain⟨L,l⟩:∃L:Nat->Bool,L=fun v=> !bA n (ai E) q d v:=⟨_,rfl⟩
 have M:L q=false:=by rw[l];simp[uC]
 have G:=T.A_ j.wt (L:=L) (d:=fun v=>rd d (v:Nat)) (T:=x) (by omega) (fun v b N=>by
  have h1:=V v b (by rw[l] at N;simpa using N);rw[T.bQ (f:=fun u=>if L u=false then ai E v u else 0) (g:=fun u=>if bA n (ai E) q d u=true then ai E v u else 0) (fun u _=>by
   have e:L u= !bA n (ai E) q d u:=by rw[l]
   rw[e];cases bA n (ai E) q d u<;>simp)]
  exact h1)
 rw[<-l];have hb:=h.bounds j.wt C i hn K F k;have H:∀v:Nat,v<n->v≠q->0<=rd d v-x*T.aV n (ai E) (T.ind L) v:=fun v b I=>by
  cases m:L v with
  |true=>exact(G v b).1 m
  |false=>have h1:=(G v b).2 m;have o:=h.kb v b I;omega
 have O: -102400<=rd d q-x*T.aV n (ai E) (T.ind L) q:=by
  have h1:=(G q i).2 M;have o:=h.low;omega
 have J:∀v:Nat,v<n-> -102400<=rd d v-x*T.aV n (ai E) (T.ind L) v:=fun v b=>by
  by_cases e:v=q
  ·subst e;exact O
  ·have:=H v b e;omega
 have heq:∀v:Nat,v<n->rd d v-x*T.aV n (ai E) (T.ind L) v=D v-T.aV n (ai E) (fun u=>rd s (u:Nat)+x*T.ind L u) v:=fun v b=>by
  rw[T.jy,T.s7,h.eq v b];omega
 have W:T.sN (fun v=>rd d (v:Nat)-x*T.aV n (ai E) (T.ind L) v) n=T.sN D n:=by
  rw[T.bQ heq,T.dy,T.mB j.wt];omega
 have aa:=(T.oe (f:=D) (n:=n) (B:=200) F).2;have P:∀v:Nat,v<n->rd d v-x*T.aV n (ai E) (T.ind L) v<=1231200:=fun v b=>by
  have h1:rd d v-x*T.aV n (ai E) (T.ind L) v<=T.sN (fun v=>rd d (v:Nat)-x*T.aV n (ai E) (T.ind L) v) n-n* -102400:=qI (f:=fun v=>rd d (v:Nat)-x*T.aV n (ai E) (T.ind L) v) b (a:= -102400) (by omega) J;rw[W] at h1;omega
 have hle:=T.qh j.wt C i k.red k.eq k.q0 (d:=fun v=>rd d (v:Nat)-x*T.aV n (ai E) (T.ind L) v) (s:=fun u=>rd s (u:Nat)+x*T.ind L u) heq H;have p:T.ind L q=0:=by unfold T.ind;rw[M];rfl
 have X:∀v,0<=T.ind L v/\T.ind L v<=1:=fun v=>by unfold T.ind;split<;>omega
 have Q:∀v,0<=x*T.ind L v:=fun v=>Int.mul_nonneg (by omega) (X v).1
 have y:∀v:Nat,v<n->0<=rd s v+x*T.ind L v/\rd s v+x*T.ind L v<=σ v+rd s q/\rd s v+x*T.ind L v<=1260336:=fun v b=>by
  have h1:rd s (v:Nat)+x*T.ind L v<=σ v+(rd s (q:Nat)+x*T.ind L q):=hle v b;rw[p,Int.mul_zero,Int.add_zero] at h1;have o:=h.s0 v b;have R:=Q v;have h4:=k.bound j.wt C i hn K F v b;have h5:=h.sq;omega
 have S:=fun (w:Nat) (hw:w<n)=>uB j L x d s h.dl h.sl (fun w hw=>by have:=hb w hw;unfold dm;omega) (fun w hw=>by have:=hb w hw;unfold dm;omega) hw
 have z:∀w:Nat,w<n->rd (bz E L x n (d,s)).1 w=rd d w-x*T.aV n (ai E) (T.ind L) w:=fun w hw=>(S w hw).1 (by have:=J w hw;have:=P w hw;unfold dm;omega)
 have e2:∀w:Nat,w<n->rd (bz E L x n (d,s)).2 w=rd s w+x*T.ind L w:=fun w hw=>(S w hw).2 (by have:=y w hw;unfold dm;omega)
 obtain⟨l1,l2⟩:=mP E L x (d,s) n;refine⟨⟨l1.trans h.dl,l2.trans h.sl,fun v b=>?_,fun v b I=>by rw[z v b];exact H v b I,by rw[z q i];exact O,fun v b=>by rw[e2 v b];exact(y v b).1,by rw[e2 q i,p,Int.mul_zero,Int.add_zero];exact h.sq⟩,fun v b=>?_,?_,?_⟩
 ·rw[z v b,heq v b,T.lI (s:=fun u=>rd (bz E L x n (d,s)).2 (u:Nat)) (r:=fun u=>rd s (u:Nat)+x*T.ind L u) (fun u hu=>e2 u hu) b]
 ·rw[z v b,e2 v b]
  have:=J v b;have:=P v b;have:=y v b;omega
 ·refine T.dg fun v b=>?_
  show 0<=σ v+rd (bz E L x n (d,s)).2 q-rd (bz E L x n (d,s)).2 v
  rw[e2 v b,e2 q i,p,Int.mul_zero,Int.add_zero];have:=(y v b).2.1;omega
 ·obtain⟨v,b,hb⟩:=List.any_eq_true.1 U
  have Y:=List.mem_range.1 b;have m:L v=true:=by rw[l];exact hb
  have h1:jK n q σ (bz E L x n (d,s)).2=T.sN (fun v=>(σ v+rd s q-rd s v)-x*T.ind L v) n:=by
   refine T.bQ fun v b=>?_
   show σ v+rd (bz E L x n (d,s)).2 q-rd (bz E L x n (d,s)).2 v=_
   rw[e2 v b,e2 q i,p,Int.mul_zero,Int.add_zero];omega
  rw[h1,T.dy];have o:=T.fz (f:=fun v=>x*T.ind L v) Y (fun u _=>Q u);have R:T.ind L v=1:=by unfold T.ind;rw[m];rfl
  simp only[R,Int.mul_one] at o;show T.sN (fun v=>σ v+rd s q-rd s v) n-T.sN (fun v=>x*T.ind L v) n<T.sN (fun v=>σ v+rd s q-rd s v) n
  omega
def ct (x:Int):Bool:=decide (-1048576<=x/\x<=1048576)
def fN (l:List Int) (n:Int):Int:=if n<1\/n>12 then 2 else if(l.length:Int)≠n then 8 else if l.all ct=true then 0 else 2
theorem uE (x:Int):gI.f x=some (ct x):=by
 unfold gI.f ct;by_cases h1:x>= -1048576
 ·by_cases a:x<=1048576
  ·simp[h1,a]
  ·simp[h1,a]
 ·simp[h1]
theorem uF {l:List Int} {i:Nat} (h:i<l.length):l.drop i=rd l i::l.drop (i+1):=by
 rw[List.drop_eq_getElem_cons h];simp[rd,bh,bX h]
theorem uG (l:List Int) (a:l.length<=1000000):∀(m i:Nat),i+m=l.length->Ev (fun k=>bt.l0 k l l.length i) (if(l.drop i).all ct=true then 0 else 2)
 |0,i,hi=>by
  refine Ev.of_succ ?_;simp only[bt.l0,if_neg (show ¬((i:Int)<(l.length:Int)) by omega)];rw[List.drop_eq_nil_of_le (by omega)];exact Ev.const _
 |m+1,i,hi=>by
  have b:=uG l a m (i+1) (by omega);refine Ev.of_succ ?_;simp only[bt.l0,if_pos (show (i:Int)<(l.length:Int) by omega),if_pos (show (0:Int)<=(i:Int) by omega),dF (show i<=1000000 by omega),uE,Option.bind_some];rw[uF (show i<l.length by omega),List.all_cons];cases hb:ct (rd l i) with
  |true=>simp only[if_true,Bool.true_and];exact b
  |false=>simp;exact Ev.const _
theorem kN (l:List Int) (n:Int) (b:l.length<=1000000):Ev (fun k=>bt.f k l n) (fN l n):=by
 unfold bt.f fN;have e:jd.f n=some (if n<1\/n>12 then 2 else 0):=by
  unfold jd.f;by_cases h1:n<1
  ·simp[h1]
  ·by_cases a:n>12
   ·simp[h1,a]
   ·simp[h1,a]
 rw[e];simp only[Option.bind_some];by_cases h:n<1\/n>12
 ·simp only[if_pos h];exact Ev.const _
 ·simp only[if_neg h,if_true]
  by_cases hn:(l.length:Int)=n
  ·rw[if_neg (by simpa using hn)]
   simp only[if_pos hn];have:=uG l b l.length 0 (by omega);simpa using this
  ·rw[if_pos hn]
   simp only[if_neg hn];exact Ev.const _
theorem qK {l:List Int} {n:Int}:fN l n=0↔1<=n/\n<=12/\(l.length:Int)=n/\∀v:Nat,v<l.length-> -1048576<=rd l v/\rd l v<=1048576:=by
 unfold fN;have g:l.all ct=true↔∀v:Nat,v<l.length-> -1048576<=rd l v/\rd l v<=1048576:=by
  rw[List.all_eq_true];constructor
  ·intro h v a
   have:=h l[v] (List.getElem_mem a);rw[show rd l (v:Int)=l[v] by simp[rd,bh,bX a]];simpa [ct] using this
  ·intro h x i
   obtain⟨v,a,rfl⟩:=List.getElem_of_mem i;have:=h v a;rw[show rd l (v:Int)=l[v] by simp[rd,bh,bX a]] at this;simpa [ct] using this
 by_cases h:n<1\/n>12
 ·rw[if_pos h];constructor
  ·intro h;cases h
  ·intro b;omega
 ·rw[if_neg h]
  by_cases hn:(l.length:Int)=n
  ·rw[if_neg (by simpa using hn)]
   by_cases e:l.all ct=true
   ·rw[if_pos e];exact⟨fun _=>⟨by omega,by omega,hn,g.1 e⟩,fun _=>rfl⟩
   ·rw[if_neg e];constructor
    ·intro h;cases h
    ·intro b;exact absurd (g.2 b.2.2.2) e
  ·rw[if_pos hn];constructor
   ·intro h;cases h
   ·intro b;exact absurd b.2.2.1 hn
theorem uH (A0:Option Addr) (c0 n:Nat) (l:List Int) (w:World) (m:Nat) (b:l.length=n) (h1:1<=n) (hn:n<=12) (hb:∀v:Nat,v<n-> -1048576<=rd l v/\rd l v<=1048576) (g:Kd.C (Kd.int .i64) (w.drewN m) A0 l.length l) (h:l.length<=c0):
  Calls Tryz.prog 87 #[.slice A0 n c0,.int .i64 n] (w.drewN m) fun e i=>e= .returned (.int .i64 0)/\∃a,i=w.drewN a:=by
 subst b;obtain⟨k,hk⟩:=(kN l l.length (by omega)).get;rw[qK.2 ⟨by omega,by omega,rfl,hb⟩] at hk;refine(bt.calls k A0 c0 l l.length 0 _ g h hk).mono ?_;rintro e w' ⟨rfl,⟨a,rfl⟩⟩;exact⟨rfl,m+a,by rw[World.drewN_drewN]⟩
theorem uI {n:Nat} {t:Nat->Nat->Int} (k:T.Wt n t) {q:Nat} {d:List Int}:T.j4 n t q (fun v=>rd d (v:Nat))↔ga n t q d=true:=by
 rw[qB (fun i j=>k.pos i j) q d];have key:∀(S:Nat->Bool) (v:Nat),dJ t (fun u=> !S u) v n=T.sN (fun u=>if S u=false then t v u else 0) n:=fun S v=>by
  rw[mQ];refine T.bQ fun u _=>?_
  cases S u<;>simp
 constructor
 ·intro h S hS b
  obtain⟨v,e,g,a⟩:=h S hS b;exact⟨v,e,g,by rw[key];exact a⟩
 ·intro h S hS b
  obtain⟨v,e,g,a⟩:=h S hS b;exact⟨v,e,g,by rw[key] at a;exact a⟩
def dM (n:Nat) (E:List S83) (d s:List Int):List Int:=(List.range n).map fun v:Nat=>rd d v-T.aV n (ai E) (fun u=>rd s (u:Nat)) v
theorem gL (f:Nat->Int) {n v:Nat} (a:v<n):rd ((List.range n).map f) (v:Int)=f v:=by
 rw[kc,bh,List.getElem?_map,List.getElem?_range a];rfl
theorem uJ (n:Nat) (E:List S83) (d s:List Int) {v:Nat} (a:v<n):rd (dM n E d s) v=rd d v-T.aV n (ai E) (fun u=>rd s (u:Nat)) v:=gL _ a
theorem qL (n:Nat) (E:List S83) (d s:List Int):(dM n E d s).length=n:=by simp[dM]
theorem mS {a b:List Int} {n:Nat} (e:a.length=n) (hb:b.length=n) (h:∀v:Nat,v<n->rd a v=rd b v):a=b:=by
 refine List.ext_getElem (by rw[e,hb]) fun i h1 g=>?_
 have:=h i (by omega);rw[kc,kc,bh,bh,bX h1,bX g] at this;exact this
def kg (n:Nat) (E:List S83) (q:Nat) (d s:List Int):Bool:=decide (s.length=n)&&decide (rd s q=0)&&((List.range n).all fun v=>decide (v=q)||decide (0<=rd (dM n E d s) v))&&ga n (ai E) q (dM n E d s)
def boxes (r q:Nat):Nat->List (List Int)
 |0=>[[]]
 |v+1=>(boxes r q v).flatMap fun s=>if v=q then[s++[0]] else(List.range (2*r+1)).map fun i:Nat=>s++[(i:Int)-r]
theorem uK (r q:Nat) (σ:Nat->Int) (a:σ q=0):∀n,(∀v,v<n-> -(r:Int)<=σ v/\σ v<=r)->(List.range n).map σ∈boxes r q n
 |0,_=>by simp[boxes]
 |n+1,h=>by
  unfold boxes;rw[List.mem_flatMap];refine⟨_,uK r q σ a n (fun v b=>h v (by omega)),?_⟩;rw[show (List.range (n+1)).map σ=(List.range n).map σ++[σ n] by rw[List.range_succ,List.map_append];rfl];by_cases e:n=q
  ·rw[if_pos e,e,a];exact List.mem_singleton.2 rfl
  ·rw[if_neg e,List.mem_map]
   have:=h n (by omega);exact⟨(σ n+r).toNat,List.mem_range.2 (by omega),by congr 2;omega⟩
def uL (n:Nat) (E:List S83) (q:Nat) (d:List Int) (r:Nat):Option (List Int):=(boxes r q n).find? (kg n E q d)
def hU (n:Nat) (E:List S83) (q:Nat) (d:List Int):Nat->Option (List Int)
 |0=>none
 |k+1=>match hU n E q d k with
  |some s=>some s
  |none=>uL n E q d k
theorem B8 (n:Nat) (E:List S83) (q:Nat) (d:List Int) (k:Nat):aj (hU n E q d k) (hU n E q d (k+1)):=fun r h=>by
 unfold hU;rw[h]
theorem qM {n:Nat} {E:List S83} {q:Nat} {d s:List Int}:∀{k:Nat},hU n E q d k=some s->kg n E q d s=true
 |0,h=>by cases h
 |k+1,h=>by
  unfold hU at h;cases h1:hU n E q d k with
  |some s'=>rw[h1] at h;injection h with h;subst h;exact qM h1
  |none=>rw[h1] at h;exact List.find?_some h
theorem B9 {n:Nat} {E:List S83} {q:Nat} {d s:List Int} {r:Nat} (a:s∈boxes r q n) (b:kg n E q d s=true):∃s',hU n E q d (r+1)=some s':=by
 unfold hU;cases h1:hU n E q d r with
 |some s'=>exact⟨s',rfl⟩
 |none=>
  have:(uL n E q d r).isSome=true:=List.find?_isSome.2 ⟨s,a,b⟩;obtain⟨s',h⟩:=Option.isSome_iff_exists.1 this;exact⟨s',h⟩
theorem mT {n:Nat} {E:List S83} (b:bM n E) {q:Nat} {d s:List Int}:kg n E q d s=true↔s.length=n/\eB n q (ai E) (fun v=>rd d (v:Nat)) (fun v=>rd (dM n E d s) (v:Nat)) (fun v=>rd s (v:Nat)):=by
 unfold kg;simp only[Bool.and_eq_true,decide_eq_true_eq,List.all_eq_true,List.mem_range,Bool.or_eq_true];constructor
 ·rintro⟨⟨⟨h1,g⟩,i⟩,j⟩
  exact⟨h1,⟨fun v a k=>(i v a).resolve_left k,(uI b.wt).2 j⟩,fun v a=>uJ n E d s a,g⟩
 ·rintro⟨h1,h⟩
  exact⟨⟨⟨h1,h.q0⟩,fun v a=>by by_cases e:v=q;exact .inl e;exact .inr (h.red.1 v a e)⟩,(uI b.wt).1 h.red.2⟩
theorem B_ {n q:Nat} {t:Nat->Nat->Int} {D c σ g b:Nat->Int} (h:eB n q t D c σ) (j:q<n) (e:∀v,v<n->g v=c v) (i:∀v,v<n->b v=σ v):eB n q t D g b:=by
 refine⟨⟨fun v a k=>by rw[e v a];exact h.red.1 v a k,fun S hS l=>?_⟩,fun v a=>?_,by rw[i q j];exact h.q0⟩
 ·obtain⟨v,a,h1,m⟩:=h.red.2 S hS l
  exact⟨v,a,h1,by rw[e v a];exact m⟩
 ·rw[e v a,h.eq v a,T.lI (s:=b) (r:=σ) i a]
theorem Ca {n:Nat} {E:List S83} (b:bM n E) (hC:jD n E) {q:Nat} (g:q<n) (d:List Int):∃s,Ev (hU n E q d) s/\s.length=n/\eB n q (ai E) (fun v=>rd d (v:Nat)) (fun v=>rd (dM n E d s) (v:Nat)) (fun v=>rd s (v:Nat)):=by
 obtain⟨c,σ,h⟩:=B7 b.wt (b.conn hC) g (fun v=>rd d (v:Nat));obtain⟨r,j⟩:∃r:Nat,∀v,v<n-> -(r:Int)<=σ v/\σ v<=r:=by
  refine⟨(T.sN (fun v=>((σ v).natAbs:Int)) n).toNat,fun v a=>?_⟩;have h1:=T.fz (f:=fun v=>((σ v).natAbs:Int)) a (fun u _=>by show (0:Int)<=((σ u).natAbs:Int);omega);have e:((σ v).natAbs:Int)<=T.sN (fun v=>((σ v).natAbs:Int)) n:=h1;omega
 have i:∀v,v<n->rd ((List.range n).map σ) (v:Int)=σ v:=fun v a=>gL _ a
 have k:kg n E q d ((List.range n).map σ)=true:=(mT b).2 ⟨by simp,B_ h g (fun v a=>by rw[uJ n E d _ a,h.eq v a,T.lI (s:=fun u=>rd ((List.range n).map σ) (u:Nat)) (r:=σ) i a]) i⟩;obtain⟨s',h1⟩:=B9 (uK r q σ h.q0 n j) k;have e:=(mT b).1 (qM h1);exact⟨s',Ev.at_ (B8 n E q d) h1,e.1,e.2⟩
def gM (N:Int) (E:List S83) (q:Int) (d:List Int):Bool:=decide (1<=N/\N<=12/\0<=q/\q<N/\E.length<=1000/\cT N E=0/\partsOf E N.toNat=1/\T.sN (T.val N.toNat (ai E)) N.toNat<=19/\(d.length:Int)=N)&&d.all fun x=>decide (-200<=x/\x<=200)
structure dN (n q:Nat) (E:List S83) (d:List Int):Prop where
 n1:1<=n
 n12:n<=12
 q:q<n
 len:E.length<=1000
 right:bM n E
 conn:jD n E
 val:T.sN (T.val n (ai E)) n<=19
 dl:d.length=n
 d:∀v:Nat,v<n-> -200<=rd d v/\rd d v<=200
theorem qN {d:List Int} {B:Int}:(d.all fun x=>decide (-B<=x/\x<=B))=true↔∀v:Nat,v<d.length-> -B<=rd d v/\rd d v<=B:=by
 rw[List.all_eq_true];have e:∀(v:Nat) (a:v<d.length),rd d (v:Int)=d[v]:=fun v a=>by simp[rd,bh,bX a]
 constructor
 ·intro h v a
  rw[e v a];simpa using h d[v] (List.getElem_mem a)
 ·intro h x b
  obtain⟨v,a,rfl⟩:=List.getElem_of_mem b;have:=h v a;rw[e v a] at this;simpa using this
theorem oM {N:Int} {E:List S83} {q:Int} {d:List Int} (h:gM N E q d=true):∃n a:Nat,N=n/\q=a/\dN n a E d:=by
 unfold gM at h;rw[Bool.and_eq_true,decide_eq_true_eq] at h;obtain⟨⟨h1,m,i,o,j,k,b,e,p⟩,l⟩:=h;obtain⟨n,rfl⟩:=Int.eq_ofNat_of_zero_le (show 0<=N by omega);obtain⟨a,rfl⟩:=Int.eq_ofNat_of_zero_le i;simp only[aQ] at b e;have g:=(j6 k).2.2;refine⟨n,a,rfl,rfl,by omega,by omega,by omega,j,g,(ka (by omega) g).1 b,e,by omega,fun v r=>qN.1 l v (by omega)⟩
theorem dN.ok {n q:Nat} {E:List S83} {d:List Int} (h:dN n q E d) (a:cT n E=0):gM n E q d=true:=by
 unfold gM;rw[Bool.and_eq_true,decide_eq_true_eq];have:=h.n1;have:=h.n12;have:=h.q;have:=h.dl;exact⟨⟨by omega,by omega,by omega,by omega,h.len,a,by simpa using (ka (by omega) h.right).2 h.conn,by simpa using h.val,by omega⟩,qN.2 fun v b=>h.d v (by omega)⟩
theorem Cb {n:Nat} {t:Nat->Nat->Int} (i:T.Wt n t) (hn:0<n) {D:Nat->Int} (hw:T.bZ n t D) {L:Int} (h1:∀v,v<n->∀k,T.b8 n t (fun u=>D u-T.one v u) k->L<=k+1) (g:L=T.sN D n\/∃v,v<n/\∃k,T.b8 n t (fun u=>D u-T.one v u) k/\L=k+1):T.b8 n t D L:=by
 obtain⟨r,h⟩:=T.jA i hn D;obtain⟨a,v,m,b⟩:=T.Am i hn hw h;obtain⟨j,l⟩:=T.jA i hn (fun u=>D u-T.one v u);have p:=b j l;have e2:=h1 v m j l;have o:0<=r:=by
  have:=h.1;by_cases e:r= -1
  ·exact absurd hw ((T.b8.lJ hn h).1 e)
  ·omega
 have q:r<=L:=by
  rcases g with g|⟨u,hu,k,hk,g⟩
  ·rw[g];exact h.pY i hn o
  ·rw[g];exact a u hu k hk
 have:r=L:=by omega
 rw[<-this];exact h
theorem uM {n:Nat} {t:Nat->Nat->Int} (b:T.Wt n t) (hn:0<n) {D:Nat->Int} (hw:¬T.bZ n t D):T.b8 n t D (-1):=by
 obtain⟨r,a⟩:=T.jA b hn D;have:=(T.b8.lJ hn a).2 hw;rw[<-this];exact a
theorem Cc {n:Nat} {t:Nat->Nat->Int} (a:T.Wt n t) (e:T.dz n t) (hn:0<n) {g:Int} (h:T.eZ n t g) {D:Nat->Int} (hd:2*g-2<T.sN D n):T.b8 n t D (T.sN D n-g):=by
 obtain⟨r,b⟩:=T.jA a hn D;have:=T.An a e hn h hd b;rw[<-this];exact b
def Rk (n:Nat) (t:Nat->Nat->Int) (d:List Int) (r:Int):Prop:=T.b8 n t (fun v=>rd d (v:Nat)) r
theorem qO {n:Nat} {t:Nat->Nat->Int} {D D':Nat->Int} (h:∀v,v<n->D' v=D v) {r:Int} (a:T.b8 n t D r):T.b8 n t D' r:=a.fA (T.bU.of_eq h)
theorem Cd {c:List Int} {n v:Nat} (a:c.length=n) (b:v<n):∀u,u<n->rd (c.set v (rd c v-1)) (u:Nat)=rd c u-T.one v u:=fun u hu=>by
 unfold T.one;by_cases e:u=v
 ·subst e;rw[gZ _ _ _ (by omega),if_pos rfl]
 ·rw[fD _ _ _ _ (fun k=>e k.symm),if_neg e];omega
theorem Ce {c:List Int} {v:Nat} (a:v<c.length) (x:Int):(c.set v x).set v (rd c v)=c:=by
 rw[List.set_set];refine List.ext_getElem (by simp) fun i h1 b=>?_
 rw[List.getElem_set];split
 ·rename_i e;subst e;simp[rd,bh,bX a]
 ·rfl
def jf (c:List Int):List Int:=c++List.replicate (12-c.length) 0
theorem Cf {c:List Int} (h:c.length<=12):(jf c).length=12:=by simp[jf];omega
def jL (n:Nat) (t:Nat->Nat->Int) (g:Int) (l:List Int) (x:Int):Prop:=∃c:List Int,c.length=n/\l=jf c/\Rk n t c x/\(∀v:Nat,v<n->0<=rd c v)/\(∀v:Nat,v<n->v≠0->rd c v<T.val n t v)/\T.sN (fun v=>rd c (v:Nat)) n<=2*g-2
theorem Cg {n:Nat} {a b:List Int} (e:a.length=n) (hb:b.length=n) (h:jf a=jf b):a=b:=by
 unfold jf at h;rw[e,hb] at h;exact List.append_cancel_right h
theorem qP {α:Type} [DecidableEq α]:∀{a L:List α},a.Pairwise (· ≠ ·)->(∀x∈a,x∈L)->a.length<=L.length
 |[],_,_,_=>Nat.zero_le _
 |x::a,L,h,hm=>by
  rw[List.pairwise_cons] at h;have b:=hm x (List.mem_cons_self ..);have h1:=qP (L:=L.erase x) h.2 (fun y g=>(List.mem_erase_of_ne (fun e=>h.1 y g e.symm)).2 (hm y (List.mem_cons_of_mem _ g)));have i:=List.length_erase_of_mem b;have j:=List.length_pos_of_mem b;rw[List.length_cons];omega
def kO (B:Nat->Nat):Nat->List (List Int)
 |0=>[[]]
 |n+1=>(kO B n).flatMap fun c=>(List.range (B n)).map fun x:Nat=>c++[(x:Int)]
def hZ (B:Nat->Nat):Nat->Nat
 |0=>1
 |n+1=>hZ B n*B n
theorem uN {α β:Type} {f:α->List β} {m:Nat}:∀{l:List α},(∀x∈l,(f x).length=m)->(l.flatMap f).length=l.length*m
 |[],_=>by simp
 |x::l,h=>by
  rw[List.flatMap_cons,List.length_append,h x (List.mem_cons_self ..),uN (fun y a=>h y (List.mem_cons_of_mem _ a)),List.length_cons,Nat.succ_mul,Nat.add_comm]
theorem uO (B:Nat->Nat):∀n,(kO B n).length=hZ B n
 |0=>rfl
 |n+1=>by
  rw[kO,uN (m:=B n) (fun c _=>by simp),uO B n];rfl
theorem uP (B:Nat->Nat) (f:Nat->Int):∀n,(∀v,v<n->0<=f v/\f v<B v)->(List.range n).map f∈kO B n
 |0,_=>by simp[kO]
 |n+1,h=>by
  rw[kO,List.mem_flatMap];refine⟨(List.range n).map f,uP B f n (fun v a=>h v (by omega)),List.mem_map.2 ⟨(f n).toNat,List.mem_range.2 ?_,?_⟩⟩
  ·have:=h n (by omega)
   omega
  ·have:=h n (by omega)
   rw[List.range_succ,List.map_append,Int.toNat_of_nonneg this.1];rfl
theorem Ch:∀x:Nat,x<19->x ^ 3<=3 ^ x:=by decide
def gh (n:Nat) (t:Nat->Nat->Int) (v:Nat):Nat:=if v=0 then 17 else(T.val n t v).toNat
theorem Ci {n:Nat} {t:Nat->Nat->Int} (b:∀v,v<n->0<=T.val n t v) (o:T.sN (T.val n t) n<=18):∀m,m<=n->0<=T.sN (fun v=>if v=0 then 0 else T.val n t v) m/\T.sN (fun v=>if v=0 then 0 else T.val n t v) m<=18/\hZ (gh n t) m ^ 3<=17 ^ 3*3 ^ (T.sN (fun v=>if v=0 then 0 else T.val n t v) m).toNat/\(m=0->hZ (gh n t) m ^ 3<=1):=by
 have hle:∀m,m<=n->T.sN (fun v=>if v=0 then 0 else T.val n t v) m<=T.sN (T.val n t) m/\T.sN (T.val n t) m<=18:=by
  intro m hm;refine⟨T.cN fun v p=>by have:=b v (by omega);show (if v=0 then 0 else T.val n t v)<=_;split<;>omega,?_⟩;have key:∀k,m+k<=n->T.sN (T.val n t) m<=T.sN (T.val n t) (m+k):=by
   intro k;induction k with
   |zero=>intro _;exact Int.le_refl _
   |succ k g=>
    intro hk;have:=g (by omega);show _<=T.sN (T.val n t) (m+k)+T.val n t (m+k)
    have:=b (m+k) (by omega);omega
  have:=key (n-m) (by omega);rw[show m+(n-m)=n by omega] at this;omega
 intro m;induction m with
 |zero=>intro _;exact⟨by simp[T.sN],by simp[T.sN],by simp[T.sN,hZ],fun _=>by simp[hZ]⟩
 |succ m g=>
  intro hm;obtain⟨i1,i2,i3,i4⟩:=g (by omega);have j:=(hle (m+1) hm);have hb:=b m (by omega);have e:T.sN (fun v=>if v=0 then 0 else T.val n t v) (m+1)=T.sN (fun v=>if v=0 then 0 else T.val n t v) m+(if m=0 then 0 else T.val n t m):=rfl;refine⟨by rw[e];split<;>omega,by omega,?_,fun h=>by omega⟩;show (hZ (gh n t) m*gh n t m) ^ 3<=_
  rw[Nat.mul_pow];by_cases a:m=0
  ·have h1:=i4 a
   have i:gh n t m=17:=if_pos a;rw[i];have l:1<=3 ^ (T.sN (fun v=>if v=0 then 0 else T.val n t v) (m+1)).toNat:=Nat.pow_pos (by decide);calc hZ (gh n t) m ^ 3*17 ^ 3<=1*17 ^ 3:=Nat.mul_le_mul_right _ h1
    _=17 ^ 3*1:=by simp
    _<=_:=Nat.mul_le_mul_left _ l
  ·have i:gh n t m=(T.val n t m).toNat:=if_neg a
   rw[e,if_neg a] at j;rw[e,if_neg a,i,Int.toNat_add i1 hb,Nat.pow_add,<-Nat.mul_assoc];exact Nat.mul_le_mul i3 (Ch _ (by omega))
theorem Cj {n:Nat} {t:Nat->Nat->Int} (a:∀v,v<n->0<=T.val n t v) (b:T.sN (T.val n t) n<=18):hZ (gh n t) n<16384:=by
 obtain⟨h1,l,e, -⟩:=Ci a b n (aI n);have g:3 ^ (T.sN (fun v=>if v=0 then 0 else T.val n t v) n).toNat<=3 ^ 18:=Nat.pow_le_pow_right (by decide) (by omega);have i:hZ (gh n t) n ^ 3<=17 ^ 3*3 ^ 18:=Nat.le_trans e (Nat.mul_le_mul_left _ g);rcases Nat.lt_or_ge (hZ (gh n t) n) 16384 with h|h
 ·exact h
 ·have j:16384 ^ 3<=hZ (gh n t) n ^ 3:=Nat.pow_le_pow_left h 3
  have k:=Nat.le_trans j i;exact absurd k (by decide)
theorem Ck {c:List Int}:(List.range c.length).map (fun v:Nat=>rd c (v:Int))=c:=by
 refine List.ext_getElem (by simp) fun i h1 a=>?_
 simp[rd,bh,bX a]
theorem Cl {n:Nat} {t:Nat->Nat->Int} (k:T.Wt n t) (hn:0<n) {g:Int} (o:T.eZ n t g) (B:T.sN (T.val n t) n<=19) (b:List (List Int)) (hk:b.Pairwise (· ≠ ·)) (p:∀l∈b,∃x,jL n t g l x):b.length<16384:=by
 have q:∀v,v<n->0<=T.val n t v:=fun v _=>T.dg fun u _=>k.pos v u
 have h1:T.sN (T.can n t) n=T.sN (T.val n t) n-2*n:=by
  have key:∀m:Nat,T.sN (T.can n t) m=T.sN (T.val n t) m-2*m:=by
   intro m;induction m with
   |zero=>simp[T.sN]
   |succ m r=>
    show T.sN (T.can n t) m+T.can n t m=T.sN (T.val n t) m+T.val n t m-_
    rw[r];unfold T.can;omega
  exact key n
 have C:T.sN (T.can n t) n=2*g-2:=o;have s:T.sN (T.val n t) n<=18:=by omega
 have hle:=qP (L:=(kO (gh n t) n).map jf) hk (fun l w=>by
  obtain⟨x,c,i,rfl, -,h,y,D⟩:=p l w;refine List.mem_map.2 ⟨c,?_,rfl⟩;have:=uP (gh n t) (fun v=>rd c (v:Nat)) n (fun v a=>⟨h v a,by
   unfold gh;split
   ·rename_i e
    subst e;have j:=T.fz (f:=fun v=>rd c (v:Nat)) a h;have z:rd c ((0:Nat):Int)<=T.sN (fun v=>rd c (v:Nat)) n:=j;show rd c ((0:Nat):Int)<_
    omega
   ·rename_i e
    have j:=y v a e;have z:=h v a;show rd c (v:Int)<_
    omega⟩)
  rw[<-i,Ck,i] at this;exact this)
 rw[List.length_map,uO] at hle;exact Nat.lt_of_le_of_lt hle (Cj q s)
section
theorem uQ {w w1:World} {g j:Nat} {v:Value} (h:Below w.heap.size w w1):w.grownBy (w1.setCell ⟨g,j,none⟩ v) (some g):=
 ⟨h.os,h.tape,h.output,by simpa using h.size,fun k hk a=>(Below.heap_setCell w1 _ v k (fun e=>a (by rw[e]))).trans (h.block k hk)⟩
structure Cm (cs:Array Value) (d:Value) (q:Int) (rows val:Value) (waits:Nat->Bool):Prop where
 size:cs.size=18
 d:cs[0]? =some d
 q:cs[1]? =some (.int .i64 q)
 rows:cs[2]? =some rows
 val:cs[3]? =some val
 waits:∀i,i<12->cs[6+i]? =some (.bool (waits i))
def cL (w:World) (g:Nat) (d:Value) (q:Int) (rows val:Value) (waits:Nat->Bool):Prop:=
 ∃cs:Array Value,w.heap[g]? =some (.cells cs 236 (0,0))/\Cm cs d q rows val waits
namespace cL
variable {w w':World} {g:Nat} {d:Value} {q:Int} {rows val:Value} {waits:Nat->Bool}
theorem uR (h:cL w g d q rows val waits):w.cell? ⟨g,0,none⟩=some d:=by obtain⟨cs,hb,a⟩:=h;exact(al hb 0).trans a.d
theorem Cn (h:cL w g d q rows val waits):w.cell? ⟨g,1,none⟩=some (.int .i64 q):=by obtain⟨cs,hb,a⟩:=h;exact(al hb 1).trans a.q
theorem lR (h:cL w g d q rows val waits):w.cell? ⟨g,2,none⟩=some rows:=by obtain⟨cs,hb,a⟩:=h;exact(al hb 2).trans a.rows
theorem oN (h:cL w g d q rows val waits):w.cell? ⟨g,3,none⟩=some val:=by obtain⟨cs,hb,a⟩:=h;exact(al hb 3).trans a.val
theorem Co (h:cL w g d q rows val waits) (i:Nat) (hi:i<12):w.cell? ⟨g,6+i,none⟩=some (.bool (waits i)):=by obtain⟨cs,hb,a⟩:=h;exact(al hb _).trans (a.waits i hi)
theorem frozen (h:cL w g d q rows val waits) (k:Nat):w.frozen? ⟨g,k,none⟩=false:=by obtain⟨cs,hb,_⟩:=h;exact bD hb k
theorem below (h:cL w g d q rows val waits) (hb:Below w.heap.size w w'):cL w' g d q rows val waits:=by obtain⟨cs,a,b⟩:=h;exact⟨cs,aM a hb,b⟩
theorem drew (h:cL w g d q rows val waits):cL w.drew g d q rows val waits:=h
theorem grown {row:Option Nat} (h:cL w g d q rows val waits) (a:w.grownBy w' row) (b:some g≠row):cL w' g d q rows val waits:=by obtain⟨cs,e,i⟩:=h;exact⟨cs,cR e a b,i⟩
theorem Cp (h:cL w g d q rows val waits) (i:Nat) (hi:i<12) (b:Bool):cL (w.setCell ⟨g,6+i,none⟩ (.bool b)) g d q rows val (fun j=>if j=i then b else waits j):=by
 obtain⟨cs,l,a⟩:=h;refine⟨cs.setIfInBounds (6+i) (.bool b),by simpa using bR l (6+i) (.bool b),by simp[a.size],?_,?_,?_,?_,?_⟩
 ·rw[Array.getElem?_setIfInBounds_ne (by omega)];exact a.d
 ·rw[Array.getElem?_setIfInBounds_ne (by omega)];exact a.q
 ·rw[Array.getElem?_setIfInBounds_ne (by omega)];exact a.rows
 ·rw[Array.getElem?_setIfInBounds_ne (by omega)];exact a.val
 ·intro k hk
  have m:=a.size;by_cases e:k=i
  ·subst e
   rw[Array.getElem?_setIfInBounds_self_of_lt (by omega)];simp
  ·rw[Array.getElem?_setIfInBounds_ne (by omega),a.waits k hk];simp[e]
theorem Cq (h:cL w g d q rows val waits) (u:Value):cL (w.setCell ⟨g,2,none⟩ u) g d q u val waits:=by
 obtain⟨cs,b,a⟩:=h;have e:=a.size;refine⟨cs.setIfInBounds 2 u,by simpa using bR b 2 u,by simp[a.size],?_,?_,?_,?_,?_⟩
 ·rw[Array.getElem?_setIfInBounds_ne (by omega)];exact a.d
 ·rw[Array.getElem?_setIfInBounds_ne (by omega)];exact a.q
 ·rw[Array.getElem?_setIfInBounds_self_of_lt (by omega)]
 ·rw[Array.getElem?_setIfInBounds_ne (by omega)];exact a.val
 ·intro k hk
  rw[Array.getElem?_setIfInBounds_ne (by omega)];exact a.waits k hk
theorem eU (h:cL w g d q rows val waits) {α:Type} {k:Kd α} {e base:Nat} {ok:Nat->Prop} {v:Value} {xs:List α} (a:k.R e w base ok v xs) (b:∀q,q∈e::k.E->q≠236) (j:Nat) (u:Value):k.R e (w.setCell ⟨g,j,none⟩ u) base ok v xs:=by
 obtain⟨cs,hb,_⟩:=h;exact Kd.eU a hb b j u
theorem pA (h:cL w g d q rows val waits) {α:Type} {k:Kd α} {e base:Nat} {ok:Nat->Prop} {v:Value} {xs:List α} (a:Kd.S k e w base ok v xs) (b:∀q,q∈e::k.E->q≠236) (j:Nat) (u:Value):Kd.S k e (w.setCell ⟨g,j,none⟩ u) base ok v xs:=by
 obtain⟨cs,hb,_⟩:=h;exact Kd.pA a hb b j u
theorem qQ (h:cL w g d q rows val waits) {v:Value} {e:Nat} (b:∀k,v.ownBlock=some k->∃cells,w.heap[k]? =some (.cells cells e (0,0))) (i:e≠236):some g≠v.ownBlock:=fun he=>by
 obtain⟨cs,hb,_⟩:=h;obtain⟨cells,a⟩:=b g he.symm;rw[hb] at a;injection a with a
 injection a with _ a _
 exact i a.symm
end cL
def iG (q:Int) (vl dl:List Int) (v:Nat):Bool:=decide ((v:Int)≠q)&&decide (rd vl v<=rd dl v)
theorem Cr (g v:Nat) (q:Int) (b h:Option Addr) (cd k:Nat) (dl vl:List Int) (rows:Value) (waits:Nat->Bool) (w:World) (o:v<dl.length) (p:v<vl.length)
  (hw:cL w g (.slice b dl.length cd) q rows (.slice h vl.length k) waits) (hd:Kd.C (Kd.int .i64) w b dl.length dl) (i:Kd.C (Kd.int .i64) w h vl.length vl):
  Calls Tryz.prog 223 #[.pointer (some ⟨g,0,none⟩),.int .i64 v] w fun e w'=>e= .returned (.bool (iG q vl dl v))/\aA w w':=by
 have r:=hw.uR;have s:=hw.Cn;have u:=hw.oN;have x:=hd.2.1;have y:=i.2.1;unfold iG;by_cases a:(v:Int)=q
 ·rw[aZ (by simpa using a),Bool.false_and]
  subst a;go_enter Tryz.func223,Tryz.ntmps223
  go_wp2_with fail
  go_quiet (fail)
  go_wp2;go_ret;exact⟨rfl,by repeat(first|exact aA.refl _|apply aA.step)⟩
 ·rw[az (by simpa using a),Bool.true_and]
  obtain⟨ad,rfl,l⟩:=Kd.bL hd v (by omega) (by omega);obtain⟨z,rfl,m⟩:=Kd.bL i v (by omega) (by omega);rw[aQ] at l m;have B:(0:Int)<=(v:Int):=by omega
  have D:(v:Int)<(dl.length:Int):=by omega
  have E:(v:Int)<(vl.length:Int):=by omega
  have j:((v:Int) != q)=true:=by simpa using a
  have n:=Lib.hid j;clear j;go_enter Tryz.func223,Tryz.ntmps223
  go_wp2_with fail
  go_quiet (fail)
  go_wp2;go_ret;refine⟨?_,by repeat(first|exact aA.refl _|apply aA.step)⟩;show Ending.returned (.bool ((v:Int) != q&&decide (rd vl v<=rd dl v)))=_
  rw[n.out,Bool.true_and]
theorem Cs (g v:Nat) (q:Int) (a h:Option Addr) (cd k:Nat) (dl vl:List Int) (rows:Value) (waits:Nat->Bool) (w:World) (n:v<12) (r:v<dl.length) (s:v<vl.length)
  (hw:cL w g (.slice a dl.length cd) q rows (.slice h vl.length k) waits) (hd:Kd.C (Kd.int .i64) w a dl.length dl) (o:Kd.C (Kd.int .i64) w h vl.length vl):
  Calls Tryz.prog 218 #[.pointer (some ⟨g,0,none⟩),.int .i64 v] w fun e w'=>e= .returned (.tuple #[])/\cL w' g (.slice a dl.length cd) q rows (.slice h vl.length k) (fun j=>if j=v then iG q vl dl v else waits j)/\w.grownBy w' (some g):=by
 have E:(0:Int)<=(v:Int):=by omega
 have F:(v:Int)<12:=by omega
 have p:=zA (fun W h1 u x=>Cr g v q a h cd k dl vl rows waits W r s h1 u x);have l:=zA hw;have y:=zA hd;have z:=zA o;clear hw hd o;generalize iG q vl dl v=b at p⊢;go_enter Tryz.func218,Tryz.ntmps218
 go_wp2_with fail
 go_region_with ((go_at_call 223;refine(p.out _ l.out.drew (Kd.fg y.out) (Kd.fg z.out)).mono ?_;rintro e w1 ⟨rfl,i⟩;have G:w1.cell? ⟨g,6+v,none⟩=some (.bool (waits v)):=(by obtain⟨m,rfl⟩:=i.out;exact l.out.Co v n);have H:w1.frozen? ⟨g,6+v,none⟩=false:=(by obtain⟨m,rfl⟩:=i.out;exact l.out.frozen _);have B:=zA (show cL (w1.setCell ⟨g,6+v,none⟩ (.bool b)) g (.slice a dl.length cd) q rows (.slice h vl.length k) (fun j=>if j=v then b else waits j) from by obtain⟨m,rfl⟩:=i.out;exact cL.Cp (w:=w.drew.drewN m) l.out v n b);have D:=zA (show w.grownBy (w1.setCell ⟨g,6+v,none⟩ (.bool b)) (some g) from by exact uQ ((gS (ao w.heap.size w)).trans i.below));clear i))
 all_goals go_wp2
 all_goals go_end0
 all_goals exact⟨rfl,B.out,D.out⟩
end
end Go.Proofs.YtffdiakgjakngaaGreat.P
namespace Go.Proofs.YtffdiakgjakngaaGreat.P
open Go Go.RowKit
set_option linter.unusedVariables false
set_option linter.unusedSimpArgs false
set_option maxHeartbeats 8000000
set_option maxRecDepth 100000
section
variable {F:Fence} {n:Nat} {P:Program}
theorem uS {σ α:Type} {g:Operand} {ps:Array Tmp} {assign body:Code} {Q:Exit->Act->World->Prop} {a:Act} {w:World}
  (aR:F.round=none) (h1:1<=n) {gf:Nat} {lb:Array Value} (hg:a.eval g= .func (.func gf) #[] lb) (a0:F.fn gf) (eg:∀args w,(callFunc gf args).run P w= .ok (.enter gf args) w)
  {bS:α->Array Value} {Start:σ->World->World->Prop} {M:σ->World->World->Prop} {T:σ->α->World->World->Prop} {z:σ->World->World->Prop} {S Sp:σ->List α->World->Prop} {Bd:List α->Prop}
  (a2:∀o,jb F (n-1) P gf lb bS Start M T z S Sp Bd ((w.alloc (.deferred (some []))).alloc (.loop o))) (a4:∀x,(bS x).size=ps.size)
  (m:σ->Prop) (a5:∀o s W1,Start s ((w.alloc (.deferred (some []))).alloc (.loop o)) W1->m s/\cn w.heap.size ((w.alloc (.deferred (some []))).alloc (.loop o)) W1)
  (N:∀s A B,m s->M s A B->cn w.heap.size A B) (a9:∀s x A B,m s->T s x A B->cn w.heap.size A B)
  (I:σ->List α->World->Prop) (u:Code->σ->List α->World->Prop)
  (be:∀s pre A B,m s->I s pre A->M s A B->I s pre B) (bf:∀c s pre A B,m s->u c s pre A->M s A B->u c s pre B)
  (bg:∀s pre A B,I s pre A->Bk (w.heap.size+1) A B->I s pre B) (bi:∀c s pre A B,u c s pre A->Bk (w.heap.size+1) A B->u c s pre B)
  (bk:∀s A B C D,Bk (w.heap.size+1) A B->z s B C->Bk (w.heap.size+1) C D->z s A D)
  (h0:∀o s W1,Start s ((w.alloc (.deferred (some []))).alloc (.loop o)) W1->I s [] W1) (a₁:α->World->Act) (J:α->World->World)
  (bo:∀x W,cn w.heap.size W (J x W)) (bv:∀s x A D,z s (J x A) D->z s A D)
  (bw:∀(l:Nat) (x:α) (W:World) (K:Act->World->Prop),K (a₁ x W) (J x W)->
   assign.wpIn (F.inRound l) (n-1-1) P (Exit.then K (fun _ _ _=>False)) {tmps:=(ps.zip (bS x)).foldl (fun t (p,v)=>t.setIfInBounds p v) a.tmps,defers:=[]} W)
  (bx:∀(l:Nat) (s:σ) (pre:List α) (x:α) (L W1 W:World),m s->I s pre L->T s x L W1->Bd pre->Bk (w.heap.size+1) (J x W1) W->body.wpIn (F.inRound l) (n-1-1) P (ql (σ:=σ) w.heap.size (z s) (I s) (fun c=>u c s) (pre++[x]) W) (a₁ x W1) W)
  (b0:∀(s:σ) (xs:List α) (W W':World),m s->S s xs W->I s xs W->Bk (w.heap.size+1) W W'->W'.heap[w.heap.size]? =some (.deferred (some []))->Q .normal {a with defers:={target:=.collected w.heap.size,args:=#[]}::a.defers} W')
  (b1:∀(c:Code) (s:σ) (pre:List α) (W W':World),m s->Sp s pre W->u c s pre W->Bk (w.heap.size+1) W W'->W'.heap[w.heap.size]? =some (.deferred (some []))->c.wpIn F n P Q {a with defers:={target:=.collected w.heap.size,args:=#[]}::a.defers} W'):
  (Code.rangeFunc g ps assign body).wpIn F n P Q a w:=by
 refine wpIn_rangeFunc ?_;intro fn b2;rw[aR];obtain⟨rec,q⟩:∃rec:LoopState->Option Code->Loop,rec=fun st pe=>{state:=st,pending:=pe,fn,tmps:=a.tmps,params:=ps,assign,body,defers:=w.heap.size}:=⟨_,rfl⟩
 obtain⟨W1,E⟩:∃W1,(w.alloc (.deferred (some []))).alloc (.loop (rec .ready none))=W1:=⟨_,rfl⟩;have b4:W1.heap[w.heap.size+1]? =some (.loop (rec .ready none)):=by
  rw[<-E];have:=World.alloc_heap_new (w.alloc (.deferred (some []))) (.loop (rec .ready none));rwa [World.size_alloc] at this
 have b5:W1.heap[w.heap.size]? =some (.deferred (some [])):=by
  rw[<-E];exact(Below.heap_alloc _ _ _ (by simp)).trans (World.alloc_heap_new w _)
 refine⟨w.heap.size+1,[{target:=.collected w.heap.size,args:=#[]}],W1,{target:=.fn (.func gf) lb,args:=#[.func (.yield (w.heap.size+1)) #[] #[]]},W1,gf,
  #[.func (.yield (w.heap.size+1)) #[] #[]]++lb,W1,?_,?_,?_,?_,fun _=>h1,?_⟩
 ·rw[<-E,q];exact run_enterLoop_outer _ _ _ _ _
 ·simp only[resolve,hg]
  simp[go_sem]
 ·intro f' aB;simp[Target.leads] at aB;subst aB;exact a0
 ·simp[invoke,go_sem,eg]
 ·have hs:=a2 (rec .ready none)
  rw[E] at hs;have ld:∀{A B:World} {r:Loop},cn w.heap.size A B->A.heap[w.heap.size+1]? =some (.loop r)->B.heap[w.heap.size+1]? =some (.loop r):=fun h U=>h _ _ (by omega) (by omega) U rfl
  have G:∀{A B:World},cn w.heap.size A B->A.heap[w.heap.size]? =some (.deferred (some []))->B.heap[w.heap.size]? =some (.deferred (some [])):=fun h U=>h _ _ (by omega) (by omega) U rfl
  refine(hs (w.heap.size+1)
   (fun s pre W=>m s/\I s pre W/\W.heap[w.heap.size+1]? =some (.loop (rec .ready none))/\W.heap[w.heap.size]? =some (.deferred (some [])))
   (fun s pre W=>m s/\∃c,u c s pre W/\W.heap[w.heap.size+1]? =some (.loop (rec .done (some c)))/\W.heap[w.heap.size]? =some (.deferred (some [])))
   (fun s pre A B h j=>⟨h.1,be s pre A B h.1 h.2.1 j,ld (N s A B h.1 j) h.2.2.1,G (N s A B h.1 j) h.2.2.2⟩)
   (fun s pre A B h j=>by
    obtain⟨i,c,hc,b,hk⟩:=h;exact⟨i,c,bf c s pre A B i hc j,ld (N s A B i j) b,G (N s A B i j) hk⟩)
   (fun s W2 j=>by
    rw[<-E] at j;have hk:=a5 (rec .ready none) s W2 j;have y:=hk.2;rw[E] at y;exact⟨hk.1,h0 _ s W2 j,ld y b4,G y b5⟩)
   ?_).mono ?_
  ·rintro s pre x L W ⟨i,hi,aL,aO⟩ V b_
   have y:=a9 s x L W i V;have b:=ld y aL;have hk:=G y aO;have X:=run_yield (P:=P) (args:=bS x) b (by rw[q];exact a4 x);rw[q] at X;obtain⟨Y,b'⟩:∃Y,Y=W:=⟨_,rfl⟩;have O:=bo x W;have b:=ld O b;have hk:=G O hk;have Z:=fun D=>bv s x W D
   have aa:=bx (w.heap.size+1) s pre x L W;have ab:=bw (w.heap.size+1) x W;clear y aL aO;rw[<-b'] at X ab Z aa b hk O V⊢;generalize ci:J x Y=W at b hk O Z aa ab;have ca:w.heap.size+1<W.heap.size:=(Array.getElem?_eq_some_iff.1 b).1;have aP:Bk (w.heap.size+1) W (W.putObj (w.heap.size+1) (.loop {rec .ready none with state:=.busy})):=⟨_,_,b,rfl,rfl⟩;refine⟨fn,_,assign,body,X,roundIn_of_wpIn b2 (ab _ ⟨_,run_beginRound b (by rw[q]),?_⟩)⟩;have cb:(W.putObj (w.heap.size+1) (.loop {rec .ready none with state:=.busy})).heap[w.heap.size+1]? =some (.loop {rec .ready none with state:=.busy}):=World.putObj_heap_same ca;have cc:(W.putObj (w.heap.size+1) (.loop {rec .ready none with state:=.busy})).heap[w.heap.size]? =some (.deferred (some [])):=(World.putObj_heap_other (by omega)).trans hk;refine wpIn_mono (aa _ i hi V b_ aP) ?_;have fin:∀(jump:Option Code) (k:World),cn w.heap.size (W.putObj (w.heap.size+1) (.loop {rec .ready none with state:=.busy})) k->
     (Instr.endRound (w.heap.size+1) jump).run P k= .ok (.bool jump.isNone) (k.putObj (w.heap.size+1) (.loop (rec (if jump.isNone then .ready else .done) jump)))/\
     Bk (w.heap.size+1) k (k.putObj (w.heap.size+1) (.loop (rec (if jump.isNone then .ready else .done) jump)))/\
     (k.putObj (w.heap.size+1) (.loop (rec (if jump.isNone then .ready else .done) jump))).heap[w.heap.size+1]? =some (.loop (rec (if jump.isNone then .ready else .done) jump))/\
     (k.putObj (w.heap.size+1) (.loop (rec (if jump.isNone then .ready else .done) jump))).heap[w.heap.size]? =some (.deferred (some [])):=fun jump k H=>by
    have ad:=ld H cb;have:=run_endRound (P:=P) jump ad;rw[q] at this⊢;exact⟨this,⟨_,_,ad,rfl,rfl⟩,World.putObj_heap_same (Array.getElem?_eq_some_iff.1 ad).1,(World.putObj_heap_other (by omega)).trans (G H cc)⟩
   rintro e a3 k hp;cases e with
   |normal=>
    obtain⟨H,cd,ag⟩:=hp;obtain⟨hr,R,am,an⟩:=fin none k H;exact⟨_,_,hr,.inl ⟨rfl,⟨i,bg s _ _ _ ag R,am,an⟩,Z _ (bk s _ _ _ _ aP cd R)⟩⟩
   |ret=>
    obtain⟨H,ag⟩:=hp;obtain⟨hr,R,am,an⟩:=fin (some .ret) k H;exact⟨_,_,hr,.inr ⟨rfl,i,.ret,bi _ s _ _ _ ag R,am,an⟩⟩
   |exit id=>exact hp.elim
   |goto t=>exact hp.elim
   |panic ch=>exact hp.elim
   |outgrown=>exact hp.elim
  ·rintro e W2 ⟨⟨v,rfl⟩,(⟨s,xs,hS,i,hi,b,hk⟩|⟨s,pre,ce,i,c,hi,b,hk⟩)⟩
   ·exact⟨none,_,by have:=run_endLoop (P:=P) b (by rw[q];simp);rw[q] at this;exact this,b0 s xs W2 _ i hS hi ⟨_,_,b,rfl,rfl⟩ ((World.putObj_heap_other (by omega)).trans hk)⟩
   ·exact⟨some c,_,by have:=run_endLoop (P:=P) b (by rw[q];simp);rw[q] at this;exact this,b1 c s pre W2 _ i ce hi ⟨_,_,b,rfl,rfl⟩ ((World.putObj_heap_other (by omega)).trans hk)⟩
end
end Go.Proofs.YtffdiakgjakngaaGreat.P
namespace Go.Proofs.YtffdiakgjakngaaGreat.P
open Go.RowKit Go.Proofs.YtffdiakgjakngaaGreatW.PrintWords Go.Proofs.YtffdiakgjakngaaGreatW.PrintLast Go.Proofs.YtffdiakgjakngaaGreatW.PrintMore
set_option linter.unusedVariables false
set_option linter.unusedSimpArgs false
set_option maxHeartbeats 8000000
set_option maxRecDepth 100000
section
attribute [local go_sem] Oper.semAt_some
def fF (xs:List (Nat×Int×Int)):List (List Value):=xs.map fun x=>[.int .i64 x.2.1,.int .i64 x.2.2]
theorem Ct (k:Nat) (N:Int) (A0:Option Addr) (c0:Nat) (E:List S83) (w:World) (U:Kd.C aT w A0 E.length E) (an:E.length<=c0) (m:bj.f k N E=some 0) (V:e8 E=true):
  Calls Tryz.prog 178 #[.agg #[.int .i64 N,.slice A0 E.length c0]] w fun e w'=>∃v,e= .returned (.tuple #[v,.int .i64 0])/\(Kd.raw 2).R 205 w' w.heap.size (fun _=>True) v (fF (dj E E.length))/\Below w.heap.size w w':=by
 have hu:=Tryz.underlying24;have Ht:=zA m;have HE:=zA V;clear m V;refine(callsIn_wide (n:=10)).1 ?_;refine callsIn_of_wp_marks Tryz.func178 rfl trivial ?_ rfl;simp only[Tryz.ntmps178,List.size_toArray,List.length_cons,List.length_nil,Nat.reduceAdd,Nat.reduceSub,Array.replicate_succ,Array.replicate_zero,List.push_toArray,List.append_toArray,List.nil_append,List.cons_append];gi_wp2_with (first|(refine⟨trivial,?_⟩;gi_at_call 64;refine(callsIn_wide.2 (bj.calls k N A0 c0 E 0 _ (Kd.bE U _) an Ht.out)).mono ?_;rintro e w1 ⟨rfl,hb⟩;have u:=zA (aM (bm w (.cells #[.int .i64 N,.slice A0 E.length c0] 24)) hb);have aB:w1.cell? ⟨w.heap.size,0,none⟩=some (.int .i64 N):=(al u.out 0).trans rfl;have aF:w1.cell? ⟨w.heap.size,1,none⟩=some (.slice A0 E.length c0):=(al u.out 1).trans rfl;have aL:(w1.alloc (.cells #[.slice none 0 0] 156)).cell? ⟨w.heap.size,0,none⟩=some (.int .i64 N):=(al (ay u.out _) 0).trans rfl;have aO:(w1.alloc (.cells #[.slice none 0 0] 156)).cell? ⟨w.heap.size,1,none⟩=some (.slice A0 E.length c0):=(al (ay u.out _) 1).trans rfl;have X:=zA (a8 (aq (ao w.heap.size w) _) hb);clear hb)|(refine⟨trivial,?_⟩;gi_at_call 85;refine(callsIn_wide.2 (tT N A0 c0 E _)).mono ?_;rintro e w3 ⟨rfl,rfl⟩))
 have aP:w.heap.size<w1.heap.size:=aE u.out;have G:=zA (show ((w1.alloc (.cells #[.slice none 0 0] 156)).alloc (.cells #[.int .i64 N,.slice A0 E.length c0] 24)).heap[w1.heap.size]? =some (.cells #[.slice none 0 0] 156 (0,0)) from ay (bm w1 _) _);have I:=zA (show ((w1.alloc (.cells #[.slice none 0 0] 156)).alloc (.cells #[.int .i64 N,.slice A0 E.length c0] 24)).heap[w1.heap.size+1]? =some (.cells #[.int .i64 N,.slice A0 E.length c0] 24 (0,0)) from heap_alloc2_new w1 _ _);have J:=zA (aq (aq X.out (.cells #[.slice none 0 0] 156)) (.cells #[.int .i64 N,.slice A0 E.length c0] 24));clear aB aF aL aO u X;generalize ((w1.alloc (.cells #[.slice none 0 0] 156)).alloc (.cells #[.int .i64 N,.slice A0 E.length c0] 24))=y at G I J⊢;have aR:=aE G.out;have aS:=aE I.out;generalize a0:w1.heap.size+1=Y at I aS⊢;generalize w1.heap.size=bo at G aP aR a0⊢;have bk:=J.out.size;refine uS (σ:=Unit) (α:=Nat×Int×Int) (F:=Fence.wide) (n:=10) rfl (by decide) (gf:=140) (lb:=#[.pointer (some ⟨Y,0,none⟩)]) rfl trivial (enters_of Tryz.func140 (by kernel_rfl) rfl)
  (fun o=>Bu Y N A0 c0 E w _ U HE.out (aq (aq J.out _) _) (ay (ay I.out _) _)) (fun _=>rfl)
  (fun _=>True) ?eF ?st ?ar
  (fun _ pre W=>y.heap.size<=W.heap.size/\∃v,W.heap[bo]? =some (.cells #[v] 156 (0,0))/\(Kd.raw 2).R 205 W w.heap.size (fun _=>True) v (fF pre)/\Below w.heap.size w W) (fun _ _ _ _=>False)
  ?is (fun _ _ _ _ _ _ h _=>h) ?ib (fun _ _ _ _ _ h _=>h) ?kt ?h0 ?a1 (fun x W=>W.alloc (.cells #[.int .i64 x.2.1,.int .i64 x.2.2] 116)) ?hw ?rI ?assign ?body ?done (fun _ _ _ _ _ _ _ h=>h.elim)
 case assign=>
  intro l x W K hK;gi_wp2;exact hK
 case eF=>
  intro o s W1 h;exact⟨trivial,by rw[h];exact cn.refl _ _⟩
 case st=>intro s A B _ h k o h1 z g _;exact(h.block k (Array.getElem?_eq_some_iff.1 g).1).trans g
 case ar=>intro s x A B _ h k o h1 z g _;exact(h.block k (Array.getElem?_eq_some_iff.1 g).1).trans g
 case hw=>intro x W k o h1 z g _;exact ay g _
 case rI=>
  intro s x A D h;exact⟨fun aY=>((ao w.heap.size A).alloc aY _).trans (h.1 (by simp;omega)),fun k cs t m hk=>h.2 k cs t m (ay hk _)⟩
 case is=>
  rintro s pre A B _ ⟨r,v,h1,z,g⟩ L;exact⟨Nat.le_trans r L.size,v,aM h1 L,Kd.cU z L,a8 g L⟩
 case ib=>
  rintro s pre A B ⟨r,v,h1,z,g⟩ hb;exact⟨by rw[hb.size];exact r,v,hb.cells h1,du z hb,g.trans (hb.below w.heap.size (by omega))⟩
 case kt=>
  intro s A B C D P Z aa;exact⟨fun aY=>((P.below w.heap.size (by omega)).trans (Z.1 (by rw[P.size];exact aY))).trans (aa.below w.heap.size (by omega)),fun k cs t m hk=>aa.cells (Z.2 k cs t m (P.cells hk))⟩
 case h0=>
  rintro o s W1 rfl;exact⟨by simp;omega,_,ay (ay G.out _) _,Kd.cW _ _ _ _ _,aq (aq J.out _) _⟩
 case body=>
  rintro l s pre ⟨i,a,b⟩ Wb W1 W _ ⟨r,v,i1,i2,i3⟩ H bv j;have c1:=aM i1 H;have c2:=Kd.cU i2 H;have c3:=a8 i3 H;have a3:y.heap.size<=W1.heap.size:=Nat.le_trans r H.size;have p:=zA (j.cells (ay c1 (.cells #[.int .i64 a,.int .i64 b] 116)));have q:=zA (du (Kd.aK c2 (.cells #[.int .i64 a,.int .i64 b] 116)) j);have b3:=zA ((aq c3 (.cells #[.int .i64 a,.int .i64 b] 116)).trans (j.below w.heap.size (by omega)));have b4:=zA (j.cells (bm W1 (.cells #[.int .i64 a,.int .i64 b] 116)));have aY:W.heap.size=W1.heap.size+1:=by rw[j.size];simp
  have bw:y.heap.size<=W.heap.size:=by omega
  clear i1 i2 i3 H j c1 c2 c3 aY a3 r;generalize W1.heap.size=pb at b4⊢;obtain⟨Ar,cr,rfl⟩:=Kd.bb q.out;have ad:(fF pre).length=pre.length:=by simp[fF]
  rw[ad] at p q;have hc:=dK p.out;have hf:=bD p.out 0;have b5:W.cell? ⟨pb,0,none⟩=some (.int .i64 a):=(al b4.out 0).trans rfl;have b6:W.cell? ⟨pb,1,none⟩=some (.int .i64 b):=(al b4.out 1).trans rfl;have LN:Aside0 (((fF pre).length+1)*16<=140737488355328):=⟨by rw[ad];omega⟩;have b_:=Tryz.underlying116;gi_wp2_with (gi_at_builtin;go_loud (refine oA (Kd.raw 2) (w0:=w) w.heap.size rfl (.tmp 17) (.tmp 23) 156 205 (.agg #[.int .i64 0,.int .i64 0]) 16 rfl Tryz.underlying156 tN rfl (by decide) (by omega) _ _ [.int .i64 a,.int .i64 b] [.int .i64 a,.int .i64 b] (fun _=>True) (fun _=>False) rfl rfl ⟨rfl,rfl,by simp[Value.oneCell']⟩ (fun _ hk=>hk.elim) (fun _ _=>trivial) q.out b3.out b3.out.size LN.out ?_;intro v1 b' Q hb S a9;obtain⟨T,c1,rfl⟩:=Kd.bb Q;have M:=zA ((S.block bo (aE p.out) (Kd.db q.out p.out (by decide))).trans p.out);have ca:=dK M.out;have cb:=bD M.out 0;have be:=zA Q;have bf:=zA hb;have O:=zA S;clear Q hb S a9))
  have bg:(fF pre++[[Value.int .i64 a,Value.int .i64 b]]).length=pre.length+1:=by simp[fF]
  refine⟨(oB q.out O.out).trans (fp _ _ (aE G.out)),⟨fun aY=>Below.setCell ((ao w.heap.size W).grown O.out aY (Kd.dD q.out)) (by show w.heap.size<=bo;omega) _,fun k cs t m hk=>?_⟩,by have:=O.out.size;simp;omega,.slice T (pre.length+1) c1,by simpa using bR M.out 0 (.slice T (pre.length+1) c1),?_,dx bf.out (by show w.heap.size<=bo;omega)⟩
  ·have bi:k≠bo:=by
    rintro rfl;have h1:=hk.symm.trans p.out;injection h1 with h1
    injection h1 with _ h1 _
    rcases m with rfl|rfl<;>exact absurd h1 (by decide)
   rw[Below.heap_setCell _ _ _ _ bi];exact(O.out.block k (aE hk) (Kd.db q.out hk (by rcases m with rfl|rfl<;>decide))).trans hk
  ·have h:=Kd.eU be.out M.out (by decide) 0 (.slice T (pre.length+1) c1)
   rw[bg] at h;simpa [fF] using h
 case done=>
  rintro s xs W W' _ rfl ⟨r,v,i1,i2,i3⟩ j ag;have p:=zA (j.cells i1);have q:=zA (du i2 j);have b3:=zA (i3.trans (j.below w.heap.size (by omega)));have ak:=zA ag;clear i1 i2 i3 ag;have hc:=dK p.out;gi_wp2_with fail
  have am:Bk y.heap.size W' (W'.putObj y.heap.size (.deferred none)):=⟨_,_,ak.out,rfl,rfl⟩;exact jc (D:=y.heap.size) rfl ak.out (results_tmp2 rfl _ _ _) ⟨_,rfl,du q.out am,b3.out.trans (am.below w.heap.size (by omega))⟩
end
section
theorem uT (L:List (Nat×Int×Int)):(fF L).length=L.length:=by simp[fF]
theorem uU {s:Nat} {a b:Int}:∀{j:Nat} {x:Nat×Int×Int},x∈f_ s a b j->x.2.1=a/\x.2.2=b
 |0,x,h=>absurd h (by simp[f_])
 |j+1,x,h=>by
  simp only[f_,List.mem_append,List.mem_singleton] at h;rcases h with h|rfl
  ·exact uU h
  ·exact⟨rfl,rfl⟩
theorem uV {n:Nat} {E:List S83} (h:∀k,k<E.length->0<=(ae E k).f0/\(ae E k).f0<n/\0<=(ae E k).f1/\(ae E k).f1<n/\1<=(ae E k).f2/\(ae E k).f2<=50):
  ∀k,k<=E.length->∀x∈dj E k,0<=x.2.1/\x.2.1<n/\0<=x.2.2/\x.2.2<n
 |0,_=>fun x a=>absurd a (by simp[dj])
 |k+1,hk=>fun x a=>by
  simp only[dj,List.mem_append] at a;rcases a with a|a
  ·exact uV h k (by omega) x a
  ·obtain⟨h1,b⟩:=uU a
   have:=h k (by omega);omega
theorem Cu {n:Nat} {E:List S83} (h:∀k,k<E.length->0<=(ae E k).f0/\(ae E k).f0<n/\0<=(ae E k).f1/\(ae E k).f1<n/\1<=(ae E k).f2/\(ae E k).f2<=50):
  ∀x∈dj E E.length,0<=x.2.1/\x.2.1<n/\0<=x.2.2/\x.2.2<n:=uV h _ (aI _)
theorem uW {E:List S83} (h:e8 E=true):(dj E E.length).length<=2000:=by
 obtain⟨h1,a⟩:=qj h;have:=om a E.length (aI _);rw[qo];omega
def iH (l:List Int) (v:Nat):List Int:=l.set v (rd l v+1)
def gN (l:List Int) (x:Nat×Int×Int):List Int:=if x.2.1=x.2.2 then l else iH (iH l x.2.1.toNat) x.2.2.toNat
def dO (n:Nat) (L:List (Nat×Int×Int)) (k:Nat):List Int:=(L.take k).foldl gN (List.replicate n 0)
theorem Cv (l:List Int) (v:Nat):(iH l v).length=l.length:=by simp[iH]
theorem Cw (l:List Int) (x:Nat×Int×Int):(gN l x).length=l.length:=by
 unfold gN;split<;>simp[Cv]
theorem uX:∀(L:List (Nat×Int×Int)) (l:List Int),(L.foldl gN l).length=l.length
 |[],l=>rfl
 |x::L,l=>by rw[List.foldl_cons,uX L,Cw]
theorem uY (n:Nat) (L:List (Nat×Int×Int)) (k:Nat):(dO n L k).length=n:=by simp[dO,uX]
theorem Cx (n:Nat) (L:List (Nat×Int×Int)) (k:Nat) (hk:k<L.length):dO n L (k+1)=gN (dO n L k) L[k]:=by
 unfold dO;rw[List.take_succ_eq_append_getElem hk,List.foldl_append];rfl
theorem Cy {l:List Int} {v:Nat} {B:Int} {x:Int} (h:∀i:Nat,0<=rd l i/\rd l i<=B) (a:0<=x/\x<=B+1) (i:Nat):0<=rd (l.set v x) i/\rd (l.set v x) i<=B+1:=by
 have hi:=h i;simp only[rd,aQ,bh,List.getElem?_set] at hi⊢;split
 ·split
  ·simpa using a
  ·simp;omega
 ·omega
theorem qR {l:List Int} {v:Nat} {B:Int} (h:∀i:Nat,0<=rd l i/\rd l i<=B) (i:Nat):0<=rd (iH l v) i/\rd (iH l v) i<=B+1:=
 Cy h (by have:=h v;omega) i
theorem Cz {l:List Int} {x:Nat×Int×Int} {B:Int} (h:∀i:Nat,0<=rd l i/\rd l i<=B) (i:Nat):0<=rd (gN l x) i/\rd (gN l x) i<=B+2:=by
 unfold gN;split
 ·have:=h i;omega
 ·have:=qR (v:=x.2.2.toNat) (qR (v:=x.2.1.toNat) h) i;omega
theorem uZ:∀(L:List (Nat×Int×Int)) (l:List Int) (B:Int),(∀i:Nat,0<=rd l i/\rd l i<=B)->∀i:Nat,0<=rd (L.foldl gN l) i/\rd (L.foldl gN l) i<=B+2*L.length
 |[],l,B,h=>fun i=>by have:=h i;simpa using this
 |x::L,l,B,h=>fun i=>by
  have:=uZ L (gN l x) (B+2) (Cz h) i;simp only[List.foldl_cons,List.length_cons];omega
theorem u_ (n:Nat) (L:List (Nat×Int×Int)) (k:Nat) (i:Nat):0<=rd (dO n L k) i/\rd (dO n L k) i<=2*L.length:=by
 have h:=uZ (L.take k) (List.replicate n 0) 0 (fun i=>by simp[rd,bh,List.getElem?_replicate];split<;>simp) i;have a:(L.take k).length<=L.length:=by simp;omega
 unfold dO;omega
theorem CD {W:World} {gb n:Nat} {ok:Nat->Prop} {g0 len cap:Nat} {rows:List (List Int)} (h:Kd.S (Kd.slice 3 (Kd.int .i64)) 25 W gb ok (.slice (some ⟨g0,0,none⟩) len cap) rows) (s:rows.length=len) (m:∀y∈rows,y.length=n) (a b:Nat) (C:a<len) (hb:b<n):
  ∃(gi ci:Nat) (z:Int),W.cell? ⟨g0,a,none⟩=some (.slice (some ⟨gi,0,none⟩) n ci)/\W.cell? ⟨gi,b,none⟩=some (.int .i64 z)/\W.frozen? ⟨gi,b,none⟩=false/\ok gi/\gb<=gi/\(∃cells,W.heap[gi]? =some (.cells cells 3 (0,0)))/\
   ∀x:Int,∃i:List (List Int),i.length=len/\(∀y∈i,y.length=n)/\Kd.S (Kd.slice 3 (Kd.int .i64)) 25 (W.setCell ⟨gi,b,none⟩ (.int .i64 x)) gb ok (.slice (some ⟨g0,0,none⟩) len cap) i:=by
 obtain⟨oki,c,D,⟨ev,rfl,g⟩,j,u,l⟩:=Kd.yy h [] (a:Int) (by omega) (by omega);rw[aQ] at g j l;have o:(rows.getD a []).length=n:=by
  rw[bh,bX (by omega)];exact m _ (List.getElem_mem (by omega))
 obtain⟨gi,ci,rfl,v,E,cells,w⟩:=Kd.eV g (by omega);rw[o] at g l j;obtain⟨p,q⟩:=Kd.bP (0:Int) g (b:Int) (by omega) (by omega);rw[aQ] at p q;have r:=j 0 _ rfl;refine⟨gi,ci,_,?_,p,q,(u gi (g.1 gi rfl)).1,v,⟨cells,w⟩,fun x=>⟨rows.set a ((rows.getD a []).set b x),by simp[s],?_,?_⟩⟩
 ·rw[show (⟨g0,0,none⟩:Addr).add (a*(Kd.slice 3 (Kd.int .i64)).sz+0)=⟨g0,a,none⟩ from by simp[Kd.slice,Addr.add];intro e;exact e.symm] at r
  exact r
 ·intro y B
  rcases List.mem_or_eq_of_mem_set B with h1|h1
  ·exact m y h1
  ·subst h1;simpa using o
 ·have hp:=Kd.de g (b:Int) x
  rw[aQ] at hp;exact l hp.2 (fun k hk=>by cases hk;exact g.1 gi rfl) ⟨_,rfl,hp.1⟩
theorem CE {w:World} {A:Option Addr} {n:Nat} {L:List (Nat×Int×Int)} (h:Kd.C (Kd.raw 2) w A n (fF L)) (j:Nat) (m:j<n) (i:j<L.length):∃ad,A=some ad/\w.cell? (ad.add (j*2))=some (.int .i64 L[j].2.1)/\w.cell? ⟨(ad.add (j*2)).block,(ad.add (j*2)).off+1,none⟩=some (.int .i64 L[j].2.2):=by
 obtain⟨ad,c,e,_,a,b⟩:=Kd.pa h [] (j:Int) (by omega) (by omega);rw[aQ] at a b;have l:(fF L).getD j []=[.int .i64 L[j].2.1,.int .i64 L[j].2.2]:=by
  rw[bh,bX (by simpa [fF] using i)];simp[fF]
 rw[l] at a;obtain rfl:=a.1;have g:∀k u,[Value.int .i64 L[j].2.1,.int .i64 L[j].2.2][k]? =some u->w.cell? (ad.add (j*2+k))=some u:=b;exact⟨ad,e,g 0 _ rfl,by rw[<-o8 _ _ 1 (by omega)];exact g 1 _ rfl⟩
structure PS (w:World) (gb n gp bv g0 cr:Nat) (q:Int) (dv:Value) (dl:List Int) (ev:Value) (L:List (Nat×Int×Int)) (W:World) (rows:List (List Int)) (vl:List Int):Prop where
 len:rows.length=n
 all:∀y∈rows,y.length=n
 iI:cL W gp dv q (.slice (some ⟨g0,0,none⟩) n cr) (.slice (some ⟨bv,0,none⟩) n n) (fun _=>false)
 d:(Kd.int .i64).R 3 W gb (fun k=>k≠bv) dv dl
 val:(Kd.int .i64).R 3 W gb (fun k=>some k≠dv.ownBlock) (.slice (some ⟨bv,0,none⟩) n n) vl
 rows:Kd.S (Kd.slice 3 (Kd.int .i64)) 25 W gb (fun k=>some k≠dv.ownBlock/\k≠bv) (.slice (some ⟨g0,0,none⟩) n cr) rows
 ends:(Kd.raw 2).R 205 W gb (fun _=>True) ev (fF L)
 below:Below gb w W
namespace PS
variable {w:World} {gb n gp bv g0 cr:Nat} {q:Int} {dv:Value} {dl:List Int} {ev:Value} {L:List (Nat×Int×Int)} {W:World} {rows:List (List Int)} {vl:List Int}
theorem drewN (h:PS w gb n gp bv g0 cr q dv dl ev L W rows vl) (m:Nat):PS w gb n gp bv g0 cr q dv dl ev L (W.drewN m) rows vl:=
 ⟨h.len,h.all,h.iI,Kd.bq h.d m,Kd.bq h.val m,Kd.ym h.rows m,Kd.bq h.ends m,bY h.below m⟩
theorem row (h:PS w gb n gp bv g0 cr q dv dl ev L W rows vl) (a b:Nat) (k:a<n) (hb:b<n):∃(gi ci:Nat) (z:Int),W.cell? ⟨g0,a,none⟩=some (.slice (some ⟨gi,0,none⟩) n ci)/\W.cell? ⟨gi,b,none⟩=some (.int .i64 z)/\W.frozen? ⟨gi,b,none⟩=false/\
  ∀x:Int,∃g,PS w gb n gp bv g0 cr q dv dl ev L (W.setCell ⟨gi,b,none⟩ (.int .i64 x)) g vl:=by
 obtain⟨gi,ci,z,h1,l,m,⟨o,p⟩,r,⟨cells,j⟩,s⟩:=CD h.rows h.len h.all a b k hb;refine⟨gi,ci,z,h1,l,m,fun x=>?_⟩;obtain⟨g,l1,l2,u⟩:=s x;have i:W.grownBy (W.setCell ⟨gi,b,none⟩ (.int .i64 x)) (some gi):=uQ (ao _ _);refine⟨g,l1,l2,h.iI.grown i (fun e=>?_),Kd.iu h.d rfl i o,Kd.iu h.val rfl i (fun e=>p (by simpa [Value.ownBlock] using e)),u,Kd.eU h.ends j (by decide) _ _,Below.setCell h.below r _⟩;obtain⟨cs,hp,_⟩:=h.iI;injection e with e
 subst e;rw[j] at hp;injection hp with hp
 injection hp with _ hp _
 exact absurd hp (by decide)
theorem u' (h:PS w gb n gp bv g0 cr q dv dl ev L W rows vl) (a:Nat) (j:a<n):W.cell? ⟨bv,a,none⟩=some (.int .i64 (rd vl a))/\W.frozen? ⟨bv,a,none⟩=false/\
  ∀x:Int,PS w gb n gp bv g0 cr q dv dl ev L (W.setCell ⟨bv,a,none⟩ (.int .i64 x)) rows (vl.set a x):=by
 obtain⟨h1,i⟩:=Kd.bP (0:Int) h.val (a:Int) (by omega) (by omega);rw[aQ] at h1 i;obtain⟨cells,hb⟩:=Kd.fT h.val bv rfl;refine⟨h1,i,fun x=>?_⟩;have hp:=Kd.de h.val (a:Int) x;rw[aQ] at hp;have g:=hp.2;refine⟨h.len,h.all,h.iI.grown g (fun e=>?_),Kd.iu h.d rfl g (fun e=>h.d.1 bv e.symm rfl),hp.1,Kd.ss h.rows g (fun k hk e=>hk.2 (by injection e)),Kd.eU h.ends hb (by decide) _ _,Below.setCell h.below (Kd.dD h.val bv rfl) _⟩;obtain⟨cs,b,_⟩:=h.iI;injection e with e
 subst e;rw[hb] at b;injection b with b
 injection b with _ b _
 exact absurd b (by decide)
end PS
def gO (n:Nat) (E:List S83):List Int:=dO n (dj E E.length) (dj E E.length).length
theorem CF (g v n:Nat) (q:Int) (a b:Option Addr) (cd h:Nat) (dl vl:List Int) (rows:Value) (waits:Nat->Bool) (w:World) (i:v<12) (k:v<dl.length) (l:vl.length=n) (m:v<n)
  (hw:cL w g (.slice a dl.length cd) q rows (.slice b n h) waits) (hd:Kd.C (Kd.int .i64) w a dl.length dl) (o:Kd.C (Kd.int .i64) w b n vl):
  Calls Tryz.prog 218 #[.pointer (some ⟨g,0,none⟩),.int .i64 v] w fun e w'=>e= .returned (.tuple #[])/\cL w' g (.slice a dl.length cd) q rows (.slice b n h) (fun j=>if j=v then iG q vl dl v else waits j)/\w.grownBy w' (some g):=by
 subst l;exact Cs g v q a b cd h dl vl rows waits w i k m hw hd o
theorem CG (q:Int) (vl dl:List Int) (v:Nat):(fun j=>if j=v then iG q vl dl v else(if j<v then iG q vl dl j else false))=fun j=>if j<v+1 then iG q vl dl j else false:=by
 funext j
 by_cases e:j=v
 ·subst e;simp
 ·by_cases h:j<v
  ·rw[if_neg e,if_pos h,if_pos (by omega)]
  ·rw[if_neg e,if_neg h,if_neg (by omega)]
end
end Go.Proofs.YtffdiakgjakngaaGreat.P


