/- Bounds answers true whatever the input (text 3 of 7): own walks and plain laws; no conditions. -/
import Derived.AtR
import Derived.Below
import Derived.BigQuiet
import Derived.BigRegion
import Derived.BigRegionIn
import Derived.Deep.QuietTactic
import Derived.Deep.RegionHeld3
import Derived.Deep.RegionLaw
import Derived.Lib.Hide
import Derived.LoopIn
import Derived.LoopNIn
import Derived.Outline
import Derived.OwnWalkIn
import Derived.RangeFuncBound
import Derived.RangeFuncCalls
import Derived.RangeFuncLeaves
import Derived.RangeFuncNested
import Derived.RegionIn
import Derived.RegionTactic
import Derived.Shelf.RegionOpen
import Derived.Sort.LoopGhostIn
import Derived.Sort.QuietIn
import Derived.TacticsInMore
import Derived.WalkKit
import Derived.WalkSpells
import Derived.Test.YtffdiakgjakngaaGreatBounds2
namespace Go.Proofs.YtffdiakgjakngaaGreat.P
open Go Go.RowKit
set_option linter.unusedVariables false
set_option linter.unusedSimpArgs false
set_option maxHeartbeats 8000000
set_option maxRecDepth 100000
section
def Bk (l:Nat) (A B:World):Prop:=∃o a,A.heap[l]? =some o/\o.isCells=false/\B=A.putObj l a
theorem Bk.cells {l:Nat} {A B:World} (h:Bk l A B) {k:Nat} {cs:Array Value} {t:TypeId} {fr:Nat×Nat} (hk:A.heap[k]? =some (.cells cs t fr)):B.heap[k]? =some (.cells cs t fr):=by
 obtain⟨o,e,a,b,rfl⟩:=h;rw[World.putObj_heap_other]; · exact hk
 rintro rfl;rw[a] at hk;injection hk with hk;subst hk;simp[Obj.isCells] at b
theorem Bk.size {l:Nat} {A B:World} (h:Bk l A B):B.heap.size=A.heap.size:=by
 obtain⟨o,a,b,e,rfl⟩:=h;simp[World.putObj]
theorem Bk.heap {l:Nat} {A B:World} (h:Bk l A B) (k:Nat) (hk:k≠l):B.heap[k]? =A.heap[k]? :=by
 obtain⟨o,a,b,e,rfl⟩:=h;exact World.putObj_heap_other hk
theorem Bk.below {l:Nat} {A B:World} (h:Bk l A B) (n:Nat) (hn:n<=l):Below n A B:=by
 obtain⟨o,a,b,g,rfl⟩:=h;exact(al n A).grown (grownBy_putObj' A l a) (by have:=(Array.getElem?_eq_some_iff.1 b).1;omega) (fun k e=>by cases e;omega)
def cp (n:Nat) (A B:World):Prop:=∀k o,n<=k->k<n+2->A.heap[k]? =some o->o.isCells=false->B.heap[k]? =some o
theorem cp.refl (n:Nat) (A:World):cp n A A:=fun _ _ _ _ h _=>h
theorem cp.trans {n:Nat} {A B C:World} (h:cp n A B) (k:cp n B C):cp n A C:=fun j o h1 a e b=>k j o h1 a (h j o h1 a e b) b
def qa {σ α:Type} (nw:Nat) (a:World->World->Prop) (I:List α->World->Prop) (b:Code->List α->World->Prop) (xs:List α) (W:World):Exit->Act->World->Prop
 | .normal,_,W'=>cp nw W W'/\a W W'/\I xs W'
 | .ret,_,W'=>cp nw W W'/\b .ret xs W'
 |_,_,_=>False
variable {F:Fence} {n:Nat} {P:Program}
def i_ {σ α:Type} (F:Fence) (n:Nat) (P:Program) (gf:Nat) (lb:Array Value) (bS:α->Array Value) (Start:σ->World->World->Prop) (a:σ->World->World->Prop) (g:σ->α->World->World->Prop) (h:σ->World->World->Prop) (S:σ->List α->World->Prop) (i:σ->List α->World->Prop) (j:List α->Prop) (W:World):Prop:=
 ∀(l:Nat) (J Jx:σ->List α->World->Prop),(∀s pre A B,J s pre A->a s A B->J s pre B)->(∀s pre A B,Jx s pre A->a s A B->Jx s pre B)->
  (∀s W1,Start s W W1->J s [] W1)->
  (∀s pre x b W1,J s pre b->g s x b W1->j pre->YieldAt F (n-1) P l (bS x) W1 fun e W'=>
   (e= .returned (.bool true)/\J s (pre++[x]) W'/\h s W1 W')\/(e= .returned (.bool false)/\Jx s (pre++[x]) W'))->
  CallsIn F n P gf (#[.func (.yield l) #[] #[]]++lb) W fun e W'=>(∃v,e= .returned v)/\((∃s xs,S s xs W'/\J s xs W')\/(∃s pre,i s pre W'/\Jx s pre W'))
theorem iG {σ α:Type} {g:Operand} {ps:Array Tmp} {assign body:Code} {Q:Exit->Act->World->Prop} {a:Act} {w:World}
  (ap:F.round=none) (h1:1<=n) {gf:Nat} {lb:Array Value} (hg:a.eval g= .func (.func gf) #[] lb) (ar:F.fn gf) (eg:∀args w,(callFunc gf args).run P w= .ok (.enter gf args) w)
  {bS:α->Array Value} {Start:σ->World->World->Prop} {J:σ->World->World->Prop} {O:σ->α->World->World->Prop} {L:σ->World->World->Prop} {S Z:σ->List α->World->Prop} {Bd:List α->Prop}
  (aB:∀o,i_ F (n-1) P gf lb bS Start J O L S Z Bd ((w.alloc (.deferred (some []))).alloc (.loop o))) (aF:∀x,(bS x).size=ps.size)
  (m:σ->Prop) (aL:∀o s W1,Start s ((w.alloc (.deferred (some []))).alloc (.loop o)) W1->m s/\cp w.heap.size ((w.alloc (.deferred (some []))).alloc (.loop o)) W1)
  (M:∀s A B,m s->J s A B->cp w.heap.size A B) (aO:∀s x A B,m s->O s x A B->cp w.heap.size A B)
  (I:σ->List α->World->Prop) (u:Code->σ->List α->World->Prop)
  (aP:∀s pre A B,m s->I s pre A->J s A B->I s pre B) (aS:∀c s pre A B,m s->u c s pre A->J s A B->u c s pre B)
  (a0:∀s pre A B,I s pre A->Bk (w.heap.size+1) A B->I s pre B) (a1:∀c s pre A B,u c s pre A->Bk (w.heap.size+1) A B->u c s pre B)
  (a2:∀s A B C D,Bk (w.heap.size+1) A B->L s B C->Bk (w.heap.size+1) C D->L s A D)
  (h0:∀o s W1,Start s ((w.alloc (.deferred (some []))).alloc (.loop o)) W1->I s [] W1) (a₁:α->Act)
  (a5:∀(l:Nat) (x:α) (W:World) (K:Act->World->Prop),K (a₁ x) W->
   assign.wpIn (F.inRound l) (n-1-1) P (Exit.then K (fun _ _ _=>False)) {tmps:=(ps.zip (bS x)).foldl (fun t (p,v)=>t.setIfInBounds p v) a.tmps,defers:=[]} W)
  (a9:∀(l:Nat) (s:σ) (pre:List α) (x:α) (G W1 W:World),m s->I s pre G->O s x G W1->Bd pre->Bk (w.heap.size+1) W1 W->body.wpIn (F.inRound l) (n-1-1) P (qa (σ:=σ) w.heap.size (L s) (I s) (fun c=>u c s) (pre++[x]) W) (a₁ x) W)
  (be:∀(s:σ) (xs:List α) (W W':World),m s->S s xs W->I s xs W->Bk (w.heap.size+1) W W'->W'.heap[w.heap.size]? =some (.deferred (some []))->Q .normal {a with defers:={target:=.collected w.heap.size,args:=#[]}::a.defers} W')
  (bf:∀(c:Code) (s:σ) (pre:List α) (W W':World),m s->Z s pre W->u c s pre W->Bk (w.heap.size+1) W W'->W'.heap[w.heap.size]? =some (.deferred (some []))->c.wpIn F n P Q {a with defers:={target:=.collected w.heap.size,args:=#[]}::a.defers} W'):
  (Code.rangeFunc g ps assign body).wpIn F n P Q a w:=by
 refine wpIn_rangeFunc ?_;intro fn bg;rw[ap];obtain⟨rec,q⟩:∃rec:LoopState->Option Code->Loop,rec=fun st pe=>{state:=st,pending:=pe,fn,tmps:=a.tmps,params:=ps,assign,body,defers:=w.heap.size}:=⟨_,rfl⟩
 obtain⟨W1,y⟩:∃W1,(w.alloc (.deferred (some []))).alloc (.loop (rec .ready none))=W1:=⟨_,rfl⟩;have bk:W1.heap[w.heap.size+1]? =some (.loop (rec .ready none)):=by
  rw[<-y];have:=World.alloc_heap_new (w.alloc (.deferred (some []))) (.loop (rec .ready none));rwa [World.size_alloc] at this
 have bn:W1.heap[w.heap.size]? =some (.deferred (some [])):=by
  rw[<-y];exact(Below.heap_alloc _ _ _ (by simp)).trans (World.alloc_heap_new w _)
 refine⟨w.heap.size+1,[{target:=.collected w.heap.size,args:=#[]}],W1,{target:=.fn (.func gf) lb,args:=#[.func (.yield (w.heap.size+1)) #[] #[]]},W1,gf,
  #[.func (.yield (w.heap.size+1)) #[] #[]]++lb,W1,?_,?_,?_,?_,fun _=>h1,?_⟩
 ·rw[<-y,q];exact run_enterLoop_outer _ _ _ _ _
 ·simp only[resolve,hg]
  simp[go_sem]
 ·intro f' ad;simp[Target.leads] at ad;subst ad;exact ar
 ·simp[invoke,go_sem,eg]
 ·have hs:=aB (rec .ready none)
  rw[y] at hs;have ld:∀{A B:World} {r:Loop},cp w.heap.size A B->A.heap[w.heap.size+1]? =some (.loop r)->B.heap[w.heap.size+1]? =some (.loop r):=fun h R=>h _ _ (by omega) (by omega) R rfl
  have H:∀{A B:World},cp w.heap.size A B->A.heap[w.heap.size]? =some (.deferred (some []))->B.heap[w.heap.size]? =some (.deferred (some [])):=fun h R=>h _ _ (by omega) (by omega) R rfl
  refine(hs (w.heap.size+1)
   (fun s pre W=>m s/\I s pre W/\W.heap[w.heap.size+1]? =some (.loop (rec .ready none))/\W.heap[w.heap.size]? =some (.deferred (some [])))
   (fun s pre W=>m s/\∃c,u c s pre W/\W.heap[w.heap.size+1]? =some (.loop (rec .done (some c)))/\W.heap[w.heap.size]? =some (.deferred (some [])))
   (fun s pre A B h j=>⟨h.1,aP s pre A B h.1 h.2.1 j,ld (M s A B h.1 j) h.2.2.1,H (M s A B h.1 j) h.2.2.2⟩)
   (fun s pre A B h j=>by
    obtain⟨b,c,hc,i,hk⟩:=h;exact⟨b,c,aS c s pre A B b hc j,ld (M s A B b j) i,H (M s A B b j) hk⟩)
   (fun s W2 j=>by
    rw[<-y] at j;have hk:=aL (rec .ready none) s W2 j;have z:=hk.2;rw[y] at z;exact⟨hk.1,h0 _ s W2 j,ld z bk,H z bn⟩)
   ?_).mono ?_
  ·rintro s pre x G W ⟨b,hi,bv,bw⟩ ak bx
   have z:=aO s x G W b ak;have i:=ld z bv;have hk:=H z bw;have b0:w.heap.size+1<W.heap.size:=(Array.getElem?_eq_some_iff.1 i).1;have hy:=run_yield (P:=P) (args:=bS x) i (by rw[q];exact aF x);rw[q] at hy;have an:Bk (w.heap.size+1) W (W.putObj (w.heap.size+1) (.loop {rec .ready none with state:=.busy})):=⟨_,_,i,rfl,rfl⟩;refine⟨fn,_,assign,body,hy,roundIn_of_wpIn bg (a5 _ x W _ ⟨_,run_beginRound i (by rw[q]),?_⟩)⟩;have b1:(W.putObj (w.heap.size+1) (.loop {rec .ready none with state:=.busy})).heap[w.heap.size+1]? =some (.loop {rec .ready none with state:=.busy}):=World.putObj_heap_same b0;have b2:(W.putObj (w.heap.size+1) (.loop {rec .ready none with state:=.busy})).heap[w.heap.size]? =some (.deferred (some [])):=(World.putObj_heap_other (by omega)).trans hk;refine wpIn_mono (a9 _ s pre x G W _ b hi ak bx an) ?_;have fin:∀(jump:Option Code) (k:World),cp w.heap.size (W.putObj (w.heap.size+1) (.loop {rec .ready none with state:=.busy})) k->
     (Instr.endRound (w.heap.size+1) jump).run P k= .ok (.bool jump.isNone) (k.putObj (w.heap.size+1) (.loop (rec (if jump.isNone then .ready else .done) jump)))/\
     Bk (w.heap.size+1) k (k.putObj (w.heap.size+1) (.loop (rec (if jump.isNone then .ready else .done) jump)))/\
     (k.putObj (w.heap.size+1) (.loop (rec (if jump.isNone then .ready else .done) jump))).heap[w.heap.size+1]? =some (.loop (rec (if jump.isNone then .ready else .done) jump))/\
     (k.putObj (w.heap.size+1) (.loop (rec (if jump.isNone then .ready else .done) jump))).heap[w.heap.size]? =some (.deferred (some [])):=fun jump k E=>by
    have T:=ld E b1;have:=run_endRound (P:=P) jump T;rw[q] at this⊢;exact⟨this,⟨_,_,T,rfl,rfl⟩,World.putObj_heap_same (Array.getElem?_eq_some_iff.1 T).1,(World.putObj_heap_other (by omega)).trans (H E b2)⟩
   rintro e a3 k hp;cases e with
   |normal=>
    obtain⟨E,b3,U⟩:=hp;obtain⟨V,N,X,Y⟩:=fin none k E;exact⟨_,_,V,.inl ⟨rfl,⟨b,a0 s _ _ _ U N,X,Y⟩,a2 s _ _ _ _ an b3 N⟩⟩
   |ret=>
    obtain⟨E,U⟩:=hp;obtain⟨V,N,X,Y⟩:=fin (some .ret) k E;exact⟨_,_,V,.inr ⟨rfl,b,.ret,a1 _ s _ _ _ U N,X,Y⟩⟩
   |exit id=>exact hp.elim
   |goto t=>exact hp.elim
   |panic ch=>exact hp.elim
   |outgrown=>exact hp.elim
  ·rintro e W2 ⟨⟨v,rfl⟩,(⟨s,xs,hS,b,hi,i,hk⟩|⟨s,pre,b4,b,c,hi,i,hk⟩)⟩
   ·exact⟨none,_,by have:=run_endLoop (P:=P) i (by rw[q];simp);rw[q] at this;exact this,be s xs W2 _ b hS hi ⟨_,_,i,rfl,rfl⟩ ((World.putObj_heap_other (by omega)).trans hk)⟩
   ·exact⟨some c,_,by have:=run_endLoop (P:=P) i (by rw[q];simp);rw[q] at this;exact this,bf c s pre W2 _ b b4 hi ⟨_,_,i,rfl,rfl⟩ ((World.putObj_heap_other (by omega)).trans hk)⟩
end
end Go.Proofs.YtffdiakgjakngaaGreat.P
namespace Go.Proofs.YtffdiakgjakngaaGreat.P
open Go.RowKit Go.Proofs.YtffdiakgjakngaaGreatW.PrintWords Go.Proofs.YtffdiakgjakngaaGreatW.PrintLast Go.Proofs.YtffdiakgjakngaaGreatW.PrintMore
set_option linter.unusedVariables false
set_option linter.unusedSimpArgs false
set_option maxHeartbeats 8000000
set_option maxRecDepth 100000
section
def jv (n:Nat) (c:(Nat->Bool)->Nat->Bool) (b:Nat->Bool):Option Nat:=(List.range n).find? (fun v=>c b v)
def dY (b:Nat->Bool) (v:Nat):Nat->Bool:=fun u=>if u=v then true else b u
def dO (n:Nat) (b:Nat->Bool):Nat:=(List.range n).countP (fun v=> !b v)
def fE (n:Nat) (c:(Nat->Bool)->Nat->Bool):Nat->(Nat->Bool)->List Nat
 |0,_=>[]
 |f+1,b=>match jv n c b with
  |none=>[]
  |some v=>v::fE n c f (dY b v)
def eG (n:Nat) (c:(Nat->Bool)->Nat->Bool) (b:Nat->Bool):List Nat:=fE n c (dO n b) b
def cL (b:Nat->Bool) (l:List Nat):Nat->Bool:=l.foldl dY b
theorem om (b:Nat->Bool) (l:List Nat) (v:Nat):cL b (l++[v])=dY (cL b l) v:=by simp[cL]
theorem mL {n:Nat} {b:Nat->Bool} {v:Nat} (g:v<n) (hb:b v=false):dO n b=dO n (dY b v)+1:=by
 unfold dO;induction n with
 |zero=>omega
 |succ n a=>
  rw[List.range_succ,List.countP_append,List.countP_append];by_cases e:v=n
  ·subst e
   have h1:(List.range v).countP (fun u=> !b u)=(List.range v).countP (fun u=> !dY b v u):=List.countP_congr (fun u hu=>by have:=List.mem_range.1 hu;simp[dY,show u≠v from by omega]);rw[h1];simp[dY,hb]
  ·have:=a (by omega)
   rw[this];simp[dY,show n≠v from by omega];omega
theorem tF (n:Nat) (b:Nat->Bool):dO n b<=n:=by
 unfold dO;exact Nat.le_trans List.countP_le_length (by simp)
theorem Bn {n:Nat} {c:(Nat->Bool)->Nat->Bool} {b:Nat->Bool} (h:∀v,v<n->c b v=false):eG n c b=[]:=by
 have:jv n c b=none:=by
  unfold jv;rw[List.find?_eq_none];intro v a;simp[h v (List.mem_range.1 a)]
 unfold eG;cases dO n b<;>simp[fE,this]
theorem Bo {n:Nat} {c:(Nat->Bool)->Nat->Bool} (g:∀b v,c b v=true->b v=false) {b:Nat->Bool} {v:Nat} (a:v<n) (e:c b v=true) (h:∀u,u<v->c b u=false):eG n c b=v::eG n c (dY b v):=by
 have i:jv n c b=some v:=by
  unfold jv;rw[List.find?_eq_some_iff_append];refine⟨e,(List.range n).take v,(List.range n).drop (v+1),?_,?_⟩
  ·have h1:(List.range n)[v]'(by simpa using a)=v:=by simp
   conv=>lhs;rw[<-List.take_append_drop v (List.range n)]
   rw[List.drop_eq_getElem_cons (by simpa using a),h1]
  ·intro u hu
   have k:u<v:=by
    rw[List.mem_take_iff_getElem] at hu;obtain⟨j,l,rfl⟩:=hu;simp at l⊢;omega
   simp[h u k]
 have m:=mL a (g b v e);unfold eG;rw[m];simp only[fE,i]
def cu (n:Nat) (times:Nat->Nat->Int) (l:List Int) (b:Nat->Bool) (v:Nat):Bool:= !b v&&decide (rd l v<dF times b v n)
theorem mM {n:Nat} {times:Nat->Nat->Int} {l:List Int} (b:Nat->Bool) (v:Nat) (h:cu n times l b v=true):b v=false:=by
 unfold cu at h;cases hb:b v<;>simp_all
theorem Bp (g:Nat) (n v:Nat) (times:Nat->Nat->Int) (A:Option Addr) (c:Nat) (l:List Int) (burnt:Nat->Bool) (w:World) (hn:n<=12) (a:v<12) (b:v<l.length) (h:∀i j,0<=times i j/\times i j<=50) (hw:cF w g n times (.slice A l.length c) burnt) (k:Kd.C (Kd.int .i64) w A l.length l):
  Calls Tryz.prog 226 #[.pointer (some ⟨g,0,none⟩),.int .i64 v] w fun e w'=>e= .returned (.bool (cu n times l burnt v))/\aA w w':=by
 unfold cu;cases hb:burnt v with
 |true=>simpa using Bj g n v times _ burnt w a hw hb
 |false=>simpa using Bl g n v times A c l burnt w hn a b h hw k hb
attribute [local go_sem] Oper.semAt_some
theorem tG {w w1:World} (h:aA w w1) (r:Option Nat):w.grownBy w1 r:=jg h.below r
theorem Bq {w w1:World} {g j:Nat} {v:Value} (h:w.grownBy w1 (some g)):w.grownBy (w1.setCell ⟨g,j,none⟩ v) (some g):=
 have hb:=(al 0 w1).setCell (p:=⟨g,j,none⟩) (Nat.zero_le _) v;h.trans ⟨hb.os,hb.tape,hb.output,hb.size,fun k _ hk=>Below.heap_setCell _ _ _ _ (fun e=>hk (by rw[e]))⟩
theorem cF.of_heap {w w':World} {g:Nat} {n:Int} {times:Nat->Nat->Int} {chips:Value} {burnt:Nat->Bool} (h:cF w g n times chips burnt) (e:w'.heap[g]? =w.heap[g]?):cF w' g n times chips burnt:=by
 obtain⟨cs,hb,a⟩:=h;exact⟨cs,e.trans hb,a⟩
theorem dG {w:World} {b:Nat} {v:Value} {t:TypeId} (h:w.heap[b]? =some (.cells #[v] t (0,0))):w.cell? ⟨b,0,none⟩=some v:=(ai h 0).trans rfl
theorem Br (g b n:Nat) (times:Nat->Nat->Int) (A:Option Addr) (c:Nat) (l:List Int) (a:Nat->Bool) (W:World) (base:Nat) (hn:n<=12) (hl:n<=l.length) (ht:∀i j,0<=times i j/\times i j<=50) (aF:b≠g)
  (hW:cF W g n times (.slice A l.length c) a) (aO:W.heap[b]? =some (.cells #[.pointer (some ⟨g,0,none⟩)] 245 (0,0))) (hr:Kd.R (Kd.int .i64) 3 W base (fun k=>some k=(Value.slice A l.length c).ownBlock) (.slice A l.length c) l):
  i_ (σ:=Unit) Fence.wide 9 Tryz.prog 225 #[.pointer (some ⟨b,0,none⟩)] (fun v:Nat=>#[.int .i64 v]) (fun _ W W1=>W1=W) (fun _ A B=>A.grownBy B (some g)) (fun _ _ A B=>A.grownBy B (some g))
   (fun _ X Y=>∀k,(k=g\/k=b\/some k=(Value.slice A l.length c).ownBlock)->Y.heap[k]? =X.heap[k]?)
   (fun _ xs W'=>xs=eG n (cu n times l) a/\cF W' g n times (.slice A l.length c) (cL a xs)) (fun _ _ _=>True) (fun pre=>pre.length<n) W:=by
 intro lp J Jx K L M N;have aS:=zA K;have b3:=zA L;have hY:=zA N;have a1:=M () W rfl;clear K L M N;refine callsIn_of_wp Tryz.func225 rfl trivial ?_ rfl;simp only[Tryz.ntmps225,List.size_toArray,List.length_cons,List.length_nil,Nat.reduceAdd,Nat.reduceSub,Array.replicate_succ,Array.replicate_zero,List.push_toArray,List.append_toArray,List.nil_append,List.cons_append];gi_wp2;gi_loopg [3] (13*dO n a+n) (fun kq v wr=>∃(pre:List Nat) (u:Nat),v= .int .i64 u/\u<=n/\Aside0 (J () pre wr)/\Aside0 (cF wr g n times (.slice A l.length c) (cL a pre))/\Aside0 (wr.heap[b]? =some (.cells #[.pointer (some ⟨g,0,none⟩)] 245 (0,0)))/\Aside0 (Kd.R (Kd.int .i64) 3 wr base (fun k=>some k=(Value.slice A l.length c).ownBlock) (.slice A l.length c) l)/\Aside0 (∀x,x<u->cu n times l (cL a pre) x=false)/\Aside0 (eG n (cu n times l) a=pre++eG n (cu n times l) (cL a pre))/\Aside0 (kq=13*dO n (cL a pre)+(n-u))/\Aside0 (pre.length+dO n (cL a pre)=dO n a))
 case atStart=>exact⟨[],0,rfl,Nat.zero_le _,⟨a1⟩,⟨hW⟩,⟨aO⟩,⟨hr⟩,⟨fun x O=>by omega⟩,⟨by simp[cL]⟩,⟨by simp[cL]⟩,⟨by simp[cL]⟩⟩
 case round=>
  obtain⟨pre,u,rfl,hu,y,h,z,D,E,F,P,G⟩:=hrel;have a3:=dG z.out;have b4:=h.out.oh;by_cases Q:u<n
  ·have S:Kd.C (Kd.int .i64) wr A l.length l:=by
    obtain⟨A',c',e,_,hC⟩:=Kd.nt D.out;injection e with e1 e2 e3
    rw[e1];exact hC
   have q:=zA (Bp g n u times A c l (cL a pre) wr hn (by omega) (by omega) ht h.out S);clear S;cases o:cu n times l (cL a pre) u with
   |false=>
    rw[o] at q;have T:=Lib.hid o;clear o;gi_wp2_with (refine⟨trivial,?_⟩;gi_at_call 226;refine(callsIn_wide.2 q.out).mono ?_;rintro e w1 ⟨rfl,p⟩;have U:=zA p;clear p)
    gi_roundg (13*dO n (cL a pre)+(n- (u+1)))
    case measure=>rw[P.out];omega
    case rel=>
     obtain⟨m,rfl⟩:=U.out.out;refine⟨pre,u+1,by go_num,by omega,⟨aS.out () pre wr _ y.out (tG U.out _)⟩,h,z,D,⟨fun x O=>?_⟩,F,⟨rfl⟩,G⟩;by_cases e:x=u
     ·rw[e];exact T.out
     ·exact E.out x (by omega)
   |true=>
    rw[o] at q;have V:=mM _ _ o;have r:=mL Q V;have Z:=Bo mM Q o E.out;have H:=Lib.hid r;have a5:=Lib.hid Z;have T:=Lib.hid o;clear o V r Z;have HG:Aside0 (∀w1,aA wr w1->w1.cell? ⟨b,0,none⟩=some (.pointer (some ⟨g,0,none⟩))/\w1.cell? ⟨g,146+u,none⟩=some (.bool (cL a pre u))/\w1.frozen? ⟨g,146+u,none⟩=false/\
      cF (w1.setCell ⟨g,146+u,none⟩ (.bool true)) g n times (.slice A l.length c) (cL a (pre++[u]))/\(w1.setCell ⟨g,146+u,none⟩ (.bool true)).heap[b]? =some (.cells #[.pointer (some ⟨g,0,none⟩)] 245 (0,0))/\
      Kd.R (Kd.int .i64) 3 (w1.setCell ⟨g,146+u,none⟩ (.bool true)) base (fun k=>some k=(Value.slice A l.length c).ownBlock) (.slice A l.length c) l/\wr.grownBy (w1.setCell ⟨g,146+u,none⟩ (.bool true)) (some g)):=by
     refine⟨fun w1 p=>?_⟩;obtain⟨m,rfl⟩:=p.out;refine⟨a3,h.out.lR u (by omega),h.out.frozen _,?_,?_,?_,Bq (tG p _)⟩
     ·rw[om];exact(h.out.drewN m).tD u (by omega) true
     ·exact aD (w:=wr.drewN m) z.out aF _
     ·exact(h.out.drewN m).eX (Kd.bB D.out m) (by decide) (146+u) (.bool true)
    gi_wp2_with (refine⟨trivial,?_⟩;gi_at_call 226;refine(callsIn_wide.2 q.out).mono ?_;rintro e w1 ⟨rfl,p⟩;obtain⟨q1,q2,q3,ag,ak,am,I⟩:=HG.out w1 p;have be:=zA ag;have bf:=zA ak;have bg:=zA am;have b_:=zA I;obtain⟨fn,tmps,b',ca,hy,ap⟩:=hY.out () pre u wr _ y.out I (by have:=G.out;have:=H.out;have:=tF n a;omega);have bi:=zA ap;clear p ag ak am I ap)
    refine bi.out.mono ?_;rintro e W3 (⟨rfl,ar,s⟩|⟨rfl,av⟩)
    ·have bk:=zA (be.out.of_heap (s g (.inl rfl)))
     have bn:=zA ((s b (.inr (.inl rfl))).trans bf.out);have bo:=zA (Kd.fj bg.out (fun k hk=>s k (.inr (.inr hk))));have bv:=zA ar;clear ar s hy q1 q2 q3;gi_wp2;gi_roundg (13*dO n (cL a (pre++[u]))+n)
     case measure=>rw[P.out,H.out,om];omega
     case rel=>
      refine⟨pre++[u],0,rfl,by omega,bv,bk,bn,bo,⟨fun x O=>by omega⟩,⟨?_⟩,⟨rfl⟩,⟨by have:=G.out;have:=H.out;rw[om];simp;omega⟩⟩;rw[F.out,a5.out,om];simp
    ·clear hy q1 q2 q3
     have bx:=zA av;clear av;gi_wp2;refine bodyPost_ret (results_none rfl _ _ _) rfl ?_;exact⟨⟨_,rfl⟩,.inr ⟨(),pre++[u],trivial,bx.out⟩⟩
  ·have r:u=n:=by omega
   subst r;gi_wp2;go_end0;exact⟨⟨_,rfl⟩,.inl ⟨(),pre,⟨by rw[F.out,Bn E.out];simp,h.out⟩,y.out⟩⟩
end
section
section
variable {F:Fence} {n:Nat} {P:Program} {ops:Array Oper} {rest:List Oper} {o:Oper} {a:Act} {Q:Exit->Act->World->Prop} {α:Type}
theorem ot (d:Kd α) {w0 W:World} (base:Nat) (w:o.guard=none) (s x:Operand) (t e:TypeId) (z:Value) (bytes:Nat)
  (j:o.op= .call {callee:=.builtin .append,args:=#[s,x],argTypes:=#[t,t]})
  (y:P.underlying t=some (.slice e)) (B:(P.info? e).map (fun i=>(i.zero,i.size,i.bytes))=some (some z,d.sz,bytes)) (C:z.cells.size=d.sz) (D:0<d.sz) (E:0<bytes)
  (v:Value) (xs:List α) (p:α) (cs:List Value) (ok okp:Nat->Prop) (G:a.eval s=v) (H:a.eval x= .slice (some ⟨W.heap.size,0,none⟩) 1 1) (hp:d.M W base okp p cs) (I:∀k,okp k->ok k/\some k≠v.ownBlock) (J:∀k,W.heap.size<=k->ok k)
  (L:d.R e W base ok v xs) (N:Below base w0 W) (O:base<=W.heap.size) (l:(xs.length+1)*bytes<=140737488355328)
  (h:∀v1 w1,d.R e w1 base ok v1 (xs++[p])->Below base w0 w1->W.grownBy w1 v.ownBlock->(v1.ownBlock=v.ownBlock\/∃b,v1.ownBlock=some b/\W.heap.size<=b)->wpListIn F n P ops Q rest (a.put o.dst v1) w1):
  wpListIn F n P ops Q (o::rest) a (W.alloc (.cells cs.toArray e)):=by
 obtain⟨S,inner,m,T⟩:=L;have U:cs.length=d.sz:=d.dU (d.cV hp);have h1:=d.ef (d.cV hp);obtain⟨i0,hi,q⟩:=Option.map_eq_some_iff.1 B;simp only[Prod.mk.injEq] at q;obtain⟨V,X,Y⟩:=q;have hlen:xs.length+1<=140737488355328:=Nat.le_trans (Nat.le_mul_of_pos_right _ E) l;refine wpListIn_plain w fun K Z=>?_
 obtain⟨v1,w1,aa,ab,hg,_,g⟩:=run_append_own_at (P:=P) (W.alloc (.cells cs.toArray e)) base t o.type e i0 z d.sz bytes y hi V X Y C D v xs.length inner (m.alloc _) ⟨W.heap.size,0,none⟩ 1 1 cs (by rw[U];simp)
  (by simpa using World.news_of_block (cs:=cs.toArray) (t:=e) (fr:=(0,0)) (bl W (.cells cs.toArray e))) h1 (by simp only[maxLen];omega) l (by simp;omega)
 have r:W.grownBy w1 v.ownBlock:=World.grownBy.trans (World.grownBy_alloc W _ _) hg;have u:v1.ownBlock=v.ownBlock\/∃b,v1.ownBlock=some b/\W.heap.size<=b:=by
  rcases g with g|g
  ·exact .inl g
  ·exact .inr ⟨_,g,by simp⟩
 unfold Oper.wpIn;refine⟨?_,?_⟩
 ·simp[Oper.about,j,resolve,Target.leads,Sem.run_pure]
 ·rw[Oper.semAt_plain F _ _ (by rw[j];intro c ad;cases ad)]
  simp[execOp,j,resolve,invoke,builtin,G,H,aa,Result.andThen];exact Z _ _ (h v1 w1 (Kd.o9 S T hp I J ab r u) ((N.alloc O _).grown hg (by simp;omega) (jK m)) r u)
end
theorem ou {α:Type} {d:Kd α} {e base nw:Nat} {ok:Nat->Prop} {v:Value} {xs:List α} {W w1:World} (g:d.R e W base ok v xs) (hg:W.grownBy w1 v.ownBlock):cp nw W w1:=fun k o h1 i b h=>by
 refine(hg.block k (Array.getElem?_eq_some_iff.1 b).1 (fun e=>?_)).trans b;obtain⟨cells,a⟩:=Kd.gw g k e.symm;rw[b] at a;injection a with a;subst a;simp[Obj.isCells] at h
theorem fz {nw bo j:Nat} (W:World) (v:Value) (h:bo<nw):cp nw W (W.setCell ⟨bo,j,none⟩ v):=fun k o h1 b a e=>by
 rw[Below.heap_setCell _ _ _ _ (by simp;omega)];exact a
theorem cW {nw:Nat} {W w1:World} (h:Below W.heap.size W w1):cp nw W w1:=fun k o h1 b a e=>(h.block k (Array.getElem?_eq_some_iff.1 a).1).trans a
theorem dq {α:Type} {d:Kd α} {e base l:Nat} {ok:Nat->Prop} {v:Value} {xs:List α} {A B:World} (h:d.R e A base ok v xs) (hb:Bk l A B):d.R e B base ok v xs:=
 Kd.ba (Kd.fj (Kd.eD h) (fun k hk=>by obtain⟨_,_,_,q,_,cells,a⟩:=hk;exact(hb.cells a).trans a.symm)) (fun k hk=>hk.1)
theorem tH (A:Option Addr) (m a c:Nat):(Value.slice A m c).ownBlock=(Value.slice A a c).ownBlock:=by cases A<;>rfl
theorem i' {F:Fence} {n:Nat} {P:Program} {fn:Func} {R:Ending->World->Prop} {a:Act} {w:World} {D:Nat} {v:Value} (hd:a.defers=[{target:=.collected D,args:=#[]}]) (b:w.heap[D]? =some (.deferred (some [])))
  (e:(results fn a.tmps).run P (w.putObj D (.deferred none))= .ok v (w.putObj D (.deferred none))) (g:R (.returned v) (w.putObj D (.deferred none))):bodyPostM F n P fn R .ret a w:=by
 show LeavesInM F n P fn a.tmps R a.defers .returning w
 rw[hd];exact⟨by simp,.inl ⟨_,_,rfl,run_takeDeferred b,⟨_,e,g⟩⟩⟩
theorem Bs {F:Fence} {n:Nat} {P:Program} {c:Code} {K:Act->World->Prop} {Q:Exit->Act->World->Prop} {a:Act} {w:World} (h:c.wpIn F n P (Exit.then K (fun _ _ _=>False)) a w):c.wpIn F n P (Exit.then K Q) a w:=
 wpIn_mono h (fun e a w h=>by cases e<;>first|exact h|exact h.elim)
end
section
attribute [local go_sem] Oper.semAt_some
theorem tI (N:Int) (A0:Option Addr) (c0:Nat) (E:List S83) (w:World):Calls Tryz.prog 85 #[.agg #[.int .i64 N,.slice A0 E.length c0]] w fun e w'=>e= .returned (.func (.func 140) #[] #[.pointer (some ⟨w.heap.size,0,none⟩)])/\w'=w.alloc (.cells #[.int .i64 N,.slice A0 E.length c0] 24):=by
 go_enter Tryz.func85,Tryz.ntmps85
 go_wp2;go_ret;exact⟨rfl,rfl⟩
def fW (s:Nat) (a b:Int):Nat->List (Nat×Int×Int)
 |0=>[]
 |j+1=>fW s a b j++[(s+j,a,b)]
def cg (E:List S83):Nat->List (Nat×Int×Int)
 |0=>[]
 |k+1=>cg E k++fW (cK E k) (ae E k).f0 (ae E k).f1 (ae E k).f2.toNat
theorem qb (s:Nat) (a b:Int):∀j,(fW s a b j).length=j
 |0=>rfl
 |j+1=>by simp[fW,qb s a b j]
theorem ow (E:List S83):∀k,(cg E k).length=cK E k
 |0=>rfl
 |k+1=>by simp[cg,cK,ow E k,qb]
def qc (base:Nat) (X Y:World):Prop:=(base<=X.heap.size->Below base X Y)/\∀(k:Nat) (cs:Array Value) (t:TypeId),(t=24\/t=83)->X.heap[k]? =some (Obj.cells cs t (0,0))->Y.heap[k]? =some (Obj.cells cs t (0,0))
theorem tJ (s:Nat) (a b:Int) (j:Nat):∀m,j<m->(s+j,a,b)∈fW s a b m
 |0,h=>by omega
 |m+1,h=>by
  by_cases e:j=m
  ·subst e;exact List.mem_append.2 (.inr (List.mem_singleton.2 rfl))
  ·exact List.mem_append.2 (.inl (tJ s a b j m (by omega)))
theorem tK (E:List S83):∀(m k:Nat),∀x∈cg E k,x∈cg E (k+m)
 |0,k,x,a=>a
 |m+1,k,x,a=>List.mem_append.2 (.inl (tK E m k x a))
theorem tL (s:Nat) (a b:Int):∀m,∀x∈fW s a b m,x.2.1=a/\x.2.2=b
 |0,x,e=>by cases e
 |m+1,x,e=>by
  rcases List.mem_append.1 e with e|e
  ·exact tL s a b m x e
  ·obtain rfl:=List.mem_singleton.1 e;exact⟨rfl,rfl⟩
theorem qd (E:List S83):∀k,k<=E.length->∀x∈cg E k,∃e∈E,x.2.1=e.f0/\x.2.2=e.f1
 |0,_,x,a=>by cases a
 |k+1,hk,x,a=>by
  rcases List.mem_append.1 a with a|a
  ·exact qd E k (by omega) x a
  ·have h:=tL _ _ _ _ x a
   have e:ae E k=E[k]:=by simp[ae,bb,bP (show k<E.length by omega)]
   exact⟨ae E k,by rw[e];exact List.getElem_mem _,h.1,h.2⟩
theorem tM (g:Nat) (N:Int) (A0:Option Addr) (c0:Nat) (E:List S83) (w0 W:World) (am:Kd.C aN w0 A0 E.length E) (O:eQ E=true) (hB:Below w0.heap.size w0 W)
  (v:W.heap[g]? =some (.cells #[.int .i64 N,.slice A0 E.length c0] 24 (0,0))):
  i_ (σ:=Unit) Fence.wide 9 Tryz.prog 140 #[.pointer (some ⟨g,0,none⟩)] (fun x:Nat×Int×Int=>#[.int .i64 x.1,.agg #[.int .i64 x.2.1,.int .i64 x.2.2]]) (fun _ W W1=>W1=W) (fun _ A B=>Below A.heap.size A B) (fun _ x A B=>x∈cg E E.length/\Below A.heap.size A B)
   (fun _ X Y=>qc w0.heap.size X Y)
   (fun _ xs W'=>xs=cg E E.length) (fun _ _ _=>True) (fun pre=>pre.length<2000) W:=by
 intro lp J Jx P Q R S;have ap:=zA P;have bn:=zA Q;have hY:=zA S;have av:=R () W rfl;clear P Q R S;have hu:=Tryz.underlying24;have bo:=Tryz.underlying83;obtain⟨hlen,hm⟩:=p_ O;have aY:=fun i hi=>od hm i hi
 have HM:=zA hm;have HS:=zA aY;clear hm aY O;refine callsIn_of_wp Tryz.func140 rfl trivial ?_ rfl;simp only[Tryz.ntmps140,List.size_toArray,List.length_cons,List.length_nil,Nat.reduceAdd,Nat.reduceSub,Array.replicate_succ,Array.replicate_zero,List.push_toArray,List.append_toArray,List.nil_append,List.cons_append];have bv:W.cell? ⟨g,1,none⟩=some (.slice A0 E.length c0):=(ai v 1).trans rfl;have aL:=zA v;clear v;gi_wp2;gi_loopg [3,9] (E.length) (fun w s i wr=>∃k:Nat,i= .int .i64 k/\s= .int .i64 (cK E k:Nat)/\k<=E.length/\Aside0 (J () (cg E k) wr)/\Aside0 (wr.heap[g]? =some (.cells #[.int .i64 N,.slice A0 E.length c0] 24 (0,0)))/\Aside0 (Below w0.heap.size w0 wr)/\Aside0 (w=E.length-k))
 case atStart=>exact⟨0,rfl,rfl,Nat.zero_le _,⟨av⟩,aL,⟨hB⟩,⟨rfl⟩⟩
 case round=>
  obtain⟨k,rfl,rfl,hk,T,HX,p,HK⟩:=hrel;by_cases aS:k<E.length
  ·have y:=HM.out k aS
   have z:=Lib.hid (show cK E (k+1)=cK E k+(ae E k).f2.toNat from rfl);have D:=Lib.hid (show cg E (k+1)=cg E k++fW (cK E k) (ae E k).f0 (ae E k).f1 (ae E k).f2.toNat from rfl);have a0:=HS.out (k+1) (by omega);have F:=z.out;obtain⟨ad,rfl,l,n,o⟩:=dB am k (by omega) (by omega);rw[aQ] at l n o;generalize ae E k=x at y l n o z D F;obtain⟨a,b,m⟩:=x;simp only at y l n o;obtain⟨m,rfl⟩:=Int.eq_ofNat_of_zero_le (show 0<=m by omega);simp only[aQ] at F;have bw:cK E k+m<=2000:=by omega
   have b0:m<=50:=by omega
   have b1:(0:Int)<=(k:Int):=by omega
   have b2:(k:Int)<(E.length:Int):=by omega
   have l:=iu p.out l;have n:=iu p.out n;have o:=iu p.out o;have G:=zA (ap.out () _ _ _ T.out (ao (al wr.heap.size wr) (.cells #[.int .i64 a,.int .i64 b,.int .i64 m] 83)));have H:=zA (aw HX.out (.cells #[.int .i64 a,.int .i64 b,.int .i64 m] 83));have I:=zA (ao p.out (.cells #[.int .i64 a,.int .i64 b,.int .i64 m] 83));have q:=zA (show (wr.alloc (.cells #[.int .i64 a,.int .i64 b,.int .i64 m] 83)).heap[wr.heap.size]? =some (.cells #[.int .i64 a,.int .i64 b,.int .i64 m] 83 (0,0)) from bl _ _);clear F a0 y;gi_wp2;clear l n o;generalize (wr.alloc (.cells #[.int .i64 a,.int .i64 b,.int .i64 m] 83))=W1 at G H I q⊢;generalize wr.heap.size=r at q⊢;gi_loopg [3,15] (m) (fun w s i wi=>∃j:Nat,i= .int .i64 j/\s= .int .i64 (cK E k+j:Nat)/\j<=m/\Aside0 (J () (cg E k++fW (cK E k) a b j) wi)/\Aside0 (wi.heap[g]? =some (.cells #[.int .i64 N,.slice (some ad) E.length c0] 24 (0,0)))/\Aside0 (wi.heap[r]? =some (.cells #[.int .i64 a,.int .i64 b,.int .i64 m] 83 (0,0)))/\Aside0 (Below w0.heap.size w0 wi)/\Aside0 (w=m-j))
   case atStart=>exact⟨0,rfl,rfl,Nat.zero_le _,⟨by simpa [fW] using G.out⟩,H,q,I,⟨rfl⟩⟩
   case round=>
    clear G H I q;obtain⟨j,rfl,rfl,hj,U,V,K,L,a1⟩:=hrel;by_cases a2:j<m
    ·have a3:=ow E k
     have a4:=qb (cK E k) a b j;obtain⟨fn,tmps,b4,b5,M,Z⟩:=hY.out () (cg E k++fW (cK E k) a b j) (cK E k+j,a,b) wr wr U.out ⟨by have h:=tK E (E.length- (k+1)) (k+1) (cK E k+j,a,b) (by rw[D.out];exact List.mem_append.2 (.inr (tJ _ _ _ j _ (by rw[aQ];exact a2))));rw[show k+1+(E.length- (k+1))=E.length by omega] at h;exact h,al _ _⟩ (by rw[List.length_append];omega);have a5:=zA Z;simp only[Int.natCast_add] at M;have aa:wr.cell? ⟨r,0,none⟩=some (.int .i64 a):=(ai K.out 0).trans rfl;have ab:wr.cell? ⟨r,1,none⟩=some (.int .i64 b):=(ai K.out 1).trans rfl;clear Z a3 a4;gi_wp2;refine a5.out.mono ?_;rintro e W3 (⟨rfl,ag,u⟩|⟨rfl,ak⟩)
     ·have a9:=zA ag
      have be:=zA (u.2 g _ _ (.inl rfl) V.out);have bf:=zA (u.2 r _ _ (.inr rfl) K.out);have bg:=zA (L.out.trans (u.1 L.out.size));clear ag u M aa ab;gi_wp2;gi_roundg (m- (j+1))
      case measure=>rw[a1.out];omega
      case rel=>exact⟨j+1,by go_num,by go_num,by omega,⟨by simpa [fW] using a9.out⟩,be,bf,bg,⟨rfl⟩⟩
     ·have bi:=zA ak
      clear ak M aa ab;gi_wp2;refine bodyPost_ret (results_none rfl _ _ _) rfl ?_;exact⟨⟨_,rfl⟩,.inr ⟨(),_,trivial,bi.out⟩⟩
    ·obtain rfl:j=m:=by omega
     gi_wp2;gi_roundg (E.length- (k+1))
     case measure=>rw[HK.out];omega
     case rel=>exact⟨k+1,by go_num,by rw[z.out,aQ],by omega,⟨by rw[D.out,aQ];exact U.out⟩,V,L,⟨rfl⟩⟩
  ·obtain rfl:k=E.length:=by omega
   gi_wp2;go_end0;exact⟨⟨_,rfl⟩,.inl ⟨(),_,rfl,T.out⟩⟩
theorem Bt (b:Nat) (N:Int) (A0:Option Addr) (c0:Nat) (E:List S83) (w0 W:World) (g:Kd.C aN w0 A0 E.length E) (h:eQ E=true) (i:Below w0.heap.size w0 W)
  (j:W.heap[b]? =some (.cells #[.int .i64 N,.slice A0 E.length c0] 24 (0,0))):
  i_ (σ:=Unit) Fence.wide 9 Tryz.prog 140 #[.pointer (some ⟨b,0,none⟩)] (fun x:Nat×Int×Int=>#[.int .i64 x.1,.agg #[.int .i64 x.2.1,.int .i64 x.2.2]]) (fun _ W W1=>W1=W) (fun _ A B=>Below A.heap.size A B) (fun _ _ A B=>Below A.heap.size A B)
   (fun _ X Y=>qc w0.heap.size X Y)
   (fun _ xs W'=>xs=cg E E.length) (fun _ _ _=>True) (fun pre=>pre.length<2000) W:=fun k J Jx l m n o=>tM b N A0 c0 E w0 W g h i j k J Jx (fun s pre A B a e=>l s pre A B a e) (fun s pre A B a e=>m s pre A B a e) n (fun s pre x p W1 a q r=>o s pre x p W1 a q.2 r)
end
theorem tN (w:World) (ok:Nat->Prop) (a:ok w.heap.size) (e:Nat):(Kd.int .i64).R e (w.alloc (.cells #[] e)) w.heap.size ok (.slice (some ⟨w.heap.size,0,none⟩) 0 0) []:=
 ⟨fun k hk=>by
  have:w.heap.size=k:=by simpa [Value.ownBlock] using hk
  subst this;exact a,[],by
  show World.ownsRow _ _ _ 1 _ _ _
  simpa using World.ownsRow_lit (base:=w.heap.size) (e:=e) (size:=1) w #[] 0 (aI _) (by decide) rfl,aR.none _ _⟩
theorem tO {l:List Int} {w:World} (h:Kd.C (Kd.int .i64) w none l.length l):l=[]:=by
 cases l with
 |nil=>rfl
 |cons x xs=>obtain⟨ad,e,_⟩:=h.2.2 (by simp);cases e
def clone.f (l0:List Int):Option (List Int):=if l0.length<17592186044416 then some l0 else none
abbrev fM.f (l0:List Int):Option (List Int):=clone.f l0
abbrev mN.f (l0:List Int):Option (List Int):=clone.f l0
theorem fM.calls (A0:Option Addr) (c0:Nat) (l0:List Int) (r:List Int) (w:World) (b:Kd.C (Kd.int .i64) w A0 l0.length l0) (j:l0.length<=c0) (h:fM.f l0=some r):
  Calls Tryz.prog 57 #[.slice A0 l0.length c0] w fun e w'=>∃g:Value,e= .returned (g)/\Kd.R (Kd.int .i64) 3 w' w.heap.size (fun _=>True) g r/\Below w.heap.size w w':=by
 have hu:=Tryz.underlying26;have k:=fun (w:World) (a:Option Addr) (n c:Nat)=>Lib.run_eql_slice_nil (P:=Tryz.prog) w 26 3 a n c 0 0 hu
 unfold fM.f clone.f at h;split at h
 ·rename_i l
  obtain rfl:=aE h;cases A0 with
  |none=>
   go_enter Tryz.func57,Tryz.ntmps57
   go_wp2;go_ret;obtain rfl:=tO b;exact⟨_,rfl,Kd.dc _ _ _ _ _,al _ _⟩
  |some ad=>
   go_enter Tryz.func57,Tryz.ntmps57
   go_wp2_with (at_builtin;refine Kd.rW (w0:=w) (Value.int .i64) (0:Int) (h1:=fun _=>rfl) w.heap.size rfl (.tmp 5) (.tmp 6) 26 3 (.int .i64 0) 8 rfl Tryz.underlying26 gD rfl (by decide) (.slice (some ⟨w.heap.size,0,none⟩) 0 0) [] l0 (some ad) l0.length c0 (fun _=>True) rfl rfl (fun _ _=>trivial) (tN w _ trivial 3) (Kd.aq b (ao (al _ _) _)) (ao (al _ _) _) (by simp) (by simp;omega) ?_;intro v1 w1 i hb hg _)
   go_ret;exact⟨_,rfl,i,hb⟩
 ·cases h
theorem mN.calls (A0:Option Addr) (c0:Nat) (l0:List Int) (r:List Int) (w:World) (b:Kd.C (Kd.int .i64) w A0 l0.length l0) (j:l0.length<=c0) (h:mN.f l0=some r):
  Calls Tryz.prog 217 #[.slice A0 l0.length c0] w fun e w'=>∃g:Value,e= .returned (g)/\Kd.R (Kd.int .i64) 3 w' w.heap.size (fun _=>True) g r/\Below w.heap.size w w':=by
 have hu:=Tryz.underlying25;have k:=fun (w:World) (a:Option Addr) (n c:Nat)=>Lib.run_eql_slice_nil (P:=Tryz.prog) w 25 3 a n c 0 0 hu
 unfold mN.f clone.f at h;split at h
 ·rename_i l
  obtain rfl:=aE h;cases A0 with
  |none=>
   go_enter Tryz.func217,Tryz.ntmps217
   go_wp2;go_ret;obtain rfl:=tO b;exact⟨_,rfl,Kd.dc _ _ _ _ _,al _ _⟩
  |some ad=>
   go_enter Tryz.func217,Tryz.ntmps217
   go_wp2_with (at_builtin;refine Kd.rW (w0:=w) (Value.int .i64) (0:Int) (h1:=fun _=>rfl) w.heap.size rfl (.tmp 5) (.tmp 6) 25 3 (.int .i64 0) 8 rfl Tryz.underlying25 gD rfl (by decide) (.slice (some ⟨w.heap.size,0,none⟩) 0 0) [] l0 (some ad) l0.length c0 (fun _=>True) rfl rfl (fun _ _=>trivial) (tN w _ trivial 3) (Kd.aq b (ao (al _ _) _)) (ao (al _ _) _) (by simp) (by simp;omega) ?_;intro v1 w1 i hb hg _)
   go_ret;exact⟨_,rfl,i,hb⟩
 ·cases h
theorem qe:Tryz.zeroCells252=((List.replicate 145 (Value.int .i64 0))++[Value.slice none 0 0]++List.replicate 12 (Value.bool false)).toArray:=by kernel_rfl
theorem oe.new (n:Int) (chips:Value):oe ((Tryz.zeroCells252.setIfInBounds 0 (.int .i64 n)).setIfInBounds 145 chips) n (fun _ _=>0) chips (fun _=>false):=by
 have a:Tryz.zeroCells252.size=158:=by rw[qe];simp
 refine⟨by simp[a],?_,?_,?_,?_⟩
 ·rw[Array.getElem?_setIfInBounds_ne (by omega),Array.getElem?_setIfInBounds_self_of_lt (by omega)]
 ·intro i j hi b
  rw[Array.getElem?_setIfInBounds_ne (by omega),Array.getElem?_setIfInBounds_ne (by omega),qe];rw[List.getElem?_toArray,List.getElem?_append_left (by simp;omega),List.getElem?_append_left (by simp;omega),List.getElem?_replicate,if_pos (by omega)]
 ·rw[Array.getElem?_setIfInBounds_self_of_lt (by simp[a])]
 ·intro i hi
  rw[Array.getElem?_setIfInBounds_ne (by omega),Array.getElem?_setIfInBounds_ne (by omega),qe];rw[List.getElem?_toArray,List.getElem?_append_right (by simp),List.getElem?_replicate,if_pos (by simp;omega)]
theorem Bu (n q:Nat) (A0:Option Addr) (c0:Nat) (E:List S83) (L:Option Addr) (c2:Nat) (l:List Int) (w:World) (T:Kd.C aN w A0 E.length E) (aS:E.length<=c0) (am:Kd.C (Kd.int .i64) w L l.length l) (an:l.length<=c2) (hn:n<=12) (hq:q<n) (hE:ej n E) (a1:l.length<=n) (a2:n<=l.length):
  Calls Tryz.prog 220 #[.agg #[.int .i64 n,.slice A0 E.length c0],.int .i64 q,.slice L l.length c2] w (fun e w'=>∃g h o,e= .returned (.pointer (some ⟨g,0,none⟩))/\cF w' g n (timesOf E) (.slice h l.length o) (fun i=>if i=q then true else false)/\Kd.R (Kd.int .i64) 3 w' w.heap.size (fun _=>True) (.slice h l.length o) l/\Below w.heap.size w w'/\w.heap.size<=g):=by
 have hu:=Tryz.underlying24;go_enter Tryz.func220,Tryz.ntmps220
 go_wp2_with fail
 go_region_held3 (fun w'=>w'.cell? ⟨w.heap.size,0,none⟩=some (.int .i64 n)/\w'.cell? ⟨w.heap.size,1,none⟩=some (.slice A0 E.length c0)) (first|go_keep|(go_split_ands;exact⟨(G.cell (p:=⟨w.heap.size,0,none⟩) (by simp)).trans (by go_simp),(G.cell (p:=⟨w.heap.size,1,none⟩) (by simp)).trans (by go_simp)⟩))
  (first|(go_at_call 57;refine(fM.calls L c2 l l _ (Kd.aq am (gW (ao (al _ _) _))) an (by unfold fM.f clone.f;rw[if_pos (by omega)])).mono ?_;rintro e w1 ⟨v0,rfl,M,G⟩;obtain⟨h,o,rfl⟩:=Kd.bm M))
 rename_i hHeld;have N:cF (w1.alloc (.cells ((Tryz.zeroCells252.setIfInBounds 0 (.int .i64 n)).setIfInBounds 145 (.slice h l.length o)) 252)) w1.heap.size n (fun _ _=>0) (.slice h l.length o) (fun _=>false):=⟨_,by simpa using bl w1 _,oe.new _ _⟩;have U:Below w.heap.size w (w1.alloc (.cells ((Tryz.zeroCells252.setIfInBounds 0 (.int .i64 n)).setIfInBounds 145 (.slice h l.length o)) 252)):=ao (kV (gW (ao (al _ _) _)) (by simp) G) _;have V:Kd.R (Kd.int .i64) 3 (w1.alloc (.cells ((Tryz.zeroCells252.setIfInBounds 0 (.int .i64 n)).setIfInBounds 145 (.slice h l.length o)) 252)) w.heap.size (fun _=>True) (.slice h l.length o) l:=Kd.bc (Kd.aM M _) (by simp);have hg:w.heap.size<w1.heap.size:=by have:=G.size;simp at this;omega
 clear G M;generalize ar:w1.heap.size=g at N hg⊢;generalize (w1.alloc (.cells ((Tryz.zeroCells252.setIfInBounds 0 (.int .i64 n)).setIfInBounds 145 (.slice h l.length o)) 252))=W0 at N hHeld U V⊢;clear ar;obtain⟨a3,a4⟩:=hHeld;go_wp2;go_loopw [19] (fun u wr=>∃k:Nat,k<=E.length/\u= .int .i64 k/\Aside0 (cF wr g n (timesOf (E.take k)) (.slice h l.length o) (fun _=>false))/\Aside0 (Kd.R (Kd.int .i64) 3 wr w.heap.size (fun _=>True) (.slice h l.length o) l)/\Aside0 (Below w.heap.size w wr)) (fun u _=>E.length- (intOf u).toNat)
 case atStart=>exact⟨0,Nat.zero_le _,rfl,⟨by simpa [timesOf] using N⟩,⟨V⟩,⟨U⟩⟩
 case round=>
  obtain⟨k,hk,rfl,y,O,z⟩:=hrel;have a5:=T.2.1;by_cases W:k<E.length
  ·obtain⟨P,X,e2,Y,Z,e5⟩:=hE.get k W
   have ab:=sY E k W;have Q:=Lib.hid ab;clear ab;obtain⟨ad,rfl,B,D,F⟩:=dB T k (by omega) (by omega);rw[aQ] at B D F;replace B:=(z.out.cell (a8 w _ B)).trans B;replace D:=(z.out.cell (a8 w _ D)).trans D;replace F:=(z.out.cell (a8 w _ F)).trans F;generalize ae E k=x at P X e2 Y Z e5 B D F Q;obtain⟨a,b,m⟩:=x;simp only at P X e2 Y Z e5 B D F;obtain⟨a,rfl⟩:=Int.eq_ofNat_of_zero_le P;obtain⟨b,rfl⟩:=Int.eq_ofNat_of_zero_le e2;have a12:a<12:=by omega
   have s:b<12:=by omega
   by_cases H:a=b
   ·have av:((a:Int) != (b:Int))=false:=by rw[H];simp
    have S:=Lib.hid H;clear H;go_wp2;go_roundw
    case rel=>exact⟨k+1,by omega,by go_num,⟨by rw[Q.out];simp only[cQ];rw[if_pos (by rw[S.out])];exact y.out.below (ao (al _ _) _)⟩,⟨Kd.aM O.out _⟩,⟨ao z.out _⟩⟩
    case measure=>simp[intOf];omega
   ·have av:((a:Int) != (b:Int))=true:=by rw[bne_iff_ne];omega
    have a9:1+a*12+b≠1+b*12+a:=by omega
    have be:1+b*12+a≠1+a*12+b:=by omega
    have S:=Lib.hid H;clear H;have bf:=y.out.lt;have r:=zA (y.out.below (ao (al _ _) (.cells #[.int .i64 a,.int .i64 b,.int .i64 m] 83)));have f1:=r.out.frozen (1+a*12+b);have f2:=r.out.frozen (1+b*12+a);have c1:=r.out.mJ a b a12 s;have c2:=r.out.mJ b a s a12;go_wp2;have s0:(wr.alloc (.cells #[.int .i64 a,.int .i64 b,.int .i64 m] 83)).cell? ⟨wr.heap.size,0,none⟩=some (.int .i64 a):=by go_simp
    have s1:(wr.alloc (.cells #[.int .i64 a,.int .i64 b,.int .i64 m] 83)).cell? ⟨wr.heap.size,1,none⟩=some (.int .i64 b):=by go_simp
    have s2:(wr.alloc (.cells #[.int .i64 a,.int .i64 b,.int .i64 m] 83)).cell? ⟨wr.heap.size,2,none⟩=some (.int .i64 m):=by go_simp
    have ag:=zA (Kd.aM O.out (.cells #[.int .i64 a,.int .i64 b,.int .i64 m] 83));have ak:=zA (ao z.out (.cells #[.int .i64 a,.int .i64 b,.int .i64 m] 83));have aB:g≠wr.heap.size:=by omega
    have aF:wr.heap.size≠g:=by omega
    generalize (wr.alloc (.cells #[.int .i64 a,.int .i64 b,.int .i64 m] 83))=W2 at s0 s1 s2 r ag ak f1 f2 c1 c2⊢;generalize wr.heap.size=eb at aB aF s0 s1 s2⊢;have d1:=(r.out.mK b a s a12 m).mJ a b a12 s;have d2:=(r.out.mK a b a12 s m).mJ b a s a12;go_region
    have I:=(r.out.mK a b a12 s m).mK b a s a12 m;have J:=(r.out.mK a b a12 s m).eX (r.out.eX ag.out (by decide) (1+a*12+b) (.int .i64 m)) (by decide) (1+b*12+a) (.int .i64 m);have K:=et (et ak.out (g:=g) (j:=1+a*12+b) (v:=.int .i64 m) (by omega)) (g:=g) (j:=1+b*12+a) (v:=.int .i64 m) (by omega);generalize ((W2.setCell ⟨g,1+a*12+b,none⟩ (.int .i64 m)).setCell ⟨g,1+b*12+a,none⟩ (.int .i64 m))=W3 at I J K⊢;replace I:=zA I;replace J:=zA J;replace K:=zA K;go_wp2;go_roundw
    case rel=>exact⟨k+1,by omega,by go_num,⟨by rw[Q.out];simp only[cQ];rw[if_neg (by have:=S.out;omega)];exact I.out.drew⟩,⟨Kd.bq J.out⟩,⟨gW K.out⟩⟩
    case measure=>simp[intOf];omega
  ·obtain rfl:k=E.length:=by omega
   have fq:=y.out.frozen (146+q);have cq:=y.out.lR q (by omega);have aL:=zA (y.out.tD q (by omega) true);have aO:=zA (y.out.eX O.out (by decide) (146+q) (.bool true));have aP:=zA (et z.out (g:=g) (j:=146+q) (v:=.bool true) (by omega));go_wp2;go_ret;exact⟨g,h,o,rfl,by simpa using aL.out,aO.out,aP.out,by omega⟩
def iH.f (a0:Int):Option (Bool):=if a0>=(-1048576) then(some (decide (a0<=1048576))) else(some false)
theorem iH.calls (a0:Int) (r:Bool) (w:World) (h:iH.f a0=some r):
  Calls Tryz.prog 119 #[.int .i64 a0] w fun e w'=>e= .returned (.bool r)/\aA w w':=by
 have H:(if a0>=(-1048576) then(some (decide (a0<=1048576))) else(some false))=some r:=h;clear h;by_cases c2:a0>=(-1048576)
 ·rw[if_pos c2] at H
  have a:=ay c2;clear c2;obtain rfl:=aE H;go_enter Tryz.func119,Tryz.ntmps119
  go_wp2;go_ret;exact⟨zT,by repeat(first|exact aA.refl _|apply aA.step)⟩
 ·rw[if_neg c2] at H
  have a:=a6 c2;clear c2;obtain rfl:=aE H;go_enter Tryz.func119,Tryz.ntmps119
  go_wp2;go_ret;exact⟨zT,by repeat(first|exact aA.refl _|apply aA.step)⟩
def jw.f (a0:Int):Option (Int):=if a0<1 then(some 2) else(if a0>12 then(some 2) else(some 0))
theorem jw.calls (a0:Int) (r:Int) (w:World) (h:jw.f a0=some r):
  Calls Tryz.prog 141 #[.int .i64 a0] w fun e w'=>e= .returned (.int .i64 r)/\aA w w':=by
 have H:(if a0<1 then(some 2) else(if a0>12 then(some 2) else(some 0)))=some r:=h;clear h;by_cases c2:a0<1
 ·rw[if_pos c2] at H
  have a:=ay c2;clear c2;obtain rfl:=aE H;go_enter Tryz.func141,Tryz.ntmps141
  go_wp2;go_ret;exact⟨zT,by repeat(first|exact aA.refl _|apply aA.step)⟩
 ·rw[if_neg c2] at H
  have a:=a6 c2;clear c2;by_cases c3:a0>12
  ·rw[if_pos c3] at H
   have b:=ay c3;clear c3;obtain rfl:=aE H;go_enter Tryz.func141,Tryz.ntmps141
   go_wp2;go_ret;exact⟨zT,by repeat(first|exact aA.refl _|apply aA.step)⟩
  ·rw[if_neg c3] at H
   have b:=a6 c3;clear c3;obtain rfl:=aE H;go_enter Tryz.func141,Tryz.ntmps141
   go_wp2;go_ret;exact⟨zT,by repeat(first|exact aA.refl _|apply aA.step)⟩
def bz.l0:Nat->List Int->Int->Int->Option (Int)
 |0,_,_,_=>none
 |k+1,b,e,a=>if a<e then(if 0<=a then(if a<(b.length:Int) then((iH.f (rd b a)).bind fun t192=>(if t192=true then(bz.l0 k b e (wrap64 (a+1))) else(some 2))) else(none)) else(none)) else(some 0)
def bz.f (k:Nat) (l0:List Int) (a:Int):Option (Int):=(jw.f a).bind fun t190=>(if t190=0 then(if(l0.length:Int)=a then(bz.l0 k l0 (l0.length:Int) 0) else(some 8)) else(some t190))
theorem bz.cn:∀k,(∀a b e,aj (bz.l0 k a b e) (bz.l0 (k+1) a b e))
 |0=>fun _ _ _ r h=>by simp[bz.l0] at h
 |k+1=>by
  have g:=bz.cn k
  ·intro a b e
   unfold bz.l0;with_reducible repeat' first|exact g _ _ _|exact aj.refl _|exact aj.none _|refine aj.ite ?_ ?_|refine aj.bind ?_ (fun _=>?_)
theorem bz.mono:∀a0 a k,aj (bz.f k a0 a) (bz.f (k+1) a0 a):=by
 intro a0 a k;have b:=bz.cn k;unfold bz.f;with_reducible repeat' first|exact b _ _ _|exact aj.refl _|exact aj.none _|refine aj.ite ?_ ?_|refine aj.bind ?_ (fun _=>?_)
theorem bz.calls (k:Nat) (A0:Option Addr) (c0:Nat) (l0:List Int) (b:Int) (r:Int) (w:World) (x:Kd.C (Kd.int .i64) w A0 l0.length l0) (y:l0.length<=c0) (h:bz.f k l0 b=some r):
  Calls Tryz.prog 87 #[.slice A0 l0.length c0,.int .i64 b] w fun e w'=>e= .returned (.int .i64 r)/\aA w w':=by
 have z:=zA x;have P:=zA y;clear x y;unfold bz.f at h;have H:=h;clear h;obtain⟨t190,s,H⟩:=zo H;by_cases c4:t190=0
 ·rw[if_pos c4] at H
  obtain⟨B,D⟩:=br c4;clear c4;by_cases l:(l0.length:Int)=b
  ·rw[if_pos l] at H
   obtain⟨E,F⟩:=br l;clear l;have m:=zA H;clear H;go_enter Tryz.func87,Tryz.ntmps87
   go_wp2_with (first|((with_reducible refine aC (f:=141) rfl ?_);refine zL (some 9) Tryz.func141 #[.int .i64 b] ?_;(with_reducible refine(jw.calls b t190 _ s.out).mono ?_);rintro e w' ⟨rfl,⟨n,rfl⟩⟩;refine⟨_,rfl,?_⟩))
   go_loopg [19] k (fun G K w'=>∃(a:Int),K= .int .i64 a/\Aside0 (bz.l0 G l0 (l0.length:Int) a=some r)/\Aside0 (G<=k)/\aA w w')
   case atStart=>exact⟨(0),zT,m,⟨aI _⟩,by repeat(first|exact aA.refl _|apply aA.step)⟩
   case round=>
    clear m;clear B D E F;obtain⟨a,rfl,u,I,⟨m1,rfl⟩⟩:=hrel;cases gk with
    |zero=>exact absurd u.out (by simp[bz.l0])
    |succ L=>
     have H:=u.out;clear u;simp only[bz.l0] at H;by_cases j:a<(l0.length:Int)
     ·rw[if_pos j] at H
      have M:=ay j;clear j;by_cases o:0<=a
      ·rw[if_pos o] at H
       have Q:=ay o;clear o;by_cases p:a<(l0.length:Int)
       ·rw[if_pos p] at H
        have R:=ay p;clear p;obtain⟨t192,J,H⟩:=zo H;by_cases q:t192=true
        ·subst q
         replace H:=zi H;have m:=zA H;clear H;have g:0<=(a:Int):=ax ‹_›;have i:a<(l0.length:Int):=ax ‹_›;obtain⟨N,v,O⟩:=Kd.bT z.out a g i;cases v;replace g:=eq_true g;replace i:=eq_true i;go_wp2_with (first|((with_reducible refine aC (f:=119) rfl ?_);refine zL (some 24) Tryz.func119 #[.int .i64 (rd l0 a)] ?_;(with_reducible refine(iH.calls (rd l0 a) true _ J.out).mono ?_);rintro e w' ⟨rfl,⟨n,rfl⟩⟩;refine⟨_,rfl,?_⟩))
         go_roundg L
         case measure=>have:=I.out;omega
         case rel=>exact⟨(wrap64 (a+1)),zT,m,⟨by have:=I.out;omega⟩,by repeat(first|exact aA.refl _|apply aA.step)⟩
        ·replace q:=Bool.eq_false_iff.mpr q
         subst q;replace H:=zj H;obtain rfl:=aE H;have g:0<=(a:Int):=ax ‹_›;have i:a<(l0.length:Int):=ax ‹_›;obtain⟨N,v,O⟩:=Kd.bT z.out a g i;cases v;replace g:=eq_true g;replace i:=eq_true i;go_wp2_with (first|((with_reducible refine aC (f:=119) rfl ?_);refine zL (some 24) Tryz.func119 #[.int .i64 (rd l0 a)] ?_;(with_reducible refine(iH.calls (rd l0 a) false _ J.out).mono ?_);rintro e w' ⟨rfl,⟨n,rfl⟩⟩;refine⟨_,rfl,?_⟩))
         go_ret;exact⟨zT,by repeat(first|exact aA.refl _|apply aA.step)⟩
       ·rw[if_neg p] at H
        exact absurd H (by simp)
      ·rw[if_neg o] at H
       exact absurd H (by simp)
     ·rw[if_neg j] at H
      have M:=a6 j;clear j;obtain rfl:=aE H;go_wp2;go_ret;exact⟨zT,by repeat(first|exact aA.refl _|apply aA.step)⟩
  ·rw[if_neg l] at H
   obtain⟨E,F⟩:=bG l;obtain rfl:=aE H;go_enter Tryz.func87,Tryz.ntmps87
   go_wp2_with (first|((with_reducible refine aC (f:=141) rfl ?_);refine zL (some 9) Tryz.func141 #[.int .i64 b] ?_;(with_reducible refine(jw.calls b t190 _ s.out).mono ?_);rintro e w' ⟨rfl,⟨n,rfl⟩⟩;refine⟨_,rfl,?_⟩))
   go_ret;exact⟨zT,by repeat(first|exact aA.refl _|apply aA.step)⟩
 ·rw[if_neg c4] at H
  obtain⟨B,D⟩:=bG c4;obtain rfl:=aE H;go_enter Tryz.func87,Tryz.ntmps87
  go_wp2_with (first|((with_reducible refine aC (f:=141) rfl ?_);refine zL (some 9) Tryz.func141 #[.int .i64 b] ?_;(with_reducible refine(jw.calls b t190 _ s.out).mono ?_);rintro e w' ⟨rfl,⟨n,rfl⟩⟩;refine⟨_,rfl,?_⟩))
  go_ret;exact⟨zT,by repeat(first|exact aA.refl _|apply aA.step)⟩
def cX.l0:Nat->Int->List Int->Int->Int->Option (Int)
 |0,_,_,_,_=>none
 |k+1,x1,b,e,a=>if a<e then(if 0<=a then(if a<(b.length:Int) then(if a=x1 then(cX.l0 k x1 b e (wrap64 (a+1))) else(if(rd b a)<0 then(some 2) else(cX.l0 k x1 b e (wrap64 (a+1))))) else(none)) else(none)) else(some 0)
def cX.f (k:Nat) (a:Int) (h:List (S83)) (b:Int) (l2:List Int):Option (Int):=(dp.f k a h b).bind fun e=>(if e=0 then((bz.f k l2 a).bind fun g=>(if g=0 then(cX.l0 k b l2 (l2.length:Int) 0) else(some g))) else(some e))
theorem cX.cn:∀k,(∀a b e g,aj (cX.l0 k a b e g) (cX.l0 (k+1) a b e g))
 |0=>fun _ _ _ _ r h=>by simp[cX.l0] at h
 |k+1=>by
  have i:=cX.cn k
  ·intro a b e g
   unfold cX.l0;with_reducible repeat' first|exact i _ _ _ _|exact bz.mono _ _ _|exact dp.mono _ _ _ _|exact aj.refl _|exact aj.none _|refine aj.ite ?_ ?_|refine aj.bind ?_ (fun _=>?_)
theorem cX.mono:∀a0 a a2 a3 k,aj (cX.f k a0 a a2 a3) (cX.f (k+1) a0 a a2 a3):=by
 intro a0 a a2 a3 k;have b:=cX.cn k;unfold cX.f;with_reducible repeat' first|exact b _ _ _ _|exact bz.mono _ _ _|exact dp.mono _ _ _ _|exact aj.refl _|exact aj.none _|refine aj.ite ?_ ?_|refine aj.bind ?_ (fun _=>?_)
theorem cX.calls (k:Nat) (i:Int) (p:Option Addr) (q:Nat) (j:List (S83)) (o:Int) (F:Option Addr) (c2:Nat) (l2:List Int) (r:Int) (w:World) (S:Kd.C aN w p j.length j) (T:j.length<=q) (U:Kd.C (Kd.int .i64) w F l2.length l2) (V:l2.length<=c2) (h:cX.f k i j o l2=some r):
  Calls Tryz.prog 224 #[.agg #[.int .i64 i,.slice p j.length q],.int .i64 o,.slice F l2.length c2] w fun e w'=>e= .returned (.int .i64 r)/\Below w.heap.size w w':=by
 have a5:=Tryz.underlying24;have L:=zA S;have M:=zA T;clear S T;have y:=zA U;have W:=zA V;clear U V;have a:=zA (al w.heap.size w);unfold cX.f at h;have H:=h;clear h;obtain⟨G,O,H⟩:=zo H;by_cases z:G=0
 ·rw[if_pos z] at H
  obtain⟨X,Y⟩:=br z;clear z;obtain⟨P,Z,H⟩:=zo H;by_cases B:P=0
  ·rw[if_pos B] at H
   obtain⟨aa,ab⟩:=br B;clear B;have u:=zA H;clear H;go_enter Tryz.func224,Tryz.ntmps224
   go_wp2_with (first|((with_reducible refine aH (N:=3) rfl ?_);refine zX 3 #[.int .i64 i,.slice p j.length q] 24 ?_;intro Q hg w8 s hb;have g:=zA (s);have ad:=zG a hg;have ag:=zG a hg;replace a:=zS a hb;clear hb s hg;obtain⟨ap,ar,av,aB⟩:=au g)|((with_reducible refine aC (f:=211) rfl ?_);refine zL (some 13) Tryz.func211 #[.agg #[.int .i64 i,.slice p j.length q],.int .i64 o] ?_;(with_reducible refine(dp.calls k i _ _ j o G _ ?af ?ah O.out).mono ?_);(case af=>exact Kd.aq L.out zB);(case ah=>exact M.out);rintro e be ⟨rfl,hb⟩;refine⟨_,rfl,?_⟩;replace g:=zb g hb;replace a:=zS a hb;(try clear hb);obtain⟨aF,aL,aO,aP⟩:=au g)|((with_reducible refine aC (f:=87) rfl ?_);refine zL (some 20) Tryz.func87 #[.slice F l2.length c2,.int .i64 i] ?_;(with_reducible refine(bz.calls k _ _ l2 i P _ ?af ?ah Z.out).mono ?_);(case af=>exact Kd.aq y.out zB);(case ah=>exact W.out);rintro e w' ⟨rfl,⟨nd,rfl⟩⟩;refine⟨_,rfl,?_⟩))
   go_loopg [26] k (fun kq v26 w'=>∃(b:Int),v26= .int .i64 b/\Aside0 (cX.l0 kq o l2 (l2.length:Int) b=some r)/\Aside0 (kq<=k)/\Aside0 (w'.heap[Q]? =some (.cells #[.int .i64 i,(.slice p j.length q)] 24 (0,0)))/\Aside0 (Below w.heap.size w w'))
   case atStart=>exact⟨(0),zT,u,⟨aI _⟩,⟨zK g⟩,⟨zB⟩⟩
   case round=>
    clear u;clear X Y aa ab aF aL ap ar aO aP av aB;obtain⟨b,rfl,R,I,g,a⟩:=hrel;cases gk with
    |zero=>exact absurd R.out (by simp[cX.l0])
    |succ k1=>
     have H:=R.out;clear R;simp only[cX.l0] at H;by_cases v:b<(l2.length:Int)
     ·rw[if_pos v] at H
      have a0:=ay v;clear v;by_cases J:0<=b
      ·rw[if_pos J] at H
       have bf:=ay J;clear J;by_cases K:b<(l2.length:Int)
       ·rw[if_pos K] at H
        have bg:=ay K;clear K;by_cases D:b=o
        ·rw[if_pos D] at H
         obtain⟨a2,a3⟩:=br D;clear D;have u:=zA H;clear H;have l:0<=(b:Int):=ax ‹_›;have m:b<(l2.length:Int):=ax ‹_›;obtain⟨an,E,n⟩:=Kd.bT y.out b l m;cases E;replace n:=(a.out.cell (a8 w _ n)).trans n;replace l:=eq_true l;replace m:=eq_true m;go_wp2;go_roundg k1
         case measure=>have:=I.out;omega
         case rel=>exact⟨(wrap64 (b+1)),zT,u,⟨by have:=I.out;omega⟩,⟨zK g⟩,⟨zB⟩⟩
        ·rw[if_neg D] at H
         obtain⟨a2,a3⟩:=bG D;by_cases x:(rd l2 b)<0
         ·rw[if_pos x] at H
          have a4:=ay x;clear x;obtain rfl:=aE H;have l:0<=(b:Int):=ax ‹_›;have m:b<(l2.length:Int):=ax ‹_›;obtain⟨an,E,n⟩:=Kd.bT y.out b l m;cases E;replace n:=(a.out.cell (a8 w _ n)).trans n;replace l:=eq_true l;replace m:=eq_true m;go_wp2;go_ret;exact⟨zE,zB⟩
         ·rw[if_neg x] at H
          have a4:=a6 x;clear x;have u:=zA H;clear H;have l:0<=(b:Int):=ax ‹_›;have m:b<(l2.length:Int):=ax ‹_›;obtain⟨an,E,n⟩:=Kd.bT y.out b l m;cases E;replace n:=(a.out.cell (a8 w _ n)).trans n;replace l:=eq_true l;replace m:=eq_true m;go_wp2;go_roundg k1
          case measure=>have:=I.out;omega
          case rel=>exact⟨(wrap64 (b+1)),zT,u,⟨by have:=I.out;omega⟩,⟨zK g⟩,⟨zB⟩⟩
       ·rw[if_neg K] at H
        exact absurd H (by simp)
      ·rw[if_neg J] at H
       exact absurd H (by simp)
     ·rw[if_neg v] at H
      have a0:=a6 v;clear v;obtain rfl:=aE H;go_wp2;go_ret;exact⟨zE,zB⟩
  ·rw[if_neg B] at H
   obtain⟨aa,ab⟩:=bG B;obtain rfl:=aE H;go_enter Tryz.func224,Tryz.ntmps224
   go_wp2_with (first|((with_reducible refine aH (N:=3) rfl ?_);refine zX 3 #[.int .i64 i,.slice p j.length q] 24 ?_;intro Q hg bi s hb;have g:=zA (s);have ad:=zG a hg;have ag:=zG a hg;replace a:=zS a hb;clear hb s hg;obtain⟨bk,bn,bo,bv⟩:=au g)|((with_reducible refine aC (f:=211) rfl ?_);refine zL (some 13) Tryz.func211 #[.agg #[.int .i64 i,.slice p j.length q],.int .i64 o] ?_;(with_reducible refine(dp.calls k i _ _ j o G _ ?af ?ah O.out).mono ?_);(case af=>exact Kd.aq L.out zB);(case ah=>exact M.out);rintro e bw ⟨rfl,hb⟩;refine⟨_,rfl,?_⟩;replace g:=zb g hb;replace a:=zS a hb;(try clear hb);obtain⟨bx,b0,b1,b2⟩:=au g)|((with_reducible refine aC (f:=87) rfl ?_);refine zL (some 20) Tryz.func87 #[.slice F l2.length c2,.int .i64 i] ?_;(with_reducible refine(bz.calls k _ _ l2 i P _ ?af ?ah Z.out).mono ?_);(case af=>exact Kd.aq y.out zB);(case ah=>exact W.out);rintro e w' ⟨rfl,⟨nd,rfl⟩⟩;refine⟨_,rfl,?_⟩))
   go_ret;exact⟨zE,zB⟩
 ·rw[if_neg z] at H
  obtain⟨X,Y⟩:=bG z;obtain rfl:=aE H;go_enter Tryz.func224,Tryz.ntmps224
  go_wp2_with (first|((with_reducible refine aH (N:=3) rfl ?_);refine zX 3 #[.int .i64 i,.slice p j.length q] 24 ?_;intro Q hg b3 s hb;have g:=zA (s);have ad:=zG a hg;have ag:=zG a hg;replace a:=zS a hb;clear hb s hg;obtain⟨b4,b5,b6,b_⟩:=au g)|((with_reducible refine aC (f:=211) rfl ?_);refine zL (some 13) Tryz.func211 #[.agg #[.int .i64 i,.slice p j.length q],.int .i64 o] ?_;(with_reducible refine(dp.calls k i _ _ j o G _ ?af ?ah O.out).mono ?_);(case af=>exact Kd.aq L.out zB);(case ah=>exact M.out);rintro e b' ⟨rfl,hb⟩;refine⟨_,rfl,?_⟩;replace g:=zb g hb;replace a:=zS a hb;(try clear hb)))
  go_ret;exact⟨zE,zB⟩
def gN.f (k:Nat) (e:Int) (g:List (S83)) (a:Int) (l2:List Int):Option (Int):=(cX.f k e g a l2).bind fun b=>(if b=0 then(if 0<=a then(if a<(l2.length:Int) then(if(rd l2 a)=0 then(some 0) else(some 3)) else(none)) else(none)) else(some b))
theorem gN.mono:∀a0 a a2 a3 k,aj (gN.f k a0 a a2 a3) (gN.f (k+1) a0 a a2 a3):=by
 intro a0 a a2 a3 k;unfold gN.f;with_reducible repeat' first|exact cX.mono _ _ _ _ _|exact aj.refl _|exact aj.none _|refine aj.ite ?_ ?_|refine aj.bind ?_ (fun _=>?_)
theorem gN.calls (k:Nat) (i:Int) (l:Option Addr) (m:Nat) (g:List (S83)) (b:Int) (s:Option Addr) (c2:Nat) (l2:List Int) (r:Int) (w:World) (J:Kd.C aN w l g.length g) (K:g.length<=m) (L:Kd.C (Kd.int .i64) w s l2.length l2) (M:l2.length<=c2) (h:gN.f k i g b l2=some r):
  Calls Tryz.prog 219 #[.agg #[.int .i64 i,.slice l g.length m],.int .i64 b,.slice s l2.length c2] w fun e w'=>e= .returned (.int .i64 r)/\Below w.heap.size w w':=by
 have W:=Tryz.underlying24;have D:=zA J;have E:=zA K;clear J K;have u:=zA L;have F:=zA M;clear L M;have a:=zA (al w.heap.size w);unfold gN.f at h;have H:=h;clear h;obtain⟨y,G,H⟩:=zo H;by_cases v:y=0
 ·rw[if_pos v] at H
  obtain⟨R,S⟩:=br v;clear v;by_cases z:0<=b
  ·rw[if_pos z] at H
   have X:=ay z;clear z;by_cases B:b<(l2.length:Int)
   ·rw[if_pos B] at H
    have Y:=ay B;clear B;by_cases x:(rd l2 b)=0
    ·rw[if_pos x] at H
     obtain⟨T,U⟩:=br x;clear x;obtain rfl:=aE H;go_enter Tryz.func219,Tryz.ntmps219
     go_wp2_with (first|((with_reducible refine aH (N:=3) rfl ?_);refine zX 3 #[.int .i64 i,.slice l g.length m] 24 ?_;intro O hg Z n hb;have j:=zA (n);have P:=zG a hg;have Q:=zG a hg;replace a:=zS a hb;clear hb n hg;obtain⟨aa,ab,ad,ag⟩:=au j)|((with_reducible refine aC (f:=224) rfl ?_);refine zL (some 11) Tryz.func224 #[.agg #[.int .i64 i,.slice l g.length m],.int .i64 b,.slice s l2.length c2] ?_;(with_reducible refine(cX.calls k i _ _ g b _ _ l2 y _ ?af ?ah ?aT ?aU G.out).mono ?_);(case af=>exact Kd.aq D.out zB);(case ah=>exact E.out);(case aT=>exact Kd.aq u.out zB);(case aU=>exact F.out);rintro e gV ⟨rfl,hb⟩;refine⟨_,rfl,?_⟩;replace j:=zb j hb;replace a:=zS a hb;(try clear hb);have o:0<=(b:Int):=ax ‹_›;have p:b<(l2.length:Int):=ax ‹_›;obtain⟨V,I,q⟩:=Kd.bT u.out b o p;cases I;replace q:=(a.out.cell (a8 w _ q)).trans q;replace o:=eq_true o;replace p:=eq_true p))
     go_ret;exact⟨zE,zB⟩
    ·rw[if_neg x] at H
     obtain⟨T,U⟩:=bG x;obtain rfl:=aE H;go_enter Tryz.func219,Tryz.ntmps219
     go_wp2_with (first|((with_reducible refine aH (N:=3) rfl ?_);refine zX 3 #[.int .i64 i,.slice l g.length m] 24 ?_;intro O hg ak n hb;have j:=zA (n);have P:=zG a hg;have Q:=zG a hg;replace a:=zS a hb;clear hb n hg;obtain⟨am,an,ap,ar⟩:=au j)|((with_reducible refine aC (f:=224) rfl ?_);refine zL (some 11) Tryz.func224 #[.agg #[.int .i64 i,.slice l g.length m],.int .i64 b,.slice s l2.length c2] ?_;(with_reducible refine(cX.calls k i _ _ g b _ _ l2 y _ ?af ?ah ?aT ?aU G.out).mono ?_);(case af=>exact Kd.aq D.out zB);(case ah=>exact E.out);(case aT=>exact Kd.aq u.out zB);(case aU=>exact F.out);rintro e av ⟨rfl,hb⟩;refine⟨_,rfl,?_⟩;replace j:=zb j hb;replace a:=zS a hb;(try clear hb);have o:0<=(b:Int):=ax ‹_›;have p:b<(l2.length:Int):=ax ‹_›;obtain⟨V,I,q⟩:=Kd.bT u.out b o p;cases I;replace q:=(a.out.cell (a8 w _ q)).trans q;replace o:=eq_true o;replace p:=eq_true p))
     go_ret;exact⟨zE,zB⟩
   ·rw[if_neg B] at H
    exact absurd H (by simp)
  ·rw[if_neg z] at H
   exact absurd H (by simp)
 ·rw[if_neg v] at H
  obtain⟨R,S⟩:=bG v;obtain rfl:=aE H;go_enter Tryz.func219,Tryz.ntmps219
  go_wp2_with (first|((with_reducible refine aH (N:=3) rfl ?_);refine zX 3 #[.int .i64 i,.slice l g.length m] 24 ?_;intro O hg aB n hb;have j:=zA (n);have P:=zG a hg;have Q:=zG a hg;replace a:=zS a hb;clear hb n hg;obtain⟨aF,aL,aO,aP⟩:=au j)|((with_reducible refine aC (f:=224) rfl ?_);refine zL (some 11) Tryz.func224 #[.agg #[.int .i64 i,.slice l g.length m],.int .i64 b,.slice s l2.length c2] ?_;(with_reducible refine(cX.calls k i _ _ g b _ _ l2 y _ ?af ?ah ?aT ?aU G.out).mono ?_);(case af=>exact Kd.aq D.out zB);(case ah=>exact E.out);(case aT=>exact Kd.aq u.out zB);(case aU=>exact F.out);rintro e aS ⟨rfl,hb⟩;refine⟨_,rfl,?_⟩;replace j:=zb j hb;replace a:=zS a hb;(try clear hb)))
  go_ret;exact⟨zE,zB⟩
section
theorem cF.bk {l:Nat} {A B:World} {g:Nat} {n:Int} {times:Nat->Nat->Int} {chips:Value} {burnt:Nat->Bool} (h:cF A g n times chips burnt) (hb:Bk l A B):cF B g n times chips burnt:=by
 obtain⟨cs,a,b⟩:=h;exact⟨cs,hb.cells a,b⟩
attribute [local go_sem] Oper.semAt_some
theorem Bv (g:Nat) (w:World):Calls Tryz.prog 221 #[.pointer (some ⟨g,0,none⟩)] w fun e w'=>e= .returned (.func (.func 225) #[] #[.pointer (some ⟨w.heap.size,0,none⟩)])/\w'=w.alloc (.cells #[.pointer (some ⟨g,0,none⟩)] 245):=by
 go_enter Tryz.func221,Tryz.ntmps221
 go_wp2;go_ret;exact⟨rfl,rfl⟩
def oA (N:Int) (E:List S83) (q:Int) (c:List Int):Bool:=decide (0<=q/\q<N/\N<=12/\(c.length:Int)=N)&&iZ N E
def cM (q:Nat):Nat->Bool:=fun i=>if i=q then true else false
def oB (n:Nat) (E:List S83) (q:Nat) (c:List Int):List Nat:=eG n (cu n (timesOf E) c) (cM q)
def iI.f (k:Nat) (N:Int) (E:List S83) (q:Int) (c:List Int):Option (List Int×List Int×Int):=
 (gN.f k N E q c).bind fun t=>if t=0 then(if oA N E q c=true then
  some (q::(oB N.toNat E q.toNat c).map Int.ofNat,gM (cL (cM q.toNat) (oB N.toNat E q.toNat c)) N.toNat,0) else none) else some ([],[],t)
theorem iI.mono:∀N E q c k,aj (iI.f k N E q c) (iI.f (k+1) N E q c):=by
 intro N E q c k;unfold iI.f;exact aj.bind (gN.mono _ _ _ _ _) (fun _=>aj.refl _)
theorem iI.calls (k:Nat) (N:Int) (bf:Option Addr) (O:Nat) (a:List (S83)) (a1:Int) (A2:Option Addr) (c2:Nat) (l2:List Int) (r1:List Int) (r2:List Int) (r3:Int) (w:World) (am:Kd.C aN w bf a.length a) (an:a.length<=O) (ap:Kd.C (Kd.int .i64) w A2 l2.length l2) (av:l2.length<=c2) (h:iI.f k N a a1 l2=some (r1,r2,r3)):
  Calls Tryz.prog 213 #[.agg #[.int .i64 N,.slice bf a.length O],.int .i64 a1,.slice A2 l2.length c2] w fun e w'=>∃aB aF:Value,e= .returned (.tuple #[aB,aF,.int .i64 r3])/\Kd.R (Kd.int .i64) 3 w' w.heap.size (fun E=>some E≠(aF:Value).ownBlock) aB r1/\Kd.R (Kd.int .i64) 3 w' w.heap.size (fun E=>some E≠(aB:Value).ownBlock) aF r2/\Below w.heap.size w w':=by
 have hu:=Tryz.underlying24;obtain⟨t,ht,H⟩:=Option.bind_eq_some_iff.mp h;clear h;by_cases h0:t=0
 ·subst h0
  rw[if_pos rfl] at H;by_cases X:oA N a a1 l2=true
  ·rw[if_pos X] at H
   simp only[Option.some.injEq,Prod.mk.injEq] at H;obtain⟨rfl,rfl,rfl⟩:=H;simp only[oA,Bool.and_eq_true,decide_eq_true_eq] at X;obtain⟨⟨q0,qn,n12,hlen⟩,hE⟩:=X;obtain⟨n,rfl⟩:=Int.eq_ofNat_of_zero_le (show 0<=N by omega);obtain⟨q,rfl⟩:=Int.eq_ofNat_of_zero_le q0;simp only[aQ];have b5:=zA (lH hE);have cs:l2.length<=n:=by omega
   have b6:n<=l2.length:=by omega
   have Ht:=zA ht;clear hlen hE ht;refine(callsIn_wide (n:=10)).1 ?_;refine callsIn_of_wp_marks Tryz.func213 rfl trivial ?_ rfl;simp only[Tryz.ntmps213,List.size_toArray,List.length_cons,List.length_nil,Nat.reduceAdd,Nat.reduceSub,Array.replicate_succ,Array.replicate_zero,List.push_toArray,List.append_toArray,List.nil_append,List.cons_append];gi_wp2_with (first|(refine⟨trivial,?_⟩;gi_at_call 219;refine(callsIn_wide.2 (gN.calls k _ _ O a _ _ c2 l2 0 _ (Kd.bE am _) an (Kd.bE ap _) av Ht.out)).mono ?_;rintro e w1 ⟨rfl,hb⟩;have hx:=(hb.cell (p:=⟨w.heap.size,0,none⟩) (by simp));have hy:=(hb.cell (p:=⟨w.heap.size,1,none⟩) (by simp));have z:=zA (kV (ao (al _ _) _) (by simp) hb);clear hb)|(refine⟨trivial,?_⟩;gi_at_call 220;refine(callsIn_wide.2 (Bu n q _ O a _ c2 l2 _ (Kd.aq am z.out) an (Kd.aq ap z.out) av (by omega) (by omega) b5.out cs b6)).mono ?_;rintro e w2 ⟨g,m,r,rfl,hW,hR,hB,hg⟩;have aO:=zA hW;have aP:=zA hR;have aS:=zA (kV z.out z.out.size hB);clear hW hR hB)|(refine⟨trivial,?_⟩;gi_at_call 221;refine(callsIn_wide.2 (Bv g _)).mono ?_;rintro e w3 ⟨rfl,rfl⟩))
   have cx:=aO.out.lt;have d3:w.heap.size<=w1.heap.size:=z.out.size;have c0:w.heap.size<=w2.heap.size:=aS.out.size;have a0:∀k,some k=(Value.slice m l2.length r).ownBlock->k<w2.heap.size:=fun k hk=>Kd.a_ aP.out k hk.symm
   have I:=zA (aO.out.below (ao (ao (ao (al _ _) (.cells #[.int .i64 q] 3)) (.cells #[.slice (some ⟨w2.heap.size,0,none⟩) 1 1] 25)) (.cells #[.pointer (some ⟨g,0,none⟩)] 245)));have P:=zA (Kd.aM (Kd.aM (Kd.aM (Kd.gz rfl aP.out) (.cells #[.int .i64 q] 3)) (.cells #[.slice (some ⟨w2.heap.size,0,none⟩) 1 1] 25)) (.cells #[.pointer (some ⟨g,0,none⟩)] 245));have J:=zA (ao (ao (ao aS.out (.cells #[.int .i64 q] 3)) (.cells #[.slice (some ⟨w2.heap.size,0,none⟩) 1 1] 25)) (.cells #[.pointer (some ⟨g,0,none⟩)] 245));have cb:Aside0 (Kd.R (Kd.int .i64) 3 (((w2.alloc (.cells #[.int .i64 q] 3)).alloc (.cells #[.slice (some ⟨w2.heap.size,0,none⟩) 1 1] 25)).alloc (.cells #[.pointer (some ⟨g,0,none⟩)] 245)) w.heap.size (fun k=>k≠g/\some k≠(Value.slice m l2.length r).ownBlock) (.slice (some ⟨w2.heap.size,0,none⟩) 1 1) [(q:Int)]):=by
    refine⟨Kd.aM (Kd.aM (Kd.l8 (enc:=Value.int .i64) (h1:=fun _=>rfl) ?_ ?_) _) _⟩
    ·simpa [bS] using World.ownsRow_lit (base:=w.heap.size) (e:=3) (size:=1) w2 #[.int .i64 q] 1 c0 (by decide) rfl
    ·intro k hk
     have e:w2.heap.size=k:=by simpa [Value.ownBlock] using hk
     refine⟨by omega,fun e2=>?_⟩;have:=a0 k e2;omega
   have Y:Aside0 ((((w2.alloc (.cells #[.int .i64 q] 3)).alloc (.cells #[.slice (some ⟨w2.heap.size,0,none⟩) 1 1] 25)).alloc (.cells #[.pointer (some ⟨g,0,none⟩)] 245)).heap[w2.heap.size+1]? =some (.cells #[.slice (some ⟨w2.heap.size,0,none⟩) 1 1] 25 (0,0))):=
    ⟨by have h:=bl (w2.alloc (.cells #[.int .i64 q] 3)) (.cells #[.slice (some ⟨w2.heap.size,0,none⟩) 1 1] 25);rw[World.size_alloc] at h;exact aw h _⟩
   have Q:Aside0 ((((w2.alloc (.cells #[.int .i64 q] 3)).alloc (.cells #[.slice (some ⟨w2.heap.size,0,none⟩) 1 1] 25)).alloc (.cells #[.pointer (some ⟨g,0,none⟩)] 245)).heap[w2.heap.size+1+1]? =some (.cells #[.pointer (some ⟨g,0,none⟩)] 245 (0,0))):=
    ⟨by have h:=bl ((w2.alloc (.cells #[.int .i64 q] 3)).alloc (.cells #[.slice (some ⟨w2.heap.size,0,none⟩) 1 1] 25)) (.cells #[.pointer (some ⟨g,0,none⟩)] 245);simpa using h⟩
   have Z:w2.heap.size+1≠g:=by omega
   have aa:w2.heap.size+1+1≠g:=by omega
   have ab:w2.heap.size+1+1≠w2.heap.size+1:=by omega
   have cc:some (w2.heap.size+1)≠(Value.slice m l2.length r).ownBlock:=fun e=>by have:=a0 _ e;omega
   have cd:w.heap.size<=w2.heap.size+1:=by omega
   have ce:w.heap.size<=g:=by omega
   clear a0 aO aP aS z;generalize (((w2.alloc (.cells #[.int .i64 q] 3)).alloc (.cells #[.slice (some ⟨w2.heap.size,0,none⟩) 1 1] 25)).alloc (.cells #[.pointer (some ⟨g,0,none⟩)] 245))=G at I P J cb Y Q⊢;generalize w2.heap.size+1+1=L at Q aa ab⊢;generalize w2.heap.size+1=bo at Y Z ab cc cd⊢;refine iG (σ:=Unit) (α:=Nat) (F:=Fence.wide) (n:=10) rfl (by decide) (gf:=225) (lb:=#[.pointer (some ⟨L,0,none⟩)]) rfl trivial (enters_of Tryz.func225 (by kernel_rfl) rfl)
    (fun o=>Br g L n (timesOf a) m r l2 (cM q) _ w1.heap.size (by omega) b6 ?ht aa (I.out.below (ao (ao (al _ _) _) _)) (aw (aw Q.out _) _) (Kd.ba (Kd.aM (Kd.aM P.out _) _) (fun _ h=>h))) (fun _=>rfl)
    (fun _=>True) ?eB ?st ?ar
    (fun _ pre W=>G.heap.size<=W.heap.size/\∃v,W.heap[L]? =some (.cells #[.pointer (some ⟨g,0,none⟩)] 245 (0,0))/\W.heap[bo]? =some (.cells #[v] 25 (0,0))/\Kd.R (Kd.int .i64) 3 W w.heap.size (fun k=>k≠g/\some k≠(Value.slice m l2.length r).ownBlock) v ((q:Int)::pre.map Int.ofNat)/\Below w.heap.size w W) (fun _ _ _ _=>False)
    ?is (fun _ _ _ _ _ _ h _=>h) ?ib (fun _ _ _ _ _ h _=>h) ?kt ?h0 ?a1 ?assign ?body ?done (fun _ _ _ _ _ _ _ h=>h.elim)
   case assign=>
    intro l x W K hK;gi_wp2;exact hK
   case ht=>exact b5.out.times
   case eB=>
    intro o s W1 h;exact⟨trivial,by rw[h];exact cp.refl _ _⟩
   case st=>intro s A B _ h k o h1 u i _;exact(h.block k (Array.getElem?_eq_some_iff.1 i).1 (fun e=>by cases e;have:=I.out.lt;omega)).trans i
   case ar=>intro s x A B _ h k o h1 u i _;exact(h.block k (Array.getElem?_eq_some_iff.1 i).1 (fun e=>by cases e;have:=I.out.lt;omega)).trans i
   case is=>
    rintro s pre A B _ ⟨S,v,h0,h1,u,i⟩ T;exact⟨Nat.le_trans S T.size,v,(T.block L (az h0) (fun e=>by cases e;exact aa rfl)).trans h0,(T.block bo (az h1) (fun e=>by cases e;exact Z rfl)).trans h1,Kd.lf u T (fun k hk e=>hk.1 (by cases e;rfl)),jJ i (some g) i.size T (fun k e=>by cases e;exact ce)⟩
   case ib=>
    rintro s pre A B ⟨S,v,h0,h1,u,i⟩ hb;exact⟨by rw[hb.size];exact S,v,hb.cells h0,hb.cells h1,dq u hb,i.trans (hb.below w.heap.size (by have:=J.out.size;omega))⟩
   case kt=>
    intro s A B C D c4 c5 c6 k hk;have cf:k≠G.heap.size+1:=by
     rcases hk with rfl|rfl|hk
     ·have:=I.out.lt;omega
     ·have:=az Q.out;omega
     ·have:=Kd.a_ P.out k hk.symm;omega
    exact(c6.heap k cf).trans ((c5 k hk).trans (c4.heap k cf))
   case h0=>
    rintro o s W1 rfl;exact⟨by simp;omega,_,aw (aw Q.out _) _,aw (aw Y.out _) _,Kd.aM (Kd.aM cb.out _) _,ao (ao J.out _) _⟩
   case body=>
    rintro l s pre x Wb W1 W _ ⟨S,v,i0,i1,i2,i3⟩ M d5 j;have U:=zA (j.cells ((M.block L (az i0) (fun e=>by cases e;exact aa rfl)).trans i0));have y:=zA (j.cells ((M.block bo (az i1) (fun e=>by cases e;exact Z rfl)).trans i1));have b:=zA (dq (Kd.lf i2 M (fun k hk e=>hk.1 (by cases e;rfl))) j);have b3:=zA ((jJ i3 (some g) i3.size M (fun k e=>by cases e;exact ce)).trans (j.below w.heap.size (by have:=J.out.size;omega)));have cx:G.heap.size<=W.heap.size:=by have:=j.size;have:=M.size;omega
    have d6:=I.out.lt;clear i0 i1 i2 i3 M;obtain⟨Ar,cr,rfl⟩:=Kd.bm b.out;replace b:=zA (show Kd.R (Kd.int .i64) 3 W w.heap.size (fun k=>k≠g/\some k≠(Value.slice m l2.length r).ownBlock) (.slice Ar (pre.length+1) cr) ((q:Int)::pre.map Int.ofNat) from by have h:=b.out;rw[show ((q:Int)::pre.map Int.ofNat).length=pre.length+1 from by simp] at h;exact h);rw[show ((q:Int)::pre.map Int.ofNat).length=pre.length+1 from by simp] at y;have hc:=dG y.out;have hf:=bD y.out 0;have FR:Aside0 (∀k,W.heap.size<=k->k≠g/\some k≠(Value.slice m l2.length r).ownBlock):=⟨fun k hk=>⟨by omega,fun e=>by have:=Kd.a_ P.out k e.symm;omega⟩⟩;have LN:Aside0 ((((q:Int)::pre.map Int.ofNat).length+1)*8<=140737488355328):=⟨by simp;omega⟩;gi_wp2_with (gi_at_builtin;go_loud (refine ot (Kd.int .i64) (w0:=w) w.heap.size rfl (.tmp 29) (.tmp 31) 25 3 (.int .i64 0) 8 rfl Tryz.underlying25 gD rfl (by decide) (by omega) _ _ (x:Int) [.int .i64 x] (fun k=>k≠g/\some k≠(Value.slice m l2.length r).ownBlock) (fun _=>False) rfl rfl rfl (fun _ hk=>hk.elim) FR.out b.out b3.out b3.out.size LN.out ?_;intro v1 d7 a2 hb ag c9;obtain⟨A1,c1,rfl⟩:=Kd.bm a2;have X1:=zA ((ag.block bo (az y.out) (Kd.dr b.out y.out (by decide))).trans y.out);have X0:=zA ((ag.block L (az U.out) (Kd.dr b.out U.out (by decide))).trans U.out);have d8:=dG X1.out;have d9:=bD X1.out 0;have dd:=zA a2;have dk:=zA hb;have V:=zA ag;clear a2 hb ag c9))
    refine⟨(ou b.out V.out).trans (fz _ _ (az Y.out)),fun k hk=>?_,by have:=V.out.size;simp;omega,_,aD X0.out ab _,by simpa using bR X1.out 0 (.slice A1 (pre.length+1+1) c1),?_,et dk.out cd⟩
    ·have dl:k≠bo:=by
      rcases hk with rfl|rfl|hk
      ·exact fun e=>Z e.symm
      ·exact ab
      ·rintro rfl;exact cc hk
     rw[Below.heap_setCell _ _ _ _ dl];rcases hk with rfl|rfl|hk
     ·exact V.out.block k (by omega) (fun e=>(b.out.1 k e.symm).1 rfl)
     ·exact V.out.block k (az U.out) (Kd.dr b.out U.out (by decide))
     ·exact V.out.block k (by have:=Kd.a_ P.out k hk.symm;omega) (fun e=>(b.out.1 k e.symm).2 hk)
    ·have h:=Kd.eX dd.out X1.out (by decide) 0 (.slice A1 (pre.length+1+1) c1)
     simpa using h
   case done=>
    rintro s xs W W' _ ⟨rfl,cj⟩ ⟨S,v,i0,i1,i2,i3⟩ j ck;have y:=zA (j.cells i1);have b:=zA (dq i2 j);have b3:=zA (i3.trans (j.below w.heap.size (by have:=J.out.size;omega)));have b4:=zA (cj.bk j);have cl:=zA ck;clear i0 i1 i2 i3 cj ck;have hc:=dG y.out;obtain⟨Ar,cr,rfl⟩:=Kd.bm b.out;have ds:=az y.out;gi_wp2_with fail
    refine Bs ?_;gi_region_with (refine⟨trivial,?_⟩;gi_at_call 222;refine(callsIn_wide.2 (Bm g n (timesOf a) _ _ _ (by omega) b4.out.drew)).mono ?_;rintro e w5 ⟨v1,rfl,co,a4⟩;have ea:=(a4.cell (p:=⟨bo,0,none⟩) ds).trans hc;have a5:=zA co;have a9:=zA a4;clear co a4)
    all_goals gi_wp2
    all_goals
     have cq:w5.heap[G.heap.size]? =some (.deferred (some [])):=(a9.out.block _ (Array.getElem?_eq_some_iff.1 cl.out).1).trans cl.out;have be:Bk G.heap.size w5 (w5.putObj G.heap.size (.deferred none)):=⟨_,_,cq,rfl,rfl⟩;have dv:=Kd.cR (w:=W'.drew) b.out a9.out;refine i' (D:=G.heap.size) rfl cq (results_tmp3 rfl _ _ _) ⟨_,_,rfl,dq (ok:=fun E=>some E≠v1.ownBlock) (v:=.slice Ar ((eG n (cu n (timesOf a) l2) (cM q)).length+1) cr) ?_ be,dq (ok:=fun E=>some E≠(Value.slice Ar ((eG n (cu n (timesOf a) l2) (cM q)).length+1) cr).ownBlock) (v:=v1) ?_ be,?_⟩
     ·refine Kd.ss rfl (ok1:=fun k=>k≠g/\some k≠(Value.slice m l2.length r).ownBlock) ?_ (fun k hk e=>?_)
      ·have h:=dv
       rw[show ((q:Int)::(eG n (cu n (timesOf a) l2) (cM q)).map Int.ofNat).length=(eG n (cu n (timesOf a) l2) (cM q)).length+1 from by simp] at h;exact h
      ·have h1:=Kd.a_ b.out k ((tH _ _ _ _).trans hk)
       have u:=Kd.dz a5.out k e.symm;exact absurd h1 (Nat.not_lt.2 u)
     ·refine Kd.ss rfl (ok1:=fun _=>True) (Kd.bc a5.out b3.out.size) (fun k hk e=>?_)
      have h1:=Kd.a_ b.out k ((tH _ _ _ _).trans e.symm);have u:=Kd.dz a5.out k hk;exact absurd h1 (Nat.not_lt.2 u)
     ·exact(kV (gW b3.out) b3.out.size a9.out).trans (be.below w.heap.size J.out.size)
  ·rw[if_neg X] at H
   cases H
 ·rw[if_neg h0] at H
  simp only[Option.some.injEq,Prod.mk.injEq] at H;obtain⟨rfl,rfl,rfl⟩:=H;have Ht:=zA ht;have eb:(t != 0)=true:=by simpa using h0
  clear ht h0;go_enter Tryz.func213,Tryz.ntmps213
  go_wp2_with (go_at_call 219;refine(gN.calls k N _ O a a1 _ c2 l2 t _ (Kd.bE am _) an (Kd.bE ap _) av Ht.out).mono ?_;rintro e w1 ⟨rfl,hb⟩;have z:=zA (kV (ao (al _ _) _) (by simp) hb);clear hb)
  go_ret3
  exact⟨_,_,rfl,Kd.dc _ _ _ _ _,Kd.dc _ _ _ _ _,z.out⟩
end
section
attribute [local go_sem] Oper.semAt_some
def gO (w:World) (g:Nat) (N:Int) (ev:Value) (q:Int) (dv a:Value) (e:Int):Prop:=w.heap[g]? =some (.cells #[.int .i64 N,ev,.int .i64 q,dv,a,.int .i64 e] 188 (0,0))
theorem lS (g:Nat) (v:Int) (w:World):Calls Tryz.prog 194 #[.pointer (some ⟨g,0,none⟩),.int .i64 v] w fun e w'=>e= .returned (.func (.func 207) #[] #[.pointer (some ⟨w.heap.size,0,none⟩),.pointer (some ⟨w.heap.size+1,0,none⟩)])/\w'=(w.alloc (.cells #[.pointer (some ⟨g,0,none⟩)] 135)).alloc (.cells #[.int .i64 v] 3):=by
 go_enter Tryz.func194,Tryz.ntmps194
 go_wp2;go_ret;exact⟨rfl,rfl⟩
def cy (E:List S83) (v:Int):Nat->List (Int×Int)
 |0=>[]
 |k+1=>cy E v k++(if(ae E k).f0≠(ae E k).f1/\((ae E k).f0=v\/(ae E k).f1=v) then[((ae E k).f0+(ae E k).f1-v,(ae E k).f2)] else[])
def tP (base a b c:Nat) (X Y:World):Prop:=(base<=X.heap.size->Below base X Y)/\∀k,(k=a\/k=b\/k=c)->k<X.heap.size->Y.heap[k]? =X.heap[k]?
theorem tQ (E:List S83) (v:Int):∀(m k:Nat),∀x∈cy E v k,x∈cy E v (k+m)
 |0,k,x,a=>a
 |m+1,k,x,a=>List.mem_append.2 (.inl (tQ E v m k x a))
theorem qf (l bv g n:Nat) (A0:Option Addr) (c0:Nat) (E:List S83) (q:Int) (dv V:Value) (Z:Int) (v:Nat) (w0 W:World) (aa:Kd.C aN w0 A0 E.length E) (hE:ej n E) (hn:n<=1000) (hv:v<n) (hB:Below w0.heap.size w0 W)
  (M:W.heap[l]? =some (.cells #[.pointer (some ⟨g,0,none⟩)] 135 (0,0))) (z:W.heap[bv]? =some (.cells #[.int .i64 v] 3 (0,0))) (N:gO W g n (.slice A0 E.length c0) q dv V Z):
  i_ (σ:=Unit) Fence.wide 9 Tryz.prog 207 #[.pointer (some ⟨l,0,none⟩),.pointer (some ⟨bv,0,none⟩)] (fun x:Int×Int=>#[.int .i64 x.1,.int .i64 x.2]) (fun _ W W1=>W1=W) (fun _ A B=>Below A.heap.size A B) (fun _ x A B=>((0<=x.1/\x.1<n/\1<=x.2/\x.2<=50)/\x∈cy E v E.length)/\Below A.heap.size A B)
   (fun _ X Y=>tP w0.heap.size l bv g X Y)
   (fun _ xs W'=>xs=cy E v E.length) (fun _ _ _=>True) (fun pre=>∃k,k<E.length/\pre=cy E v k) W:=by
 intro lp J Jx ag ak am ap;have a9:=zA ag;have cb:=zA ak;have hY:=zA ap;have ar:=am () W rfl;clear ag ak am ap;have cc:=Tryz.underlying188;have hu:=Tryz.underlying24;have cd:=Tryz.underlying83;refine callsIn_of_wp Tryz.func207 rfl trivial ?_ rfl;simp only[Tryz.ntmps207,List.size_toArray,List.length_cons,List.length_nil,Nat.reduceAdd,Nat.reduceSub,Array.replicate_succ,Array.replicate_zero,List.push_toArray,List.append_toArray,List.nil_append,List.cons_append];have b0:W.cell? ⟨l,0,none⟩=some (.pointer (some ⟨g,0,none⟩)):=(ai M 0).trans rfl;have s1:W.cell? ⟨g,1,none⟩=some (.slice A0 E.length c0):=(ai N 1).trans rfl;have av:=zA M;have aB:=zA z;have p:=zA N;clear M z N;gi_wp2;clear b0 s1;gi_loopg [13] (E.length) (fun kq i wr=>∃k:Nat,i= .int .i64 k/\k<=E.length/\Aside0 (J () (cy E v k) wr)/\Aside0 (wr.heap[l]? =some (.cells #[.pointer (some ⟨g,0,none⟩)] 135 (0,0)))/\Aside0 (wr.heap[bv]? =some (.cells #[.int .i64 v] 3 (0,0)))/\Aside0 (gO wr g n (.slice A0 E.length c0) q dv V Z)/\Aside0 (Below w0.heap.size w0 wr)/\Aside0 (kq=E.length-k))
 case atStart=>exact⟨0,rfl,Nat.zero_le _,⟨ar⟩,av,aB,p,⟨hB⟩,⟨rfl⟩⟩
 case round=>
  clear ar hB av aB p;have ce:E.length<=9223372036854775807:=Kd.l_ aa;obtain⟨k,rfl,hk,O,HX,P,p,r,Q⟩:=hrel;by_cases aL:k<E.length
  ·obtain⟨e0,D,e2,F,e4,e5⟩:=hE.get k aL
   have G:=Lib.hid (show cy E v (k+1)=cy E v k++(if(ae E k).f0≠(ae E k).f1/\((ae E k).f0=v\/(ae E k).f1=v) then[((ae E k).f0+(ae E k).f1-v,(ae E k).f2)] else[]) from rfl);obtain⟨ad,rfl,s,u,w⟩:=dB aa k (by omega) (by omega);rw[aQ] at s u w;generalize ae E k=x at e0 D e2 F e4 e5 s u w G;obtain⟨a,b,m⟩:=x;simp only at e0 D e2 F e4 e5 s u w;have cf:(0:Int)<=(k:Int):=by omega
   have ch:(k:Int)<(E.length:Int):=by omega
   have ci:(0:Int)<=(v:Int):=by omega
   have cj:(v:Int)<=1000:=by omega
   have s:=iu r.out s;have u:=iu r.out u;have w:=iu r.out w;have v0:(wr.alloc (.cells #[.int .i64 a,.int .i64 b,.int .i64 m] 83)).cell? ⟨bv,0,none⟩=some (.int .i64 v):=(ai (aw P.out _) 0).trans rfl;have R:=zA (a9.out () _ _ _ O.out (ao (al wr.heap.size wr) (.cells #[.int .i64 a,.int .i64 b,.int .i64 m] 83)));have H:=zA (aw HX.out (.cells #[.int .i64 a,.int .i64 b,.int .i64 m] 83));have I:=zA (aw P.out (.cells #[.int .i64 a,.int .i64 b,.int .i64 m] 83));have K:=zA (aw p.out (.cells #[.int .i64 a,.int .i64 b,.int .i64 m] 83));have L:=zA (ao r.out (.cells #[.int .i64 a,.int .i64 b,.int .i64 m] 83));have an:a<=1000:=by omega
   have bn:b<=1000:=by omega
   have HE:=zA (And.intro D F);clear D F O HX P p r;by_cases o:a=b
   ·have bk:(a != b)=false:=by simpa using o
    have S:=zA o;clear o;gi_wp2;refine⟨(fun _ h=>(by cases h)),?_⟩;gi_wp2;gi_roundg (E.length- (k+1))
    case measure=>rw[Q.out];omega
    case rel=>exact⟨k+1,by go_num,by omega,⟨by rw[G.out,if_neg (fun h=>h.1 S.out),List.append_nil];exact R.out⟩,H,I,K,L,⟨rfl⟩⟩
   ·have bk:(a != b)=true:=by simpa using o
    have S:=zA o;clear o;by_cases j:a=v\/b=v
    ·have a0:=zA (show cy E v (k+1)=cy E v k++[(a+b-v,m)] from by rw[G.out,if_pos ⟨S.out,j⟩])
     obtain⟨fn,tmps,co,cq,T,a1⟩:=hY.out () (cy E v k) (a+b-v,m) _ _ R.out ⟨⟨by have:=HE.out;show 0<=a+b- (v:Int)/\a+b- (v:Int)<n/\1<=m/\m<=50;omega,by have h:=tQ E v (E.length- (k+1)) (k+1) (a+b-v,m) (by rw[a0.out];simp);rw[show k+1+(E.length- (k+1))=E.length by omega] at h;exact h⟩,al _ _⟩ ⟨k,aL,rfl⟩;have bo:=zA a1;simp only at T;clear a1;have bw:(a==(v:Int))=true\/((a==(v:Int))=false/\(b==(v:Int))=true):=by
      by_cases h:a=v
      ·left;simpa using h
      ·right;refine⟨by simpa using h,?_⟩
       rcases j with U|U
       ·exact absurd U h
       ·simpa using U
     clear j;rcases bw with a2|⟨a2,z⟩
     all_goals
      gi_wp2;refine bo.out.mono ?_;rintro e W3 (⟨rfl,a3,y⟩|⟨rfl,a4⟩)
      ·have b1:=zA a3
       have b2:=zA ((y.2 l (.inl rfl) (az H.out)).trans H.out);have b3:=zA ((y.2 bv (.inr (.inl rfl)) (az I.out)).trans I.out);have b4:=zA ((y.2 g (.inr (.inr rfl)) (az K.out)).trans K.out);have b5:=zA (L.out.trans (y.1 L.out.size));clear a3 y T v0;gi_wp2;gi_roundg (E.length- (k+1))
       case measure=>rw[Q.out];omega
       case rel=>exact⟨k+1,by go_num,by omega,⟨by rw[a0.out];exact b1.out⟩,b2,b3,b4,b5,⟨rfl⟩⟩
      ·have b6:=zA a4
       clear a4 T v0;gi_wp2;refine bodyPost_ret (results_none rfl _ _ _) rfl ?_;exact⟨⟨_,rfl⟩,.inr ⟨(),_,trivial,b6.out⟩⟩
    ·have a2:(a==(v:Int))=false:=by simp;exact fun h=>j (.inl h)
     have z:(b==(v:Int))=false:=by simp;exact fun h=>j (.inr h)
     have b_:=zA j;clear j;gi_wp2;refine⟨(fun _ h=>(by cases h)),?_⟩;gi_wp2;gi_roundg (E.length- (k+1))
     case measure=>rw[Q.out];omega
     case rel=>exact⟨k+1,by go_num,by omega,⟨by rw[G.out,if_neg (fun h=>b_.out h.2),List.append_nil];exact R.out⟩,H,I,K,L,⟨rfl⟩⟩
  ·obtain rfl:k=E.length:=by omega
   gi_wp2;go_end0;exact⟨⟨_,rfl⟩,.inl ⟨(),_,rfl,O.out⟩⟩
theorem oC (b bv g n:Nat) (A0:Option Addr) (c0:Nat) (E:List S83) (q:Int) (dv h:Value) (i:Int) (v:Nat) (w0 W:World) (l:Kd.C aN w0 A0 E.length E) (m:ej n E) (hn:n<=1000) (o:v<n) (p:Below w0.heap.size w0 W)
  (r:W.heap[b]? =some (.cells #[.pointer (some ⟨g,0,none⟩)] 135 (0,0))) (u:W.heap[bv]? =some (.cells #[.int .i64 v] 3 (0,0))) (w:gO W g n (.slice A0 E.length c0) q dv h i):
  i_ (σ:=Unit) Fence.wide 9 Tryz.prog 207 #[.pointer (some ⟨b,0,none⟩),.pointer (some ⟨bv,0,none⟩)] (fun x:Int×Int=>#[.int .i64 x.1,.int .i64 x.2]) (fun _ W W1=>W1=W) (fun _ A B=>Below A.heap.size A B) (fun _ x A B=>(0<=x.1/\x.1<n/\1<=x.2/\x.2<=50)/\Below A.heap.size A B)
   (fun _ X Y=>tP w0.heap.size b bv g X Y)
   (fun _ xs W'=>xs=cy E v E.length) (fun _ _ _=>True) (fun pre=>∃k,k<E.length/\pre=cy E v k) W:=fun y J Jx z D F G=>qf b bv g n A0 c0 E q dv h i v w0 W l m hn o p r u w y J Jx (fun s pre A B a e=>z s pre A B a e) (fun s pre A B a e=>D s pre A B a e) F (fun s pre x H W1 a j I=>G s pre x H W1 a ⟨j.1.1,j.2⟩ I)
end
end Go.Proofs.YtffdiakgjakngaaGreat.P


namespace Go.Proofs.YtffdiakgjakngaaGreat.P
open Go.RowKit Go.Proofs.YtffdiakgjakngaaGreatW.PrintWords Go.Proofs.YtffdiakgjakngaaGreatW.PrintLast Go.Proofs.YtffdiakgjakngaaGreatW.PrintMore
set_option linter.unusedVariables false
set_option linter.unusedSimpArgs false
set_option maxHeartbeats 8000000
set_option maxRecDepth 100000
def bY (out:List Int):Nat:=(out.filter fun x=>decide (0<=x)).length
theorem jq (out:List Int):bY out<=out.length:=List.length_filter_le ..
theorem j5 (xs:List Int) (v:Nat):rd xs (v:Int)=xs.getD v 0:=by simp[rd]
theorem qg:∀(out:List Int) (u:Nat) (x:Int),u<out.length->out.getD u 0<0->0<=x->bY (out.set u x)=bY out+1
 |[],u,x,h,_,_=>by simp at h
 |y::out,0,x,_,h,a=>by
  have b:y<0:=h;simp[bY,a,Int.not_le.2 b]
 |y::out,u+1,x,hu,h,a=>by
  have:=qg out u x (by simpa using hu) (by simpa using h) a;simp only[bY,List.set_cons_succ,List.filter_cons] at this⊢;split<;>simp[this]
theorem jx (xs:List Int) (u:Nat) (x:Int) (h:u<xs.length):rd (xs.set u x) (u:Int)=x:=by
 rw[j5,bb,List.getElem?_set_self h];rfl
theorem iJ (xs:List Int) (u v:Nat) (x:Int) (h:u≠v):rd (xs.set u x) (v:Int)=rd xs (v:Int):=by
 rw[j5,j5,bb,bb,List.getElem?_set_ne h]
structure Bf (n q:Nat) (nb:Nat->Nat->Prop) (out:List Int) (Q:List Nat) (D:Int) (ex:Nat->Nat->Prop):Prop where
 len:out.length=n
 q0:rd out (q:Int)=0
 lo:∀v:Nat,v<n-> -1<=rd out (v:Int)
 hi:∀v:Nat,v<n->rd out (v:Int)+1<=bY out
 qv:∀x,x∈Q->x<n/\D<=rd out (x:Int)
 mO:Q.Pairwise fun (x y:Nat)=>rd out (x:Int)<=rd out (y:Int)
 top:∀v:Nat,v<n->rd out (v:Int)<=D+1
 d0:0<=D
 back:∀v:Nat,v<n->v≠q->0<=rd out (v:Int)->∃u:Nat,u<n/\nb u v/\0<=rd out (u:Int)/\rd out (u:Int)+1=rd out (v:Int)
 j6:∀v:Nat,v<n->0<=rd out (v:Int)->v∉Q->∀u:Nat,u<n->nb v u->¬ex v u->0<=rd out (u:Int)/\rd out (u:Int)<=rd out (v:Int)+1
theorem Bf.start {n q:Nat} {nb:Nat->Nat->Prop} (b:q<n):Bf n q nb ((List.replicate n (-1)).set q 0) [q] 0 (fun _ _=>False):=by
 have h1:∀v:Nat,v<n->rd ((List.replicate n (-1)).set q 0) (v:Int)=if q=v then 0 else -1:=fun v a=>by
  split
  ·rename_i e;subst e;exact jx _ _ _ (by simpa using a)
  ·rename_i e
   rw[iJ _ _ _ _ e,j5,bb,List.getElem?_replicate,if_pos a];rfl
 have g:bY ((List.replicate n (-1)).set q 0)=bY (List.replicate n (-1))+1:=qg _ q 0 (by simpa using b) (by rw[bb,List.getElem?_replicate,if_pos b];decide) (by decide);refine⟨by simp,by rw[h1 q b,if_pos rfl],fun v a=>?_,fun v a=>?_,fun x i=>?_,by simp,fun v a=>?_,by decide,fun v a j h=>?_,fun v a h hn=>?_⟩
 ·rw[h1 v a];split<;>omega
 ·rw[h1 v a,g];split<;>omega
 ·obtain rfl:=List.mem_singleton.1 i
  exact⟨b,by rw[h1 x b,if_pos rfl];omega⟩
 ·rw[h1 v a];split<;>omega
 ·rw[h1 v a,if_neg (fun e=>j e.symm)] at h;omega
 ·rw[h1 v a] at h
  by_cases e:q=v
  ·exact absurd (List.mem_singleton.2 e.symm) hn
  ·rw[if_neg e] at h;omega
theorem Bf.pop {n q:Nat} {nb:Nat->Nat->Prop} {out:List Int} {v:Nat} {Q:List Nat} {D:Int} (h:Bf n q nb out (v::Q) D (fun _ _=>False)):Bf n q nb out Q (rd out (v:Int)) (fun x _=>x=v):=by
 have j:=h.qv v (List.mem_cons_self ..);have b:=List.pairwise_cons.1 h.mO;refine⟨h.len,h.q0,h.lo,h.hi,fun x a=>⟨(h.qv x (List.mem_cons_of_mem _ a)).1,b.1 x a⟩,b.2,fun u hu=>?_,by have:=h.d0;omega,h.back,fun x a g hn u hu i hex=>?_⟩
 ·have:=h.top u hu;omega
 ·exact h.j6 x a g (fun hm=>by rcases List.mem_cons.1 hm with e|e;exact hex e;exact hn e) u hu i (fun f=>f)
theorem Bf.look {n q:Nat} {nb:Nat->Nat->Prop} {out:List Int} {v u:Nat} {Q:List Nat} {ex:Nat->Prop} (h:Bf n q nb out Q (rd out (v:Int)) (fun x y=>x=v/\ex y)) (hu:u<n) (z:v<n) (G:nb v u):
  (0<=rd out (u:Int)->Bf n q nb out Q (rd out (v:Int)) (fun x y=>x=v/\ex y/\y≠u))/\
  (rd out (u:Int)<0->u≠v/\rd (out.set u (rd out (v:Int)+1)) (v:Int)=rd out (v:Int)/\bY (out.set u (rd out (v:Int)+1))=bY out+1/\Bf n q nb (out.set u (rd out (v:Int)+1)) (Q++[u]) (rd out (v:Int)) (fun x y=>x=v/\ex y/\y≠u)):=by
 have hd:=h.d0;refine⟨fun k=>⟨h.len,h.q0,h.lo,h.hi,h.qv,h.mO,h.top,hd,h.back,fun x g i hn y j l hex=>?_⟩,fun k=>?_⟩
 ·by_cases e:x=v/\ex y
  ·have:y=u:=Classical.byContradiction fun e2=>hex ⟨e.1,e.2,e2⟩
   subst this;have:=h.top y j;rw[e.1];exact⟨k,this⟩
  ·exact h.j6 x g i hn y j l e
 ·have B:u≠v:=fun e=>by rw[e] at k;omega
  have C:u<out.length:=by rw[h.len];exact hu
  have r:rd (out.set u (rd out (v:Int)+1)) (v:Int)=rd out (v:Int):=iJ _ _ _ _ B;have e2:∀x:Nat,x<n->rd (out.set u (rd out (v:Int)+1)) (x:Int)=if u=x then rd out (v:Int)+1 else rd out (x:Int):=fun x g=>by
   split
   ·rename_i e;subst e;exact jx _ _ _ C
   ·rename_i e;exact iJ _ _ _ _ e
  have D:=qg out u (rd out (v:Int)+1) C (by rw[<-j5];exact k) (by omega);have m:∀x:Nat,x<n->0<=rd out (x:Int)->rd (out.set u (rd out (v:Int)+1)) (x:Int)=rd out (x:Int):=fun x g i=>by
   rw[e2 x g,if_neg (fun e=>by subst e;omega)]
  have o:∀x,x∈Q->rd (out.set u (rd out (v:Int)+1)) (x:Int)=rd out (x:Int):=fun x g=>m x (h.qv x g).1 (by have:=(h.qv x g).2;omega)
  refine⟨B,r,D,by rw[List.length_set];exact h.len,?_,fun x g=>?_,fun x g=>?_,fun x g=>?_,?_,fun x g=>?_,hd,fun x g H i=>?_,fun x g i hn y j l hex=>?_⟩
  ·rw[iJ _ _ _ _ (fun e=>by subst e;have:=h.q0;omega)];exact h.q0
  ·rw[e2 x g];split
   ·omega
   ·exact h.lo x g
  ·rw[e2 x g,D];split
   ·have:=h.hi v z;omega
   ·have:=h.hi x g;omega
  ·rcases List.mem_append.1 g with g|g
   ·exact⟨(h.qv x g).1,by rw[o x g];exact(h.qv x g).2⟩
   ·obtain rfl:=List.mem_singleton.1 g
    exact⟨hu,by rw[e2 x hu,if_pos rfl];omega⟩
  ·refine List.pairwise_append.2 ⟨h.mO.imp_of_mem fun {a b} p hb I=>by rw[o a p,o b hb];exact I,by simp,fun a p b hb=>?_⟩
   obtain rfl:=List.mem_singleton.1 hb;rw[o a p,e2 b hu,if_pos rfl];have:=h.top a (h.qv a p).1;omega
  ·rw[e2 x g];split
   ·omega
   ·exact h.top x g
  ·by_cases e:u=x
   ·subst e
    exact⟨v,z,G,by rw[r];omega,by rw[r,e2 u hu,if_pos rfl]⟩
   ·rw[e2 x g,if_neg e] at i⊢
    obtain⟨y,s,J,w,K⟩:=h.back x g H i;exact⟨y,s,J,by rw[m y s w];exact w,by rw[m y s w];exact K⟩
  ·have L:u≠x:=fun e=>hn (List.mem_append.2 (.inr (List.mem_singleton.2 e.symm)))
   rw[e2 x g,if_neg L] at i⊢;by_cases E:y=u
   ·subst E
    rw[e2 y j,if_pos rfl];by_cases F:x=v
    ·rw[F];omega
    ·have:=h.j6 x g i (fun hm=>hn (List.mem_append.2 (.inl hm))) y j l (fun f=>F f.1)
     omega
   ·have:=h.j6 x g i (fun hm=>hn (List.mem_append.2 (.inl hm))) y j l (fun f=>hex ⟨f.1,f.2,E⟩)
    rw[m y j this.1];exact this
end Go.Proofs.YtffdiakgjakngaaGreat.P
namespace Go.Proofs.YtffdiakgjakngaaGreat.P
open Go Go.RowKit Go.Proofs.YtffdiakgjakngaaGreatW.PrintWords Go.Proofs.YtffdiakgjakngaaGreatW.PrintLast Go.Proofs.YtffdiakgjakngaaGreatW.PrintMore
set_option linter.unusedVariables false
set_option linter.unusedSimpArgs false
set_option maxHeartbeats 8000000
set_option maxRecDepth 100000
def cE (e b:Nat) (ds:List Deferred) (w:World):Prop:=∃a:List Nat,ds=a.map (fun D=>{target:=.collected D,args:=#[]})/\a.Nodup/\∀D,D∈a->e<=D/\D<b/\w.heap[D]? =some (.deferred (some []))
theorem cE.nil (a b:Nat) (w:World):cE a b [] w:=⟨[],rfl,List.nodup_nil,fun _ h=>by cases h⟩
theorem cE.iK {g b:Nat} {ds:List Deferred} {w w':World} (h:cE g b ds w) (hk:∀D,D<b->w.heap[D]? =some (.deferred (some []))->w'.heap[D]? =some (.deferred (some []))):cE g b ds w':=by
 obtain⟨i,h1,j,a⟩:=h;exact⟨i,h1,j,fun D e=>⟨(a D e).1,(a D e).2.1,hk D (a D e).2.1 (a D e).2.2⟩⟩
theorem cE.below {a b:Nat} {ds:List Deferred} {w w':World} (h:cE a b ds w) (hb:Below w.heap.size w w'):cE a b ds w':=
 h.iK fun D _ e=>(hb.block D (Array.getElem?_eq_some_iff.1 e).1).trans e
theorem cE.bk {a b l:Nat} {ds:List Deferred} {w w':World} (h:cE a b ds w) (hb:Bk l w w') (e:b<=l):cE a b ds w':=
 h.iK fun D g hd=>(hb.heap D (by omega)).trans hd
theorem cE.set {a b:Nat} {ds:List Deferred} {w:World} (h:cE a b ds w) {p:Addr} {cs:Array Value} {t:TypeId} {fr:Nat×Nat} (hp:w.heap[p.block]? =some (.cells cs t fr)) (v:Value):cE a b ds (w.setCell p v):=
 h.iK fun D _ hd=>by
  rw[Below.heap_setCell _ _ _ _ (fun e=>by rw[e,hp] at hd;cases hd)];exact hd
theorem cE.push {a b D:Nat} {ds:List Deferred} {w:World} (h:cE a b ds w) (g:a<=D) (hb:b<=D) (hd:w.heap[D]? =some (.deferred (some []))):cE a (D+1) ({target:=.collected D,args:=#[]}::ds) w:=by
 obtain⟨i,h1,j,e⟩:=h;refine⟨D::i,by rw[h1];rfl,List.nodup_cons.2 ⟨fun hm=>by have:=(e D hm).2.1;omega,j⟩,fun D' k=>?_⟩;rcases List.mem_cons.1 k with rfl|hm
 ·exact⟨g,by omega,hd⟩
 ·have:=e D' hm
  exact⟨this.1,by omega,this.2.2⟩
inductive fF (b:Nat):World->World->Prop
 |refl (w:World):fF b w w
 |step {w w':World} (D:Nat) (h:w.heap[D]? =some (.deferred (some []))) (hb:b<=D) (a:fF b (w.putObj D (.deferred none)) w'):fF b w w'
theorem fF.kG {b:Nat} {w w':World} (h:fF b w w'):Below b w w':=by
 induction h with
 |refl w=>exact al _ _
 |step D h hb _ a=>exact(Bk.below (l:=D) ⟨_,_,h,rfl,rfl⟩ b hb).trans a
theorem fF.cells {b:Nat} {w w':World} (h:fF b w w') {k:Nat} {cs:Array Value} {t:TypeId} {fr:Nat×Nat} (hk:w.heap[k]? =some (.cells cs t fr)):w'.heap[k]? =some (.cells cs t fr):=by
 induction h with
 |refl w=>exact hk
 |step D h hb _ a=>exact a (Bk.cells (l:=D) ⟨_,_,h,rfl,rfl⟩ hk)
theorem fF.size {b:Nat} {w w':World} (h:fF b w w'):w'.heap.size=w.heap.size:=by
 induction h with
 |refl w=>rfl
 |step D h hb _ a=>rw[a];simp[World.putObj]
theorem fF.R {α:Type} {d:Kd α} {e base b:Nat} {ok:Nat->Prop} {v:Value} {xs:List α} {A B:World} (h:fF b A B) (g:d.R e A base ok v xs):d.R e B base ok v xs:=
 Kd.ba (Kd.fj (Kd.eD g) (fun k hk=>by obtain⟨_,_,_,q,_,cells,a⟩:=hk;exact(h.cells a).trans a.symm)) (fun k hk=>hk.1)
theorem tR {F:Fence} {n:Nat} {P:Program} {fn:Func} {R:Ending->World->Prop} {tm:Array Value} {g:Nat}:∀(a:List Nat) (w:World),a.Nodup->(∀D,D∈a->g<=D/\w.heap[D]? =some (.deferred (some [])))->
  (∀w',fF g w w'->∃v,(results fn tm).run P w'= .ok v w'/\R (.returned v) w')->LeavesInM F n P fn tm R (a.map (fun D=>{target:=.collected D,args:=#[]})) .returning w
 |[],w,_,_,h=>by
  obtain⟨v,h1,l⟩:=h w (fF.refl w);exact⟨_,h1,l⟩
 |D::a,w,hn,i,h=>by
  have b:=i D (List.mem_cons_self ..);have j:=List.nodup_cons.1 hn;refine⟨by simp,.inl ⟨_,_,rfl,run_takeDeferred b.2,tR a _ j.2 (fun D' k=>?_) fun w' m=>h w' (fF.step D b.2 b.1 m)⟩⟩;have h1:=i D' (List.mem_cons_of_mem _ k);exact⟨h1.1,(World.putObj_heap_other (fun e=>j.1 (by rw[<-e];exact k))).trans h1.2⟩
theorem tS {F:Fence} {n:Nat} {P:Program} {fn:Func} {R:Ending->World->Prop} {tm:Array Value} {ds:List Deferred} {a b:Nat} {w:World} (i:cE a b ds w)
  (h:∀w',fF a w w'->∃v,(results fn tm).run P w'= .ok v w'/\R (.returned v) w'):bodyPostM F n P fn R .ret {tmps:=tm,defers:=ds} w/\bodyPostM F n P fn R .normal {tmps:=tm,defers:=ds} w:=by
 obtain⟨j,rfl,k,e⟩:=i;have:=tR (F:=F) (n:=n) (P:=P) (fn:=fn) (R:=R) (tm:=tm) j w k (fun D g=>⟨(e D g).1,(e D g).2.2⟩) h;exact⟨this,this⟩
def kH (e:Nat) (J:Nat->Array Value->World->Prop) (n:Nat) (a:Act) (w:World):Prop:=(∃n',n'<n/\J n' a.tmps w)/\∃b,b<=w.heap.size/\cE e b a.defers w
theorem kH.intro {a:Nat} {J:Nat->Array Value->World->Prop} {n:Nat} {tm:Array Value} {ds:List Deferred} {w:World} (k:Nat) (h1:k<n) (e:J k tm w) (b:Nat) (hb:b<=w.heap.size) (g:cE a b ds w):kH a J n {tmps:=tm,defers:=ds} w:=⟨⟨k,h1,e⟩,b,hb,g⟩
theorem tT {F:Fence} {h:Nat} {P:Program} {Q:Exit->Act->World->Prop} {tm:Array Value} {ds:List Deferred} {w:World} {c:Code} (e:Nat) (I:Nat->Array Value->World->Prop) (i:Nat) (l:I i tm w) (b:Nat) (hb:b<=w.heap.size) (g:cE e b ds w)
  (round:∀n tm w,I n tm w->∀ds b,b<=w.heap.size->cE e b ds w->∀(J:Nat->Array Value->World->Prop) (K:Act->World->Prop),(∀k j w',I k j w'->J k j w')->(∀a' w',kH e J n a' w'->K a' w')->c.wpIn F h P (Exit.then K Q) {tmps:=tm,defers:=ds} w):
  (Code.loop c).wpIn F h P Q {tmps:=tm,defers:=ds} w:=by
 refine wpIn_loop_ghost (fun k a w=>I k a.tmps w/\∃b,b<=w.heap.size/\cE e b a.defers w) i ⟨l,b,hb,g⟩ ?_;rintro n ⟨tm,ds⟩ w ⟨m,b,hb,g⟩;exact round n tm w m ds b hb g I _ (fun _ _ _ q=>q) fun a' w' ⟨⟨n',h1,o⟩,p⟩=>⟨n',h1,o,p⟩
end Go.Proofs.YtffdiakgjakngaaGreat.P
namespace Go.Proofs.YtffdiakgjakngaaGreat.P
open Go.RowKit Go.Proofs.YtffdiakgjakngaaGreatW.PrintWords Go.Proofs.YtffdiakgjakngaaGreatW.PrintLast Go.Proofs.YtffdiakgjakngaaGreatW.PrintMore
set_option linter.unusedVariables false
set_option linter.unusedSimpArgs false
set_option maxHeartbeats 8000000
set_option maxRecDepth 100000
section
attribute [local go_sem] Oper.semAt_some
def dZ (B:Nat->Bool) (L:List (Int×Int)):Int:=L.foldl (fun s x=>if B x.1.toNat=true then wrap64 (s+x.2) else s) 0
theorem qh (B:Nat->Bool) (L:List (Int×Int)) (x:Int×Int):dZ B (L++[x])=if B x.1.toNat=true then wrap64 (dZ B L+x.2) else dZ B L:=by simp[dZ,List.foldl_append]
end
section
attribute [local go_sem] Oper.semAt_some
theorem Bw (g n:Nat) (A0:Option Addr) (c0:Nat) (E:List S83) (q:Int) (dv Q:Value) (R:Int) (v:Nat) (lb:Array Value) (B:Nat->Bool) (w:World) (ab:Kd.C aN w A0 E.length E) (hE:ej n E) (hn:n<=1000) (hv:v<n) (i:gO w g n (.slice A0 E.length c0) q dv Q R)
  (hB:∀(W:World) (u:Int),Below w.heap.size w W->0<=u->u<n->Calls Tryz.prog 195 (#[.int .i64 u]++lb) W fun e w'=>e= .returned (.bool (B u.toNat))/\Below W.heap.size W w'):
  Calls Tryz.prog 168 #[.pointer (some ⟨g,0,none⟩),.int .i64 v,.func (.func 195) #[] lb] w fun e w'=>e= .returned (.int .i64 (dZ B (cy E v E.length)))/\Below w.heap.size w w':=by
 have be:=zA hB;have HE:=zA hE;have ak:=zA i;clear hB hE i;refine(callsIn_wide (n:=10)).1 ?_;refine callsIn_of_wp_marks Tryz.func168 rfl trivial ?_ rfl;simp only[Tryz.ntmps168,List.size_toArray,List.length_cons,List.length_nil,Nat.reduceAdd,Nat.reduceSub,Array.replicate_succ,Array.replicate_zero,List.push_toArray,List.append_toArray,List.nil_append,List.cons_append];gi_wp2_with (refine⟨trivial,?_⟩;gi_at_call 194;refine(callsIn_wide.2 (lS g v _)).mono ?_;rintro e w3 ⟨rfl,rfl⟩)
 obtain⟨p,am⟩:∃o:Obj,o= .cells #[.func (.func 195) #[] lb] 121:=⟨_,rfl⟩;obtain⟨on,an⟩:∃o:Obj,o= .cells #[.int .i64 0] 3:=⟨_,rfl⟩;obtain⟨r,ap⟩:∃o:Obj,o= .cells #[.pointer (some ⟨g,0,none⟩)] 135:=⟨_,rfl⟩;obtain⟨y,av⟩:∃o:Obj,o= .cells #[.int .i64 v] 3:=⟨_,rfl⟩;have Z0:=bl w p;have S:=bl (w.alloc p) on;have T:=bl ((w.alloc p).alloc on) r;have U:=bl (((w.alloc p).alloc on).alloc r) y;simp only[World.size_alloc] at S T U;have H0:=zA ((aw (aw (aw Z0 on) r) y).trans (by rw[am]:_=some (.cells #[.func (.func 195) #[] lb] 121 (0,0))));have H1:=zA ((aw (aw S r) y).trans (by rw[an]:_=some (.cells #[.int .i64 0] 3 (0,0))));have H2:=zA ((aw T y).trans (by rw[ap]:_=some (.cells #[.pointer (some ⟨g,0,none⟩)] 135 (0,0))));have H3:=zA (U.trans (by rw[av]:_=some (.cells #[.int .i64 v] 3 (0,0))));have z:=zA (ao (ao (ao (ao (al w.heap.size w) p) on) r) y);have aP:Aside0 (gO ((((w.alloc p).alloc on).alloc r).alloc y) g n (.slice A0 E.length c0) q dv Q R):=⟨aJ ak.out z.out⟩;have bw:g<w.heap.size:=az ak.out;have bg:=zA (Kd.aq ab z.out);clear Z0 S T U;subst am an ap av;have bi:=z.out.size;have bk:((((w.alloc (.cells #[.func (.func 195) #[] lb] 121)).alloc (.cells #[.int .i64 0] 3)).alloc (.cells #[.pointer (some ⟨g,0,none⟩)] 135)).alloc (.cells #[.int .i64 v] 3)).heap.size=w.heap.size+4:=by simp
 generalize ((((w.alloc (.cells #[.func (.func 195) #[] lb] 121)).alloc (.cells #[.int .i64 0] 3)).alloc (.cells #[.pointer (some ⟨g,0,none⟩)] 135)).alloc (.cells #[.int .i64 v] 3))=j at H0 H1 H2 H3 z aP bg bi bk⊢;refine iG (σ:=Unit) (α:=Int×Int) (F:=Fence.wide) (n:=10) rfl (by decide) (gf:=207) (lb:=#[.pointer (some ⟨w.heap.size+1+1,0,none⟩),.pointer (some ⟨w.heap.size+1+1+1,0,none⟩)]) rfl trivial (enters_of Tryz.func207 (by kernel_rfl) rfl)
  (fun o=>oC (w.heap.size+1+1) (w.heap.size+1+1+1) g n A0 c0 E q dv Q R v w _ ab HE.out hn hv (ao (ao z.out _) _) (aw (aw H2.out _) _) (aw (aw H3.out _) _) (aw (aw aP.out _) _)) (fun _=>rfl)
  (fun _=>True) ?eB ?st ?ar
  (fun _ pre W=>j.heap.size<=W.heap.size/\W.heap[w.heap.size]? =some (.cells #[.func (.func 195) #[] lb] 121 (0,0))/\W.heap[w.heap.size+1]? =some (.cells #[.int .i64 (dZ B pre)] 3 (0,0))/\Below w.heap.size w W) (fun _ _ _ _=>False)
  ?is (fun _ _ _ _ _ _ h _=>h) ?ib (fun _ _ _ _ _ h _=>h) ?kt ?h0 ?a1 ?assign ?body ?done (fun _ _ _ _ _ _ _ h=>h.elim)
 case assign=>
  intro l x W K hK;gi_wp2;exact hK
 case eB=>
  intro o s W1 h;exact⟨trivial,by rw[h];exact cp.refl _ _⟩
 case st=>intro s A B _ h;exact cW h
 case ar=>intro s x A B _ h;exact cW h.2
 case is=>
  rintro s pre A B _ ⟨H,h1,V,X⟩ i;exact⟨Nat.le_trans H i.size,aJ h1 i,aJ V i,a7 X i⟩
 case ib=>
  rintro s pre A B ⟨H,h1,V,X⟩ hb;exact⟨by rw[hb.size];exact H,hb.cells h1,hb.cells V,X.trans (hb.below w.heap.size (by omega))⟩
 case kt=>
  intro s A B C D N aS a0;refine⟨fun aY=>((N.below w.heap.size (by omega)).trans (aS.1 (by rw[N.size];exact aY))).trans (a0.below w.heap.size (by omega)),fun k hk I=>?_⟩;have a2:k≠j.heap.size+1:=by rcases hk with rfl|rfl|rfl<;>omega
  exact(a0.heap k a2).trans ((aS.2 k hk (by rw[N.size];exact I)).trans (N.heap k a2))
 case h0=>
  rintro o s W1 rfl;exact⟨by simp;omega,aw (aw H0.out _) _,aw (aw H1.out _) _,ao (ao z.out _) _⟩
 case body=>
  rintro l s pre ⟨u,m⟩ Wb W1 W _ ⟨H,i1,i2,i3⟩ ⟨Y,J⟩ bo b;have Z:=zA (b.cells (aJ i1 J));have L:=zA (b.cells (aJ i2 J));have b3:=zA ((a7 i3 J).trans (b.below w.heap.size (by omega)));have b0:j.heap.size<=W.heap.size:=by have:=b.size;have:=J.size;omega
  clear i1 i2 i3 J b bo;simp only at Y;have b4:W.cell? ⟨w.heap.size,0,none⟩=some (.func (.func 195) #[] lb):=(ai Z.out 0).trans rfl;have O:=zA (be.out W u b3.out Y.1 Y.2.1);have M:=zA (qh B pre (u,m));generalize dZ B pre=s0 at L M;cases P:B u.toNat with
  |true=>
   rw[P] at O M;clear P;gi_wp2_with (refine⟨trivial,?_⟩;gi_at_call 195;refine(callsIn_wide.2 O.out).mono ?_;rintro e w5 ⟨rfl,G⟩;have a:=zA G;have D2:=zA (aJ L.out G);have c5:w5.cell? ⟨w.heap.size+1,0,none⟩=some (.int .i64 s0):=(ai D2.out 0).trans rfl;have f5:=bD D2.out 0;clear G)
   have aY:=a.out.size;refine⟨(cW a.out).trans (fz _ _ (by show w.heap.size+1<j.heap.size;omega)),⟨fun aY=>Below.setCell (a.out.mono aY) (by show w.heap.size<=w.heap.size+1;omega) _,fun k hk I=>?_⟩,by simp;omega,?_,?_,Below.setCell (a7 b3.out a.out) (by show w.heap.size<=w.heap.size+1;omega) _⟩
   ·rw[Below.heap_setCell _ _ _ _ (by rcases hk with rfl|rfl|rfl<;>(show _≠w.heap.size+1)<;>omega)]
    exact a.out.block k I
   ·rw[Below.heap_setCell _ _ _ _ (by show w.heap.size≠w.heap.size+1;omega)]
    exact aJ Z.out a.out
   ·have h:=bR D2.out 0 (.int .i64 (wrap64 (s0+m)))
    rw[M.out];simpa using h
  |false=>
   rw[P] at O M;clear P;gi_wp2_with (refine⟨trivial,?_⟩;gi_at_call 195;refine(callsIn_wide.2 O.out).mono ?_;rintro e w5 ⟨rfl,G⟩;have a:=zA G;clear G)
   have aY:=a.out.size;exact⟨cW a.out,⟨fun aY=>a.out.mono aY,fun k hk I=>a.out.block k I⟩,by omega,aJ Z.out a.out,by rw[M.out];exact aJ L.out a.out,a7 b3.out a.out⟩
 case done=>
  rintro s xs W W' _ rfl ⟨H,i1,i2,i3⟩ b a4;have L:=zA (b.cells i2);have b3:=zA (i3.trans (b.below w.heap.size (by omega)));have a5:=zA a4;clear i1 i2 i3 a4;have hc:W'.cell? ⟨w.heap.size+1,0,none⟩=some (.int .i64 (dZ B (cy E v E.length))):=(ai L.out 0).trans rfl;gi_wp2_with fail
  have bv:Bk j.heap.size W' (W'.putObj j.heap.size (.deferred none)):=⟨_,_,a5.out,rfl,rfl⟩;exact i' (D:=j.heap.size) rfl a5.out (results_tmp rfl _ _ _) ⟨rfl,b3.out.trans (bv.below w.heap.size (by omega))⟩
end
section
theorem qi {b:Nat->Bool} {u:Nat}:∀(l:List Nat),b u=true->cL b l u=true:=by
 intro l;induction l generalizing b with
 |nil=>exact id
 |cons v l a=>intro h;exact a (b:=dY b v) (by unfold dY;split<;>simp_all)
theorem qj (b:Nat->Bool) (v:Nat) (l:List Nat):cL b (v::l)=cL (dY b v) l:=rfl
section
variable {n:Nat} {c:(Nat->Bool)->Nat->Bool}
theorem qk (g:∀b v,c b v=true->b v=false):∀(f:Nat) (b:Nat->Bool),dO n b<=f->∀v,v<n->c (cL b (fE n c f b)) v=false:=by
 intro f;induction f with
 |zero=>
  intro b h v e;show c b v=false
  cases i:c b v with
  |false=>rfl
  |true=>
   have:=mL e (g b v i);omega
 |succ f j=>
  intro b h v e;cases a:jv n c b with
  |none=>
   simp only[fE,a];unfold jv at a;rw[List.find?_eq_none] at a;have:=a v (List.mem_range.2 e);simpa [cL] using this
  |some v0=>
   have h1:=List.find?_some a;have k:=List.mem_of_find?_eq_some a;have l:=mL (List.mem_range.1 k) (g b v0 (by simpa using h1));simp only[fE,a,qj];exact j (dY b v0) (by omega) v e
theorem Bx (hm:∀(b b':Nat->Bool) v,(∀u,b u=true->b' u=true)->b' v=false->c b v=true->c b' v=true) (S:Nat->Bool):
  ∀(f:Nat) (b:Nat->Bool),(∀v,S v=true->b v=false)->(∃v,v<n/\S v=true/\cL b (fE n c f b) v=true)->∃v,v<n/\S v=true/\c (fun u=> !S u) v=true:=by
 intro f;induction f with
 |zero=>
  rintro b hb ⟨v,j,a,h⟩;have:=hb v a;simp[fE,cL,this] at h
 |succ f k=>
  rintro b hb ⟨v,j,a,h⟩;cases g:jv n c b with
  |none=>
   simp only[fE,g] at h;have:=hb v a;simp[cL,this] at h
  |some v0=>
   have h1:=List.find?_some g;have l:=List.mem_of_find?_eq_some g;simp only[fE,g,qj] at h;cases i:S v0 with
   |true=>
    refine⟨v0,List.mem_range.1 l,i,hm b _ v0 (fun u hu=>?_) (by simp[i]) (by simpa using h1)⟩;cases m:S u with
    |true=>exact absurd hu (by simp[hb u m])
    |false=>rfl
   |false=>
    refine k (dY b v0) (fun u hu=>?_) ⟨v,j,a,h⟩;unfold dY;rw[if_neg (fun e=>by subst e;rw[i] at hu;cases hu)];exact hb u hu
theorem By (g:∀b v,c b v=true->b v=false) (hm:∀(b b':Nat->Bool) v,(∀u,b u=true->b' u=true)->b' v=false->c b v=true->c b' v=true) (b:Nat->Bool):
  (∀v,v<n->cL b (eG n c b) v=true)↔∀S:Nat->Bool,(∃v,v<n/\S v=true)->(∀v,S v=true->b v=false)->∃v,v<n/\S v=true/\c (fun u=> !S u) v=true:=by
 constructor
 ·rintro h S ⟨v,a,i⟩ hb
  exact Bx hm S (dO n b) b hb ⟨v,a,i,h v a⟩
 ·intro h v a
  cases j:cL b (eG n c b) v with
  |true=>rfl
  |false=>
   obtain⟨u,hu,l,e⟩:=h (fun u=> !cL b (eG n c b) u) ⟨v,a,by simp[j]⟩ (fun u hu=>by
    cases k:b u with
    |false=>rfl
    |true=>simp[qi _ k] at hu)
   have:=qk (n:=n) g (dO n b) b (aI _) u hu;simp only[Bool.not_not] at e;rw[show eG n c b=fE n c (dO n b) b from rfl] at e;rw[this] at e;cases e
end
theorem tU {t:Nat->Nat->Int} (a:∀i j,0<=t i j) {b b':Nat->Bool} (h:∀u,b u=true->b' u=true) (v:Nat):∀u,dF t b v u<=dF t b' v u
 |0=>Int.le_refl _
 |u+1=>by
  have h1:=tU a h v u;have e:=h u;have g:=a v u;simp only[dF];by_cases hb:b u=true
  ·rw[if_pos hb,if_pos (e hb)];omega
  ·rw[if_neg hb]
   split<;>omega
def oD (n:Nat) (t:Nat->Nat->Int) (q:Nat) (c:Nat->Int):Prop:=∀S:Nat->Bool,(∃v,v<n/\S v=true)->S q=false->∃v,v<n/\S v=true/\c v<dF t (fun u=> !S u) v n
def fX (n:Nat) (t:Nat->Nat->Int) (q:Nat) (l:List Int):Bool:=(List.range n).all (cL (cM q) (eG n (cu n t l) (cM q)))
theorem ql {n:Nat} {t:Nat->Nat->Int} (m:∀i j,0<=t i j) (q:Nat) (l:List Int):fX n t q l=true↔oD n t q (fun v=>rd l v):=by
 have h:=By (n:=n) (c:=cu n t l) (fun b v h=>mM b v h) (fun b b' v hb a g=>by
  unfold cu at g⊢;simp only[Bool.and_eq_true,decide_eq_true_eq] at g⊢;exact⟨by simp[a],Int.lt_of_lt_of_le g.2 (tU m hb v n)⟩) (cM q)
 unfold fX oD;rw[List.all_eq_true];constructor
 ·intro h1 S hS o
  obtain⟨v,a,k,g⟩:=h.1 (fun v a=>h1 v (List.mem_range.2 a)) S hS (fun v a=>by
   unfold cM;rw[if_neg (fun e=>by subst e;rw[o] at a;cases a)])
  unfold cu at g;simp only[Bool.and_eq_true,decide_eq_true_eq] at g;exact⟨v,a,k,g.2⟩
 ·intro h1 v a
  refine h.2 (fun S hS hb=>?_) v (List.mem_range.1 a);obtain⟨v,a,k,g⟩:=h1 S hS (by
   cases p:S q with
   |false=>rfl
   |true=>have:=hb q p;simp[cM] at this)
  refine⟨v,a,k,?_⟩;unfold cu;simp[k,g]
def valOf (n:Nat) (t:Nat->Nat->Int) (v:Nat):Int:=dF t (fun u=> !decide (u=v)) v n
theorem oD.lt {n:Nat} {t:Nat->Nat->Int} {q:Nat} {c:Nat->Int} (h:oD n t q c) {v:Nat} (a:v<n) (b:v≠q):c v<valOf n t v:=by
 obtain⟨u,hu,g,i⟩:=h (fun u=>decide (u=v)) ⟨v,a,by simp⟩ (by simpa using fun e=>b e.symm);have:u=v:=by simpa using g
 subst this;exact i
end
theorem Bz (gb a cr n:Nat) (B:Nat->Bool) (ok:Nat->Prop) (base:Nat) (W:World) (u:Int) (hb:W.heap[gb]? =some (.cells #[.slice (some ⟨a,0,none⟩) n cr] 43 (0,0))) (g:Kd.bool.R 4 W base ok (.slice (some ⟨a,0,none⟩) n cr) ((List.range n).map B)) (h:0<=u) (hn:u<n):
  Calls Tryz.prog 195 #[.int .i64 u,.pointer (some ⟨gb,0,none⟩)] W fun e w'=>e= .returned (.bool (B u.toNat))/\Below W.heap.size W w':=by
 have i:W.cell? ⟨gb,0,none⟩=some (.slice (some ⟨a,0,none⟩) n cr):=(ai hb 0).trans rfl;have b:=(Kd.bW false g u h hn).1;have e:bV false ((List.range n).map B) u=B u.toNat:=by
  obtain⟨m,rfl⟩:=Int.eq_ofNat_of_zero_le h;have:m<n:=by omega
  simp[bV,bb,List.getElem?_map,List.getElem?_range this]
 rw[e] at b;have b:W.cell? ⟨a,u.toNat,none⟩=some (.bool (B u.toNat)):=b;clear g hb e;go_enter Tryz.func195,Tryz.ntmps195
 go_wp2;go_ret;exact⟨rfl,al _ _⟩
theorem BA (n:Nat) (B:Nat->Bool) (v:Nat):((List.range n).map B).set v true=(List.range n).map (dY B v):=by
 refine List.ext_getElem (by simp) fun i h1 a=>?_
 rw[List.getElem_set];simp only[List.getElem_map,List.getElem_range];unfold dY;by_cases e:v=i
 ·subst e;simp
 ·rw[if_neg e,if_neg (fun h=>e h.symm)]
theorem BB (n q:Nat):(List.replicate n false).set q true=(List.range n).map (cM q):=by
 refine List.ext_getElem (by simp) fun i h1 a=>?_
 rw[List.getElem_set];simp only[List.getElem_map,List.getElem_range,List.getElem_replicate];unfold cM;by_cases e:q=i
 ·subst e;simp
 ·rw[if_neg e,if_neg (fun h=>e h.symm)]
theorem BC {n:Nat} {c:(Nat->Bool)->Nat->Bool} {b F:Nat->Bool} (hm:∀(b b':Nat->Bool) v,(∀u,u<n->b u=true->b' u=true)->b' v=false->c b v=true->c b' v=true) (hF:∀v,v<n->c F v=false) (hb:∀v,v<n->b v=true->F v=true):
  ∀(f:Nat) (b:Nat->Bool),(∀v,v<n->b v=true->F v=true)->∀v,v<n->cL b (fE n c f b) v=true->F v=true:=by
 intro f;induction f with
 |zero=>intro b hb v a h;exact hb v a h
 |succ f j=>
  intro b hb v a h;cases g:jv n c b with
  |none=>simp only[fE,g] at h;exact hb v a h
  |some v0=>
   have h1:=List.find?_some g;have l:=List.mem_range.1 (List.mem_of_find?_eq_some g);simp only[fE,g,qj] at h;refine j (dY b v0) (fun u hu i=>?_) v a h;unfold dY at i;by_cases e:u=v0
   ·subst e
    cases k:F u with
    |true=>rfl
    |false=>have:=hm b F u hb k (by simpa using h1);rw[hF u hu] at this;cases this
   ·rw[if_neg e] at i;exact hb u hu i
def bA (n:Nat) (t:Nat->Nat->Int) (q:Nat) (d:List Int):Nat->Bool:=cL (cM q) (eG n (cu n t d) (cM q))
theorem tV {n:Nat} {t:Nat->Nat->Int} (e:∀i j,0<=t i j) {d:List Int} (b b':Nat->Bool) (v:Nat) (h:∀u,u<n->b u=true->b' u=true) (g:b' v=false) (a:cu n t d b v=true):cu n t d b' v=true:=by
 unfold cu at a⊢;simp only[Bool.and_eq_true,decide_eq_true_eq] at a⊢;have hf:∀m,m<=n->dF t b v m<=dF t b' v m:=by
  intro m;induction m with
  |zero=>intro _;exact Int.le_refl _
  |succ m k=>
   intro hm;have h1:=k (by omega);have o:=e v m;have l:=h m (by omega);simp only[dF];by_cases hb:b m=true
   ·rw[if_pos hb,if_pos (l hb)];omega
   ·rw[if_neg hb];split<;>omega
 exact⟨by simp[g],Int.lt_of_lt_of_le a.2 (hf n (aI _))⟩
theorem BD {n:Nat} {t:Nat->Nat->Int} (k:∀i j,0<=t i j) {q:Nat} {d:List Int} {B:Nat->Bool} (l:B q=true) (m:∀v,v<n->B v=true->bA n t q d v=true) (o:∀v,v<n->cu n t d B v=false):∀v,v<n->bA n t q d v=B v:=by
 intro v a;cases g:B v with
 |true=>exact m v a g
 |false=>
  cases hF:bA n t q d v with
  |false=>rfl
  |true=>
   have h:∀u,u<n->cM q u=true->B u=true:=fun u _ hu=>by
    unfold cM at hu;by_cases e:u=q
    ·rw[e];exact l
    ·rw[if_neg e] at hu;cases hu
   have:=BC (b:=cM q) (fun b b' v h1 p r=>tV k b b' v h1 p r) o h _ (cM q) h v a hF;rw[g] at this;cases this
theorem BE {n:Nat} {t:Nat->Nat->Int} (g:∀i j,0<=t i j) {q:Nat} {d:List Int} {B:Nat->Bool} (a:∀v,v<n->B v=true->bA n t q d v=true) {v:Nat} (m:v<n) (k:cu n t d B v=true):∀u,u<n->dY B v u=true->bA n t q d u=true:=by
 intro u hu h;unfold dY at h;by_cases e:u=v
 ·subst e
  cases hF:bA n t q d u with
  |true=>rfl
  |false=>
   have h1:=qk (n:=n) (c:=cu n t d) (fun b v h=>mM b v h) (dO n (cM q)) (cM q) (aI _) u hu;have l:=tV g B (bA n t q d) u a hF k;rw[show cu n t d (cL (cM q) (fE n (cu n t d) (dO n (cM q)) (cM q))) u=cu n t d (bA n t q d) u from rfl,l] at h1;cases h1
 ·rw[if_neg e] at h;exact a u hu h
theorem BF (g n:Nat) (A0:Option Addr) (c0:Nat) (E:List S83) (q:Nat) (Ad:Option Addr) (cd:Nat) (d:List Int) (sv:Value) (er:Int) (w:World) (c5:Kd.C aN w A0 E.length E) (hE:ej n E) (hn:n<=1000) (hq:q<n) (aO:gO w g n (.slice A0 E.length c0) q (.slice Ad d.length cd) sv er)
  (hd:Kd.C (Kd.int .i64) w Ad d.length d) (b6:d.length=n) (b_:∀(B:Nat->Bool) (v:Nat),v<n->B v=false->dZ B (cy E v E.length)=dF (timesOf E) B v n):
  Calls Tryz.prog 170 #[.pointer (some ⟨g,0,none⟩)] w fun e w'=>∃G cl,e= .returned (.tuple #[.slice (some ⟨G,0,none⟩) n cl,.bool ((List.range n).any fun v=> !bA n (timesOf E) q d v)])/\Kd.bool.R 4 w' w.heap.size (fun _=>True) (.slice (some ⟨G,0,none⟩) n cl) ((List.range n).map fun v=> !bA n (timesOf E) q d v)/\Below w.heap.size w w':=by
 have ek:=Tryz.underlying188;have hu:=Tryz.underlying24;have c6:=zA b_;have HE:=zA hE;have ar:=zA aO;have HD:=zA hd;have s0:w.cell? ⟨g,0,none⟩=some (.int .i64 n):=(ai aO 0).trans rfl;have cc:=b6;have c7:=zA cc;clear b_ hE aO hd b6 cc;have ce:(0:Int)<=(n:Int):=by omega
 go_enter Tryz.func170,Tryz.ntmps170
 go_wp2_with (first|((with_reducible refine aH (N:=16) rfl ?_);refine Kd.jM Kd.bool _ 4 rfl (N:=16) rfl 43 _ _ rfl (n:Int) rfl rfl Tryz.underlying43 (.bool false) 1 mz rfl (by decide) (by omega) false (ok:=fun _=>True) (okp:=fun _=>True) rfl (fun _ hk=>hk) trivial ce (by simp;omega) (al _ _) (aI _) ?_;intro v1 w1 H hb aP aS;rw[aQ] at H;obtain⟨l,cr,K,cf,a0, -⟩:=Kd.fC H (by rw[List.length_replicate];omega);rw[List.length_replicate] at K;subst K;have ch:=zA H;have a1:=zA hb;clear H hb aP aS))
 have c8:=a1.out.size;have L:=zA (bl w1 (.cells #[.slice (some ⟨l,0,none⟩) n cr] 43));have T:=zA (Kd.aM ch.out (.cells #[.slice (some ⟨l,0,none⟩) n cr] 43));have M:=zA (ao a1.out (.cells #[.slice (some ⟨l,0,none⟩) n cr] 43));have a2:=zA (aJ ar.out M.out);have ci:=zA (Kd.aq HD.out M.out);have el:g<w.heap.size:=az ar.out;have c9:l<w1.heap.size:=a0;clear ch a1 a0 s0;generalize w1.alloc (.cells #[.slice (some ⟨l,0,none⟩) n cr] 43)=W2 at L T M a2 ci⊢;generalize w1.heap.size=gb at L c9 c8⊢;have b0:W2.cell? ⟨gb,0,none⟩=some (.slice (some ⟨l,0,none⟩) n cr):=(ai L.out 0).trans rfl;have s2:W2.cell? ⟨g,2,none⟩=some (.int .i64 q):=(ai a2.out 2).trans rfl;obtain⟨o,hf⟩:=Kd.bW false T.out (q:Int) (by omega) (by omega);rw[aQ] at o hf;have cj:W2.cell? ⟨l,q,none⟩=some (.bool (bV false (List.replicate n false) q)):=o;have es:(0:Int)<=(q:Int):=by omega
 have ev:(q:Int)<(n:Int):=by omega
 clear o;generalize bV false (List.replicate n false) q=x0 at cj;go_region
 go_wp2;have y:=Kd.dh T.out (q:Int) true;rw[aQ,BB] at y;have a3:=zA (Kd.bq y.1);have a4:=zA (eI (cS (g:=gb) L.out y.2 (fun e=>by injection e with e;omega)));have a5:=zA (bU (Below.setCell (p:=⟨l,q,none⟩) M.out cf (.bool true)));have ht:∀i j,0<=timesOf E i j:=fun i j=>(HE.out.times i j).1
 have HT:=zA ht;have cq:=zA (show cM q q=true by simp[cM]);have cs:Aside0 (∀v,v<n->cM q v=true->bA n (timesOf E) q d v=true):=⟨fun v K h=>qi _ h⟩;have c':gb≠l:=by omega
 clear y T L a2 M ci b0 s2 cj hf ht;generalize (W2.setCell ⟨l,q,none⟩ (.bool true)).drew=W3 at a3 a4 a5⊢;go_loopg [6] (2*n+2) (fun kq ag wr=>∃(B:Nat->Bool) (b:Bool),ag= .bool b/\Aside0 (B q=true)/\Aside0 (∀v,v<n->B v=true->bA n (timesOf E) q d v=true)/\Aside0 (b=false->∀v,v<n->cu n (timesOf E) d B v=false)/\Aside0 (wr.heap[gb]? =some (.cells #[.slice (some ⟨l,0,none⟩) n cr] 43 (0,0)))/\Aside0 (Kd.bool.R 4 wr w.heap.size (fun _=>True) (.slice (some ⟨l,0,none⟩) n cr) ((List.range n).map B))/\Aside0 (Below w.heap.size w wr)/\Aside0 (2*dO n B+(if b=true then 1 else 0)<=kq))
 case atStart=>exact⟨cM q,true,rfl,cq,cs,⟨fun h=>by cases h⟩,a4,a3,a5,⟨by have:=tF n (cM q);simp;omega⟩⟩
 case round=>
  clear cq cs a4 a3 a5;obtain⟨B,b,rfl,I,J,bf,D,F,r,HK⟩:=hrel;have O:=zA (aJ ar.out r.out);have s0:wr.cell? ⟨g,0,none⟩=some (.int .i64 n):=(ai O.out 0).trans rfl;cases b with
  |true=>
   go_wp2;go_loopg [6,30] (n) (fun kq ag Z wr=>∃(v:Nat) (m:Nat->Bool) (b':Bool),ag= .bool b'/\Z= .int .i64 v/\v<=n/\Aside0 (m q=true)/\Aside0 (∀v,v<n->m v=true->bA n (timesOf E) q d v=true)/\Aside0 (b'=false->m=B/\∀u,u<v->cu n (timesOf E) d B u=false)/\Aside0 (dO n m+(if b'=true then 1 else 0)<=dO n B)/\Aside0 (wr.heap[gb]? =some (.cells #[.slice (some ⟨l,0,none⟩) n cr] 43 (0,0)))/\Aside0 (Kd.bool.R 4 wr w.heap.size (fun _=>True) (.slice (some ⟨l,0,none⟩) n cr) ((List.range n).map m))/\Aside0 (Below w.heap.size w wr)/\Aside0 (kq=n-v))
   case atStart=>exact⟨0,B,false,rfl,rfl,by omega,I,J,⟨fun _=>⟨rfl,fun u hu=>by omega⟩⟩,⟨by simp⟩,D,F,r,⟨rfl⟩⟩
   case round=>
    clear O s0 I J bf D F r;obtain⟨v,m,b',rfl,rfl,K,I,J,P,HU,D,F,r,bg⟩:=hrel;by_cases Q:v<n
    ·have dk:(0:Int)<=(v:Int):=by omega
     have dl:(v:Int)<(n:Int):=by omega
     have b0:wr.cell? ⟨gb,0,none⟩=some (.slice (some ⟨l,0,none⟩) n cr):=(ai D.out 0).trans rfl;obtain⟨o,hf⟩:=Kd.bW false F.out (v:Int) (by omega) (by omega);rw[aQ] at o hf;have e1:bV false ((List.range n).map m) v=m v:=by simp[bV,bb,List.getElem?_map,List.getElem?_range Q]
     rw[e1] at o;replace o:wr.cell? ⟨l,v,none⟩=some (.bool (m v)):=o;clear e1;cases V:m v with
     |true=>
      rw[V] at o;have ab:=zA V;clear V;go_wp2_with fail
      go_quiet (fail)
      go_wp2;go_roundg (n- (v+1))
      case measure=>rw[bg.out];omega
      case rel=>exact⟨v+1,m,b',rfl,by go_num,by omega,I,J,⟨fun h=>⟨(P.out h).1,fun u hu=>by
       by_cases e:u=v
       ·subst e
        have:=(P.out h).1;have h3:=ab.out;rw[this] at h3;unfold cu;rw[h3];rfl
       ·exact(P.out h).2 u (by omega)⟩⟩,HU,⟨by repeat(first|exact D.out|apply iw|apply eI)⟩,⟨by repeat(first|exact F.out|apply Kd.bB|apply Kd.bq)⟩,⟨by repeat(first|exact r.out|apply b8|apply bU)⟩,⟨rfl⟩⟩
     |false=>
      rw[V] at o;have ab:=zA V;have O:=zA (aJ ar.out r.out);have s3:wr.cell? ⟨g,3,none⟩=some (.slice Ad d.length cd):=(ai O.out 3).trans rfl;have dv:=c7.out;obtain⟨a,ea,hx⟩:=Kd.bT (Kd.aq HD.out r.out) v (by omega) (by omega);subst ea;rw[aQ] at hx;have ey:(v:Int)<(d.length:Int):=by omega
      have e0:=az D.out;have e3:=Kd.a_ F.out l rfl;have e4:=az O.out;have e5:=a8 _ _ hx;clear V dv;go_wp2_with fail
      go_region_held3 (fun w'=>w'.cell? ⟨gb,0,none⟩=some (.slice (some ⟨l,0,none⟩) n cr)/\w'.cell? ⟨l,v,none⟩=some (.bool false)/\w'.cell? ⟨g,3,none⟩=some (.slice (some a) d.length cd)/\w'.cell? (a.add v)=some (.int .i64 (rd d v)))
       (first|go_keep|(go_split_ands;exact⟨(S.cell (p:=⟨gb,0,none⟩) (by simp;omega)).trans (by go_simp),(S.cell (p:=⟨l,v,none⟩) (by simp;omega)).trans (by go_simp),(S.cell (p:=⟨g,3,none⟩) (by simp;omega)).trans (by go_simp),(S.cell (p:=a.add v) (by simp;omega)).trans (by go_simp)⟩))
       (first|(go_at_call 168;refine(Bw g n A0 c0 E q _ sv er v #[.pointer (some ⟨gb,0,none⟩)] m _ (Kd.aq c5 zB) HE.out hn Q (zK O) (fun W u cv d1 d2=>Bz gb l cr n m _ _ W u (aJ (zK D) cv) (Kd.cR (zR F) cv) d1 d2)).mono ?_;rintro e w5 ⟨rfl,S⟩))
      have U:=zb D S;have X:=bp F S;have am:=zS r S;have cx:=zA (c6.out m v Q ab.out);have c1:cu n (timesOf E) d m v=decide (rd d v<dZ m (cy E v E.length)):=by unfold cu;rw[ab.out,cx.out];rfl
      have bk:=zA c1;rename_i hHeld;clear hHeld c1 S D F r O o hf b0 s3 hx;generalize dZ m (cy E v E.length)=x at bk cx⊢;have b5:w5.cell? ⟨gb,0,none⟩=some (.slice (some ⟨l,0,none⟩) n cr):=(ai U.out 0).trans rfl;obtain⟨o,hf⟩:=Kd.bW false X.out (v:Int) (by omega) (by omega);rw[aQ] at o hf;generalize bV false ((List.range n).map m) (v:Int)=z at o;replace o:w5.cell? ⟨l,v,none⟩=some (.bool z):=o;by_cases c2:rd d v<x
      ·have an:decide (rd d v<x)=true:=ay c2
       have bo:Aside0 (cu n (timesOf E) d m v=true):=⟨bk.out.trans an⟩;have y:=Kd.dh X.out (v:Int) true;rw[aQ,BA] at y;have d3:=zA y.1;have d4:=zA (cS (g:=gb) U.out y.2 (fun e=>by injection e with e;exact c' e));have d5:=zA (Below.setCell (p:=⟨l,v,none⟩) am.out cf (.bool true));clear y;simp only[an];go_wp2;go_roundg (n- (v+1))
       case measure=>rw[bg.out];omega
       case rel=>exact⟨v+1,dY m v,true,rfl,by go_num,by omega,⟨by unfold dY;split;rfl;exact I.out⟩,⟨BE HT.out J.out Q bo.out⟩,⟨fun h=>by cases h⟩,⟨by have h1:=mL Q ab.out;have h2:=HU.out;simp;split at h2<;>omega⟩,d4,d3,d5,⟨rfl⟩⟩
      ·have an:decide (rd d v<x)=false:=a6 c2
       have bo:Aside0 (cu n (timesOf E) d m v=false):=⟨bk.out.trans an⟩;clear o hf b5;simp only[an];go_wp2;go_roundg (n- (v+1))
       case measure=>rw[bg.out];omega
       case rel=>exact⟨v+1,m,b',rfl,by go_num,by omega,I,J,⟨fun h=>⟨(P.out h).1,fun u hu=>by
        by_cases e:u=v
        ·subst e
         have h3:=bo.out;rw[(P.out h).1] at h3;exact h3
        ·exact(P.out h).2 u (by omega)⟩⟩,HU,U,X,am,⟨rfl⟩⟩
    ·obtain rfl:v=n:=by omega
     go_wp2;go_roundg (2*dO v m+(if b'=true then 1 else 0))
     case measure=>
      have h1:=HK.out;have h2:=HU.out;cases b'<;>simp at h1 h2⊢ <;>omega
     case rel=>exact⟨m,b',rfl,I,J,⟨fun h u hu=>by rw[(P.out h).1];exact(P.out h).2 u hu⟩,D,F,r,⟨aI _⟩⟩
  |false=>
   go_wp2_with (first|((with_reducible refine aH (N:=61) rfl ?_);refine Kd.jM Kd.bool _ 4 rfl (N:=61) rfl 43 _ _ rfl (n:Int) rfl rfl Tryz.underlying43 (.bool false) 1 mz rfl (by decide) (by omega) false (ok:=fun _=>True) (okp:=fun _=>True) rfl (fun _ hk=>hk) trivial ce (by simp;omega) (al _ _) (aI _) ?_;intro v1 w5 H hb aP aS;rw[aQ] at H;obtain⟨G,cl,K,d6,a0, -⟩:=Kd.fC H (by rw[List.length_replicate];omega);rw[List.length_replicate] at K;subst K;have c3:=zA H;have am:=zA (a7 r.out hb);have U:=zA (aJ D.out hb);have X:=zA (Kd.ba (Kd.cR (Kd.eD F.out) hb) (ok':=fun k=>k≠G) (fun k hk=>by have:=hk.2.2;omega));have d7:gb≠G:=(fun e=>by have:=az D.out;omega);have d8:w.heap.size<=G:=Nat.le_trans r.out.size d6;have b5:w5.cell? ⟨gb,0,none⟩=some (.slice (some ⟨l,0,none⟩) n cr):=(ai U.out 0).trans rfl;clear H hb aP aS))
   have bv:=zA (BD HT.out I.out J.out (bf.out (by simp)));have d9:=r.out.size;clear O s0 I J bf D F r b5;have c4:Aside0 (Kd.bool.R 4 w5 w.heap.size (fun _=>True) (.slice (some ⟨G,0,none⟩) n cl) ((List.range n).map fun u=>if u<0 then !B u else false)):=⟨by
    have h:=Kd.bc c3.out (base':=w.heap.size) d9;rw[show (List.replicate n false:List Bool)=(List.range n).map fun u=>if u<0 then !B u else false from by
     refine List.ext_getElem (by simp) fun i h1 h2=>?_
     simp] at h
    exact h⟩
   clear c3;go_loopw [9,64] (fun eb Z wr=>∃v:Nat,v<=n/\Z= .int .i64 v/\eb= .bool ((List.range v).any fun u=> !B u)/\Aside0 (wr.heap[gb]? =some (.cells #[.slice (some ⟨l,0,none⟩) n cr] 43 (0,0)))/\Aside0 (Kd.bool.R 4 wr w.heap.size (fun k=>k≠G) (.slice (some ⟨l,0,none⟩) n cr) ((List.range n).map B))/\Aside0 (Kd.bool.R 4 wr w.heap.size (fun _=>True) (.slice (some ⟨G,0,none⟩) n cl) ((List.range n).map fun u=>if u<v then !B u else false))/\Aside0 (Below w.heap.size w wr)) (fun _ Z _=>n- (intOf Z).toNat)
   case atStart=>exact⟨0,by omega,rfl,rfl,U,X,c4,am⟩
   case round=>
    clear U X c4 am;obtain⟨v,K,rfl,rfl,D,F,HL,r⟩:=hrel;by_cases Q:v<n
    ·have dk:(0:Int)<=(v:Int):=by omega
     have dl:(v:Int)<(n:Int):=by omega
     have b0:wr.cell? ⟨gb,0,none⟩=some (.slice (some ⟨l,0,none⟩) n cr):=(ai D.out 0).trans rfl;obtain⟨o, -⟩:=Kd.bW false F.out (v:Int) (by omega) (by omega);obtain⟨hz,hf⟩:=Kd.bW false HL.out (v:Int) (by omega) (by omega);rw[aQ] at o hz hf;have e1:bV false ((List.range n).map B) v=B v:=by simp[bV,bb,List.getElem?_map,List.getElem?_range Q]
     rw[e1] at o;replace o:wr.cell? ⟨l,v,none⟩=some (.bool (B v)):=o;generalize bV false ((List.range n).map fun u=>if u<v then !B u else false) (v:Int)=z at hz;replace hz:wr.cell? ⟨G,v,none⟩=some (.bool z):=hz;have y:=Kd.dh HL.out (v:Int) (!B v);rw[aQ] at y;have em:(((List.range n).map fun u=>if u<v then !B u else false).set v (!B v))=(List.range n).map fun u=>if u<v+1 then !B u else false:=by
      refine List.ext_getElem (by simp) fun i h1 h2=>?_
      rw[List.getElem_set];simp only[List.getElem_map,List.getElem_range];by_cases e:v=i
      ·subst e;simp
      ·rw[if_neg e]
       by_cases h:i<v
       ·rw[if_pos h,if_pos (by omega)]
       ·rw[if_neg h,if_neg (by omega)]
     rw[em] at y;have bx:=zA y.1;have L:=zA (cS (g:=gb) D.out y.2 (fun e=>by injection e with e;exact d7 e));have T:=zA (Kd.lf F.out y.2 (fun k hk e=>hk (by injection e)));have M:=zA (Below.setCell (p:=⟨G,v,none⟩) r.out d8 (.bool (!B v)));have Y:=(Kd.bW false bx.out (v:Int) (by omega) (by omega)).1;rw[aQ] at Y;have e2:bV false ((List.range n).map fun u=>if u<v+1 then !B u else false) v= !B v:=by simp[bV,bb,List.getElem?_map,List.getElem?_range Q]
     rw[e2] at Y;have HA:=zA (show ((List.range (v+1)).any fun u=> !B u)=(((List.range v).any fun u=> !B u)|| !B v) by simp[List.range_succ,List.any_append]);replace Y:(wr.setCell ⟨G,v,none⟩ (.bool (!B v))).cell? ⟨G,v,none⟩=some (.bool (!B v)):=Y;have e6:=zA Y;clear y em e1 e2 Y;generalize hs:((List.range v).any fun u=> !B u)=s at HA⊢;clear hs;cases s with
     |true=>
      go_wp2;go_roundw
      case rel=>exact⟨v+1,by omega,by go_num,by rw[HA.out];rfl,L,T,bx,M⟩
      case measure=>exact(show n- ((v:Int)+1).toNat<n- ((v:Int)).toNat by omega)
     |false=>
      go_wp2;go_roundw
      case rel=>exact⟨v+1,by omega,by go_num,by rw[HA.out,Bool.false_or],L,T,bx,M⟩
      case measure=>exact(show n- ((v:Int)+1).toNat<n- ((v:Int)).toNat by omega)
    ·obtain rfl:v=n:=by omega
     go_wp2;go_ret2;refine⟨G,cl,?_,?_,r.out⟩
     ·rw[show ((List.range v).any fun u=> !bA v (timesOf E) q d u)=((List.range v).any fun u=> !B u) from by
       rw[Bool.eq_iff_iff,List.any_eq_true,List.any_eq_true];constructor
       ·rintro⟨u,hu,h⟩;exact⟨u,hu,by rw[<-bv.out u (List.mem_range.1 hu)];exact h⟩
       ·rintro⟨u,hu,h⟩;exact⟨u,hu,by rw[bv.out u (List.mem_range.1 hu)];exact h⟩]
      rfl
     ·have h:=HL.out
      rw[show ((List.range v).map fun u=>if u<v then !B u else false)=(List.range v).map fun u=> !bA v (timesOf E) q d u from List.map_congr_left fun u hu=>by
       have:=List.mem_range.1 hu;rw[if_pos this,bv.out u this]] at h
      exact h
section
structure SI (w0:World) (g gd gs cd cs n:Nat) (A0:Option Addr) (c0:Nat) (E:List S83) (q:Int) (d s:List Int) (W:World):Prop where
 hb:Below w0.heap.size w0 W
 st:gO W g n (.slice A0 E.length c0) q (.slice (some ⟨gd,0,none⟩) n cd) (.slice (some ⟨gs,0,none⟩) n cs) 0
 d:(Kd.int .i64).R 3 W w0.heap.size (fun _=>True) (.slice (some ⟨gd,0,none⟩) n cd) d
 s:(Kd.int .i64).R 3 W w0.heap.size (fun _=>True) (.slice (some ⟨gs,0,none⟩) n cs) s
 ne:gd≠gs/\g≠gd/\g≠gs/\w0.heap.size<=g
namespace SI
variable {w0 W W':World} {g gd gs cd cs n c0 l:Nat} {A0:Option Addr} {E:List S83} {q:Int} {d s:List Int}
theorem ld (h:SI w0 g gd gs cd cs n A0 c0 E q d s W):gd<W.heap.size/\gs<W.heap.size/\g<W.heap.size/\w0.heap.size<=gd/\w0.heap.size<=gs:=⟨Kd.a_ h.d gd rfl,Kd.a_ h.s gs rfl,az h.st,Kd.dz h.d gd rfl,Kd.dz h.s gs rfl⟩
theorem below (h:SI w0 g gd gs cd cs n A0 c0 E q d s W) (hb:Below W.heap.size W W'):SI w0 g gd gs cd cs n A0 c0 E q d s W':=⟨a7 h.hb hb,aJ h.st hb,Kd.cR h.d hb,Kd.cR h.s hb,h.ne⟩
theorem alloc (h:SI w0 g gd gs cd cs n A0 c0 E q d s W) (o:Obj):SI w0 g gd gs cd cs n A0 c0 E q d s (W.alloc o):=h.below (ao (al _ _) o)
theorem drewN (h:SI w0 g gd gs cd cs n A0 c0 E q d s W) (m:Nat):SI w0 g gd gs cd cs n A0 c0 E q d s (W.drewN m):=h.below (b8 (al _ _) m)
theorem bk (h:SI w0 g gd gs cd cs n A0 c0 E q d s W) (hb:Bk l W W') (a:w0.heap.size<=l):SI w0 g gd gs cd cs n A0 c0 E q d s W':=⟨h.hb.trans (hb.below _ a),hb.cells h.st,dq h.d hb,dq h.s hb,h.ne⟩
theorem fin (h:SI w0 g gd gs cd cs n A0 c0 E q d s W) {b:Nat} (hf:fF b W W') (hb:w0.heap.size<=b):SI w0 g gd gs cd cs n A0 c0 E q d s W':=⟨h.hb.trans (hf.kG.mono hb),hf.cells h.st,hf.R h.d,hf.R h.s,h.ne⟩
theorem hZ (h:SI w0 g gd gs cd cs n A0 c0 E q d s W) (p:Addr) (v:Value) (a:p.block≠g/\p.block≠gd/\p.block≠gs) (hb:w0.heap.size<=p.block):SI w0 g gd gs cd cs n A0 c0 E q d s (W.setCell p v):=
 ⟨Below.setCell h.hb hb v,aD h.st (fun e=>a.1 e.symm) v,
  Kd.ba (Kd.fj (Kd.gz rfl h.d) (fun k hk=>Below.heap_setCell _ _ _ _ (fun e=>a.2.1 (by rw[<-e];injection hk)))) (fun _ _=>trivial),
  Kd.ba (Kd.fj (Kd.gz rfl h.s) (fun k hk=>Below.heap_setCell _ _ _ _ (fun e=>a.2.2 (by rw[<-e];injection hk)))) (fun _ _=>trivial),h.ne⟩
theorem oE (h:SI w0 g gd gs cd cs n A0 c0 E q d s W) (v:Nat) (x:Int):SI w0 g gd gs cd cs n A0 c0 E q (d.set v x) s (W.setCell ⟨gd,v,none⟩ (.int .i64 x)):=by
 obtain⟨h1,i,j,b,k⟩:=h.ld;have a:=Kd.dh h.d (v:Int) x;rw[aQ] at a;exact⟨Below.setCell h.hb b _,aD h.st h.ne.2.1 _,a.1,Kd.iy h.s rfl a.2 (fun e=>by cases e;exact h.ne.1 rfl),h.ne⟩
theorem oF (h:SI w0 g gd gs cd cs n A0 c0 E q d s W) (v:Nat) (x:Int):SI w0 g gd gs cd cs n A0 c0 E q d (s.set v x) (W.setCell ⟨gs,v,none⟩ (.int .i64 x)):=by
 obtain⟨h1,i,j,k,b⟩:=h.ld;have a:=Kd.dh h.s (v:Int) x;rw[aQ] at a;exact⟨Below.setCell h.hb b _,aD h.st h.ne.2.2.1 _,Kd.iy h.d rfl a.2 (fun e=>by cases e;exact h.ne.1 rfl),a.1,h.ne⟩
theorem j7 (h:SI w0 g gd gs cd cs n A0 c0 E q d s W) (v:Nat) (a:v<n):W.cell? ⟨gd,v,none⟩=some (.int .i64 (rd d v)):=by
 have:=(Kd.bW 0 h.d (v:Int) (by omega) (by omega)).1;rw[aQ] at this;exact this
theorem cells (h:SI w0 g gd gs cd cs n A0 c0 E q d s W) (v:Nat) (a:v<n):W.cell? ⟨gs,v,none⟩=some (.int .i64 (rd s v)):=by
 have:=(Kd.bW 0 h.s (v:Int) (by omega) (by omega)).1;rw[aQ] at this;exact this
theorem oG (h:SI w0 g gd gs cd cs n A0 c0 E q d s W) (v:Nat) (a:v<n):W.frozen? ⟨gd,v,none⟩=false:=by
 have:=(Kd.bW 0 h.d (v:Int) (by omega) (by omega)).2;rw[aQ] at this;exact this
theorem tW (h:SI w0 g gd gs cd cs n A0 c0 E q d s W) (v:Nat) (a:v<n):W.frozen? ⟨gs,v,none⟩=false:=by
 have:=(Kd.bW 0 h.s (v:Int) (by omega) (by omega)).2;rw[aQ] at this;exact this
theorem f0 (h:SI w0 g gd gs cd cs n A0 c0 E q d s W):W.cell? ⟨g,0,none⟩=some (.int .i64 n):=(ai h.st 0).trans rfl
theorem f2 (h:SI w0 g gd gs cd cs n A0 c0 E q d s W):W.cell? ⟨g,2,none⟩=some (.int .i64 q):=(ai h.st 2).trans rfl
theorem f3 (h:SI w0 g gd gs cd cs n A0 c0 E q d s W):W.cell? ⟨g,3,none⟩=some (.slice (some ⟨gd,0,none⟩) n cd):=(ai h.st 3).trans rfl
theorem f4 (h:SI w0 g gd gs cd cs n A0 c0 E q d s W):W.cell? ⟨g,4,none⟩=some (.slice (some ⟨gs,0,none⟩) n cs):=(ai h.st 4).trans rfl
theorem f5 (h:SI w0 g gd gs cd cs n A0 c0 E q d s W):W.cell? ⟨g,5,none⟩=some (.int .i64 0):=(ai h.st 5).trans rfl
end SI
end
end Go.Proofs.YtffdiakgjakngaaGreat.P
namespace Go.Proofs.YtffdiakgjakngaaGreat.P
open Go Go.RowKit
set_option linter.unusedVariables false
set_option linter.unusedSimpArgs false
set_option maxHeartbeats 8000000
set_option maxRecDepth 100000
section
section
variable {F:Fence} {n:Nat} {P:Program} {md:Region.Mode} {C:World->Prop}
def eR (o:Oper):Oper:={o with op:=.move (.const undef)}
def qm (ops:List Oper):Bool:=ops.all fun o=>match o.op with| .defer _=>false|_=>true
theorem tX {l:List Oper} (h:qm l=true) {o:Oper} (a:o∈l):∀c,o.op≠ .defer c:=by
 intro c e;have:=List.all_eq_true.1 h o a;rw[e] at this;cases this
theorem tY {ops:Array Oper} {i:Nat} {a:Act} {K:Act->Prop} {m:Act->World->Prop} {Q':Exit->Act->World->Prop} {w:World} (s:∀p,ops[i]? =some p->∀c,p.op≠ .defer c) (hC:C w) (h:∀a w',C w'->K a->m a w')
  (b:qOpIn F n P ops C i K a):wpOpIn F n P ops Q' i m a w:=by
 unfold qOpIn at b;unfold wpOpIn;split
 ·rename_i k;simp only[k] at b;exact h _ _ hC b
 ·rename_i o k
  simp only[k] at b;obtain⟨q,b⟩:=b;split
  ·rename_i hw
   simp only[hw,if_true] at b;obtain⟨v,h1,l⟩:=b;have g:=h1 w hC;unfold Oper.quietAtIn at g;unfold Oper.wpIn;refine⟨q w hC,?_⟩;rw[Oper.semAt_eq _ _ _ (s o k)];generalize (execOp a.eval o).run P w=r at*;cases r with
   |ok x w'=>
    cases x<;>simp only[Oper.quietUponIn] at g<;>simp only[Oper.uponIn]
    case value u=>
     obtain⟨j,e2⟩:=g;rw[j,e2];exact h _ _ hC l
    case skip=>
     obtain⟨j,e2⟩:=g;rw[j,<-e2];exact h _ _ hC l
    case enter f args=>
     obtain⟨j,hd,y⟩:=g;rw[j];exact⟨hd,y.mono fun e B ⟨he,z⟩=>by subst he;exact h _ _ z l⟩
   |halt x w'=>simp only[Oper.quietUponIn] at g
  ·rename_i hw;simp only[hw] at b;exact⟨q w hC,h _ _ hC b⟩
def BG (md:Region.Mode) (l:List Oper):Bool:=(List.range l.length).all fun i=>((l[i]?).map fun o=>o.after.all fun e=> !Region.binds md e||decide (e.on<i)).getD true
def BH (md:Region.Mode) (m:Nat) (o:Oper):Bool:=(List.range m).all fun j=>o.after.any fun e=>Region.binds md e&&e.on==j
theorem tZ {ops:Array Oper} (k:∀i p,ops[i]? =some p->∀e∈p.after,Region.binds md e=true->e.on<i) (a:Array Bool) (u:a.size=ops.size):∀j,j<ops.size->a.getD j true=false->Region.ready md ops a≠[]:=by
 intro j;induction j using Nat.strongRecOn with
 |ind j l=>
  intro m n he;obtain⟨o,g⟩:∃o,ops[j]? =some o:=⟨_,Array.getElem?_eq_getElem m⟩;by_cases b:∀e∈o.after,Region.binds md e=true->a.getD e.on false=true
  ·have:=mem_ready.2 ⟨n,o,g,b⟩
   rw[he] at this;cases this
  ·simp only[Classical.not_forall] at b
   obtain⟨e,h1,q,h⟩:=b;have r:=k j o g e h1 q;refine l e.on r (by omega) ?_ he;have s:e.on<a.size:=by omega
   simp[Array.getD_eq_getD_getElem?,Array.getElem?_eq_getElem s] at h⊢;exact h
theorem BI {l1:List Oper} {o:Oper} {Qa:Act->Prop} {Q':Exit->Act->World->Prop} (E:o.dst=none) (G:∀i p,(l1++[o]).toArray[i]? =some p->i≠l1.length->∀c,p.op≠ .defer c) (B:∀i p,(l1++[o]).toArray[i]? =some p->∀e∈p.after,Region.binds md e=true->e.on<i)
  (H:∀j,j<l1.length->∃e∈o.after,Region.binds md e=true/\e.on=j) (I:∀a w,C w->Qa a->wpListIn F n P (l1++[o]).toArray Q' [o] a w):
  ∀(fuel:Nat) (b:Array Bool) (a:Act) (w:World),b.size=l1.length+1->b.getD l1.length true=false->C w->wpAnyQIn F n P md (l1++[eR o]).toArray C Qa fuel b a->wpAnyIn F n P md (l1++[o]).toArray Q' fuel b a w:=by
 have u:∀i,i≠l1.length->(l1++[eR o]).toArray[i]? =(l1++[o]).toArray[i]? :=fun i hi=>by
  rw[List.getElem?_toArray,List.getElem?_toArray];by_cases h:i<l1.length
  ·rw[List.getElem?_append_left h,List.getElem?_append_left h]
  ·rw[List.getElem?_eq_none (by simp;omega),List.getElem?_eq_none (by simp;omega)]
 have hm:(l1++[o]).toArray[l1.length]? =some o:=by simp
 have x:(l1++[eR o]).toArray[l1.length]? =some (eR o):=by simp
 have y:∀b,Region.ready md (l1++[eR o]).toArray b=Region.ready md (l1++[o]).toArray b:=fun b=>by
  unfold Region.ready;have aY:(l1++[eR o]).toArray.size=(l1++[o]).toArray.size:=by simp
  rw[aY];refine List.filter_congr fun i hi=>?_
  by_cases h:i=l1.length
  ·rw[h,hm,x];rfl
  ·rw[u i h]
 have J:∀tmps,yielded (l1++[eR o]).toArray tmps=yielded (l1++[o]).toArray tmps:=fun tmps=>by
  funext j
  unfold yielded;by_cases h:j=l1.length
  ·rw[h,hm,x];rfl
  ·rw[u j h]
 have aY:(l1++[o]).toArray.size=l1.length+1:=by simp
 have K:∀b:Array Bool,b.size=l1.length+1->l1.length∈Region.ready md (l1++[o]).toArray b->Region.ready md (l1++[o]).toArray (b.setIfInBounds l1.length true)=[]:=fun b k L=>by
  obtain⟨U,p,hp,M⟩:=mem_ready.1 L;rw[hm] at hp;obtain rfl:=aE hp;refine List.eq_nil_iff_forall_not_mem.2 fun i hi=>?_
  obtain⟨l,p,hp, -⟩:=mem_ready.1 hi;have V:i<l1.length+1:=by have:=(Array.getElem?_eq_some_iff.1 hp).1;rw[aY] at this;exact this
  by_cases he:i=l1.length
  ·subst he
   rw[Array.getD_eq_getD_getElem?,Array.getElem?_setIfInBounds_self_of_lt (by omega)] at l;cases l
  ·rw[getD_set_ne true (Ne.symm he)] at l
   obtain⟨e,h1,m,r⟩:=H i (by omega);have:=M e h1 m;rw[r] at this;have N:i<b.size:=by omega
   simp[Array.getD_eq_getD_getElem?,Array.getElem?_eq_getElem N] at this l;rw[this] at l;cases l
 intro fuel;induction fuel with
 |zero=>
  intro b a w k s hw h;have h1:Region.ready md (l1++[o]).toArray b=[]:=by rw[<-y];exact h.1
  exact absurd h1 (tZ B b (by rw[aY];exact k) l1.length (by rw[aY];omega) s)
 |succ fuel O=>
  intro b a w k s hw h;refine⟨fun h1=>absurd h1 (tZ B b (by rw[aY];exact k) l1.length (by rw[aY];omega) s),fun i hi=>?_⟩;have g:=h.2 i (by rw[y];exact hi);by_cases he:i=l1.length
  ·subst he
   have z:=K b k hi;unfold qOpIn at g;simp only[x] at g;have D:wpAnyQIn F n P md (l1++[eR o]).toArray C Qa fuel (b.setIfInBounds l1.length true) a:=by
    have hd:(eR o).dst=none:=E;have m:=g.2;split at m
    ·obtain⟨v, -,r⟩:=m
     rw[hd] at r;exact r
    ·rw[hd] at m;exact m
   have Q:Qa a:=by
    cases fuel with
    |zero=>exact D.2
    |succ f=>exact D.1 (by rw[y];exact z)
   have:=I a w hw Q;have R:wpOpIn F n P (l1++[o]).toArray Q' l1.length (fun a w=>Q' .normal a w) a w:=by
    unfold wpOpIn;simp only[hm];exact this
   refine wpOpIn_mono (fun a w q=>?_) R;cases fuel with
   |zero=>exact⟨z,q⟩
   |succ f=>exact⟨fun _=>q,fun i hi=>by rw[z] at hi;cases hi⟩
  ·have S:qOpIn F n P (l1++[o]).toArray C i (wpAnyQIn F n P md (l1++[eR o]).toArray C Qa fuel (b.setIfInBounds i true)) a:=by
    unfold qOpIn at g⊢;rw[u i he] at g;simp only[J] at g;exact g
   refine tY (fun p hp=>G i p hp he) hw (fun a' w' T hk=>O _ a' w' (by simpa using k) ?_ T hk) S;rw[getD_set_ne true he];exact s
theorem oH {id:Nat} {Q:Exit->Act->World->Prop} {a:Act} {w:World} {l:List Oper} (l1:List Oper) (o:Oper) (u:l=l1++[o]) (hm:P.follows .mixedOrders=true) (q:o.dst=none) (v:qm l1=true) (x:BG .any (l1++[o])=true) (y:BH .any l1.length o=true) (k:Region.lexB .any (l1++[eR o]).toArray=true)
  (h:wpQuietIn F n P l.toArray (fun w'=>∃n,w'=w.drewN n) (fun a'=>∀w',(∃n,w'=w.drewN n)->wpListIn F n P l.toArray Q [o] a' w') l1 a):(Code.region id l.toArray true).wpIn F n P Q a w:=by
 subst u;refine wpIn_region_any hm ?_;have aY:(l1++[o]).toArray.size=l1.length+1:=by simp
 rw[aY];simp only[Region.lexB,Bool.and_eq_true] at k;refine BI (C:=fun w'=>∃n,w'=w.drewN n) (Qa:=fun a'=>∀w',(∃n,w'=w.drewN n)->wpListIn F n P (l1++[o]).toArray Q [o] a' w') q (fun i p hp hi=>tX v ?_) ?_ ?_ (fun a w hw m=>m w hw) _ _ a _ (by simp) (by simp[Array.getD_eq_getD_getElem?]) ⟨1,rfl⟩ ?_
 ·rw[List.getElem?_toArray] at hp
  have g:=(List.getElem?_eq_some_iff.1 hp).1;rw[List.length_append] at g;simp at g;rw[List.getElem?_append_left (by omega)] at hp;exact List.mem_of_getElem? hp
 ·intro i p hp e he hb
  rw[List.getElem?_toArray] at hp;have g:=(List.getElem?_eq_some_iff.1 hp).1;have:=List.all_eq_true.1 x i (List.mem_range.2 g);rw[hp] at this;simp only[Option.map_some,Option.getD_some] at this;have:=Array.all_eq_true_iff_forall_mem.1 this e he;simpa [hb] using this
 ·intro j r
  have:=List.all_eq_true.1 y j (List.mem_range.2 r);rw[<-Array.any_toList,List.any_eq_true] at this;obtain⟨e,he,b⟩:=this;simp only[Bool.and_eq_true,beq_iff_eq] at b;exact⟨e,Array.mem_def.2 he,b.1,b.2⟩
 ·have m:wpQuietIn F n P (l1++[eR o]).toArray (fun w'=>∃n,w'=w.drewN n) (fun a'=>∀w',(∃n,w'=w.drewN n)->wpListIn F n P (l1++[o]).toArray Q [o] a' w') (l1++[eR o]) a:=by
   have z:∀tmps,yielded (l1++[eR o]).toArray tmps=yielded (l1++[o]).toArray tmps:=fun tmps=>by
    funext j
    unfold yielded;rw[List.getElem?_toArray,List.getElem?_toArray];by_cases h:j<l1.length
    ·rw[List.getElem?_append_left h,List.getElem?_append_left h]
    ·rw[List.getElem?_append_right (by omega),List.getElem?_append_right (by omega)]
     cases r:j-l1.length<;>rfl
   have key:∀(l2:List Oper) (a:Act),wpQuietIn F n P (l1++[o]).toArray (fun w'=>∃n,w'=w.drewN n) (fun a'=>∀w',(∃n,w'=w.drewN n)->wpListIn F n P (l1++[o]).toArray Q [o] a' w') l2 a->wpQuietIn F n P (l1++[eR o]).toArray (fun w'=>∃n,w'=w.drewN n) (fun a'=>∀w',(∃n,w'=w.drewN n)->wpListIn F n P (l1++[o]).toArray Q [o] a' w') (l2++[eR o]) a:=by
    intro l2;induction l2 with
    |nil=>
     intro a h;refine⟨fun w _ f hf=>by simp[Oper.about,eR] at hf,?_⟩;have hd:(eR o).dst=none:=q;split
     ·refine BigFrame.quietIn_move (.const undef) rfl ?_
      rw[hd];exact h
     ·rw[hd];exact h
    |cons p l2 s=>
     intro a h;refine⟨h.1,?_⟩;have b:=h.2;rw[z];split at b
     ·rename_i hw
      rw[if_pos hw];exact Oper.quietIn_mono s b
     ·rename_i hw
      rw[if_neg hw];exact s _ b
   exact key l1 a h
  have:=wpAnyQIn_lex (F:=F) (n:=n) (C:=fun w'=>∃n,w'=w.drewN n) (md:=.any) k.1 (l1++[eR o]) 0 (Array.replicate (l1.length+1) false) a (by simp) (by simpa using k.2) m;simpa using this
theorem BJ {l:List Oper} {Qa:Act->Prop} {Q':Exit->Act->World->Prop} (g:∀(i:Nat) (p:Oper),l.toArray[i]? =some p->∀c,p.op≠ .defer c) (e:∀a w,C w->Qa a->Q' .normal a w):
  ∀(fuel:Nat) (b:Array Bool) (a:Act) (w:World),C w->wpAnyQIn F n P md l.toArray C Qa fuel b a->wpAnyIn F n P md l.toArray Q' fuel b a w:=by
 intro fuel;induction fuel with
 |zero=>intro b a w hw h;exact⟨h.1,e _ _ hw h.2⟩
 |succ fuel j=>
  intro b a w hw h;exact⟨fun h1=>e _ _ hw (h.1 h1),fun i hi=>tY (g i) hw (fun a' w' k hk=>j _ a' w' k hk) (h.2 i hi)⟩
theorem BK {id:Nat} {Q:Exit->Act->World->Prop} {a:Act} {w:World} {l:List Oper} (hm:P.follows .mixedOrders=true) (e:qm l=true) (b:Region.lexB .any l.toArray=true)
  (h:wpQuietIn F n P l.toArray (fun w'=>∃n,w'=w.drewN n) (fun a'=>∀w',(∃n,w'=w.drewN n)->Q .normal a' w') l a):(Code.region id l.toArray true).wpIn F n P Q a w:=by
 refine wpIn_region_any hm ?_;simp only[Region.lexB,Bool.and_eq_true] at b;refine BJ (C:=fun w'=>∃n,w'=w.drewN n) (Qa:=fun a'=>∀w',(∃n,w'=w.drewN n)->Q .normal a' w') (fun i p hp=>tX e ?_) (fun a w hw g=>g w hw) _ _ a _ ⟨1,rfl⟩ ?_
 ·rw[List.getElem?_toArray] at hp
  exact List.mem_of_getElem? hp
 ·have:=wpAnyQIn_lex (F:=F) (n:=n) (C:=fun w'=>∃n,w'=w.drewN n) (md:=.any) b.1 l 0 (Array.replicate l.length false) a (by simp) (by simpa using b.2) h
  simpa using this
end
end
end Go.Proofs.YtffdiakgjakngaaGreat.P
namespace Go.Proofs.YtffdiakgjakngaaGreat.P
open Go.RowKit Go.Proofs.YtffdiakgjakngaaGreatW.PrintWords Go.Proofs.YtffdiakgjakngaaGreatW.PrintLast Go.Proofs.YtffdiakgjakngaaGreatW.PrintMore
set_option linter.unusedVariables false
set_option linter.unusedSimpArgs false
set_option maxHeartbeats 8000000
set_option maxRecDepth 100000
section
attribute [local go_sem] Oper.semAt_some jk jl jm jn mo mq mr mu
def iL (t:Int) (v:Nat) (d:List Int) (x:Int×Int):List Int:=
 (d.set v (wrap64 (rd d v-wrap64 (x.2*t)))).set x.1.toNat (wrap64 (rd (d.set v (wrap64 (rd d v-wrap64 (x.2*t)))) x.1+wrap64 (x.2*t)))
def fN (t:Int) (v:Nat) (d:List Int) (L:List (Int×Int)):List Int:=L.foldl (iL t v) d
theorem BL (t:Int) (v:Nat) (d:List Int) (L:List (Int×Int)) (x:Int×Int):fN t v d (L++[x])=iL t v (fN t v d L) x:=by simp[fN,List.foldl_append]
theorem t_ (t:Int) (v:Nat) (d:List Int) (x:Int×Int):(iL t v d x).length=d.length:=by simp[iL]
theorem qo (t:Int) (v:Nat):∀(L:List (Int×Int)) (d:List Int),(fN t v d L).length=d.length
 |[],_=>rfl
 |x::L,d=>(qo t v L _).trans (t_ t v d x)
def bu (E:List S83) (In:Nat->Bool) (t:Int):Nat->List Int×List Int->List Int×List Int
 |0,p=>p
 |k+1,p=>if In k=true then(fN t k (bu E In t k p).1 (cy E k E.length),(bu E In t k p).2.set k (wrap64 (rd (bu E In t k p).2 k+t))) else bu E In t k p
theorem mP (E:List S83) (In:Nat->Bool) (t:Int) (p:List Int×List Int):∀k,(bu E In t k p).1.length=p.1.length/\(bu E In t k p).2.length=p.2.length
 |0=>⟨rfl,rfl⟩
 |k+1=>by
  have h:=mP E In t p k;unfold bu;split
  ·exact⟨(qo ..).trans h.1,by rw[List.length_set];exact h.2⟩
  ·exact h
structure FI (w0 w:World) (g gd gs gi cd cs ci n:Nat) (A0:Option Addr) (c0:Nat) (E:List S83) (q:Int) (In:Nat->Bool) (t:Int) (d s:List Int) (W:World):Prop where
 si:SI w0 g gd gs cd cs n A0 c0 E q d s W
 x1:W.heap[w.heap.size]? =some (.cells #[.pointer (some ⟨g,0,none⟩)] 135 (0,0))
 x2:W.heap[w.heap.size+1]? =some (.cells #[.int .i64 t] 3 (0,0))
 hi:Kd.bool.R 4 W w0.heap.size (fun _=>True) (.slice (some ⟨gi,0,none⟩) n ci) ((List.range n).map In)
 hf:∀k,k<w.heap.size->k≠gd->k≠gs->W.heap[k]? =w.heap[k]?
 aY:w.heap.size+2<=W.heap.size
 hw:w0.heap.size<=w.heap.size/\gd<w.heap.size/\gs<w.heap.size/\g<w.heap.size/\gd≠gi/\gs≠gi
namespace FI
variable {w0 w W W':World} {g gd gs gi cd cs ci n c0 l:Nat} {A0:Option Addr} {E:List S83} {q t:Int} {In:Nat->Bool} {d s:List Int}
theorem below (h:FI w0 w g gd gs gi cd cs ci n A0 c0 E q In t d s W) (hb:Below W.heap.size W W'):FI w0 w g gd gs gi cd cs ci n A0 c0 E q In t d s W':=⟨h.si.below hb,aJ h.x1 hb,aJ h.x2 hb,Kd.cR h.hi hb,fun k h1 a b=>(hb.block k (by have:=h.aY;omega)).trans (h.hf k h1 a b),Nat.le_trans h.aY hb.size,h.hw⟩
theorem alloc (h:FI w0 w g gd gs gi cd cs ci n A0 c0 E q In t d s W) (o:Obj):FI w0 w g gd gs gi cd cs ci n A0 c0 E q In t d s (W.alloc o):=h.below (ao (al _ _) o)
theorem drewN (h:FI w0 w g gd gs gi cd cs ci n A0 c0 E q In t d s W) (m:Nat):FI w0 w g gd gs gi cd cs ci n A0 c0 E q In t d s (W.drewN m):=h.below (b8 (al _ _) m)
theorem drew (h:FI w0 w g gd gs gi cd cs ci n A0 c0 E q In t d s W):FI w0 w g gd gs gi cd cs ci n A0 c0 E q In t d s W.drew:=h.drewN 1
theorem bk (h:FI w0 w g gd gs gi cd cs ci n A0 c0 E q In t d s W) (hb:Bk l W W') (a:w.heap.size<=l):FI w0 w g gd gs gi cd cs ci n A0 c0 E q In t d s W':=⟨h.si.bk hb (Nat.le_trans h.hw.1 a),hb.cells h.x1,hb.cells h.x2,dq h.hi hb,fun k h1 b e=>(hb.heap k (by omega)).trans (h.hf k h1 b e),by rw[hb.size];exact h.aY,h.hw⟩
theorem oE (h:FI w0 w g gd gs gi cd cs ci n A0 c0 E q In t d s W) (v:Nat) (x:Int):FI w0 w g gd gs gi cd cs ci n A0 c0 E q In t (d.set v x) s (W.setCell ⟨gd,v,none⟩ (.int .i64 x)):=
 ⟨h.si.oE v x,aD h.x1 (by show w.heap.size≠gd;have:=h.hw;omega) _,aD h.x2 (by show w.heap.size+1≠gd;have:=h.hw;omega) _,by
  have a:=Kd.dh h.si.d (v:Int) x;rw[aQ] at a;exact Kd.iy h.hi rfl a.2 (fun e=>by cases e;exact h.hw.2.2.2.2.1 rfl),fun k h1 b i=>(Below.heap_setCell _ _ _ _ b).trans (h.hf k h1 b i),by simpa using h.aY,h.hw⟩
theorem oF (h:FI w0 w g gd gs gi cd cs ci n A0 c0 E q In t d s W) (v:Nat) (x:Int):FI w0 w g gd gs gi cd cs ci n A0 c0 E q In t d (s.set v x) (W.setCell ⟨gs,v,none⟩ (.int .i64 x)):=
 ⟨h.si.oF v x,aD h.x1 (by show w.heap.size≠gs;have:=h.hw;omega) _,aD h.x2 (by show w.heap.size+1≠gs;have:=h.hw;omega) _,by
  have a:=Kd.dh h.si.s (v:Int) x;rw[aQ] at a;exact Kd.iy h.hi rfl a.2 (fun e=>by cases e;exact h.hw.2.2.2.2.2 rfl),fun k h1 i b=>(Below.heap_setCell _ _ _ _ b).trans (h.hf k h1 i b),by simpa using h.aY,h.hw⟩
theorem c1 (h:FI w0 w g gd gs gi cd cs ci n A0 c0 E q In t d s W):W.cell? ⟨w.heap.size,0,none⟩=some (.pointer (some ⟨g,0,none⟩)):=(ai h.x1 0).trans rfl
theorem c2 (h:FI w0 w g gd gs gi cd cs ci n A0 c0 E q In t d s W):W.cell? ⟨w.heap.size+1,0,none⟩=some (.int .i64 t):=(ai h.x2 0).trans rfl
theorem BM (h:FI w0 w g gd gs gi cd cs ci n A0 c0 E q In t d s W) (v:Nat) (b:v<n):W.cell? ⟨gi,v,none⟩=some (.bool (In v)):=by
 have a:=(Kd.bW false h.hi (v:Int) (by omega) (by omega)).1;rw[aQ,show bV false ((List.range n).map In) (v:Int)=In v from by simp[bV,bb,List.getElem?_map,List.getElem?_range b]] at a;exact a
end FI
theorem t' (g gd gs gi cd cs ci n:Nat) (A0:Option Addr) (c0:Nat) (E:List S83) (q:Int) (d s:List Int) (In:Nat->Bool) (t:Int) (w0 w:World) (d6:Kd.C aN w0 A0 E.length E) (hE:ej n E) (hn:n<=1000) (e':0<n)
  (h:SI w0 g gd gs cd cs n A0 c0 E q d s w) (hi:Kd.bool.R 4 w w0.heap.size (fun _=>True) (.slice (some ⟨gi,0,none⟩) n ci) ((List.range n).map In)) (cc:gd≠gi/\gs≠gi) (d7:d.length=n) (d8:s.length=n)
  (ce:∀v,v<n-> -2097152<=rd (bu E In t n (d,s)).1 v/\rd (bu E In t n (d,s)).1 v<=2097152/\ -2097152<=rd (bu E In t n (d,s)).2 v/\rd (bu E In t n (d,s)).2 v<=2097152):
  Calls Tryz.prog 166 #[.pointer (some ⟨g,0,none⟩),.slice (some ⟨gi,0,none⟩) n ci,.int .i64 t] w fun e w'=>e= .returned (.tuple #[])/\SI w0 g gd gs cd cs n A0 c0 E q (bu E In t n (d,s)).1 (bu E In t n (d,s)).2 w'/\(∀k,k<w.heap.size->k≠gd->k≠gs->w'.heap[k]? =w.heap[k]?)/\w.heap.size<=w'.heap.size:=by
 have fb:=Tryz.underlying188;have hu:=Tryz.underlying24;have HE:=zA hE;have ch:=zA ce;clear hE ce;refine(callsIn_wide (n:=10)).1 ?_;refine callsIn_of_wp_marks Tryz.func166 rfl trivial ?_ rfl;simp only[Tryz.ntmps166,List.size_toArray,List.length_cons,List.length_nil,Nat.reduceAdd,Nat.reduceSub,Array.replicate_succ,Array.replicate_zero,List.push_toArray,List.append_toArray,List.nil_append,List.cons_append];obtain⟨q1,q2,q3,q4,q5⟩:=h.ld;have ck:=h.hb.size;have fn:g≠gd:=h.ne.2.1;have r:Aside0 (FI w0 w g gd gs gi cd cs ci n A0 c0 E q In t d s ((w.alloc (.cells #[.pointer (some ⟨g,0,none⟩)] 135)).alloc (.cells #[.int .i64 t] 3))):=⟨(h.alloc _).alloc _,aw (bl w (.cells #[.pointer (some ⟨g,0,none⟩)] 135)) (.cells #[.int .i64 t] 3),heap_alloc2_new w (.cells #[.pointer (some ⟨g,0,none⟩)] 135) (.cells #[.int .i64 t] 3),Kd.aM (Kd.aM hi (.cells #[.pointer (some ⟨g,0,none⟩)] 135)) (.cells #[.int .i64 t] 3),fun k hk _ _=>by rw[Below.heap_alloc _ _ _ (by simp;omega),Below.heap_alloc _ _ _ hk],by simp,ck,q1,q2,q3,cc.1,cc.2⟩;gi_wp2;clear h hi;generalize ((w.alloc (.cells #[.pointer (some ⟨g,0,none⟩)] 135)).alloc (.cells #[.int .i64 t] 3))=W2 at r⊢;have ed:=r.out.aY;refine tT w.heap.size (fun kq tm wr=>∃(u6 u7 u14 u15 u16 u17 u18 u19 u20 u21 u22 u23 u24 u25 u26 u27 u28 u29 u30 u31 u32 u59:Value) (v:Nat),v<=n/\Aside0 (FI w0 w g gd gs gi cd cs ci n A0 c0 E q In t (bu E In t v (d,s)).1 (bu E In t v (d,s)).2 wr)/\Aside0 (kq=n-v)/\tm=#[.pointer (some ⟨g,0,none⟩),.slice (some ⟨gi,0,none⟩) n ci,.int .i64 t,.pointer (some ⟨w.heap.size,0,none⟩),undef,.pointer (some ⟨w.heap.size+1,0,none⟩),u6,u7,undef,undef,undef,.slice (some ⟨gi,0,none⟩) n ci,.int .i64 n,.int .i64 v,u14,u15,u16,u17,u18,u19,u20,u21,u22,u23,u24,u25,u26,u27,u28,u29,u30,u31,u32,undef,undef,undef,undef,undef,undef,undef,undef,undef,undef,undef,undef,undef,undef,undef,undef,undef,undef,undef,undef,undef,undef,undef,undef,undef,undef,u59,undef,undef,undef,undef,undef,undef,undef,undef,undef,undef,undef,undef,undef,undef,undef,undef,undef,undef,undef,undef,undef,undef,undef,undef,undef,undef,undef,undef,undef,undef,undef,undef,undef,undef,undef,undef,undef,undef,undef,undef,undef,undef,undef,undef,undef,undef,undef,undef,undef,undef,undef]) n ⟨_,_,_,_,_,_,_,_,_,_,_,_,_,_,_,_,_,_,_,_,_,_,0,by omega,r,⟨rfl⟩,rfl⟩ (w.heap.size) (by omega) (cE.nil _ _ _) ?_;clear r ed;rintro gk tm wr ⟨u6,u7,u14,u15,u16,u17,u18,u19,u20,u21,u22,u23,u24,u25,u26,u27,u28,u29,u30,u31,u32,u59,v,hv,y,HK,rfl⟩ ds b hb co J K hJ hK;have a4:=zA co;have HJ:=zA hJ;have aY:=y.out.aY;clear co hJ;obtain⟨l1,l2⟩:=mP E In t (d,s) v;have L1:=zA (show (bu E In t v (d,s)).1.length=n from l1.trans d7);have L2:=zA (show (bu E In t v (d,s)).2.length=n from l2.trans d8);clear l1 l2;by_cases M:v<n
 ·have fq:(0:Int)<=(v:Int):=by omega
  have fr:(v:Int)<(n:Int):=by omega
  have Q:=zA (show bu E In t (v+1) (d,s)=if In v=true then(fN t v (bu E In t v (d,s)).1 (cy E v E.length),(bu E In t v (d,s)).2.set v (wrap64 (rd (bu E In t v (d,s)).2 v+t))) else bu E In t v (d,s) from rfl);have be:=y.out.BM v M;cases hIn:In v with
  |false=>
   rw[hIn] at be;rw[hIn,if_neg (by decide)] at Q;have z:=zA (y.out.alloc (.cells #[.int .i64 v] 3));gi_wp2;exact kH.intro (n- (v+1)) (by rw[HK.out];omega) (HJ.out _ _ _ ⟨_,_,_,_,_,_,_,_,_,_,_,_,_,_,_,_,_,_,_,_,_,_,v+1,by omega,by rw[Q.out];exact z,⟨rfl⟩,rfl⟩) b (by simp;omega) (a4.out.below (ao (al _ _) _))
  |true=>
   rw[hIn] at be;rw[hIn,if_pos rfl] at Q;generalize bu E In t v (d,s)=i at y Q L1 L2;clear hIn;gi_wp2;have BV:=zA (bl wr (.cells #[.int .i64 v] 3));have z:=zA (y.out.alloc (.cells #[.int .i64 v] 3));have bf:=zA (a4.out.below (ao (al _ _) (.cells #[.int .i64 v] 3)));have cv:=zA (show (wr.alloc (.cells #[.int .i64 v] 3)).heap.size=wr.heap.size+1 from by simp);generalize wr.alloc (.cells #[.int .i64 v] 3)=W1 at BV z bf cv⊢;have y0:=z.out.c1;have y1:=z.out.c2;have y2:=(ai BV.out 0).trans rfl;have y4:=z.out.si.f4;have y5:=z.out.si.cells v M;have y6:=z.out.si.tW v M;gi_region
   gi_wp2_with (refine⟨trivial,?_⟩;gi_at_call 194;refine(callsIn_wide.2 (lS g v _)).mono ?_;rintro e w3 ⟨rfl,rfl⟩)
   have fv:W1.heap.size=wr.heap.size+1:=cv.out;have aa:=zA ((((z.out.oF v (wrap64 (rd i.2 v+t))).alloc (.cells #[.pointer (some ⟨g,0,none⟩)] 135)).alloc (.cells #[.int .i64 v] 3)).drew);obtain⟨f0,f1,f2,f6,f7⟩:=z.out.si.ld;have el:wr.heap.size≠gs:=by omega
   have bv:=zA (eI (aw (aw (aD (p:=⟨gs,v,none⟩) BV.out el (.int .i64 (wrap64 (rd i.2 v+t)))) (.cells #[.pointer (some ⟨g,0,none⟩)] 135)) (.cells #[.int .i64 v] 3)));have aL:=zA (eI (aw (bl (W1.setCell ⟨gs,v,none⟩ (.int .i64 (wrap64 (rd i.2 v+t)))) (.cells #[.pointer (some ⟨g,0,none⟩)] 135)) (.cells #[.int .i64 v] 3)));have aO:=zA (eI (heap_alloc2_new (W1.setCell ⟨gs,v,none⟩ (.int .i64 (wrap64 (rd i.2 v+t)))) (.cells #[.pointer (some ⟨g,0,none⟩)] 135) (.cells #[.int .i64 v] 3)));have bw:Aside0 (cE w.heap.size b ds (((W1.setCell ⟨gs,v,none⟩ (.int .i64 (wrap64 (rd i.2 v+t)))).alloc (.cells #[.pointer (some ⟨g,0,none⟩)] 135)).alloc (.cells #[.int .i64 v] 3)).drew):=⟨by
    obtain⟨inner,ho⟩:=Kd.ji z.out.si.s;obtain⟨cells,hc⟩:=jh ho gs rfl;exact(((bf.out.set (p:=⟨gs,v,none⟩) hc _).below (ao (al _ _) _)).below (ao (al _ _) _)).below (bU (al _ _))⟩
   have em:((((W1.setCell ⟨gs,v,none⟩ (.int .i64 (wrap64 (rd i.2 v+t)))).alloc (.cells #[.pointer (some ⟨g,0,none⟩)] 135)).alloc (.cells #[.int .i64 v] 3)).drew).heap.size=W1.heap.size+2:=by simp
   simp only[World.size_setCell] at aL aO;clear z bf BV y0 y1 y2 y4 y5 y6;generalize (((W1.setCell ⟨gs,v,none⟩ (.int .i64 (wrap64 (rd i.2 v+t)))).alloc (.cells #[.pointer (some ⟨g,0,none⟩)] 135)).alloc (.cells #[.int .i64 v] 3)).drew=H at aa bv aL aO bw em⊢;generalize i.2.set v (wrap64 (rd i.2 v+t))=s2 at aa Q;have bx:=aa.out.si;refine iG (σ:=Unit) (α:=Int×Int) (F:=Fence.wide) (n:=10) rfl (by decide) (gf:=207) (lb:=#[.pointer (some ⟨W1.heap.size,0,none⟩),.pointer (some ⟨W1.heap.size+1,0,none⟩)]) rfl trivial (enters_of Tryz.func207 (by kernel_rfl) rfl)
    (fun o=>oC (W1.heap.size) (W1.heap.size+1) g n A0 c0 E q (.slice (some ⟨gd,0,none⟩) n cd) (.slice (some ⟨gs,0,none⟩) n cs) 0 v w0 _ d6 HE.out hn M (ao (ao bx.hb _) _) (aw (aw aL.out _) _) (aw (aw aO.out _) _) (aw (aw bx.st _) _)) (fun _=>rfl)
    (fun _=>True) ?eB ?st ?ar
    (fun _ pre W=>H.heap.size<=W.heap.size/\FI w0 w g gd gs gi cd cs ci n A0 c0 E q In t (fN t v i.1 pre) s2 W/\W.heap[wr.heap.size]? =some (.cells #[.int .i64 v] 3 (0,0))/\cE w.heap.size b ds W) (fun _ _ _ _=>False)
    ?is (fun _ _ _ _ _ _ h _=>h) ?ib (fun _ _ _ _ _ h _=>h) ?kt ?h0 ?a1 ?assign ?body ?done (fun _ _ _ _ _ _ _ h=>h.elim)
   case assign=>
    intro l x W K hK;gi_wp2;exact hK
   case eB=>
    intro o s W1 h;exact⟨trivial,by rw[h];exact cp.refl _ _⟩
   case st=>intro s A B _ h;exact cW h
   case ar=>intro s x A B _ h;exact cW h.2
   case is=>
    rintro s pre A B _ ⟨hs,h1,h2,h3⟩ aP;exact⟨Nat.le_trans hs aP.size,h1.below aP,aJ h2 aP,h3.below aP⟩
   case ib=>
    rintro s pre A B ⟨hs,h1,h2,h3⟩ hb;exact⟨by rw[hb.size];exact hs,h1.bk hb (by omega),hb.cells h2,h3.bk hb (by omega)⟩
   case kt=>
    intro s A B C D aS cx c3;refine⟨fun aY=>((aS.below w0.heap.size (by omega)).trans (cx.1 (by rw[aS.size];exact aY))).trans (c3.below w0.heap.size (by omega)),fun k hk er=>?_⟩;have c4:k≠H.heap.size+1:=by rcases hk with rfl|rfl|rfl<;>omega
    exact(c3.heap k c4).trans ((cx.2 k hk (by rw[aS.size];exact er)).trans (aS.heap k c4))
   case h0=>
    rintro o s W1 rfl;exact⟨by simp;omega,(aa.out.alloc _).alloc _,aw (aw bv.out _) _,(bw.out.below (ao (al _ _) _)).below (ao (al _ _) _)⟩
   case body=>
    rintro l s' pre ⟨u,m⟩ Wb Wc W _ ⟨hs,i1,i2,i3⟩ ⟨c6,an⟩ es N;have L:=zA ((i1.below an).bk N (by omega));have I2:=zA (N.cells (aJ i2 an));have I3:=zA ((i3.below an).bk N (by omega));have c8:H.heap.size<=W.heap.size:=by have:=N.size;have:=an.size;omega
    clear i1 i2 i3 an N es;simp only at c6;obtain⟨u0,u1,m0,m1⟩:=c6;obtain⟨u,rfl⟩:=Int.eq_ofNat_of_zero_le u0;have a0:u<n:=by omega
    have c9:=zA (BL t v i.1 pre (u,m));have ev:=zA ((qo t v pre i.1).trans L1.out);generalize fN t v i.1 pre=I at L c9 ev;have z0:=L.out.c1;have z1:=L.out.c2;have z2:W.cell? ⟨wr.heap.size,0,none⟩=some (.int .i64 v):=(ai I2.out 0).trans rfl;have z3:=L.out.si.f3;have z4:=L.out.si.j7 v M;have z5:=L.out.si.oG v M;clear aa bv aL aO bw bx be;gi_wp2;refine oH [_,_,_,_,_,_,_,_,_,_,_,_] _ rfl (by kernel_rfl) rfl (by kernel_rfl) (by kernel_rfl) (by kernel_rfl) (by kernel_rfl) ?_;repeat(gi_big_quiet_step (fail))
    refine wpQuietIn_nil ?_;rintro _ ⟨nq,rfl⟩;have G:=zA (L.out.drewN nq);have S:=zA (iw I2.out nq);have T:=zA (I3.out.below (b8 (al _ _) nq));have U:H.heap.size<=(W.drewN nq).heap.size:=by simpa using c8
    have V:=zA (cW (nw:=H.heap.size) (b8 (al W.heap.size W) nq));have X:=zA (b8 (al w0.heap.size W) nq);have Y:Aside0 (∀k,k≠gd->(W.drewN nq).heap[k]? =W.heap[k]?):=⟨fun k _=>by simp⟩;clear z0 z1 z2 z3 z4 z5;have z4:=G.out.si.j7 v M;have z5:=G.out.si.oG v M;generalize W.drewN nq=Wq at G S T U V X Y z4 z5⊢;gi_wp2;have c':gd<H.heap.size:=by omega
    have dk:wr.heap.size≠gd:=by omega
    have O:=zA (G.out.oE v (wrap64 (rd I v-wrap64 (m*t))));have b1:=zA (aD (p:=⟨gd,v,none⟩) S.out dk (.int .i64 (wrap64 (rd I v-wrap64 (m*t)))));have b2:Aside0 (cE w.heap.size b ds (Wq.setCell ⟨gd,v,none⟩ (.int .i64 (wrap64 (rd I v-wrap64 (m*t)))))):=⟨by
     obtain⟨inner,ho⟩:=Kd.ji G.out.si.d;obtain⟨cells,hc⟩:=jh ho gd rfl;exact T.out.set (p:=⟨gd,v,none⟩) hc _⟩
    have b3:H.heap.size<=(Wq.setCell ⟨gd,v,none⟩ (.int .i64 (wrap64 (rd I v-wrap64 (m*t))))).heap.size:=by simpa using U
    have b4:=zA (V.out.trans (fz (bo:=gd) (j:=v) Wq (.int .i64 (wrap64 (rd I v-wrap64 (m*t)))) c'));have b5:=zA (Below.setCell (p:=⟨gd,v,none⟩) X.out q4 (.int .i64 (wrap64 (rd I v-wrap64 (m*t)))));have b6:Aside0 (∀k,k≠gd->(Wq.setCell ⟨gd,v,none⟩ (.int .i64 (wrap64 (rd I v-wrap64 (m*t))))).heap[k]? =W.heap[k]?):=⟨fun k hk=>(Below.heap_setCell _ _ _ _ hk).trans (Y.out k hk)⟩;clear z4 z5 G S T U V X Y;generalize Wq.setCell ⟨gd,v,none⟩ (.int .i64 (wrap64 (rd I v-wrap64 (m*t))))=Wa at O b1 b2 b3 b4 b5 b6⊢;have z0:=O.out.c1;have z1:=O.out.c2;have z3:=O.out.si.f3;have z4:=O.out.si.j7 u a0;have z5:=O.out.si.oG u a0;have ew:(u:Int)<(n:Int):=by omega
    refine oH [_,_,_,_,_,_,_,_,_,_,_,_] _ rfl (by kernel_rfl) rfl (by kernel_rfl) (by kernel_rfl) (by kernel_rfl) (by kernel_rfl) ?_;repeat(gi_big_quiet_step (fail))
    refine wpQuietIn_nil ?_;rintro _ ⟨P,rfl⟩;have G:=zA (O.out.drewN P);have S:=zA (iw b1.out P);have T:=zA (b2.out.below (b8 (al _ _) P));have U:H.heap.size<=(Wa.drewN P).heap.size:=by simpa using b3
    have V:=zA (b4.out.trans (cW (nw:=H.heap.size) (b8 (al Wa.heap.size Wa) P)));have X:=zA (b8 b5.out P);have Y:Aside0 (∀k,k≠gd->(Wa.drewN P).heap[k]? =W.heap[k]?):=⟨fun k hk=>by simpa using b6.out k hk⟩;clear z0 z1 z3 z4 z5 O b1 b2 b3 b4 b5 b6;have z4:=G.out.si.j7 u a0;have z5:=G.out.si.oG u a0;generalize Wa.drewN P=Wb at G S T U V X Y z4 z5⊢;gi_wp2;have ex:cE w.heap.size b ds (Wb.setCell ⟨gd,u,none⟩ (.int .i64 (wrap64 (rd (I.set v (wrap64 (rd I v-wrap64 (m*t)))) u+wrap64 (m*t))))):=by
     obtain⟨inner,ho⟩:=Kd.ji G.out.si.d;obtain⟨cells,hc⟩:=jh ho gd rfl;exact T.out.set (p:=⟨gd,u,none⟩) hc _
    refine⟨V.out.trans (fz _ _ c'),⟨fun _=>Below.setCell (p:=⟨gd,u,none⟩) X.out q4 _,fun k hk _=>(Below.heap_setCell _ _ _ _ ?_).trans (Y.out k ?_)⟩,by simpa using U,?_,aD S.out dk _,ex⟩
    ·show k≠gd
     rcases hk with rfl|rfl|rfl<;>omega
    ·rcases hk with rfl|rfl|rfl<;>omega
    ·rw[c9.out];exact G.out.oE u _
   case done=>
    rintro s' xs W W' _ rfl ⟨hs,i1,i2,i3⟩ N b_;have L:=zA (i1.bk N (by omega));have I3:=zA (i3.bk N (by omega));have ey:=zA b_;have c8:H.heap.size<W'.heap.size:=(Array.getElem?_eq_some_iff.1 b_).1;clear i1 i2 i3 b_;gi_wp2;exact kH.intro (n- (v+1)) (by rw[HK.out];omega) (HJ.out _ _ _ ⟨_,_,_,_,_,_,_,_,_,_,_,_,_,_,_,_,_,_,_,_,_,_,v+1,by omega,by rw[Q.out];exact L,⟨rfl⟩,rfl⟩) (H.heap.size+1) (by omega) (I3.out.push (by omega) (by omega) ey.out)
 ·obtain rfl:v=n:=by omega
  have x0:=y.out.c1;have s3:=y.out.si.f3;have s4:=y.out.si.f4;have s5:=y.out.si.f5;clear HJ hK;gi_wp2;gi_loopg [65] (v) (fun kq uv wq=>∃u:Nat,u<=v/\uv= .int .i64 u/\Aside0 (∃m,wq=wr.drewN m)/\Aside0 (kq=v-u))
  case atStart=>exact⟨0,by omega,rfl,⟨0,rfl⟩,⟨rfl⟩⟩
  case round=>
   obtain⟨u,hu,rfl,⟨⟨m,hm⟩⟩,e1⟩:=hrel;subst hm;by_cases b':u<v
   ·have f9:(0:Int)<=(u:Int):=by omega
    have ew:(u:Int)<(v:Int):=by omega
    have r:=zA (y.out.drewN m);have y6:=r.out.si.j7 u b';have y7:=r.out.si.cells u b';obtain⟨o1,o2,o3,o4⟩:=ch.out u b';have y0:=r.out.c1;have y3:=r.out.si.f3;have y4:=r.out.si.f4;have y5:=r.out.si.f5;have HM:Aside0 (∃m',wr.drewN m=wr.drewN m'):=⟨m,rfl⟩;clear x0 s3 s4 s5 r;generalize rd (bu E In t v (d,s)).1 u=a at y6 o1 o2;generalize rd (bu E In t v (d,s)).2 u=Z at y7 o3 o4;generalize wr.drewN m=wq at y0 y3 y4 y5 y6 y7 HM⊢;have f':decide (2097152<(if(if(if a< -a then -a else a)<Z then Z else if a< -a then -a else a)< -Z then -Z else if(if a< -a then -a else a)<Z then Z else if a< -a then -a else a))=false:=by
     rw[decide_eq_false_iff_not];repeat' split
     all_goals omega
    gi_wp2;gi_quiet (fail)
    gi_wp2
    all_goals
     gi_roundg (v- (u+1))
     case measure=>rw[e1.out];omega
     case rel=>exact⟨u+1,by omega,by go_num,⟨by obtain⟨m',e_⟩:=HM.out;rw[e_];simp only[World.drewN_drewN];exact⟨_,rfl⟩⟩,⟨rfl⟩⟩
   ·obtain rfl:u=v:=by omega
    clear L1 L2 HE ch x0 s3 s4 s5;gi_wp2;refine(tS (a4.out.below (b8 (al _ _) m)) fun w' ca=>?_).1;exact⟨_,results_none rfl _ _ _,rfl,(y.out.si.drewN m).fin ca ck,fun k h1 h2 h3=>(ca.kG.block k h1).trans (y.out.hf k h1 h2 h3),by have:=ca.size;simp at this;omega⟩
end
end Go.Proofs.YtffdiakgjakngaaGreat.P


namespace Go.Proofs.YtffdiakgjakngaaGreat.P
open Go.RowKit Go.Proofs.YtffdiakgjakngaaGreatW.PrintWords Go.Proofs.YtffdiakgjakngaaGreatW.PrintLast Go.Proofs.YtffdiakgjakngaaGreatW.PrintMore
set_option linter.unusedVariables false
set_option linter.unusedSimpArgs false
set_option maxHeartbeats 8000000
set_option maxRecDepth 100000
theorem bt.kI {N:Int} {E:List S83} (h:bt N E) {x:S83} (a:x∈E):0<=x.f0/\x.f0<=x.f1/\x.f1<N/\1<=x.f2/\x.f2<=50:=by
 have h1:=h.ok x a;have b:=h.le x a;simp[bX] at h1;omega
theorem bt.jy {n:Nat} {E:List S83} (h:bt n E):ej n E:=fun x a=>by
 have:=h.kI a;omega
theorem bt.take {N:Int} {E:List S83} (h:bt N E) (k:Nat):bt N (E.take k):=⟨fun x a=>h.ok x (List.mem_of_mem_take a),fun x a=>h.le x (List.mem_of_mem_take a),h.order.sublist (List.take_sublist _ _)⟩
theorem ub {E:List S83} (v:Nat):∀(E:List S83) (f:Nat->Nat->Int),(∀x∈E,0<=x.f0/\0<=x.f1)->f v v=0->E.foldl cQ f v v=0
 |[],f,_,hf=>hf
 |x::E,f,h,hf=>by
  rw[List.foldl_cons];refine ub (E:=E) v E _ (fun y a=>h y (List.mem_cons_of_mem _ a)) ?_;have b:=h x (List.mem_cons_self ..);unfold cQ;split
  ·exact hf
  ·dsimp only
   rw[if_neg (by omega),if_neg (by omega)];exact hf
theorem bt.wt {n:Nat} {E:List S83} (h:bt n E):T.Wt n (timesOf E):=by
 have a:∀v,timesOf E v v=0:=fun v=>ub (E:=E) v E _ (fun x b=>by have:=h.kI b;omega) rfl
 refine⟨fun u v=>?_,fun u v=>?_,a⟩
 ·by_cases e:u=v
  ·subst e;rw[a];omega
  ·rw[mG h u v e];exact(An h _ _).1
 ·by_cases e:u=v
  ·subst e;rfl
  ·rw[mG h u v e,mG h v u (fun k=>e k.symm),s7]
theorem bt.BN {N:Int} {E:List S83} (h:bt N E) {x:S83} (a:x∈E):0<du E x.f0 x.f1:=by
 unfold du;have he:=h.kI a;have e:(E.find? (fU x.f0 x.f1)).isSome=true:=List.find?_isSome.2 ⟨x,a,by simp[fU];omega⟩;obtain⟨y,b⟩:=Option.isSome_iff_exists.1 e;rw[b];have:=h.kI (List.mem_of_find?_eq_some b);show 0<y.f2
 omega
theorem bt.conn {n:Nat} {E:List S83} (h:bt n E) (j:fw n E):T.dn n (timesOf E):=by
 intro S h1 k;obtain⟨x,i,b⟩:=j S h1 k;have he:=h.kI i;have hb:=h.BN i;have l:du E x.f0 x.f1=timesOf E x.f0.toNat x.f1.toNat:=by
  rw[mG h _ _ (fun e=>b (by rw[e]))];congr 1<;>omega
 rw[l] at hb;cases g:S x.f0.toNat with
 |true=>
  have a:S x.f1.toNat=false:=by cases a:S x.f1.toNat with|false=>rfl|true=>rw[g,a] at b;exact absurd rfl b
  exact⟨_,_,by omega,by omega,g,a,hb⟩
 |false=>
  have a:S x.f1.toNat=true:=by cases a:S x.f1.toNat with|true=>rfl|false=>rw[g,a] at b;exact absurd rfl b
  exact⟨_,_,by omega,by omega,a,g,by rw[h.wt.sym];exact hb⟩
def dH (φ:Nat->Int):List (Int×Int)->Int
 |[]=>0
 |x::L=>x.2*φ x.1.toNat+dH φ L
theorem ud (φ:Nat->Int):∀A B,dH φ (A++B)=dH φ A+dH φ B
 |[],B=>by simp[dH]
 |x::A,B=>by
  simp only[List.cons_append,dH,ud φ A B];omega
theorem qp {E:List S83} {k:Nat} (hk:k<E.length):ae E k=E[k]:=by simp[ae,bb,bP hk]
theorem BO {N:Int} {E:List S83} (h:bt N E) {k:Nat} (hk:k<E.length):∀y∈E.take k,g_ y (ae E k):=by
 intro y a;have h1:=h.order;rw[<-List.take_append_drop k E,List.pairwise_append] at h1;refine h1.2.2 y a _ ?_;rw[qp hk,List.drop_eq_getElem_cons hk];exact List.mem_cons_self ..
theorem ue {n:Nat} {E:List S83} (h:bt n E) (φ:Nat->Int) {v:Nat} (p:v<n):∀k,k<=E.length->dH φ (cy E v k)=T.sN (fun u=>timesOf (E.take k) v u*φ u) n
 |0,_=>by
  rw[T.gG (fun u _=>by simp[timesOf])];rfl
 |k+1,hk=>by
  have g:k<E.length:=by omega
  have q:=ue h φ p k (by omega);have l:=h.kI (show ae E k∈E by rw[qp g];exact List.getElem_mem g);have o:=BO h g;have C:=(h.take k).wt.self v;rw[sY E k g];simp only[cy,ud,q];generalize ae E k=x at l o;obtain⟨a,b,m⟩:=x;simp only at l;by_cases i:a≠b/\(a=v\/b=v)
  ·rw[if_pos i]
   obtain⟨u0,r⟩:∃u0:Nat,(u0:Int)=a+b-v:=⟨(a+b-v).toNat,by omega⟩;have s:u0<n:=by omega
   have w:v≠u0:=by omega
   have z:timesOf (E.take k) v u0=0:=by
    rw[mG (h.take k) v u0 w];unfold du;rw[s8 (fun y B D=>by have:=o y B;unfold g_ at this;simp only at this;omega)]
   have j:∀u:Nat,u<n->cQ (timesOf (E.take k)) ⟨a,b,m⟩ v u*φ u=timesOf (E.take k) v u*φ u+(if u=u0 then m*φ u else 0):=fun u hu=>by
    unfold cQ;simp only[if_neg i.1];by_cases e:u=u0
    ·subst e
     rw[z,if_pos rfl];by_cases e2:v=b.toNat/\u=a.toNat
     ·rw[if_pos e2];omega
     ·rw[if_neg e2,if_pos (by omega)];omega
    ·rw[if_neg e,if_neg (by omega),if_neg (by omega)];omega
   rw[T.bI j,T.dD,T.jo s (fun u _ hu=>if_neg hu),if_pos rfl];simp only[dH,<-r,aQ];omega
  ·rw[if_neg i]
   have j:∀u:Nat,u<n->cQ (timesOf (E.take k)) ⟨a,b,m⟩ v u*φ u=timesOf (E.take k) v u*φ u:=fun u hu=>by
    unfold cQ;by_cases e:a=b
    ·simp only[if_pos e]
    ·simp only[if_neg e]
     rw[if_neg (by omega),if_neg (by omega)]
   rw[T.bI j];simp[dH]
theorem oI {n:Nat} {E:List S83} (h:bt n E) (φ:Nat->Int) {v:Nat} (a:v<n):dH φ (cy E v E.length)=T.sN (fun u=>timesOf E v u*φ u) n:=by
 rw[ue h φ a E.length (aI _),List.take_length]
theorem oJ {n:Nat} {E:List S83} (h:bt n E) {v:Nat}:∀k,k<=E.length->∀x∈cy E v k,0<=x.1/\x.1<n/\x.1≠v/\1<=x.2/\x.2<=50
 |0,_=>fun x a=>by cases a
 |k+1,hk=>fun x a=>by
  have b:k<E.length:=by omega
  have he:=h.kI (show ae E k∈E by rw[qp b];exact List.getElem_mem b);rcases List.mem_append.1 a with a|a
  ·exact oJ h k (by omega) x a
  ·split at a
   ·rename_i e
    obtain rfl:=List.mem_singleton.1 a;simp only;omega
   ·cases a
theorem uf (E:List S83) (v:Int):∀k,(cy E v k).length<=k
 |0=>aI _
 |k+1=>by
  have:=uf E v k;simp only[cy,List.length_append];split<;>simp<;>omega
theorem qq (B:Nat->Bool):∀(L:List (Int×Int)) (s:Int),(∀x∈L,1<=x.2/\x.2<=50)->0<=s->s+50*L.length<=1000000000->L.foldl (fun s x=>if B x.1.toNat=true then wrap64 (s+x.2) else s) s=s+dH (T.ind B) L
 |[],s,_,_,_=>by simp[dH]
 |x::L,s,h,g,b=>by
  have i:=h x (List.mem_cons_self ..);simp only[List.length_cons] at b;rw[List.foldl_cons];simp only[dH,T.ind];by_cases e:B x.1.toNat=true
  ·rw[if_pos e,if_pos e,iz (by omega),qq B L _ (fun y a=>h y (List.mem_cons_of_mem _ a)) (by omega) (by omega)]
   unfold T.ind;omega
  ·rw[if_neg e,if_neg e,qq B L _ (fun y a=>h y (List.mem_cons_of_mem _ a)) (by omega) (by omega)]
   unfold T.ind;omega
theorem BP (t:Nat->Int) (B:Nat->Bool) (n:Nat):T.sN (fun u=>t u*T.ind B u) n=T.sN (fun u=>if B u=true then t u else 0) n:=T.bI fun u _=>by
 unfold T.ind;split<;>simp
theorem qt {n:Nat} {E:List S83} (h:bt n E) (e:E.length<=1000) (B:Nat->Bool) {v:Nat} (a:v<n):dZ B (cy E v E.length)=T.sN (fun u=>if B u=true then timesOf E v u else 0) n:=by
 have h1:=uf E v E.length;unfold dZ;rw[qq B _ 0 (fun x b=>(oJ h _ (aI _) x b).2.2.2) (by omega) (by omega),oI h _ a,BP,Int.zero_add]
theorem mQ (t:Nat->Nat->Int) (B:Nat->Bool) (v:Nat):∀n,dF t B v n=T.sN (fun u=>if B u=true then t v u else 0) n
 |0=>rfl
 |n+1=>by
  show dF t B v n+_=T.sN _ n+_
  rw[mQ t B v n]
theorem BQ {n:Nat} {E:List S83} (h:bt n E) (a:E.length<=1000) (B:Nat->Bool) {v:Nat} (b:v<n):dZ B (cy E v E.length)=dF (timesOf E) B v n:=by rw[qt h a B b,mQ]
def Md (a b:Int):Prop:=(a-b)%18446744073709551616=0
def df (a:Int):Prop:= -9223372036854775808<=a/\a<=9223372036854775807
theorem Md.refl (a:Int):Md a a:=by unfold Md;omega
theorem Md.wrap {a b:Int} (h:Md a b):Md (wrap64 a) b:=by unfold Md wrap64 at*;omega
theorem Md.add {a b c d:Int} (h:Md a b) (e:Md c d):Md (a+c) (b+d):=by unfold Md at*;omega
theorem Md.sub {a b c d:Int} (h:Md a b) (e:Md c d):Md (a-c) (b-d):=by unfold Md at*;omega
theorem Md.eq {a b:Int} (h:Md a b) (e:df a) (hb:df b):a=b:=by unfold Md df at*;omega
theorem qu (a:Int):df (wrap64 a):=by unfold df wrap64;omega
theorem ug {d:List Int} (h:∀w:Nat,w<d.length->df (rd d w)) (v:Nat) (a:Int) (b:df a):∀w:Nat,w<d.length->df (rd (d.set v a) w):=fun w hw=>by
 by_cases e:v=w
 ·subst e;rw[jx _ _ _ hw];exact b
 ·rw[iJ _ _ _ _ e];exact h w hw
theorem uh (t:Int) {v n:Nat} (j:v<n):∀(L:List (Int×Int)) (d:List Int),d.length=n->(∀x∈L,0<=x.1/\x.1<n/\x.1≠v)->(∀w:Nat,w<n->df (rd d w))->∀w:Nat,w<n->
  df (rd (fN t v d L) w)/\Md (rd (fN t v d L) w) (rd d w-t*(if w=v then dH (fun _=>1) L else 0)+t*dH (fun u=>if u=w then 1 else 0) L)
 |[],d,hd,_,b=>fun w hw=>by
  refine⟨b w hw,?_⟩;simp[fN,dH];exact Md.refl _
 |x::L,d,hd,g,b=>fun w hw=>by
  have s:=g x (List.mem_cons_self ..);obtain⟨u,hu⟩:∃u:Nat,(u:Int)=x.1:=⟨x.1.toNat,by omega⟩;have k:u<n:=by omega
  have h:u≠v:=by omega
  have l:(iL t v d x).length=n:=by rw[t_];exact hd
  have m:∀w:Nat,w<n->df (rd (iL t v d x) w):=by
   unfold iL;rw[<-hd] at b⊢;have h1:=ug b v (wrap64 (rd d v-wrap64 (x.2*t))) (qu _);have o:=ug (d:=d.set v (wrap64 (rd d v-wrap64 (x.2*t)))) (by simpa using h1) x.1.toNat (wrap64 (rd (d.set v (wrap64 (rd d v-wrap64 (x.2*t)))) x.1+wrap64 (x.2*t))) (qu _);simpa using o
  obtain⟨i1,i2⟩:=uh t j L (iL t v d x) l (fun y p=>g y (List.mem_cons_of_mem _ p)) m w hw;refine⟨i1,?_⟩;show Md (rd (fN t v (iL t v d x) L) w) _
  have z:Md (rd (iL t v d x) w) (rd d w-t*(if w=v then x.2 else 0)+t*(if u=w then x.2 else 0)):=by
   unfold iL;rw[<-hu,aQ];have q:rd (d.set v (wrap64 (rd d v-wrap64 (x.2*t)))) (u:Int)=rd d u:=iJ _ _ _ _ (fun e=>h e.symm);have i:Md (wrap64 (x.2*t)) (t*x.2):=by rw[Int.mul_comm];exact(Md.refl _).wrap
   rw[q];by_cases a:u=w
   ·subst a
    rw[jx _ _ _ (by simpa [hd] using k),if_neg h,if_pos rfl,Int.mul_zero,Int.sub_zero];exact((Md.refl _).add i).wrap
   ·rw[iJ _ _ _ _ a,if_neg a,Int.mul_zero,Int.add_zero]
    by_cases ev:w=v
    ·subst ev
     rw[jx _ _ _ (by simpa [hd] using hw),if_pos rfl];exact((Md.refl _).sub i).wrap
    ·rw[iJ _ _ _ _ (fun e=>ev e.symm),if_neg ev,Int.mul_zero,Int.sub_zero]
     exact Md.refl _
  have r:rd d w-t*(if w=v then dH (fun _=>1) (x::L) else 0)+t*dH (fun u=>if u=w then 1 else 0) (x::L)=(rd d w-t*(if w=v then x.2 else 0)+t*(if u=w then x.2 else 0))-t*(if w=v then dH (fun _=>1) L else 0)+t*dH (fun u=>if u=w then 1 else 0) L:=by
   simp only[dH,<-hu,aQ];by_cases ev:w=v
   ·simp only[if_pos ev]
    by_cases a:u=w
    ·simp only[if_pos a,Int.mul_one,Int.mul_add];omega
    ·simp only[if_neg a,Int.mul_one,Int.mul_zero,Int.mul_add];omega
   ·simp only[if_neg ev]
    by_cases a:u=w
    ·simp only[if_pos a,Int.mul_one,Int.mul_add,Int.mul_zero];omega
    ·simp only[if_neg a,Int.mul_zero,Int.mul_add];omega
  rw[r];unfold Md at*;omega
theorem BR {n:Nat} {E:List S83} (h:bt n E) (t:Int) {v:Nat} (b:v<n) (d:List Int) (hd:d.length=n) (g:∀w:Nat,w<n->df (rd d w)):∀w:Nat,w<n->
  df (rd (fN t v d (cy E v E.length)) w)/\Md (rd (fN t v d (cy E v E.length)) w) (rd d w-t*T.aV n (timesOf E) (T.one v) w):=by
 intro w hw;obtain⟨h1,a⟩:=uh t b (cy E v E.length) d hd (fun x i=>by have:=oJ h _ (aI _) x i;omega) g w hw;refine⟨h1,?_⟩;rw[oI h _ b,oI h _ b] at a;have j:T.sN (fun u=>timesOf E v u*1) n=T.val n (timesOf E) v:=T.bI fun u _=>Int.mul_one _
 have e2:T.sN (fun u=>timesOf E v u*(if u=w then 1 else 0)) n=timesOf E v w:=by
  rw[T.jo hw (fun u _ hu=>by rw[if_neg hu,Int.mul_zero]),if_pos rfl,Int.mul_one]
 rw[j,e2] at a;by_cases e:w=v
 ·subst e
  rw[T.sS h.wt hw];rw[if_pos rfl,h.wt.self,Int.mul_zero,Int.add_zero] at a;exact a
 ·rw[T.sT b e,h.wt.sym w v,Int.mul_neg]
  rw[if_neg e,Int.mul_zero,Int.sub_zero] at a;rw[show rd d w- -(t*timesOf E v w)=rd d w+t*timesOf E v w by omega];exact a
theorem ui {n:Nat} {E:List S83} (h:bt n E) (In:Nat->Bool) (t:Int) (d s:List Int) (hd:d.length=n) (g:s.length=n) (i:∀w:Nat,w<n->df (rd d w)) (j:∀w:Nat,w<n->df (rd s w)):∀k,k<=n->∀w:Nat,w<n->
  (df (rd (bu E In t k (d,s)).1 w)/\Md (rd (bu E In t k (d,s)).1 w) (rd d w-t*T.aV n (timesOf E) (T.ind fun v=>In v&&decide (v<k)) w))/\(df (rd (bu E In t k (d,s)).2 w)/\Md (rd (bu E In t k (d,s)).2 w) (rd s w+t*T.ind (fun v=>In v&&decide (v<k)) w))
 |0,_=>fun w hw=>by
  have e:T.ind (fun v=>In v&&decide (v<0))=fun _=>0:=by funext v;simp[T.ind]
  rw[e,T.jV,Int.mul_zero,Int.sub_zero,Int.add_zero];exact⟨⟨i w hw,Md.refl _⟩,j w hw,Md.refl _⟩
 |k+1,hk=>fun w hw=>by
  have l:k<n:=by omega
  have a:=ui h In t d s hd g i j k (by omega);obtain⟨m,o⟩:=mP E In t (d,s) k;simp only at m o;unfold bu;cases hIn:In k with
  |false=>
   rw[if_neg (by decide)];have e:∀u,(In u&&decide (u<k+1))=(In u&&decide (u<k)):=fun u=>by
    by_cases e:u=k
    ·subst e;rw[hIn];rfl
    ·rw[show decide (u<k+1)=decide (u<k) by congr 1;exact propext (by omega)]
   rw[show (fun v=>In v&&decide (v<k+1))=(fun v=>In v&&decide (v<k)) from funext e];exact a w hw
  |true=>
   rw[if_pos rfl];have e:∀u,T.ind (fun v=>In v&&decide (v<k+1)) u=T.ind (fun v=>In v&&decide (v<k)) u+T.one k u:=fun u=>by
    unfold T.ind T.one;show (if(In u&&decide (u<k+1))=true then(1:Int) else 0)=(if(In u&&decide (u<k))=true then 1 else 0)+if u=k then 1 else 0
    by_cases e:u=k
    ·subst e;simp[hIn]
    ·rw[show decide (u<k+1)=decide (u<k) by congr 1;exact propext (by omega),if_neg e];omega
   have e2:T.aV n (timesOf E) (T.ind fun v=>In v&&decide (v<k+1)) w=T.aV n (timesOf E) (T.ind fun v=>In v&&decide (v<k)) w+T.aV n (timesOf E) (T.one k) w:=by
    rw[<-T.kB];exact T.lE (fun u _=>e u) hw
   rw[e2,e w];obtain⟨p,j2⟩:=BR h t l (bu E In t k (d,s)).1 (by rw[m];exact hd) (fun w hw=>(a w hw).1.1) w hw;refine⟨⟨p,?_⟩,?_⟩
   ·have r:=(a w hw).1.2
    rw[Int.mul_add];show Md (rd (fN t k (bu E In t k (d,s)).1 (cy E k E.length)) w) _
    unfold Md at*;omega
   ·have q:k<(bu E In t k (d,s)).2.length:=by rw[o,g];exact l
    by_cases b:k=w
    ·subst b
     rw[jx _ _ _ q];refine⟨qu _,?_⟩;have:=(a k hw).2.2;rw[Int.mul_add,show T.one k k=1 by simp[T.one],Int.mul_one];refine Md.wrap ?_;unfold Md at*;omega
    ·rw[iJ _ _ _ _ b,show T.one k w=0 by unfold T.one;rw[if_neg (fun e=>b e.symm)],Int.add_zero]
     exact(a w hw).2
theorem uj {n:Nat} {E:List S83} (h:bt n E) (In:Nat->Bool) (t:Int) (d s:List Int) (hd:d.length=n) (g:s.length=n) (i:∀w:Nat,w<n->df (rd d w)) (j:∀w:Nat,w<n->df (rd s w)) {w:Nat} (hw:w<n):
  (df (rd d w-t*T.aV n (timesOf E) (T.ind In) w)->rd (bu E In t n (d,s)).1 w=rd d w-t*T.aV n (timesOf E) (T.ind In) w)/\(df (rd s w+t*T.ind In w)->rd (bu E In t n (d,s)).2 w=rd s w+t*T.ind In w):=by
 have e:∀u,u<n->T.ind (fun v=>In v&&decide (v<n)) u=T.ind In u:=fun u hu=>by
  unfold T.ind;simp[hu]
 obtain⟨⟨h1,a⟩,k,b⟩:=ui h In t d s hd g i j n (aI _) w hw;rw[T.lE e hw] at a;rw[e w hw] at b;exact⟨fun hi=>a.eq h1 hi,fun hi=>b.eq k hi⟩
theorem qw {f:Nat->Int} {n v:Nat} (b:v<n) {a:Int} (e:a<=0) (h:∀u,u<n->a<=f u):f v<=T.sN f n-n*a:=by
 have h1:=T.gI (f:=fun u=>f u-a) b (fun u hu=>by have:=h u hu;show 0<=f u-a;omega);rw[T.da f (fun _=>a) n,T.gH] at h1;have g:f v-a<=T.sN f n-n*a:=h1;omega
theorem mR {n:Nat} {t:Nat->Nat->Int} (e:T.Wt n t) (hn:n<=12) (l:T.sN (T.val n t) n<=19) {D dist d s:Nat->Int} (m:∀v,v<n-> -200<=D v/\D v<=200) {k:Int} (hk:0<=k) (o:k<=n) (h:T.fa n t D dist 200 k d s):∀v,v<n-> -102400<=d v/\d v<=1231200/\0<=s v/\s v<=1228800:=by
 have p:T.sN d n=T.sN D n:=by
  rw[T.bI (f:=d) (g:=fun v=>D v-T.aV n t s v) h.eq,T.da,T.mC e];omega
 have q:=(T.n9 (f:=D) (n:=n) (B:=200) m).2;have i:∀v,v<n-> -102400<=d v:=fun v b=>by
  have h1:=h.low v b;have j:=T.p9 e dist (B:=200) (by omega) l k;omega
 intro v b;have h1:=qw (f:=d) b (a:= -102400) (by omega) i;have j:=h.s0 v b;have r:((n:Int)-k)*(200*512)<=12*(200*512):=Int.mul_le_mul_of_nonneg_right (by omega) (by omega);exact⟨i v b,by omega,j.1,by omega⟩
theorem BS {a x:Int} (b:1<=x):a<=(a+x-1)/x*x:=by
 have e:=Int.emod_lt_of_pos (a+x-1) (show 0<x by omega);have g:=Int.mul_ediv_add_emod (a+x-1) x;rw[Int.mul_comm];omega
theorem BU {a x:Int} (b:1<=a) (e:1<=x):(a+x-1)/x<=a:=by
 refine Int.ediv_le_of_le_mul (by omega) ?_;have:=Int.mul_le_mul_of_nonneg_right (show (1:Int)<=a by omega) (show (0:Int)<=x-1 by omega);rw[show a*x=a*(x-1)+a by rw[Int.mul_sub];omega];omega
theorem BW {n:Nat} {E:List S83} (a:bt n E) (hn:n<=12) (b:T.sN (T.val n (timesOf E)) n<=19) {D dist:Nat->Int} (e:∀v,v<n-> -200<=D v/\D v<=200) (g:∀u v:Nat,u<n->v<n->0<timesOf E u v->dist v<=dist u+1) {k:Int} (hk:1<=k) (q:k<=n) {d s:List Int} (r:d.length=n) (y:s.length=n)
  (h:T.fa n (timesOf E) D dist 200 k (fun v=>rd d (v:Nat)) (fun v=>rd s (v:Nat))) {x:Int} (i:0<=x) (j:x<=T.fy n (timesOf E) dist 200 k) (l:∀v:Nat,v<n->dist v=k->rd d v<0-> -rd d v<=x*T.sN (fun u=>if T.bF dist k u=true then timesOf E v u else 0) n):
  T.fa n (timesOf E) D dist 200 (k-1) (fun v=>rd (bu E (T.bF dist k) x n (d,s)).1 (v:Nat)) (fun v=>rd (bu E (T.bF dist k) x n (d,s)).2 (v:Nat))/\
  ∀v:Nat,v<n-> -2097152<=rd (bu E (T.bF dist k) x n (d,s)).1 v/\rd (bu E (T.bF dist k) x n (d,s)).1 v<=2097152/\ -2097152<=rd (bu E (T.bF dist k) x n (d,s)).2 v/\rd (bu E (T.bF dist k) x n (d,s)).2 v<=2097152:=by
 have hb:=mR a.wt hn b e (by omega) q h;have h1:=T.fa.step a.wt (by omega) b g h i j l (d':=fun v=>rd d (v:Nat)-x*T.aV n (timesOf E) (T.ind (T.bF dist k)) v) (s':=fun v=>rd s (v:Nat)+x*T.ind (T.bF dist k) v) (fun _ _=>rfl) (fun _ _=>rfl);have m:=mR a.wt hn b e (show 0<=k-1 by omega) (by omega) h1;have o:=fun (w:Nat) (hw:w<n)=>uj a (T.bF dist k) x d s r y (fun w hw=>by have:=hb w hw;unfold df;omega) (fun w hw=>by have:=hb w hw;unfold df;omega) hw
 have z:∀w:Nat,w<n->rd (bu E (T.bF dist k) x n (d,s)).1 w=rd d w-x*T.aV n (timesOf E) (T.ind (T.bF dist k)) w:=fun w hw=>(o w hw).1 (by have:=m w hw;unfold df;omega)
 have e2:∀w:Nat,w<n->rd (bu E (T.bF dist k) x n (d,s)).2 w=rd s w+x*T.ind (T.bF dist k) w:=fun w hw=>(o w hw).2 (by have:=m w hw;unfold df;omega)
 have p:=T.fa.step a.wt (by omega) b g h i j l (d':=fun v=>rd (bu E (T.bF dist k) x n (d,s)).1 (v:Nat)) (s':=fun v=>rd (bu E (T.bF dist k) x n (d,s)).2 (v:Nat)) z e2;refine⟨p,fun v B=>?_⟩;have:=mR a.wt hn b e (show 0<=k-1 by omega) (by omega) p v B;omega
theorem BX {n:Nat} {E:List S83} (a:bt n E) (b:T.sN (T.val n (timesOf E)) n<=19) {D dist:Nat->Int} (e:∀u v:Nat,u<n->v<n->0<timesOf E u v->dist v<=dist u+1) {k:Int} {d s:List Int}
  (h:T.fa n (timesOf E) D dist 200 k (fun v=>rd d (v:Nat)) (fun v=>rd s (v:Nat))) (g:∀v:Nat,v<n->dist v=k->rd d v<0-> -rd d v<=0*T.sN (fun u=>if T.bF dist k u=true then timesOf E v u else 0) n):
  T.fa n (timesOf E) D dist 200 (k-1) (fun v=>rd d (v:Nat)) (fun v=>rd s (v:Nat)):=by
 refine T.fa.step a.wt (by omega) b e h (T:=0) (by omega) ?_ g (fun v _=>by rw[Int.zero_mul,Int.sub_zero]) (fun v _=>by rw[Int.zero_mul,Int.add_zero]);have:=T.oa (n:=n) (t:=timesOf E) dist (show (0:Int)<=200 by omega) k;omega
theorem BY {n:Nat} {t:Nat->Nat->Int} (a:T.Wt n t) {out:List Int} {k:Int} {v u:Nat} (hu:u<n) (h1:0<t v u) (g:rd out (u:Int)+1=rd out (v:Int)) (hk:rd out (v:Int)=k):1<=T.sN (fun u=>if T.bF (fun v=>rd out (v:Nat)) k u=true then t v u else 0) n:=by
 have b:=T.gI (f:=fun u=>if T.bF (fun v=>rd out (v:Nat)) k u=true then t v u else 0) hu (fun w _=>by
  show 0<=(if T.bF (fun v=>rd out (v:Nat)) k w=true then t v w else 0)
  have:=a.pos v w;split<;>omega)
 have e:T.bF (fun v=>rd out (v:Nat)) k u=true:=by exact ay (show rd out (u:Int)<k by omega)
 simp only[e,if_true] at b;omega
theorem uk (n:Nat) (t:Nat->Nat->Int) (q:Nat) (d:List Int):bA n t q d q=true:=qi _ (by simp[cM])
theorem BZ (n:Nat) (t:Nat->Nat->Int) (q:Nat) (d:List Int) {v:Nat} (a:v<n):cu n t d (bA n t q d) v=false:=
 qk (n:=n) (c:=cu n t d) (fun b v h=>mM b v h) (dO n (cM q)) (cM q) (aI _) v a
theorem um {n:Nat} {t:Nat->Nat->Int} {q:Nat} {d:List Int} {v:Nat} (a:v<n) (h:bA n t q d v=false):T.sN (fun u=>if bA n t q d u=true then t v u else 0) n<=rd d v:=by
 have h1:=BZ n t q d a;unfold cu at h1;rw[h,mQ] at h1;simp at h1;exact h1
theorem B4 {n:Nat} {t:Nat->Nat->Int} (e:T.Wt n t) {q:Nat} {d:List Int} (h:((List.range n).any fun v=> !bA n t q d v)=false):T.jW n t q (fun v=>rd d (v:Nat)):=by
 have h1:fX n t q d=true:=by
  unfold fX;rw[List.all_eq_true];intro v a;rw[List.any_eq_false] at h;have:=h v a;show bA n t q d v=true
  simpa using this
 have g:=(ql (fun i j=>e.pos i j) q d).1 h1;intro S hS k;obtain⟨v,a,l,b⟩:=g S hS k;refine⟨v,a,l,?_⟩;rw[mQ] at b;refine Int.lt_of_lt_of_le b (T.cT fun u _=>?_);show (if(!S u)=true then t v u else 0)<=(if S u=false then t v u else 0)
 cases S u<;>simp
theorem B7 {n:Nat} {t:Nat->Nat->Int} (g:T.dn n t) (e:T.Wt n t) {q:Nat} (i:q<n) {d:List Int} (h:((List.range n).any fun v=> !bA n t q d v)=true):∃v,v<n/\bA n t q d v=false/\0<T.sN (fun u=>if bA n t q d u=true then t v u else 0) n:=by
 obtain⟨v,j,hb⟩:=List.any_eq_true.1 h;obtain⟨a,b,k,l,h1,m,p⟩:=g (bA n t q d) ⟨q,i,uk n t q d⟩ ⟨v,List.mem_range.1 j,by simpa using hb⟩;refine⟨b,l,m,?_⟩;have o:=T.gI (f:=fun u=>if bA n t q d u=true then t b u else 0) k (fun w _=>by
  show 0<=(if bA n t q d w=true then t b w else 0)
  have:=e.pos b w;split<;>omega)
 have r:=e.sym a b;simp only[h1,if_true] at o;omega
structure ja (n q:Nat) (t:Nat->Nat->Int) (D:Nat->Int) (d s:List Int):Prop where
 dl:d.length=n
 sl:s.length=n
 eq:∀v:Nat,v<n->rd d v=D v-T.aV n t (fun u=>rd s (u:Nat)) v
 j4:∀v:Nat,v<n->v≠q->0<=rd d v
 low: -102400<=rd d q
 s0:∀v:Nat,v<n->0<=rd s v
 sq:rd s q<=1228800
structure eA (n q:Nat) (t:Nat->Nat->Int) (D c σ:Nat->Int):Prop where
 red:T.jX n t q c
 eq:∀v,v<n->c v=D v-T.aV n t σ v
 q0:σ q=0
theorem B8 {n q:Nat} {t:Nat->Nat->Int} (a:T.Wt n t) (b:T.dn n t) (e:q<n) (D:Nat->Int):∃c σ,eA n q t D c σ:=by
 obtain⟨c,⟨s,g⟩,i⟩:=T.sU a b e D;refine⟨c,fun u=>s u-s q,i,fun v j=>?_,by show s q-s q=0;omega⟩;have h:=T.lD n t s (fun _=>s q) v;rw[T.jV] at h;rw[h,g v j];omega
theorem eA.unique {n q:Nat} {t:Nat->Nat->Int} (l:T.Wt n t) (m:T.dn n t) (o:q<n) {D c σ k i:Nat->Int} (h:eA n q t D c σ) (j:eA n q t D k i):∀v,v<n->c v=k v/\σ v=i v:=by
 have e:T.bQ n t c k:=⟨fun u=>i u-σ u,fun v g=>by rw[T.lD,h.eq v g,j.eq v g];omega⟩;have h1:=T.z_ l m o h.red j.red e;have p:=T.AV l m o (s:=σ) (s':=i) (by rw[h.q0,j.q0]) (fun v g=>by
  have a:=h.eq v g;have b:=j.eq v g;have c:=h1 v g;omega)
 exact fun v g=>⟨(h1 v g).symm,p v g⟩
theorem qy {n:Nat} {t:Nat->Nat->Int} (a:T.Wt n t) {v:Nat} (b:v<n):T.val n t v<=T.sN (T.val n t) n:=T.gI b (fun u _=>T.dm fun w _=>a.pos u w)
theorem eA.bound {n q:Nat} {t:Nat->Nat->Int} (j:T.Wt n t) (r:T.dn n t) (o:q<n) (hn:n<=12) (l:T.sN (T.val n t) n<=19) {D c σ:Nat->Int} (p:∀v,v<n-> -200<=D v/\D v<=200) (h:eA n q t D c σ):∀v,v<n-> -31536<=σ v/\σ v<=31536/\ -3000<=c v/\c v<=3000/\(v≠q->0<=c v/\c v<19):=by
 have h1:=T.AW j r o h.red h.eq h.q0 (B:=200) (V:=19) (by omega) (by omega) p (fun v i=>Int.le_trans (qy j i) l);have m:∀v,v<n->v≠q->0<=c v/\c v<=19:=fun v i k=>by
  have a:=h.red.1 v i k;have b:=T.nZ j h.red.2 i k;have:=Int.le_trans (qy j i) l;omega
 have s:∀v,v<n->v≠q->0<=c v/\c v<19:=fun v i k=>by
  have a:=h.red.1 v i k;have b:=T.nZ j h.red.2 i k;have:=Int.le_trans (qy j i) l;omega
 have u:=T.AY (f:=c) o (a:=0) (b:=19) (by omega) (by omega) m;have w:T.sN c n=T.sN D n:=by
  rw[T.bI (f:=c) (g:=fun v=>D v-T.aV n t σ v) h.eq,T.da,T.mC j];omega
 have x:=T.n9 (f:=D) (n:=n) (B:=200) p;have y:(n:Int)*(n*(200+19))<=31536:=by
  have a:(n:Int)*(200+19)<=12*(200+19):=Int.mul_le_mul_of_nonneg_right (by omega) (by omega);have b:=Int.mul_le_mul_of_nonneg_left a (show (0:Int)<=n by omega);have c:(n:Int)*(12*(200+19))<=12*(12*(200+19)):=Int.mul_le_mul_of_nonneg_right (by omega) (by omega);omega
 intro v i;have a:=h1 v i;refine⟨by omega,by omega,?_,?_,fun k=>s v i k⟩
 ·by_cases e:v=q
  ·subst e;omega
  ·have:=m v i e;omega
 ·by_cases e:v=q
  ·subst e;omega
  ·have:=m v i e;omega
theorem ja.bounds {n q:Nat} {t:Nat->Nat->Int} (j:T.Wt n t) (k:T.dn n t) (l:q<n) (hn:n<=12) (p:T.sN (T.val n t) n<=19) {D c σ:Nat->Int} (m:∀v,v<n-> -200<=D v/\D v<=200) (i:eA n q t D c σ) {d s:List Int} (h:ja n q t D d s):
  ∀v:Nat,v<n-> -102400<=rd d v/\rd d v<=1231200/\0<=rd s v/\rd s v<=σ v+rd s q/\rd s v<=1260336:=by
 have o:∀v:Nat,v<n-> -102400<=rd d v:=fun v b=>by
  by_cases e:v=q
  ·subst e;exact h.low
  ·have:=h.j4 v b e;omega
 have r:T.sN (fun v=>rd d (v:Nat)) n=T.sN D n:=by
  rw[T.bI (f:=fun v=>rd d (v:Nat)) (g:=fun v=>D v-T.aV n t (fun u=>rd s (u:Nat)) v) h.eq,T.da,T.mC j];omega
 have w:=(T.n9 (f:=D) (n:=n) (B:=200) m).2;have hle:=T.p6 j k l i.red i.eq i.q0 (d:=fun v=>rd d (v:Nat)) h.eq h.j4;intro v b;have h1:rd d v<=T.sN (fun v=>rd d (v:Nat)) n-n* -102400:=qw (f:=fun v=>rd d (v:Nat)) b (a:= -102400) (by omega) o;have x:rd s v<=σ v+rd s q:=hle v b;have y:=i.bound j k l hn p m v b;have z:=h.s0 v b;have C:=h.sq;have E:=o v b;omega
def jz (n q:Nat) (σ:Nat->Int) (s:List Int):Int:=T.sN (fun v=>σ v+rd s q-rd s v) n
theorem ja.step {n q:Nat} {E:List S83} (j:bt n E) (C:T.dn n (timesOf E)) (i:q<n) (hn:n<=12) (K:T.sN (T.val n (timesOf E)) n<=19) {D c σ:Nat->Int} (F:∀v,v<n-> -200<=D v/\D v<=200) (k:eA n q (timesOf E) D c σ) {d s:List Int} (h:ja n q (timesOf E) D d s)
  (U:((List.range n).any fun v=> !bA n (timesOf E) q d v)=true) {x:Int} (Z:1<=x) (V:∀v:Nat,v<n->bA n (timesOf E) q d v=false->x*T.sN (fun u=>if bA n (timesOf E) q d u=true then timesOf E v u else 0) n<=rd d v):
  ja n q (timesOf E) D (bu E (fun v=> !bA n (timesOf E) q d v) x n (d,s)).1 (bu E (fun v=> !bA n (timesOf E) q d v) x n (d,s)).2/\
  (∀v:Nat,v<n-> -2097152<=rd (bu E (fun v=> !bA n (timesOf E) q d v) x n (d,s)).1 v/\rd (bu E (fun v=> !bA n (timesOf E) q d v) x n (d,s)).1 v<=2097152/\ -2097152<=rd (bu E (fun v=> !bA n (timesOf E) q d v) x n (d,s)).2 v/\rd (bu E (fun v=> !bA n (timesOf E) q d v) x n (d,s)).2 v<=2097152)/\
  0<=jz n q σ (bu E (fun v=> !bA n (timesOf E) q d v) x n (d,s)).2/\jz n q σ (bu E (fun v=> !bA n (timesOf E) q d v) x n (d,s)).2<jz n q σ s:=by
 obtain⟨L,l⟩:∃L:Nat->Bool,L=fun v=> !bA n (timesOf E) q d v:=⟨_,rfl⟩
 have M:L q=false:=by rw[l];simp[uk]
 have G:=T.AZ j.wt (L:=L) (d:=fun v=>rd d (v:Nat)) (T:=x) (by omega) (fun v b N=>by
  have h1:=V v b (by rw[l] at N;simpa using N);rw[T.bI (f:=fun u=>if L u=false then timesOf E v u else 0) (g:=fun u=>if bA n (timesOf E) q d u=true then timesOf E v u else 0) (fun u _=>by
   have e:L u= !bA n (timesOf E) q d u:=by rw[l]
   rw[e];cases bA n (timesOf E) q d u<;>simp)]
  exact h1)
 rw[<-l];have hb:=h.bounds j.wt C i hn K F k;have H:∀v:Nat,v<n->v≠q->0<=rd d v-x*T.aV n (timesOf E) (T.ind L) v:=fun v b I=>by
  cases m:L v with
  |true=>exact(G v b).1 m
  |false=>have h1:=(G v b).2 m;have o:=h.j4 v b I;omega
 have O: -102400<=rd d q-x*T.aV n (timesOf E) (T.ind L) q:=by
  have h1:=(G q i).2 M;have o:=h.low;omega
 have J:∀v:Nat,v<n-> -102400<=rd d v-x*T.aV n (timesOf E) (T.ind L) v:=fun v b=>by
  by_cases e:v=q
  ·subst e;exact O
  ·have:=H v b e;omega
 have heq:∀v:Nat,v<n->rd d v-x*T.aV n (timesOf E) (T.ind L) v=D v-T.aV n (timesOf E) (fun u=>rd s (u:Nat)+x*T.ind L u) v:=fun v b=>by
  rw[T.kB,T.sO,h.eq v b];omega
 have W:T.sN (fun v=>rd d (v:Nat)-x*T.aV n (timesOf E) (T.ind L) v) n=T.sN D n:=by
  rw[T.bI heq,T.da,T.mC j.wt];omega
 have aa:=(T.n9 (f:=D) (n:=n) (B:=200) F).2;have P:∀v:Nat,v<n->rd d v-x*T.aV n (timesOf E) (T.ind L) v<=1231200:=fun v b=>by
  have h1:rd d v-x*T.aV n (timesOf E) (T.ind L) v<=T.sN (fun v=>rd d (v:Nat)-x*T.aV n (timesOf E) (T.ind L) v) n-n* -102400:=qw (f:=fun v=>rd d (v:Nat)-x*T.aV n (timesOf E) (T.ind L) v) b (a:= -102400) (by omega) J;rw[W] at h1;omega
 have hle:=T.p6 j.wt C i k.red k.eq k.q0 (d:=fun v=>rd d (v:Nat)-x*T.aV n (timesOf E) (T.ind L) v) (s:=fun u=>rd s (u:Nat)+x*T.ind L u) heq H;have p:T.ind L q=0:=by unfold T.ind;rw[M];rfl
 have X:∀v,0<=T.ind L v/\T.ind L v<=1:=fun v=>by unfold T.ind;split<;>omega
 have Q:∀v,0<=x*T.ind L v:=fun v=>Int.mul_nonneg (by omega) (X v).1
 have y:∀v:Nat,v<n->0<=rd s v+x*T.ind L v/\rd s v+x*T.ind L v<=σ v+rd s q/\rd s v+x*T.ind L v<=1260336:=fun v b=>by
  have h1:rd s (v:Nat)+x*T.ind L v<=σ v+(rd s (q:Nat)+x*T.ind L q):=hle v b;rw[p,Int.mul_zero,Int.add_zero] at h1;have o:=h.s0 v b;have R:=Q v;have h4:=k.bound j.wt C i hn K F v b;have h5:=h.sq;omega
 have S:=fun (w:Nat) (hw:w<n)=>uj j L x d s h.dl h.sl (fun w hw=>by have:=hb w hw;unfold df;omega) (fun w hw=>by have:=hb w hw;unfold df;omega) hw
 have z:∀w:Nat,w<n->rd (bu E L x n (d,s)).1 w=rd d w-x*T.aV n (timesOf E) (T.ind L) w:=fun w hw=>(S w hw).1 (by have:=J w hw;have:=P w hw;unfold df;omega)
 have e2:∀w:Nat,w<n->rd (bu E L x n (d,s)).2 w=rd s w+x*T.ind L w:=fun w hw=>(S w hw).2 (by have:=y w hw;unfold df;omega)
 obtain⟨l1,l2⟩:=mP E L x (d,s) n;refine⟨⟨l1.trans h.dl,l2.trans h.sl,fun v b=>?_,fun v b I=>by rw[z v b];exact H v b I,by rw[z q i];exact O,fun v b=>by rw[e2 v b];exact(y v b).1,by rw[e2 q i,p,Int.mul_zero,Int.add_zero];exact h.sq⟩,fun v b=>?_,?_,?_⟩
 ·rw[z v b,heq v b,T.lE (s:=fun u=>rd (bu E L x n (d,s)).2 (u:Nat)) (r:=fun u=>rd s (u:Nat)+x*T.ind L u) (fun u hu=>e2 u hu) b]
 ·rw[z v b,e2 v b]
  have:=J v b;have:=P v b;have:=y v b;omega
 ·refine T.dm fun v b=>?_
  show 0<=σ v+rd (bu E L x n (d,s)).2 q-rd (bu E L x n (d,s)).2 v
  rw[e2 v b,e2 q i,p,Int.mul_zero,Int.add_zero];have:=(y v b).2.1;omega
 ·obtain⟨v,b,hb⟩:=List.any_eq_true.1 U
  have Y:=List.mem_range.1 b;have m:L v=true:=by rw[l];exact hb
  have h1:jz n q σ (bu E L x n (d,s)).2=T.sN (fun v=>(σ v+rd s q-rd s v)-x*T.ind L v) n:=by
   refine T.bI fun v b=>?_
   show σ v+rd (bu E L x n (d,s)).2 q-rd (bu E L x n (d,s)).2 v=_
   rw[e2 v b,e2 q i,p,Int.mul_zero,Int.add_zero];omega
  rw[h1,T.da];have o:=T.gI (f:=fun v=>x*T.ind L v) Y (fun u _=>Q u);have R:T.ind L v=1:=by unfold T.ind;rw[m];rfl
  simp only[R,Int.mul_one] at o;show T.sN (fun v=>σ v+rd s q-rd s v) n-T.sN (fun v=>x*T.ind L v) n<T.sN (fun v=>σ v+rd s q-rd s v) n
  omega
def db (x:Int):Bool:=decide (-1048576<=x/\x<=1048576)
def fO (l:List Int) (n:Int):Int:=if n<1\/n>12 then 2 else if(l.length:Int)≠n then 8 else if l.all db=true then 0 else 2
theorem uo (x:Int):iH.f x=some (db x):=by
 unfold iH.f db;by_cases h1:x>= -1048576
 ·by_cases a:x<=1048576
  ·simp[h1,a]
  ·simp[h1,a]
 ·simp[h1]
theorem B9 {l:List Int} {i:Nat} (h:i<l.length):l.drop i=rd l i::l.drop (i+1):=by
 rw[List.drop_eq_getElem_cons h];simp[rd,bb,bP h]
theorem uq (l:List Int) (a:l.length<=1000000):∀(m i:Nat),i+m=l.length->Ev (fun k=>bz.l0 k l l.length i) (if(l.drop i).all db=true then 0 else 2)
 |0,i,hi=>by
  refine Ev.of_succ ?_;simp only[bz.l0,if_neg (show ¬((i:Int)<(l.length:Int)) by omega)];rw[List.drop_eq_nil_of_le (by omega)];exact Ev.const _
 |m+1,i,hi=>by
  have b:=uq l a m (i+1) (by omega);refine Ev.of_succ ?_;simp only[bz.l0,if_pos (show (i:Int)<(l.length:Int) by omega),if_pos (show (0:Int)<=(i:Int) by omega),eh (show i<=1000000 by omega),uo,Option.bind_some];rw[B9 (show i<l.length by omega),List.all_cons];cases hb:db (rd l i) with
  |true=>simp only[if_true,Bool.true_and];exact b
  |false=>simp;exact Ev.const _
theorem kJ (l:List Int) (n:Int) (b:l.length<=1000000):Ev (fun k=>bz.f k l n) (fO l n):=by
 unfold bz.f fO;have e:jw.f n=some (if n<1\/n>12 then 2 else 0):=by
  unfold jw.f;by_cases h1:n<1
  ·simp[h1]
  ·by_cases a:n>12
   ·simp[h1,a]
   ·simp[h1,a]
 rw[e];simp only[Option.bind_some];by_cases h:n<1\/n>12
 ·simp only[if_pos h];exact Ev.const _
 ·simp only[if_neg h,if_true]
  by_cases hn:(l.length:Int)=n
  ·rw[if_neg (by simpa using hn)]
   simp only[if_pos hn];have:=uq l b l.length 0 (by omega);simpa using this
  ·rw[if_pos hn]
   simp only[if_neg hn];exact Ev.const _
theorem qz {l:List Int} {n:Int}:fO l n=0↔1<=n/\n<=12/\(l.length:Int)=n/\∀v:Nat,v<l.length-> -1048576<=rd l v/\rd l v<=1048576:=by
 unfold fO;have g:l.all db=true↔∀v:Nat,v<l.length-> -1048576<=rd l v/\rd l v<=1048576:=by
  rw[List.all_eq_true];constructor
  ·intro h v a
   have:=h l[v] (List.getElem_mem a);rw[show rd l (v:Int)=l[v] by simp[rd,bb,bP a]];simpa [db] using this
  ·intro h x i
   obtain⟨v,a,rfl⟩:=List.getElem_of_mem i;have:=h v a;rw[show rd l (v:Int)=l[v] by simp[rd,bb,bP a]] at this;simpa [db] using this
 by_cases h:n<1\/n>12
 ·rw[if_pos h];constructor
  ·intro h;cases h
  ·intro b;omega
 ·rw[if_neg h]
  by_cases hn:(l.length:Int)=n
  ·rw[if_neg (by simpa using hn)]
   by_cases e:l.all db=true
   ·rw[if_pos e];exact⟨fun _=>⟨by omega,by omega,hn,g.1 e⟩,fun _=>rfl⟩
   ·rw[if_neg e];constructor
    ·intro h;cases h
    ·intro b;exact absurd (g.2 b.2.2.2) e
  ·rw[if_pos hn];constructor
   ·intro h;cases h
   ·intro b;exact absurd b.2.2.1 hn
theorem ur (A0:Option Addr) (c0 n:Nat) (l:List Int) (w:World) (m:Nat) (b:l.length=n) (h1:1<=n) (hn:n<=12) (hb:∀v:Nat,v<n-> -1048576<=rd l v/\rd l v<=1048576) (g:Kd.C (Kd.int .i64) (w.drewN m) A0 l.length l) (h:l.length<=c0):
  Calls Tryz.prog 87 #[.slice A0 n c0,.int .i64 n] (w.drewN m) fun e i=>e= .returned (.int .i64 0)/\∃a,i=w.drewN a:=by
 subst b;obtain⟨k,hk⟩:=(kJ l l.length (by omega)).get;rw[qz.2 ⟨by omega,by omega,rfl,hb⟩] at hk;refine(bz.calls k A0 c0 l l.length 0 _ g h hk).mono ?_;rintro e w' ⟨rfl,⟨a,rfl⟩⟩;exact⟨rfl,m+a,by rw[World.drewN_drewN]⟩
theorem uu {n:Nat} {t:Nat->Nat->Int} (k:T.Wt n t) {q:Nat} {d:List Int}:T.jW n t q (fun v=>rd d (v:Nat))↔fX n t q d=true:=by
 rw[ql (fun i j=>k.pos i j) q d];have key:∀(S:Nat->Bool) (v:Nat),dF t (fun u=> !S u) v n=T.sN (fun u=>if S u=false then t v u else 0) n:=fun S v=>by
  rw[mQ];refine T.bI fun u _=>?_
  cases S u<;>simp
 constructor
 ·intro h S hS b
  obtain⟨v,e,g,a⟩:=h S hS b;exact⟨v,e,g,by rw[key];exact a⟩
 ·intro h S hS b
  obtain⟨v,e,g,a⟩:=h S hS b;exact⟨v,e,g,by rw[key] at a;exact a⟩
def dw (n:Nat) (E:List S83) (d s:List Int):List Int:=(List.range n).map fun v:Nat=>rd d v-T.aV n (timesOf E) (fun u=>rd s (u:Nat)) v
theorem uw (f:Nat->Int) {n v:Nat} (a:v<n):rd ((List.range n).map f) (v:Int)=f v:=by
 rw[j5,bb,List.getElem?_map,List.getElem?_range a];rfl
theorem ux (n:Nat) (E:List S83) (d s:List Int) {v:Nat} (a:v<n):rd (dw n E d s) v=rd d v-T.aV n (timesOf E) (fun u=>rd s (u:Nat)) v:=uw _ a
theorem qA (n:Nat) (E:List S83) (d s:List Int):(dw n E d s).length=n:=by simp[dw]
theorem uy {a b:List Int} {n:Nat} (e:a.length=n) (hb:b.length=n) (h:∀v:Nat,v<n->rd a v=rd b v):a=b:=by
 refine List.ext_getElem (by rw[e,hb]) fun i h1 g=>?_
 have:=h i (by omega);rw[j5,j5,bb,bb,bP h1,bP g] at this;exact this
def j8 (n:Nat) (E:List S83) (q:Nat) (d s:List Int):Bool:=decide (s.length=n)&&decide (rd s q=0)&&((List.range n).all fun v=>decide (v=q)||decide (0<=rd (dw n E d s) v))&&fX n (timesOf E) q (dw n E d s)
def boxes (r q:Nat):Nat->List (List Int)
 |0=>[[]]
 |v+1=>(boxes r q v).flatMap fun s=>if v=q then[s++[0]] else(List.range (2*r+1)).map fun i:Nat=>s++[(i:Int)-r]
theorem uz (r q:Nat) (σ:Nat->Int) (a:σ q=0):∀n,(∀v,v<n-> -(r:Int)<=σ v/\σ v<=r)->(List.range n).map σ∈boxes r q n
 |0,_=>by simp[boxes]
 |n+1,h=>by
  unfold boxes;rw[List.mem_flatMap];refine⟨_,uz r q σ a n (fun v b=>h v (by omega)),?_⟩;rw[show (List.range (n+1)).map σ=(List.range n).map σ++[σ n] by rw[List.range_succ,List.map_append];rfl];by_cases e:n=q
  ·rw[if_pos e,e,a];exact List.mem_singleton.2 rfl
  ·rw[if_neg e,List.mem_map]
   have:=h n (by omega);exact⟨(σ n+r).toNat,List.mem_range.2 (by omega),by congr 2;omega⟩
def uA (n:Nat) (E:List S83) (q:Nat) (d:List Int) (r:Nat):Option (List Int):=(boxes r q n).find? (j8 n E q d)
def ia (n:Nat) (E:List S83) (q:Nat) (d:List Int):Nat->Option (List Int)
 |0=>none
 |k+1=>match ia n E q d k with
  |some s=>some s
  |none=>uA n E q d k
theorem B_ (n:Nat) (E:List S83) (q:Nat) (d:List Int) (k:Nat):aj (ia n E q d k) (ia n E q d (k+1)):=fun r h=>by
 unfold ia;rw[h]
theorem qB {n:Nat} {E:List S83} {q:Nat} {d s:List Int}:∀{k:Nat},ia n E q d k=some s->j8 n E q d s=true
 |0,h=>by cases h
 |k+1,h=>by
  unfold ia at h;cases h1:ia n E q d k with
  |some s'=>rw[h1] at h;injection h with h;subst h;exact qB h1
  |none=>rw[h1] at h;exact List.find?_some h
theorem Ca {n:Nat} {E:List S83} {q:Nat} {d s:List Int} {r:Nat} (a:s∈boxes r q n) (b:j8 n E q d s=true):∃s',ia n E q d (r+1)=some s':=by
 unfold ia;cases h1:ia n E q d r with
 |some s'=>exact⟨s',rfl⟩
 |none=>
  have:(uA n E q d r).isSome=true:=List.find?_isSome.2 ⟨s,a,b⟩;obtain⟨s',h⟩:=Option.isSome_iff_exists.1 this;exact⟨s',h⟩
theorem mS {n:Nat} {E:List S83} (b:bt n E) {q:Nat} {d s:List Int}:j8 n E q d s=true↔s.length=n/\eA n q (timesOf E) (fun v=>rd d (v:Nat)) (fun v=>rd (dw n E d s) (v:Nat)) (fun v=>rd s (v:Nat)):=by
 unfold j8;simp only[Bool.and_eq_true,decide_eq_true_eq,List.all_eq_true,List.mem_range,Bool.or_eq_true];constructor
 ·rintro⟨⟨⟨h1,g⟩,i⟩,j⟩
  exact⟨h1,⟨fun v a k=>(i v a).resolve_left k,(uu b.wt).2 j⟩,fun v a=>ux n E d s a,g⟩
 ·rintro⟨h1,h⟩
  exact⟨⟨⟨h1,h.q0⟩,fun v a=>by by_cases e:v=q;exact .inl e;exact .inr (h.red.1 v a e)⟩,(uu b.wt).1 h.red.2⟩
theorem Cb {n q:Nat} {t:Nat->Nat->Int} {D c σ g b:Nat->Int} (h:eA n q t D c σ) (j:q<n) (e:∀v,v<n->g v=c v) (i:∀v,v<n->b v=σ v):eA n q t D g b:=by
 refine⟨⟨fun v a k=>by rw[e v a];exact h.red.1 v a k,fun S hS l=>?_⟩,fun v a=>?_,by rw[i q j];exact h.q0⟩
 ·obtain⟨v,a,h1,m⟩:=h.red.2 S hS l
  exact⟨v,a,h1,by rw[e v a];exact m⟩
 ·rw[e v a,h.eq v a,T.lE (s:=b) (r:=σ) i a]
theorem Cc {n:Nat} {E:List S83} (b:bt n E) (hC:fw n E) {q:Nat} (g:q<n) (d:List Int):∃s,Ev (ia n E q d) s/\s.length=n/\eA n q (timesOf E) (fun v=>rd d (v:Nat)) (fun v=>rd (dw n E d s) (v:Nat)) (fun v=>rd s (v:Nat)):=by
 obtain⟨c,σ,h⟩:=B8 b.wt (b.conn hC) g (fun v=>rd d (v:Nat));obtain⟨r,j⟩:∃r:Nat,∀v,v<n-> -(r:Int)<=σ v/\σ v<=r:=by
  refine⟨(T.sN (fun v=>((σ v).natAbs:Int)) n).toNat,fun v a=>?_⟩;have h1:=T.gI (f:=fun v=>((σ v).natAbs:Int)) a (fun u _=>by show (0:Int)<=((σ u).natAbs:Int);omega);have e:((σ v).natAbs:Int)<=T.sN (fun v=>((σ v).natAbs:Int)) n:=h1;omega
 have i:∀v,v<n->rd ((List.range n).map σ) (v:Int)=σ v:=fun v a=>uw _ a
 have k:j8 n E q d ((List.range n).map σ)=true:=(mS b).2 ⟨by simp,Cb h g (fun v a=>by rw[ux n E d _ a,h.eq v a,T.lE (s:=fun u=>rd ((List.range n).map σ) (u:Nat)) (r:=σ) i a]) i⟩;obtain⟨s',h1⟩:=Ca (uz r q σ h.q0 n j) k;have e:=(mS b).1 (qB h1);exact⟨s',Ev.at_ (B_ n E q d) h1,e.1,e.2⟩
def fY (N:Int) (E:List S83) (q:Int) (d:List Int):Bool:=decide (1<=N/\N<=12/\0<=q/\q<N/\E.length<=1000/\cJ N E=0/\partsOf E N.toNat=1/\T.sN (T.val N.toNat (timesOf E)) N.toNat<=19/\(d.length:Int)=N)&&d.all fun x=>decide (-200<=x/\x<=200)
structure dP (n q:Nat) (E:List S83) (d:List Int):Prop where
 n1:1<=n
 n12:n<=12
 q:q<n
 len:E.length<=1000
 right:bt n E
 conn:fw n E
 val:T.sN (T.val n (timesOf E)) n<=19
 dl:d.length=n
 d:∀v:Nat,v<n-> -200<=rd d v/\rd d v<=200
theorem uB {d:List Int} {B:Int}:(d.all fun x=>decide (-B<=x/\x<=B))=true↔∀v:Nat,v<d.length-> -B<=rd d v/\rd d v<=B:=by
 rw[List.all_eq_true];have e:∀(v:Nat) (a:v<d.length),rd d (v:Int)=d[v]:=fun v a=>by simp[rd,bb,bP a]
 constructor
 ·intro h v a
  rw[e v a];simpa using h d[v] (List.getElem_mem a)
 ·intro h x b
  obtain⟨v,a,rfl⟩:=List.getElem_of_mem b;have:=h v a;rw[e v a] at this;simpa using this
theorem oK {N:Int} {E:List S83} {q:Int} {d:List Int} (h:fY N E q d=true):∃n a:Nat,N=n/\q=a/\dP n a E d:=by
 unfold fY at h;rw[Bool.and_eq_true,decide_eq_true_eq] at h;obtain⟨⟨h1,m,i,o,j,k,b,e,p⟩,l⟩:=h;obtain⟨n,rfl⟩:=Int.eq_ofNat_of_zero_le (show 0<=N by omega);obtain⟨a,rfl⟩:=Int.eq_ofNat_of_zero_le i;simp only[aQ] at b e;have g:=(gK k).2.2;refine⟨n,a,rfl,rfl,by omega,by omega,by omega,j,g,(kE (by omega) g).1 b,e,by omega,fun v r=>uB.1 l v (by omega)⟩
theorem dP.ok {n q:Nat} {E:List S83} {d:List Int} (h:dP n q E d) (a:cJ n E=0):fY n E q d=true:=by
 unfold fY;rw[Bool.and_eq_true,decide_eq_true_eq];have:=h.n1;have:=h.n12;have:=h.q;have:=h.dl;exact⟨⟨by omega,by omega,by omega,by omega,h.len,a,by simpa using (kE (by omega) h.right).2 h.conn,by simpa using h.val,by omega⟩,uB.2 fun v b=>h.d v (by omega)⟩
theorem Cd {n:Nat} {t:Nat->Nat->Int} (i:T.Wt n t) (hn:0<n) {D:Nat->Int} (hw:T.b9 n t D) {L:Int} (h1:∀v,v<n->∀k,T.bM n t (fun u=>D u-T.one v u) k->L<=k+1) (g:L=T.sN D n\/∃v,v<n/\∃k,T.bM n t (fun u=>D u-T.one v u) k/\L=k+1):T.bM n t D L:=by
 obtain⟨r,h⟩:=T.gJ i hn D;obtain⟨a,v,m,b⟩:=T.Ai i hn hw h;obtain⟨j,l⟩:=T.gJ i hn (fun u=>D u-T.one v u);have p:=b j l;have e2:=h1 v m j l;have o:0<=r:=by
  have:=h.1;by_cases e:r= -1
  ·exact absurd hw ((T.bM.jY hn h).1 e)
  ·omega
 have q:r<=L:=by
  rcases g with g|⟨u,hu,k,hk,g⟩
  ·rw[g];exact h.mF i hn o
  ·rw[g];exact a u hu k hk
 have:r=L:=by omega
 rw[<-this];exact h
theorem uC {n:Nat} {t:Nat->Nat->Int} (b:T.Wt n t) (hn:0<n) {D:Nat->Int} (hw:¬T.b9 n t D):T.bM n t D (-1):=by
 obtain⟨r,a⟩:=T.gJ b hn D;have:=(T.bM.jY hn a).2 hw;rw[<-this];exact a
theorem Ce {n:Nat} {t:Nat->Nat->Int} (a:T.Wt n t) (e:T.dn n t) (hn:0<n) {g:Int} (hg:T.IsGenus n t g) {D:Nat->Int} (hd:2*g-2<T.sN D n):T.bM n t D (T.sN D n-g):=by
 obtain⟨r,b⟩:=T.gJ a hn D;have:=T.Ak a e hn hg hd b;rw[<-this];exact b
def Rk (n:Nat) (t:Nat->Nat->Int) (d:List Int) (r:Int):Prop:=T.bM n t (fun v=>rd d (v:Nat)) r
theorem mT {n:Nat} {t:Nat->Nat->Int} {D D':Nat->Int} (h:∀v,v<n->D' v=D v) {r:Int} (a:T.bM n t D r):T.bM n t D' r:=a.fs (T.bQ.of_eq h)
theorem Cf {c:List Int} {n v:Nat} (a:c.length=n) (b:v<n):∀u,u<n->rd (c.set v (rd c v-1)) (u:Nat)=rd c u-T.one v u:=fun u hu=>by
 unfold T.one;by_cases e:u=v
 ·subst e;rw[jx _ _ _ (by omega),if_pos rfl]
 ·rw[iJ _ _ _ _ (fun k=>e k.symm),if_neg e];omega
theorem Cg {c:List Int} {v:Nat} (a:v<c.length) (x:Int):(c.set v x).set v (rd c v)=c:=by
 rw[List.set_set];refine List.ext_getElem (by simp) fun i h1 b=>?_
 rw[List.getElem_set];split
 ·rename_i e;subst e;simp[rd,bb,bP a]
 ·rfl
def jb (c:List Int):List Int:=c++List.replicate (12-c.length) 0
theorem Ch {c:List Int} (h:c.length<=12):(jb c).length=12:=by simp[jb];omega
def jA (n:Nat) (t:Nat->Nat->Int) (g:Int) (l:List Int) (x:Int):Prop:=∃c:List Int,c.length=n/\l=jb c/\Rk n t c x/\(∀v:Nat,v<n->0<=rd c v)/\(∀v:Nat,v<n->v≠0->rd c v<T.val n t v)/\T.sN (fun v=>rd c (v:Nat)) n<=2*g-2
theorem Ci {n:Nat} {a b:List Int} (e:a.length=n) (hb:b.length=n) (h:jb a=jb b):a=b:=by
 unfold jb at h;rw[e,hb] at h;exact List.append_cancel_right h
theorem qC {α:Type} [DecidableEq α]:∀{a L:List α},a.Pairwise (· ≠ ·)->(∀x∈a,x∈L)->a.length<=L.length
 |[],_,_,_=>Nat.zero_le _
 |x::a,L,h,hm=>by
  rw[List.pairwise_cons] at h;have b:=hm x (List.mem_cons_self ..);have h1:=qC (L:=L.erase x) h.2 (fun y g=>(List.mem_erase_of_ne (fun e=>h.1 y g e.symm)).2 (hm y (List.mem_cons_of_mem _ g)));have i:=List.length_erase_of_mem b;have j:=List.length_pos_of_mem b;rw[List.length_cons];omega
def kK (B:Nat->Nat):Nat->List (List Int)
 |0=>[[]]
 |n+1=>(kK B n).flatMap fun c=>(List.range (B n)).map fun x:Nat=>c++[(x:Int)]
def ic (B:Nat->Nat):Nat->Nat
 |0=>1
 |n+1=>ic B n*B n
theorem uD {α β:Type} {f:α->List β} {m:Nat}:∀{l:List α},(∀x∈l,(f x).length=m)->(l.flatMap f).length=l.length*m
 |[],_=>by simp
 |x::l,h=>by
  rw[List.flatMap_cons,List.length_append,h x (List.mem_cons_self ..),uD (fun y a=>h y (List.mem_cons_of_mem _ a)),List.length_cons,Nat.succ_mul,Nat.add_comm]
theorem uE (B:Nat->Nat):∀n,(kK B n).length=ic B n
 |0=>rfl
 |n+1=>by
  rw[kK,uD (m:=B n) (fun c _=>by simp),uE B n];rfl
theorem uF (B:Nat->Nat) (f:Nat->Int):∀n,(∀v,v<n->0<=f v/\f v<B v)->(List.range n).map f∈kK B n
 |0,_=>by simp[kK]
 |n+1,h=>by
  rw[kK,List.mem_flatMap];refine⟨(List.range n).map f,uF B f n (fun v a=>h v (by omega)),List.mem_map.2 ⟨(f n).toNat,List.mem_range.2 ?_,?_⟩⟩
  ·have:=h n (by omega)
   omega
  ·have:=h n (by omega)
   rw[List.range_succ,List.map_append,Int.toNat_of_nonneg this.1];rfl
theorem Cj:∀x:Nat,x<19->x ^ 3<=3 ^ x:=by decide
def fZ (n:Nat) (t:Nat->Nat->Int) (v:Nat):Nat:=if v=0 then 17 else(T.val n t v).toNat
theorem Ck {n:Nat} {t:Nat->Nat->Int} (b:∀v,v<n->0<=T.val n t v) (o:T.sN (T.val n t) n<=18):∀m,m<=n->0<=T.sN (fun v=>if v=0 then 0 else T.val n t v) m/\T.sN (fun v=>if v=0 then 0 else T.val n t v) m<=18/\ic (fZ n t) m ^ 3<=17 ^ 3*3 ^ (T.sN (fun v=>if v=0 then 0 else T.val n t v) m).toNat/\(m=0->ic (fZ n t) m ^ 3<=1):=by
 have hle:∀m,m<=n->T.sN (fun v=>if v=0 then 0 else T.val n t v) m<=T.sN (T.val n t) m/\T.sN (T.val n t) m<=18:=by
  intro m hm;refine⟨T.cT fun v p=>by have:=b v (by omega);show (if v=0 then 0 else T.val n t v)<=_;split<;>omega,?_⟩;have key:∀k,m+k<=n->T.sN (T.val n t) m<=T.sN (T.val n t) (m+k):=by
   intro k;induction k with
   |zero=>intro _;exact Int.le_refl _
   |succ k g=>
    intro hk;have:=g (by omega);show _<=T.sN (T.val n t) (m+k)+T.val n t (m+k)
    have:=b (m+k) (by omega);omega
  have:=key (n-m) (by omega);rw[show m+(n-m)=n by omega] at this;omega
 intro m;induction m with
 |zero=>intro _;exact⟨by simp[T.sN],by simp[T.sN],by simp[T.sN,ic],fun _=>by simp[ic]⟩
 |succ m g=>
  intro hm;obtain⟨i1,i2,i3,i4⟩:=g (by omega);have j:=(hle (m+1) hm);have hb:=b m (by omega);have e:T.sN (fun v=>if v=0 then 0 else T.val n t v) (m+1)=T.sN (fun v=>if v=0 then 0 else T.val n t v) m+(if m=0 then 0 else T.val n t m):=rfl;refine⟨by rw[e];split<;>omega,by omega,?_,fun h=>by omega⟩;show (ic (fZ n t) m*fZ n t m) ^ 3<=_
  rw[Nat.mul_pow];by_cases a:m=0
  ·have h1:=i4 a
   have i:fZ n t m=17:=if_pos a;rw[i];have l:1<=3 ^ (T.sN (fun v=>if v=0 then 0 else T.val n t v) (m+1)).toNat:=Nat.pow_pos (by decide);calc ic (fZ n t) m ^ 3*17 ^ 3<=1*17 ^ 3:=Nat.mul_le_mul_right _ h1
    _=17 ^ 3*1:=by simp
    _<=_:=Nat.mul_le_mul_left _ l
  ·have i:fZ n t m=(T.val n t m).toNat:=if_neg a
   rw[e,if_neg a] at j;rw[e,if_neg a,i,Int.toNat_add i1 hb,Nat.pow_add,<-Nat.mul_assoc];exact Nat.mul_le_mul i3 (Cj _ (by omega))
theorem Cl {n:Nat} {t:Nat->Nat->Int} (a:∀v,v<n->0<=T.val n t v) (b:T.sN (T.val n t) n<=18):ic (fZ n t) n<16384:=by
 obtain⟨h1,l,e, -⟩:=Ck a b n (aI n);have g:3 ^ (T.sN (fun v=>if v=0 then 0 else T.val n t v) n).toNat<=3 ^ 18:=Nat.pow_le_pow_right (by decide) (by omega);have i:ic (fZ n t) n ^ 3<=17 ^ 3*3 ^ 18:=Nat.le_trans e (Nat.mul_le_mul_left _ g);rcases Nat.lt_or_ge (ic (fZ n t) n) 16384 with h|h
 ·exact h
 ·have j:16384 ^ 3<=ic (fZ n t) n ^ 3:=Nat.pow_le_pow_left h 3
  have k:=Nat.le_trans j i;exact absurd k (by decide)
theorem Cm {c:List Int}:(List.range c.length).map (fun v:Nat=>rd c (v:Int))=c:=by
 refine List.ext_getElem (by simp) fun i h1 a=>?_
 simp[rd,bb,bP a]
theorem Cn {n:Nat} {t:Nat->Nat->Int} (k:T.Wt n t) (hn:0<n) {g:Int} (hg:T.IsGenus n t g) (z:T.sN (T.val n t) n<=19) (b:List (List Int)) (hk:b.Pairwise (· ≠ ·)) (o:∀l∈b,∃x,jA n t g l x):b.length<16384:=by
 have p:∀v,v<n->0<=T.val n t v:=fun v _=>T.dm fun u _=>k.pos v u
 have h1:T.sN (T.can n t) n=T.sN (T.val n t) n-2*n:=by
  have key:∀m:Nat,T.sN (T.can n t) m=T.sN (T.val n t) m-2*m:=by
   intro m;induction m with
   |zero=>simp[T.sN]
   |succ m q=>
    show T.sN (T.can n t) m+T.can n t m=T.sN (T.val n t) m+T.val n t m-_
    rw[q];unfold T.can;omega
  exact key n
 have B:T.sN (T.can n t) n=2*g-2:=hg;have r:T.sN (T.val n t) n<=18:=by omega
 have hle:=qC (L:=(kK (fZ n t) n).map jb) hk (fun l s=>by
  obtain⟨x,c,i,rfl, -,h,w,C⟩:=o l s;refine List.mem_map.2 ⟨c,?_,rfl⟩;have:=uF (fZ n t) (fun v=>rd c (v:Nat)) n (fun v a=>⟨h v a,by
   unfold fZ;split
   ·rename_i e
    subst e;have j:=T.gI (f:=fun v=>rd c (v:Nat)) a h;have y:rd c ((0:Nat):Int)<=T.sN (fun v=>rd c (v:Nat)) n:=j;show rd c ((0:Nat):Int)<_
    omega
   ·rename_i e
    have j:=w v a e;have y:=h v a;show rd c (v:Int)<_
    omega⟩)
  rw[<-i,Cm,i] at this;exact this)
 rw[List.length_map,uE] at hle;exact Nat.lt_of_le_of_lt hle (Cl p r)
section
theorem uG {w w1:World} {g j:Nat} {v:Value} (h:Below w.heap.size w w1):w.grownBy (w1.setCell ⟨g,j,none⟩ v) (some g):=
 ⟨h.os,h.tape,h.output,by simpa using h.size,fun k hk a=>(Below.heap_setCell w1 _ v k (fun e=>a (by rw[e]))).trans (h.block k hk)⟩
structure Co (cs:Array Value) (d:Value) (q:Int) (rows val:Value) (waits:Nat->Bool):Prop where
 size:cs.size=18
 d:cs[0]? =some d
 q:cs[1]? =some (.int .i64 q)
 rows:cs[2]? =some rows
 val:cs[3]? =some val
 waits:∀i,i<12->cs[6+i]? =some (.bool (waits i))
def cI (w:World) (g:Nat) (d:Value) (q:Int) (rows val:Value) (waits:Nat->Bool):Prop:=
 ∃cs:Array Value,w.heap[g]? =some (.cells cs 236 (0,0))/\Co cs d q rows val waits
namespace cI
variable {w w':World} {g:Nat} {d:Value} {q:Int} {rows val:Value} {waits:Nat->Bool}
theorem uH (h:cI w g d q rows val waits):w.cell? ⟨g,0,none⟩=some d:=by obtain⟨cs,hb,a⟩:=h;exact(ai hb 0).trans a.d
theorem Cp (h:cI w g d q rows val waits):w.cell? ⟨g,1,none⟩=some (.int .i64 q):=by obtain⟨cs,hb,a⟩:=h;exact(ai hb 1).trans a.q
theorem lT (h:cI w g d q rows val waits):w.cell? ⟨g,2,none⟩=some rows:=by obtain⟨cs,hb,a⟩:=h;exact(ai hb 2).trans a.rows
theorem oL (h:cI w g d q rows val waits):w.cell? ⟨g,3,none⟩=some val:=by obtain⟨cs,hb,a⟩:=h;exact(ai hb 3).trans a.val
theorem Cq (h:cI w g d q rows val waits) (i:Nat) (hi:i<12):w.cell? ⟨g,6+i,none⟩=some (.bool (waits i)):=by obtain⟨cs,hb,a⟩:=h;exact(ai hb _).trans (a.waits i hi)
theorem frozen (h:cI w g d q rows val waits) (k:Nat):w.frozen? ⟨g,k,none⟩=false:=by obtain⟨cs,hb,_⟩:=h;exact bD hb k
theorem below (h:cI w g d q rows val waits) (hb:Below w.heap.size w w'):cI w' g d q rows val waits:=by obtain⟨cs,a,b⟩:=h;exact⟨cs,aJ a hb,b⟩
theorem drew (h:cI w g d q rows val waits):cI w.drew g d q rows val waits:=h
theorem grown {row:Option Nat} (h:cI w g d q rows val waits) (hg:w.grownBy w' row) (a:some g≠row):cI w' g d q rows val waits:=by obtain⟨cs,b,e⟩:=h;exact⟨cs,cS b hg a,e⟩
theorem Cr (h:cI w g d q rows val waits) (i:Nat) (hi:i<12) (b:Bool):cI (w.setCell ⟨g,6+i,none⟩ (.bool b)) g d q rows val (fun j=>if j=i then b else waits j):=by
 obtain⟨cs,l,a⟩:=h;refine⟨cs.setIfInBounds (6+i) (.bool b),by simpa using bR l (6+i) (.bool b),by simp[a.size],?_,?_,?_,?_,?_⟩
 ·rw[Array.getElem?_setIfInBounds_ne (by omega)];exact a.d
 ·rw[Array.getElem?_setIfInBounds_ne (by omega)];exact a.q
 ·rw[Array.getElem?_setIfInBounds_ne (by omega)];exact a.rows
 ·rw[Array.getElem?_setIfInBounds_ne (by omega)];exact a.val
 ·intro k hk
  have m:=a.size;by_cases e:k=i
  ·subst e
   rw[Array.getElem?_setIfInBounds_self_of_lt (by omega)];simp
  ·rw[Array.getElem?_setIfInBounds_ne (by omega),a.waits k hk];simp[e]
theorem Cs (h:cI w g d q rows val waits) (u:Value):cI (w.setCell ⟨g,2,none⟩ u) g d q u val waits:=by
 obtain⟨cs,b,a⟩:=h;have e:=a.size;refine⟨cs.setIfInBounds 2 u,by simpa using bR b 2 u,by simp[a.size],?_,?_,?_,?_,?_⟩
 ·rw[Array.getElem?_setIfInBounds_ne (by omega)];exact a.d
 ·rw[Array.getElem?_setIfInBounds_ne (by omega)];exact a.q
 ·rw[Array.getElem?_setIfInBounds_self_of_lt (by omega)]
 ·rw[Array.getElem?_setIfInBounds_ne (by omega)];exact a.val
 ·intro k hk
  rw[Array.getElem?_setIfInBounds_ne (by omega)];exact a.waits k hk
theorem eX (h:cI w g d q rows val waits) {α:Type} {k:Kd α} {e base:Nat} {ok:Nat->Prop} {v:Value} {xs:List α} (a:k.R e w base ok v xs) (b:∀q,q∈e::k.E->q≠236) (j:Nat) (u:Value):k.R e (w.setCell ⟨g,j,none⟩ u) base ok v xs:=by
 obtain⟨cs,hb,_⟩:=h;exact Kd.eX a hb b j u
theorem pq (h:cI w g d q rows val waits) {α:Type} {k:Kd α} {e base:Nat} {ok:Nat->Prop} {v:Value} {xs:List α} (a:Kd.S k e w base ok v xs) (b:∀q,q∈e::k.E->q≠236) (j:Nat) (u:Value):Kd.S k e (w.setCell ⟨g,j,none⟩ u) base ok v xs:=by
 obtain⟨cs,hb,_⟩:=h;exact Kd.pq a hb b j u
theorem qD (h:cI w g d q rows val waits) {v:Value} {e:Nat} (b:∀k,v.ownBlock=some k->∃cells,w.heap[k]? =some (.cells cells e (0,0))) (i:e≠236):some g≠v.ownBlock:=fun he=>by
 obtain⟨cs,hb,_⟩:=h;obtain⟨cells,a⟩:=b g he.symm;rw[hb] at a;injection a with a
 injection a with _ a _
 exact i a.symm
end cI
def iM (q:Int) (vl dl:List Int) (v:Nat):Bool:=decide ((v:Int)≠q)&&decide (rd vl v<=rd dl v)
theorem Ct (g v:Nat) (q:Int) (b h:Option Addr) (cd k:Nat) (dl vl:List Int) (rows:Value) (waits:Nat->Bool) (w:World) (o:v<dl.length) (p:v<vl.length)
  (hw:cI w g (.slice b dl.length cd) q rows (.slice h vl.length k) waits) (hd:Kd.C (Kd.int .i64) w b dl.length dl) (i:Kd.C (Kd.int .i64) w h vl.length vl):
  Calls Tryz.prog 223 #[.pointer (some ⟨g,0,none⟩),.int .i64 v] w fun e w'=>e= .returned (.bool (iM q vl dl v))/\aA w w':=by
 have r:=hw.uH;have s:=hw.Cp;have u:=hw.oL;have x:=hd.2.1;have y:=i.2.1;unfold iM;by_cases a:(v:Int)=q
 ·rw[a6 (by simpa using a),Bool.false_and]
  subst a;go_enter Tryz.func223,Tryz.ntmps223
  go_wp2_with fail
  go_quiet (fail)
  go_wp2;go_ret;exact⟨rfl,by repeat(first|exact aA.refl _|apply aA.step)⟩
 ·rw[ay (by simpa using a),Bool.true_and]
  obtain⟨ad,rfl,l⟩:=Kd.bT hd v (by omega) (by omega);obtain⟨z,rfl,m⟩:=Kd.bT i v (by omega) (by omega);rw[aQ] at l m;have B:(0:Int)<=(v:Int):=by omega
  have D:(v:Int)<(dl.length:Int):=by omega
  have E:(v:Int)<(vl.length:Int):=by omega
  have j:((v:Int) != q)=true:=by simpa using a
  have n:=Lib.hid j;clear j;go_enter Tryz.func223,Tryz.ntmps223
  go_wp2_with fail
  go_quiet (fail)
  go_wp2;go_ret;refine⟨?_,by repeat(first|exact aA.refl _|apply aA.step)⟩;show Ending.returned (.bool ((v:Int) != q&&decide (rd vl v<=rd dl v)))=_
  rw[n.out,Bool.true_and]
theorem Cu (g v:Nat) (q:Int) (a h:Option Addr) (cd k:Nat) (dl vl:List Int) (rows:Value) (waits:Nat->Bool) (w:World) (n:v<12) (r:v<dl.length) (s:v<vl.length)
  (hw:cI w g (.slice a dl.length cd) q rows (.slice h vl.length k) waits) (hd:Kd.C (Kd.int .i64) w a dl.length dl) (o:Kd.C (Kd.int .i64) w h vl.length vl):
  Calls Tryz.prog 218 #[.pointer (some ⟨g,0,none⟩),.int .i64 v] w fun e w'=>e= .returned (.tuple #[])/\cI w' g (.slice a dl.length cd) q rows (.slice h vl.length k) (fun j=>if j=v then iM q vl dl v else waits j)/\w.grownBy w' (some g):=by
 have E:(0:Int)<=(v:Int):=by omega
 have F:(v:Int)<12:=by omega
 have p:=zA (fun W h1 u x=>Ct g v q a h cd k dl vl rows waits W r s h1 u x);have l:=zA hw;have y:=zA hd;have z:=zA o;clear hw hd o;generalize iM q vl dl v=b at p⊢;go_enter Tryz.func218,Tryz.ntmps218
 go_wp2_with fail
 go_region_with ((go_at_call 223;refine(p.out _ l.out.drew (Kd.fk y.out) (Kd.fk z.out)).mono ?_;rintro e w1 ⟨rfl,i⟩;have G:w1.cell? ⟨g,6+v,none⟩=some (.bool (waits v)):=(by obtain⟨m,rfl⟩:=i.out;exact l.out.Cq v n);have H:w1.frozen? ⟨g,6+v,none⟩=false:=(by obtain⟨m,rfl⟩:=i.out;exact l.out.frozen _);have B:=zA (show cI (w1.setCell ⟨g,6+v,none⟩ (.bool b)) g (.slice a dl.length cd) q rows (.slice h vl.length k) (fun j=>if j=v then b else waits j) from by obtain⟨m,rfl⟩:=i.out;exact cI.Cr (w:=w.drew.drewN m) l.out v n b);have D:=zA (show w.grownBy (w1.setCell ⟨g,6+v,none⟩ (.bool b)) (some g) from by exact uG ((gW (al w.heap.size w)).trans i.below));clear i))
 all_goals go_wp2
 all_goals go_end0
 all_goals exact⟨rfl,B.out,D.out⟩
end
end Go.Proofs.YtffdiakgjakngaaGreat.P
namespace Go.Proofs.YtffdiakgjakngaaGreat.P
open Go Go.RowKit
set_option linter.unusedVariables false
set_option linter.unusedSimpArgs false
set_option maxHeartbeats 8000000
set_option maxRecDepth 100000
section
variable {F:Fence} {n:Nat} {P:Program}
theorem uI {σ α:Type} {g:Operand} {ps:Array Tmp} {assign body:Code} {Q:Exit->Act->World->Prop} {a:Act} {w:World}
  (aS:F.round=none) (h1:1<=n) {gf:Nat} {lb:Array Value} (hg:a.eval g= .func (.func gf) #[] lb) (a0:F.fn gf) (eg:∀args w,(callFunc gf args).run P w= .ok (.enter gf args) w)
  {bS:α->Array Value} {Start:σ->World->World->Prop} {M:σ->World->World->Prop} {T:σ->α->World->World->Prop} {z:σ->World->World->Prop} {S Sp:σ->List α->World->Prop} {Bd:List α->Prop}
  (a2:∀o,i_ F (n-1) P gf lb bS Start M T z S Sp Bd ((w.alloc (.deferred (some []))).alloc (.loop o))) (a4:∀x,(bS x).size=ps.size)
  (m:σ->Prop) (a5:∀o s W1,Start s ((w.alloc (.deferred (some []))).alloc (.loop o)) W1->m s/\cp w.heap.size ((w.alloc (.deferred (some []))).alloc (.loop o)) W1)
  (N:∀s A B,m s->M s A B->cp w.heap.size A B) (a9:∀s x A B,m s->T s x A B->cp w.heap.size A B)
  (I:σ->List α->World->Prop) (u:Code->σ->List α->World->Prop)
  (be:∀s pre A B,m s->I s pre A->M s A B->I s pre B) (bf:∀c s pre A B,m s->u c s pre A->M s A B->u c s pre B)
  (bg:∀s pre A B,I s pre A->Bk (w.heap.size+1) A B->I s pre B) (bi:∀c s pre A B,u c s pre A->Bk (w.heap.size+1) A B->u c s pre B)
  (bk:∀s A B C D,Bk (w.heap.size+1) A B->z s B C->Bk (w.heap.size+1) C D->z s A D)
  (h0:∀o s W1,Start s ((w.alloc (.deferred (some []))).alloc (.loop o)) W1->I s [] W1) (a₁:α->World->Act) (J:α->World->World)
  (bo:∀x W,cp w.heap.size W (J x W)) (bv:∀s x A D,z s (J x A) D->z s A D)
  (bw:∀(l:Nat) (x:α) (W:World) (K:Act->World->Prop),K (a₁ x W) (J x W)->
   assign.wpIn (F.inRound l) (n-1-1) P (Exit.then K (fun _ _ _=>False)) {tmps:=(ps.zip (bS x)).foldl (fun t (p,v)=>t.setIfInBounds p v) a.tmps,defers:=[]} W)
  (bx:∀(l:Nat) (s:σ) (pre:List α) (x:α) (L W1 W:World),m s->I s pre L->T s x L W1->Bd pre->Bk (w.heap.size+1) (J x W1) W->body.wpIn (F.inRound l) (n-1-1) P (qa (σ:=σ) w.heap.size (z s) (I s) (fun c=>u c s) (pre++[x]) W) (a₁ x W1) W)
  (b0:∀(s:σ) (xs:List α) (W W':World),m s->S s xs W->I s xs W->Bk (w.heap.size+1) W W'->W'.heap[w.heap.size]? =some (.deferred (some []))->Q .normal {a with defers:={target:=.collected w.heap.size,args:=#[]}::a.defers} W')
  (b1:∀(c:Code) (s:σ) (pre:List α) (W W':World),m s->Sp s pre W->u c s pre W->Bk (w.heap.size+1) W W'->W'.heap[w.heap.size]? =some (.deferred (some []))->c.wpIn F n P Q {a with defers:={target:=.collected w.heap.size,args:=#[]}::a.defers} W'):
  (Code.rangeFunc g ps assign body).wpIn F n P Q a w:=by
 refine wpIn_rangeFunc ?_;intro fn b2;rw[aS];obtain⟨rec,q⟩:∃rec:LoopState->Option Code->Loop,rec=fun st pe=>{state:=st,pending:=pe,fn,tmps:=a.tmps,params:=ps,assign,body,defers:=w.heap.size}:=⟨_,rfl⟩
 obtain⟨W1,E⟩:∃W1,(w.alloc (.deferred (some []))).alloc (.loop (rec .ready none))=W1:=⟨_,rfl⟩;have b4:W1.heap[w.heap.size+1]? =some (.loop (rec .ready none)):=by
  rw[<-E];have:=World.alloc_heap_new (w.alloc (.deferred (some []))) (.loop (rec .ready none));rwa [World.size_alloc] at this
 have b5:W1.heap[w.heap.size]? =some (.deferred (some [])):=by
  rw[<-E];exact(Below.heap_alloc _ _ _ (by simp)).trans (World.alloc_heap_new w _)
 refine⟨w.heap.size+1,[{target:=.collected w.heap.size,args:=#[]}],W1,{target:=.fn (.func gf) lb,args:=#[.func (.yield (w.heap.size+1)) #[] #[]]},W1,gf,
  #[.func (.yield (w.heap.size+1)) #[] #[]]++lb,W1,?_,?_,?_,?_,fun _=>h1,?_⟩
 ·rw[<-E,q];exact run_enterLoop_outer _ _ _ _ _
 ·simp only[resolve,hg]
  simp[go_sem]
 ·intro f' aB;simp[Target.leads] at aB;subst aB;exact a0
 ·simp[invoke,go_sem,eg]
 ·have hs:=a2 (rec .ready none)
  rw[E] at hs;have ld:∀{A B:World} {r:Loop},cp w.heap.size A B->A.heap[w.heap.size+1]? =some (.loop r)->B.heap[w.heap.size+1]? =some (.loop r):=fun h U=>h _ _ (by omega) (by omega) U rfl
  have G:∀{A B:World},cp w.heap.size A B->A.heap[w.heap.size]? =some (.deferred (some []))->B.heap[w.heap.size]? =some (.deferred (some [])):=fun h U=>h _ _ (by omega) (by omega) U rfl
  refine(hs (w.heap.size+1)
   (fun s pre W=>m s/\I s pre W/\W.heap[w.heap.size+1]? =some (.loop (rec .ready none))/\W.heap[w.heap.size]? =some (.deferred (some [])))
   (fun s pre W=>m s/\∃c,u c s pre W/\W.heap[w.heap.size+1]? =some (.loop (rec .done (some c)))/\W.heap[w.heap.size]? =some (.deferred (some [])))
   (fun s pre A B h j=>⟨h.1,be s pre A B h.1 h.2.1 j,ld (N s A B h.1 j) h.2.2.1,G (N s A B h.1 j) h.2.2.2⟩)
   (fun s pre A B h j=>by
    obtain⟨i,c,hc,b,hk⟩:=h;exact⟨i,c,bf c s pre A B i hc j,ld (N s A B i j) b,G (N s A B i j) hk⟩)
   (fun s W2 j=>by
    rw[<-E] at j;have hk:=a5 (rec .ready none) s W2 j;have y:=hk.2;rw[E] at y;exact⟨hk.1,h0 _ s W2 j,ld y b4,G y b5⟩)
   ?_).mono ?_
  ·rintro s pre x L W ⟨i,hi,aL,aO⟩ V b_
   have y:=a9 s x L W i V;have b:=ld y aL;have hk:=G y aO;have X:=run_yield (P:=P) (args:=bS x) b (by rw[q];exact a4 x);rw[q] at X;obtain⟨Y,b'⟩:∃Y,Y=W:=⟨_,rfl⟩;have O:=bo x W;have b:=ld O b;have hk:=G O hk;have Z:=fun D=>bv s x W D
   have aa:=bx (w.heap.size+1) s pre x L W;have ab:=bw (w.heap.size+1) x W;clear y aL aO;rw[<-b'] at X ab Z aa b hk O V⊢;generalize ci:J x Y=W at b hk O Z aa ab;have ca:w.heap.size+1<W.heap.size:=(Array.getElem?_eq_some_iff.1 b).1;have aP:Bk (w.heap.size+1) W (W.putObj (w.heap.size+1) (.loop {rec .ready none with state:=.busy})):=⟨_,_,b,rfl,rfl⟩;refine⟨fn,_,assign,body,X,roundIn_of_wpIn b2 (ab _ ⟨_,run_beginRound b (by rw[q]),?_⟩)⟩;have cb:(W.putObj (w.heap.size+1) (.loop {rec .ready none with state:=.busy})).heap[w.heap.size+1]? =some (.loop {rec .ready none with state:=.busy}):=World.putObj_heap_same ca;have cc:(W.putObj (w.heap.size+1) (.loop {rec .ready none with state:=.busy})).heap[w.heap.size]? =some (.deferred (some [])):=(World.putObj_heap_other (by omega)).trans hk;refine wpIn_mono (aa _ i hi V b_ aP) ?_;have fin:∀(jump:Option Code) (k:World),cp w.heap.size (W.putObj (w.heap.size+1) (.loop {rec .ready none with state:=.busy})) k->
     (Instr.endRound (w.heap.size+1) jump).run P k= .ok (.bool jump.isNone) (k.putObj (w.heap.size+1) (.loop (rec (if jump.isNone then .ready else .done) jump)))/\
     Bk (w.heap.size+1) k (k.putObj (w.heap.size+1) (.loop (rec (if jump.isNone then .ready else .done) jump)))/\
     (k.putObj (w.heap.size+1) (.loop (rec (if jump.isNone then .ready else .done) jump))).heap[w.heap.size+1]? =some (.loop (rec (if jump.isNone then .ready else .done) jump))/\
     (k.putObj (w.heap.size+1) (.loop (rec (if jump.isNone then .ready else .done) jump))).heap[w.heap.size]? =some (.deferred (some [])):=fun jump k H=>by
    have ad:=ld H cb;have:=run_endRound (P:=P) jump ad;rw[q] at this⊢;exact⟨this,⟨_,_,ad,rfl,rfl⟩,World.putObj_heap_same (Array.getElem?_eq_some_iff.1 ad).1,(World.putObj_heap_other (by omega)).trans (G H cc)⟩
   rintro e a3 k hp;cases e with
   |normal=>
    obtain⟨H,cd,ag⟩:=hp;obtain⟨hr,R,am,an⟩:=fin none k H;exact⟨_,_,hr,.inl ⟨rfl,⟨i,bg s _ _ _ ag R,am,an⟩,Z _ (bk s _ _ _ _ aP cd R)⟩⟩
   |ret=>
    obtain⟨H,ag⟩:=hp;obtain⟨hr,R,am,an⟩:=fin (some .ret) k H;exact⟨_,_,hr,.inr ⟨rfl,i,.ret,bi _ s _ _ _ ag R,am,an⟩⟩
   |exit id=>exact hp.elim
   |goto t=>exact hp.elim
   |panic ch=>exact hp.elim
   |outgrown=>exact hp.elim
  ·rintro e W2 ⟨⟨v,rfl⟩,(⟨s,xs,hS,i,hi,b,hk⟩|⟨s,pre,ce,i,c,hi,b,hk⟩)⟩
   ·exact⟨none,_,by have:=run_endLoop (P:=P) b (by rw[q];simp);rw[q] at this;exact this,b0 s xs W2 _ i hS hi ⟨_,_,b,rfl,rfl⟩ ((World.putObj_heap_other (by omega)).trans hk)⟩
   ·exact⟨some c,_,by have:=run_endLoop (P:=P) b (by rw[q];simp);rw[q] at this;exact this,b1 c s pre W2 _ i ce hi ⟨_,_,b,rfl,rfl⟩ ((World.putObj_heap_other (by omega)).trans hk)⟩
end
end Go.Proofs.YtffdiakgjakngaaGreat.P
namespace Go.Proofs.YtffdiakgjakngaaGreat.P
open Go.RowKit Go.Proofs.YtffdiakgjakngaaGreatW.PrintWords Go.Proofs.YtffdiakgjakngaaGreatW.PrintLast Go.Proofs.YtffdiakgjakngaaGreatW.PrintMore
set_option linter.unusedVariables false
set_option linter.unusedSimpArgs false
set_option maxHeartbeats 8000000
set_option maxRecDepth 100000
section
attribute [local go_sem] Oper.semAt_some
def fG (xs:List (Nat×Int×Int)):List (List Value):=xs.map fun x=>[.int .i64 x.2.1,.int .i64 x.2.2]
theorem Cv (k:Nat) (N:Int) (A0:Option Addr) (c0:Nat) (E:List S83) (w:World) (U:Kd.C aN w A0 E.length E) (an:E.length<=c0) (m:bd.f k N E=some 0) (V:eQ E=true):
  Calls Tryz.prog 178 #[.agg #[.int .i64 N,.slice A0 E.length c0]] w fun e w'=>∃v,e= .returned (.tuple #[v,.int .i64 0])/\(Kd.raw 2).R 205 w' w.heap.size (fun _=>True) v (fG (cg E E.length))/\Below w.heap.size w w':=by
 have hu:=Tryz.underlying24;have Ht:=zA m;have HE:=zA V;clear m V;refine(callsIn_wide (n:=10)).1 ?_;refine callsIn_of_wp_marks Tryz.func178 rfl trivial ?_ rfl;simp only[Tryz.ntmps178,List.size_toArray,List.length_cons,List.length_nil,Nat.reduceAdd,Nat.reduceSub,Array.replicate_succ,Array.replicate_zero,List.push_toArray,List.append_toArray,List.nil_append,List.cons_append];gi_wp2_with (first|(refine⟨trivial,?_⟩;gi_at_call 64;refine(callsIn_wide.2 (bd.calls k N A0 c0 E 0 _ (Kd.bE U _) an Ht.out)).mono ?_;rintro e w1 ⟨rfl,hb⟩;have u:=zA (aJ (bl w (.cells #[.int .i64 N,.slice A0 E.length c0] 24)) hb);have aB:w1.cell? ⟨w.heap.size,0,none⟩=some (.int .i64 N):=(ai u.out 0).trans rfl;have aF:w1.cell? ⟨w.heap.size,1,none⟩=some (.slice A0 E.length c0):=(ai u.out 1).trans rfl;have aL:(w1.alloc (.cells #[.slice none 0 0] 156)).cell? ⟨w.heap.size,0,none⟩=some (.int .i64 N):=(ai (aw u.out _) 0).trans rfl;have aO:(w1.alloc (.cells #[.slice none 0 0] 156)).cell? ⟨w.heap.size,1,none⟩=some (.slice A0 E.length c0):=(ai (aw u.out _) 1).trans rfl;have X:=zA (a7 (ao (al w.heap.size w) _) hb);clear hb)|(refine⟨trivial,?_⟩;gi_at_call 85;refine(callsIn_wide.2 (tI N A0 c0 E _)).mono ?_;rintro e w3 ⟨rfl,rfl⟩))
 have aP:w.heap.size<w1.heap.size:=az u.out;have G:=zA (show ((w1.alloc (.cells #[.slice none 0 0] 156)).alloc (.cells #[.int .i64 N,.slice A0 E.length c0] 24)).heap[w1.heap.size]? =some (.cells #[.slice none 0 0] 156 (0,0)) from aw (bl w1 _) _);have I:=zA (show ((w1.alloc (.cells #[.slice none 0 0] 156)).alloc (.cells #[.int .i64 N,.slice A0 E.length c0] 24)).heap[w1.heap.size+1]? =some (.cells #[.int .i64 N,.slice A0 E.length c0] 24 (0,0)) from heap_alloc2_new w1 _ _);have J:=zA (ao (ao X.out (.cells #[.slice none 0 0] 156)) (.cells #[.int .i64 N,.slice A0 E.length c0] 24));clear aB aF aL aO u X;generalize ((w1.alloc (.cells #[.slice none 0 0] 156)).alloc (.cells #[.int .i64 N,.slice A0 E.length c0] 24))=y at G I J⊢;have aS:=az G.out;have a0:=az I.out;generalize a2:w1.heap.size+1=Y at I a0⊢;generalize w1.heap.size=bo at G aP aS a2⊢;have bn:=J.out.size;refine uI (σ:=Unit) (α:=Nat×Int×Int) (F:=Fence.wide) (n:=10) rfl (by decide) (gf:=140) (lb:=#[.pointer (some ⟨Y,0,none⟩)]) rfl trivial (enters_of Tryz.func140 (by kernel_rfl) rfl)
  (fun o=>Bt Y N A0 c0 E w _ U HE.out (ao (ao J.out _) _) (aw (aw I.out _) _)) (fun _=>rfl)
  (fun _=>True) ?eB ?st ?ar
  (fun _ pre W=>y.heap.size<=W.heap.size/\∃v,W.heap[bo]? =some (.cells #[v] 156 (0,0))/\(Kd.raw 2).R 205 W w.heap.size (fun _=>True) v (fG pre)/\Below w.heap.size w W) (fun _ _ _ _=>False)
  ?is (fun _ _ _ _ _ _ h _=>h) ?ib (fun _ _ _ _ _ h _=>h) ?kt ?h0 ?a1 (fun x W=>W.alloc (.cells #[.int .i64 x.2.1,.int .i64 x.2.2] 116)) ?hw ?rl ?assign ?body ?done (fun _ _ _ _ _ _ _ h=>h.elim)
 case assign=>
  intro l x W K hK;gi_wp2;exact hK
 case eB=>
  intro o s W1 h;exact⟨trivial,by rw[h];exact cp.refl _ _⟩
 case st=>intro s A B _ h k o h1 z g _;exact(h.block k (Array.getElem?_eq_some_iff.1 g).1).trans g
 case ar=>intro s x A B _ h k o h1 z g _;exact(h.block k (Array.getElem?_eq_some_iff.1 g).1).trans g
 case hw=>intro x W k o h1 z g _;exact aw g _
 case rl=>
  intro s x A D h;exact⟨fun aY=>((al w.heap.size A).alloc aY _).trans (h.1 (by simp;omega)),fun k cs t m hk=>h.2 k cs t m (aw hk _)⟩
 case is=>
  rintro s pre A B _ ⟨r,v,h1,z,g⟩ L;exact⟨Nat.le_trans r L.size,v,aJ h1 L,Kd.cR z L,a7 g L⟩
 case ib=>
  rintro s pre A B ⟨r,v,h1,z,g⟩ hb;exact⟨by rw[hb.size];exact r,v,hb.cells h1,dq z hb,g.trans (hb.below w.heap.size (by omega))⟩
 case kt=>
  intro s A B C D P Z aa;exact⟨fun aY=>((P.below w.heap.size (by omega)).trans (Z.1 (by rw[P.size];exact aY))).trans (aa.below w.heap.size (by omega)),fun k cs t m hk=>aa.cells (Z.2 k cs t m (P.cells hk))⟩
 case h0=>
  rintro o s W1 rfl;exact⟨by simp;omega,_,aw (aw G.out _) _,Kd.dc _ _ _ _ _,ao (ao J.out _) _⟩
 case body=>
  rintro l s pre ⟨i,a,b⟩ Wb W1 W _ ⟨r,v,i1,i2,i3⟩ H bw j;have c1:=aJ i1 H;have c2:=Kd.cR i2 H;have c3:=a7 i3 H;have a4:y.heap.size<=W1.heap.size:=Nat.le_trans r H.size;have p:=zA (j.cells (aw c1 (.cells #[.int .i64 a,.int .i64 b] 116)));have q:=zA (dq (Kd.aM c2 (.cells #[.int .i64 a,.int .i64 b] 116)) j);have b3:=zA ((ao c3 (.cells #[.int .i64 a,.int .i64 b] 116)).trans (j.below w.heap.size (by omega)));have b4:=zA (j.cells (bl W1 (.cells #[.int .i64 a,.int .i64 b] 116)));have aY:W.heap.size=W1.heap.size+1:=by rw[j.size];simp
  have b0:y.heap.size<=W.heap.size:=by omega
  clear i1 i2 i3 H j c1 c2 c3 aY a4 r;generalize W1.heap.size=pb at b4⊢;obtain⟨Ar,cr,rfl⟩:=Kd.bm q.out;have ad:(fG pre).length=pre.length:=by simp[fG]
  rw[ad] at p q;have hc:=dG p.out;have hf:=bD p.out 0;have b6:W.cell? ⟨pb,0,none⟩=some (.int .i64 a):=(ai b4.out 0).trans rfl;have b_:W.cell? ⟨pb,1,none⟩=some (.int .i64 b):=(ai b4.out 1).trans rfl;have LN:Aside0 (((fG pre).length+1)*16<=140737488355328):=⟨by rw[ad];omega⟩;have b':=Tryz.underlying116;gi_wp2_with (gi_at_builtin;go_loud (refine ot (Kd.raw 2) (w0:=w) w.heap.size rfl (.tmp 17) (.tmp 23) 156 205 (.agg #[.int .i64 0,.int .i64 0]) 16 rfl Tryz.underlying156 tC rfl (by decide) (by omega) _ _ [.int .i64 a,.int .i64 b] [.int .i64 a,.int .i64 b] (fun _=>True) (fun _=>False) rfl rfl ⟨rfl,rfl,by simp[Value.oneCell']⟩ (fun _ hk=>hk.elim) (fun _ _=>trivial) q.out b3.out b3.out.size LN.out ?_;intro v1 ca Q hb S be;obtain⟨T,c1,rfl⟩:=Kd.bm Q;have M:=zA ((S.block bo (az p.out) (Kd.dr q.out p.out (by decide))).trans p.out);have cb:=dG M.out;have cc:=bD M.out 0;have bf:=zA Q;have bg:=zA hb;have O:=zA S;clear Q hb S be))
  have bi:(fG pre++[[Value.int .i64 a,Value.int .i64 b]]).length=pre.length+1:=by simp[fG]
  refine⟨(ou q.out O.out).trans (fz _ _ (az G.out)),⟨fun aY=>Below.setCell ((al w.heap.size W).grown O.out aY (Kd.dz q.out)) (by show w.heap.size<=bo;omega) _,fun k cs t m hk=>?_⟩,by have:=O.out.size;simp;omega,.slice T (pre.length+1) c1,by simpa using bR M.out 0 (.slice T (pre.length+1) c1),?_,et bg.out (by show w.heap.size<=bo;omega)⟩
  ·have bk:k≠bo:=by
    rintro rfl;have h1:=hk.symm.trans p.out;injection h1 with h1
    injection h1 with _ h1 _
    rcases m with rfl|rfl<;>exact absurd h1 (by decide)
   rw[Below.heap_setCell _ _ _ _ bk];exact(O.out.block k (az hk) (Kd.dr q.out hk (by rcases m with rfl|rfl<;>decide))).trans hk
  ·have h:=Kd.eX bf.out M.out (by decide) 0 (.slice T (pre.length+1) c1)
   rw[bi] at h;simpa [fG] using h
 case done=>
  rintro s xs W W' _ rfl ⟨r,v,i1,i2,i3⟩ j ag;have p:=zA (j.cells i1);have q:=zA (dq i2 j);have b3:=zA (i3.trans (j.below w.heap.size (by omega)));have ak:=zA ag;clear i1 i2 i3 ag;have hc:=dG p.out;gi_wp2_with fail
  have am:Bk y.heap.size W' (W'.putObj y.heap.size (.deferred none)):=⟨_,_,ak.out,rfl,rfl⟩;exact i' (D:=y.heap.size) rfl ak.out (results_tmp2 rfl _ _ _) ⟨_,rfl,dq q.out am,b3.out.trans (am.below w.heap.size (by omega))⟩
end
section
theorem uJ (L:List (Nat×Int×Int)):(fG L).length=L.length:=by simp[fG]
theorem uK {s:Nat} {a b:Int}:∀{j:Nat} {x:Nat×Int×Int},x∈fW s a b j->x.2.1=a/\x.2.2=b
 |0,x,h=>absurd h (by simp[fW])
 |j+1,x,h=>by
  simp only[fW,List.mem_append,List.mem_singleton] at h;rcases h with h|rfl
  ·exact uK h
  ·exact⟨rfl,rfl⟩
theorem uL {n:Nat} {E:List S83} (h:∀k,k<E.length->0<=(ae E k).f0/\(ae E k).f0<n/\0<=(ae E k).f1/\(ae E k).f1<n/\1<=(ae E k).f2/\(ae E k).f2<=50):
  ∀k,k<=E.length->∀x∈cg E k,0<=x.2.1/\x.2.1<n/\0<=x.2.2/\x.2.2<n
 |0,_=>fun x a=>absurd a (by simp[cg])
 |k+1,hk=>fun x a=>by
  simp only[cg,List.mem_append] at a;rcases a with a|a
  ·exact uL h k (by omega) x a
  ·obtain⟨h1,b⟩:=uK a
   have:=h k (by omega);omega
theorem Cw {n:Nat} {E:List S83} (h:∀k,k<E.length->0<=(ae E k).f0/\(ae E k).f0<n/\0<=(ae E k).f1/\(ae E k).f1<n/\1<=(ae E k).f2/\(ae E k).f2<=50):
  ∀x∈cg E E.length,0<=x.2.1/\x.2.1<n/\0<=x.2.2/\x.2.2<n:=uL h _ (aI _)
theorem uM {E:List S83} (h:eQ E=true):(cg E E.length).length<=2000:=by
 obtain⟨h1,a⟩:=p_ h;have:=od a E.length (aI _);rw[ow];omega
def iN (l:List Int) (v:Nat):List Int:=l.set v (rd l v+1)
def gP (l:List Int) (x:Nat×Int×Int):List Int:=if x.2.1=x.2.2 then l else iN (iN l x.2.1.toNat) x.2.2.toNat
def dI (n:Nat) (L:List (Nat×Int×Int)) (k:Nat):List Int:=(L.take k).foldl gP (List.replicate n 0)
theorem Cx (l:List Int) (v:Nat):(iN l v).length=l.length:=by simp[iN]
theorem Cy (l:List Int) (x:Nat×Int×Int):(gP l x).length=l.length:=by
 unfold gP;split<;>simp[Cx]
theorem uN:∀(L:List (Nat×Int×Int)) (l:List Int),(L.foldl gP l).length=l.length
 |[],l=>rfl
 |x::L,l=>by rw[List.foldl_cons,uN L,Cy]
theorem uO (n:Nat) (L:List (Nat×Int×Int)) (k:Nat):(dI n L k).length=n:=by simp[dI,uN]
theorem Cz (n:Nat) (L:List (Nat×Int×Int)) (k:Nat) (hk:k<L.length):dI n L (k+1)=gP (dI n L k) L[k]:=by
 unfold dI;rw[List.take_succ_eq_append_getElem hk,List.foldl_append];rfl
theorem CD {l:List Int} {v:Nat} {B:Int} {x:Int} (h:∀i:Nat,0<=rd l i/\rd l i<=B) (a:0<=x/\x<=B+1) (i:Nat):0<=rd (l.set v x) i/\rd (l.set v x) i<=B+1:=by
 have hi:=h i;simp only[rd,aQ,bb,List.getElem?_set] at hi⊢;split
 ·split
  ·simpa using a
  ·simp;omega
 ·omega
theorem qE {l:List Int} {v:Nat} {B:Int} (h:∀i:Nat,0<=rd l i/\rd l i<=B) (i:Nat):0<=rd (iN l v) i/\rd (iN l v) i<=B+1:=
 CD h (by have:=h v;omega) i
theorem CE {l:List Int} {x:Nat×Int×Int} {B:Int} (h:∀i:Nat,0<=rd l i/\rd l i<=B) (i:Nat):0<=rd (gP l x) i/\rd (gP l x) i<=B+2:=by
 unfold gP;split
 ·have:=h i;omega
 ·have:=qE (v:=x.2.2.toNat) (qE (v:=x.2.1.toNat) h) i;omega
theorem uP:∀(L:List (Nat×Int×Int)) (l:List Int) (B:Int),(∀i:Nat,0<=rd l i/\rd l i<=B)->∀i:Nat,0<=rd (L.foldl gP l) i/\rd (L.foldl gP l) i<=B+2*L.length
 |[],l,B,h=>fun i=>by have:=h i;simpa using this
 |x::L,l,B,h=>fun i=>by
  have:=uP L (gP l x) (B+2) (CE h) i;simp only[List.foldl_cons,List.length_cons];omega
theorem uQ (n:Nat) (L:List (Nat×Int×Int)) (k:Nat) (i:Nat):0<=rd (dI n L k) i/\rd (dI n L k) i<=2*L.length:=by
 have h:=uP (L.take k) (List.replicate n 0) 0 (fun i=>by simp[rd,bb,List.getElem?_replicate];split<;>simp) i;have a:(L.take k).length<=L.length:=by simp;omega
 unfold dI;omega
theorem CF {W:World} {gb n:Nat} {ok:Nat->Prop} {g0 len cap:Nat} {rows:List (List Int)} (h:Kd.S (Kd.slice 3 (Kd.int .i64)) 25 W gb ok (.slice (some ⟨g0,0,none⟩) len cap) rows) (s:rows.length=len) (m:∀y∈rows,y.length=n) (a b:Nat) (C:a<len) (hb:b<n):
  ∃(gi ci:Nat) (z:Int),W.cell? ⟨g0,a,none⟩=some (.slice (some ⟨gi,0,none⟩) n ci)/\W.cell? ⟨gi,b,none⟩=some (.int .i64 z)/\W.frozen? ⟨gi,b,none⟩=false/\ok gi/\gb<=gi/\(∃cells,W.heap[gi]? =some (.cells cells 3 (0,0)))/\
   ∀x:Int,∃i:List (List Int),i.length=len/\(∀y∈i,y.length=n)/\Kd.S (Kd.slice 3 (Kd.int .i64)) 25 (W.setCell ⟨gi,b,none⟩ (.int .i64 x)) gb ok (.slice (some ⟨g0,0,none⟩) len cap) i:=by
 obtain⟨oki,c,D,⟨ev,rfl,g⟩,j,u,l⟩:=Kd.yx h [] (a:Int) (by omega) (by omega);rw[aQ] at g j l;have o:(rows.getD a []).length=n:=by
  rw[bb,bP (by omega)];exact m _ (List.getElem_mem (by omega))
 obtain⟨gi,ci,rfl,v,E,cells,w⟩:=Kd.fC g (by omega);rw[o] at g l j;obtain⟨p,q⟩:=Kd.bW (0:Int) g (b:Int) (by omega) (by omega);rw[aQ] at p q;have r:=j 0 _ rfl;refine⟨gi,ci,_,?_,p,q,(u gi (g.1 gi rfl)).1,v,⟨cells,w⟩,fun x=>⟨rows.set a ((rows.getD a []).set b x),by simp[s],?_,?_⟩⟩
 ·rw[show (⟨g0,0,none⟩:Addr).add (a*(Kd.slice 3 (Kd.int .i64)).sz+0)=⟨g0,a,none⟩ from by simp[Kd.slice,Addr.add];intro e;exact e.symm] at r
  exact r
 ·intro y B
  rcases List.mem_or_eq_of_mem_set B with h1|h1
  ·exact m y h1
  ·subst h1;simpa using o
 ·have hp:=Kd.dh g (b:Int) x
  rw[aQ] at hp;exact l hp.2 (fun k hk=>by cases hk;exact g.1 gi rfl) ⟨_,rfl,hp.1⟩
theorem CG {w:World} {A:Option Addr} {n:Nat} {L:List (Nat×Int×Int)} (h:Kd.C (Kd.raw 2) w A n (fG L)) (j:Nat) (m:j<n) (i:j<L.length):∃ad,A=some ad/\w.cell? (ad.add (j*2))=some (.int .i64 L[j].2.1)/\w.cell? ⟨(ad.add (j*2)).block,(ad.add (j*2)).off+1,none⟩=some (.int .i64 L[j].2.2):=by
 obtain⟨ad,c,e,_,a,b⟩:=Kd.o8 h [] (j:Int) (by omega) (by omega);rw[aQ] at a b;have l:(fG L).getD j []=[.int .i64 L[j].2.1,.int .i64 L[j].2.2]:=by
  rw[bb,bP (by simpa [fG] using i)];simp[fG]
 rw[l] at a;obtain rfl:=a.1;have g:∀k u,[Value.int .i64 L[j].2.1,.int .i64 L[j].2.2][k]? =some u->w.cell? (ad.add (j*2+k))=some u:=b;exact⟨ad,e,g 0 _ rfl,by rw[<-o5 _ _ 1 (by omega)];exact g 1 _ rfl⟩
structure PS (w:World) (gb n gp bv g0 cr:Nat) (q:Int) (dv:Value) (dl:List Int) (ev:Value) (L:List (Nat×Int×Int)) (W:World) (rows:List (List Int)) (vl:List Int):Prop where
 len:rows.length=n
 all:∀y∈rows,y.length=n
 iO:cI W gp dv q (.slice (some ⟨g0,0,none⟩) n cr) (.slice (some ⟨bv,0,none⟩) n n) (fun _=>false)
 d:(Kd.int .i64).R 3 W gb (fun k=>k≠bv) dv dl
 val:(Kd.int .i64).R 3 W gb (fun k=>some k≠dv.ownBlock) (.slice (some ⟨bv,0,none⟩) n n) vl
 rows:Kd.S (Kd.slice 3 (Kd.int .i64)) 25 W gb (fun k=>some k≠dv.ownBlock/\k≠bv) (.slice (some ⟨g0,0,none⟩) n cr) rows
 ends:(Kd.raw 2).R 205 W gb (fun _=>True) ev (fG L)
 below:Below gb w W
namespace PS
variable {w:World} {gb n gp bv g0 cr:Nat} {q:Int} {dv:Value} {dl:List Int} {ev:Value} {L:List (Nat×Int×Int)} {W:World} {rows:List (List Int)} {vl:List Int}
theorem drewN (h:PS w gb n gp bv g0 cr q dv dl ev L W rows vl) (m:Nat):PS w gb n gp bv g0 cr q dv dl ev L (W.drewN m) rows vl:=
 ⟨h.len,h.all,h.iO,Kd.bB h.d m,Kd.bB h.val m,Kd.yl h.rows m,Kd.bB h.ends m,b8 h.below m⟩
theorem row (h:PS w gb n gp bv g0 cr q dv dl ev L W rows vl) (a b:Nat) (j:a<n) (hb:b<n):∃(gi ci:Nat) (z:Int),W.cell? ⟨g0,a,none⟩=some (.slice (some ⟨gi,0,none⟩) n ci)/\W.cell? ⟨gi,b,none⟩=some (.int .i64 z)/\W.frozen? ⟨gi,b,none⟩=false/\
  ∀x:Int,∃g,PS w gb n gp bv g0 cr q dv dl ev L (W.setCell ⟨gi,b,none⟩ (.int .i64 x)) g vl:=by
 obtain⟨gi,ci,z,h1,k,l,⟨m,o⟩,p,⟨cells,i⟩,r⟩:=CF h.rows h.len h.all a b j hb;refine⟨gi,ci,z,h1,k,l,fun x=>?_⟩;obtain⟨g,l1,l2,s⟩:=r x;have hg:W.grownBy (W.setCell ⟨gi,b,none⟩ (.int .i64 x)) (some gi):=uG (al _ _);refine⟨g,l1,l2,h.iO.grown hg (fun e=>?_),Kd.iy h.d rfl hg m,Kd.iy h.val rfl hg (fun e=>o (by simpa [Value.ownBlock] using e)),s,Kd.eX h.ends i (by decide) _ _,Below.setCell h.below p _⟩;obtain⟨cs,hp,_⟩:=h.iO;injection e with e
 subst e;rw[i] at hp;injection hp with hp
 injection hp with _ hp _
 exact absurd hp (by decide)
theorem uR (h:PS w gb n gp bv g0 cr q dv dl ev L W rows vl) (a:Nat) (i:a<n):W.cell? ⟨bv,a,none⟩=some (.int .i64 (rd vl a))/\W.frozen? ⟨bv,a,none⟩=false/\
  ∀x:Int,PS w gb n gp bv g0 cr q dv dl ev L (W.setCell ⟨bv,a,none⟩ (.int .i64 x)) rows (vl.set a x):=by
 obtain⟨h1,g⟩:=Kd.bW (0:Int) h.val (a:Int) (by omega) (by omega);rw[aQ] at h1 g;obtain⟨cells,hb⟩:=Kd.gw h.val bv rfl;refine⟨h1,g,fun x=>?_⟩;have hp:=Kd.dh h.val (a:Int) x;rw[aQ] at hp;have hg:=hp.2;refine⟨h.len,h.all,h.iO.grown hg (fun e=>?_),Kd.iy h.d rfl hg (fun e=>h.d.1 bv e.symm rfl),hp.1,Kd.r_ h.rows hg (fun k hk e=>hk.2 (by injection e)),Kd.eX h.ends hb (by decide) _ _,Below.setCell h.below (Kd.dz h.val bv rfl) _⟩;obtain⟨cs,b,_⟩:=h.iO;injection e with e
 subst e;rw[hb] at b;injection b with b
 injection b with _ b _
 exact absurd b (by decide)
end PS
def gQ (n:Nat) (E:List S83):List Int:=dI n (cg E E.length) (cg E E.length).length
theorem CH (g v n:Nat) (q:Int) (a b:Option Addr) (cd h:Nat) (dl vl:List Int) (rows:Value) (waits:Nat->Bool) (w:World) (i:v<12) (k:v<dl.length) (l:vl.length=n) (m:v<n)
  (hw:cI w g (.slice a dl.length cd) q rows (.slice b n h) waits) (hd:Kd.C (Kd.int .i64) w a dl.length dl) (o:Kd.C (Kd.int .i64) w b n vl):
  Calls Tryz.prog 218 #[.pointer (some ⟨g,0,none⟩),.int .i64 v] w fun e w'=>e= .returned (.tuple #[])/\cI w' g (.slice a dl.length cd) q rows (.slice b n h) (fun j=>if j=v then iM q vl dl v else waits j)/\w.grownBy w' (some g):=by
 subst l;exact Cu g v q a b cd h dl vl rows waits w i k m hw hd o
theorem CI (q:Int) (vl dl:List Int) (v:Nat):(fun j=>if j=v then iM q vl dl v else(if j<v then iM q vl dl j else false))=fun j=>if j<v+1 then iM q vl dl j else false:=by
 funext j
 by_cases e:j=v
 ·subst e;simp
 ·by_cases h:j<v
  ·rw[if_neg e,if_pos h,if_pos (by omega)]
  ·rw[if_neg e,if_neg h,if_neg (by omega)]
end
end Go.Proofs.YtffdiakgjakngaaGreat.P


