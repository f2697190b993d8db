/- RiemannrochHolds answers true whatever the input (text 7 of 20): own walks and plain laws; no conditions. -/
import Derived.AtR
import Derived.BigQuiet
import Derived.BigRegion
import Derived.BigRegionIn
import Derived.Deep.QuietTactic
import Derived.Deep.RegionHeld3
import Derived.RegionTactic
import Derived.Sort.LoopGhostIn
import Derived.Sort.QuietIn
import Derived.Test.YtffdiakgjakngaaGreatHolds6
namespace Go.Proofs.YtffdiakgjakngaaGreat.P
open Go.RowKit Go.Proofs.YtffdiakgjakngaaGreatW.PrintWords Go.Proofs.YtffdiakgjakngaaGreatW.PrintLast Go.Proofs.YtffdiakgjakngaaGreatW.PrintMore
set_option linter.unusedVariables false
set_option linter.unusedSimpArgs false
set_option maxHeartbeats 8000000
set_option maxRecDepth 100000
section
attribute [local go_sem] Oper.semAt_some
def gw (w:World) (g:Nat) (N:Int) (ev:Value) (q:Int) (dv a:Value) (e:Int):Prop:=w.heap[g]? =some (.cells #[.int .i64 N,ev,.int .i64 q,dv,a,.int .i64 e] 188 (0,0))
theorem lr (g:Nat) (v:Int) (w:World):Calls Tryz.prog 194 #[.pointer (some ⟨g,0,none⟩),.int .i64 v] w fun e w'=>e= .returned (.func (.func 207) #[] #[.pointer (some ⟨w.heap.size,0,none⟩),.pointer (some ⟨w.heap.size+1,0,none⟩)])∧w'=(w.alloc (.cells #[.pointer (some ⟨g,0,none⟩)] 135)).alloc (.cells #[.int .i64 v] 3):=by
 go_enter Tryz.func194,Tryz.ntmps194
 go_wp2;go_ret;exact⟨rfl,rfl⟩
def b8 (E:List S83) (v:Int):Nat->List (Int×Int)
 |0=>[]
 |k+1=>b8 E v k++(if(ai E k).f0≠(ai E k).f1∧((ai E k).f0=v∨(ai E k).f1=v) then[((ai E k).f0+(ai E k).f1-v,(ai E k).f2)] else[])
def tA (base a b c:Nat) (X Y:World):Prop:=(base<=X.heap.size->Below base X Y)∧∀k,(k=a∨k=b∨k=c)->k<X.heap.size->Y.heap[k]? =X.heap[k]?
theorem tB (E:List S83) (v:Int):∀(m k:Nat),∀x∈b8 E v k,x∈b8 E v (k+m)
 |0,k,x,a=>a
 |m+1,k,x,a=>List.mem_append.2 (.inl (tB E v m k x a))
theorem pX (l bv g n:Nat) (A0:Option Addr) (c0:Nat) (E:List S83) (q:Int) (dv V:Value) (Z:Int) (v:Nat) (w0 W:World) (aa:Kd.C aK w0 A0 E.length E) (hE:dV n E) (hn:n<=1000) (hv:v<n) (hB:Below w0.heap.size w0 W)
  (M:W.heap[l]? =some (.cells #[.pointer (some ⟨g,0,none⟩)] 135 (0,0))) (z:W.heap[bv]? =some (.cells #[.int .i64 v] 3 (0,0))) (N:gw W g n (.slice A0 E.length c0) q dv V Z):
  iJ (σ:=Unit) Fence.wide 9 Tryz.prog 207 #[.pointer (some ⟨l,0,none⟩),.pointer (some ⟨bv,0,none⟩)] (fun x:Int×Int=>#[.int .i64 x.1,.int .i64 x.2]) (fun _ W W1=>W1=W) (fun _ A B=>Below A.heap.size A B) (fun _ x A B=>((0<=x.1∧x.1<n∧1<=x.2∧x.2<=50)∧x∈b8 E v E.length)∧Below A.heap.size A B)
   (fun _ X Y=>tA w0.heap.size l bv g X Y)
   (fun _ xs W'=>xs=b8 E v E.length) (fun _ _ _=>True) (fun pre=>∃k,k<E.length∧pre=b8 E v k) W:=by
 intro lp J Jx ag ak am ap;have a9:=Aside0.mk ag;have cb:=Aside0.mk ak;have hY:=Aside0.mk ap;have ar:=am () W rfl;clear ag ak am ap;have cc:=Tryz.underlying188;have hu:=Tryz.underlying24;have cd:=Tryz.underlying83;refine callsIn_of_wp Tryz.func207 rfl trivial ?_ rfl;simp only[Tryz.ntmps207,List.size_toArray,List.length_cons,List.length_nil,Nat.reduceAdd,Nat.reduceSub,Array.replicate_succ,Array.replicate_zero,List.push_toArray,List.append_toArray,List.nil_append,List.cons_append];have b0:W.cell? ⟨l,0,none⟩=some (.pointer (some ⟨g,0,none⟩)):=(ao M 0).trans rfl;have s1:W.cell? ⟨g,1,none⟩=some (.slice A0 E.length c0):=(ao N 1).trans rfl;have av:=Aside0.mk M;have aB:=Aside0.mk z;have p:=Aside0.mk N;clear M z N;gi_wp2;clear b0 s1;gi_loopg [13] (E.length) (fun kq i wr=>∃k:Nat,i= .int .i64 k∧k<=E.length∧Aside0 (J () (b8 E v k) wr)∧Aside0 (wr.heap[l]? =some (.cells #[.pointer (some ⟨g,0,none⟩)] 135 (0,0)))∧Aside0 (wr.heap[bv]? =some (.cells #[.int .i64 v] 3 (0,0)))∧Aside0 (gw wr g n (.slice A0 E.length c0) q dv V Z)∧Aside0 (Below w0.heap.size w0 wr)∧Aside0 (kq=E.length-k))
 case atStart=>exact⟨0,rfl,Nat.zero_le _,⟨ar⟩,av,aB,p,⟨hB⟩,⟨rfl⟩⟩
 case round=>
  clear ar hB av aB p;have ce:E.length<=9223372036854775807:=Kd.lL aa;obtain⟨k,rfl,hk,O,HX,P,p,r,Q⟩:=hrel;by_cases aL:k<E.length
  ·obtain⟨e0,D,e2,F,e4,e5⟩:=hE.get k aL
   have G:=Lib.hid (show b8 E v (k+1)=b8 E v k++(if(ai E k).f0≠(ai E k).f1∧((ai E k).f0=v∨(ai E k).f1=v) then[((ai E k).f0+(ai E k).f1-v,(ai E k).f2)] else[]) from rfl);obtain⟨ad,rfl,s,u,w⟩:=eo aa k (by omega) (by omega);rw[Int.toNat_natCast] at s u w;generalize ai E k=x at e0 D e2 F e4 e5 s u w G;obtain⟨a,b,m⟩:=x;simp only at e0 D e2 F e4 e5 s u w;have cf:(0:Int)<=(k:Int):=by omega
   have ch:(k:Int)<(E.length:Int):=by omega
   have ci:(0:Int)<=(v:Int):=by omega
   have cj:(v:Int)<=1000:=by omega
   have s:=gU r.out s;have u:=gU r.out u;have w:=gU r.out w;have v0:(wr.alloc (.cells #[.int .i64 a,.int .i64 b,.int .i64 m] 83)).cell? ⟨bv,0,none⟩=some (.int .i64 v):=(ao (aw P.out _) 0).trans rfl;have R:=Aside0.mk (a9.out () _ _ _ O.out (aq (Below.refl wr.heap.size wr) (.cells #[.int .i64 a,.int .i64 b,.int .i64 m] 83)));have H:=Aside0.mk (aw HX.out (.cells #[.int .i64 a,.int .i64 b,.int .i64 m] 83));have I:=Aside0.mk (aw P.out (.cells #[.int .i64 a,.int .i64 b,.int .i64 m] 83));have K:=Aside0.mk (aw p.out (.cells #[.int .i64 a,.int .i64 b,.int .i64 m] 83));have L:=Aside0.mk (aq r.out (.cells #[.int .i64 a,.int .i64 b,.int .i64 m] 83));have an:a<=1000:=by omega
   have bn:b<=1000:=by omega
   have HE:=Aside0.mk (And.intro D F);clear D F O HX P p r;by_cases o:a=b
   ·have bk:(a != b)=false:=by simpa using o
    have S:=Aside0.mk o;clear o;gi_wp2;refine⟨(fun _ h=>(by cases h)),?_⟩;gi_wp2;gi_roundg (E.length- (k+1))
    case measure=>rw[Q.out];omega
    case rel=>exact⟨k+1,by go_num,by omega,⟨by rw[G.out,if_neg (fun h=>h.1 S.out),List.append_nil];exact R.out⟩,H,I,K,L,⟨rfl⟩⟩
   ·have bk:(a != b)=true:=by simpa using o
    have S:=Aside0.mk o;clear o;by_cases j:a=v∨b=v
    ·have a0:=Aside0.mk (show b8 E v (k+1)=b8 E v k++[(a+b-v,m)] from by rw[G.out,if_pos ⟨S.out,j⟩])
     obtain⟨fn,tmps,co,cq,T,a1⟩:=hY.out () (b8 E v k) (a+b-v,m) _ _ R.out ⟨⟨by have:=HE.out;show 0<=a+b- (v:Int)∧a+b- (v:Int)<n∧1<=m∧m<=50;omega,by have h:=tB E v (E.length- (k+1)) (k+1) (a+b-v,m) (by rw[a0.out];simp);rw[show k+1+(E.length- (k+1))=E.length by omega] at h;exact h⟩,Below.refl _ _⟩ ⟨k,aL,rfl⟩;have bo:=Aside0.mk a1;simp only at T;clear a1;have bw:(a==(v:Int))=true∨((a==(v:Int))=false∧(b==(v:Int))=true):=by
      by_cases h:a=v
      ·left;simpa using h
      ·right;refine⟨by simpa using h,?_⟩
       rcases j with U|U
       ·exact absurd U h
       ·simpa using U
     clear j;rcases bw with a2|⟨a2,z⟩
     all_goals
      gi_wp2;refine bo.out.mono ?_;rintro e W3 (⟨rfl,a3,y⟩|⟨rfl,a4⟩)
      ·have b1:=Aside0.mk a3
       have b2:=Aside0.mk ((y.2 l (.inl rfl) (ay H.out)).trans H.out);have b3:=Aside0.mk ((y.2 bv (.inr (.inl rfl)) (ay I.out)).trans I.out);have b4:=Aside0.mk ((y.2 g (.inr (.inr rfl)) (ay K.out)).trans K.out);have b5:=Aside0.mk (L.out.trans (y.1 L.out.size));clear a3 y T v0;gi_wp2;gi_roundg (E.length- (k+1))
       case measure=>rw[Q.out];omega
       case rel=>exact⟨k+1,by go_num,by omega,⟨by rw[a0.out];exact b1.out⟩,b2,b3,b4,b5,⟨rfl⟩⟩
      ·have b6:=Aside0.mk a4
       clear a4 T v0;gi_wp2;refine bodyPost_ret (results_none rfl _ _ _) rfl ?_;exact⟨⟨_,rfl⟩,.inr ⟨(),_,trivial,b6.out⟩⟩
    ·have a2:(a==(v:Int))=false:=by simp;exact fun h=>j (.inl h)
     have z:(b==(v:Int))=false:=by simp;exact fun h=>j (.inr h)
     have b_:=Aside0.mk j;clear j;gi_wp2;refine⟨(fun _ h=>(by cases h)),?_⟩;gi_wp2;gi_roundg (E.length- (k+1))
     case measure=>rw[Q.out];omega
     case rel=>exact⟨k+1,by go_num,by omega,⟨by rw[G.out,if_neg (fun h=>b_.out h.2),List.append_nil];exact R.out⟩,H,I,K,L,⟨rfl⟩⟩
  ·obtain rfl:k=E.length:=by omega
   gi_wp2;go_end0;exact⟨⟨_,rfl⟩,.inl ⟨(),_,rfl,O.out⟩⟩
theorem nQ (b bv g n:Nat) (A0:Option Addr) (c0:Nat) (E:List S83) (q:Int) (dv h:Value) (i:Int) (v:Nat) (w0 W:World) (l:Kd.C aK w0 A0 E.length E) (m:dV n E) (hn:n<=1000) (o:v<n) (p:Below w0.heap.size w0 W)
  (r:W.heap[b]? =some (.cells #[.pointer (some ⟨g,0,none⟩)] 135 (0,0))) (u:W.heap[bv]? =some (.cells #[.int .i64 v] 3 (0,0))) (w:gw W g n (.slice A0 E.length c0) q dv h i):
  iJ (σ:=Unit) Fence.wide 9 Tryz.prog 207 #[.pointer (some ⟨b,0,none⟩),.pointer (some ⟨bv,0,none⟩)] (fun x:Int×Int=>#[.int .i64 x.1,.int .i64 x.2]) (fun _ W W1=>W1=W) (fun _ A B=>Below A.heap.size A B) (fun _ x A B=>(0<=x.1∧x.1<n∧1<=x.2∧x.2<=50)∧Below A.heap.size A B)
   (fun _ X Y=>tA w0.heap.size b bv g X Y)
   (fun _ xs W'=>xs=b8 E v E.length) (fun _ _ _=>True) (fun pre=>∃k,k<E.length∧pre=b8 E v k) W:=fun y J Jx z D F G=>pX b bv g n A0 c0 E q dv h i v w0 W l m hn o p r u w y J Jx (fun s pre A B a e=>z s pre A B a e) (fun s pre A B a e=>D s pre A B a e) F (fun s pre x H W1 a j I=>G s pre x H W1 a ⟨j.1.1,j.2⟩ I)
end
def bM (out:List Int):Nat:=(out.filter fun x=>decide (0<=x)).length
theorem i' (out:List Int):bM out<=out.length:=List.length_filter_le ..
theorem jL (xs:List Int) (v:Nat):rd xs (v:Int)=xs.getD v 0:=by simp[rd]
theorem pY:∀(out:List Int) (u:Nat) (x:Int),u<out.length->out.getD u 0<0->0<=x->bM (out.set u x)=bM out+1
 |[],u,x,h,_,_=>by simp at h
 |y::out,0,x,_,h,a=>by
  have b:y<0:=h;simp[bM,a,Int.not_le.2 b]
 |y::out,u+1,x,hu,h,a=>by
  have:=pY out u x (by simpa using hu) (by simpa using h) a;simp only[bM,List.set_cons_succ,List.filter_cons] at this⊢;split<;>simp[this]
theorem jg (xs:List Int) (u:Nat) (x:Int) (h:u<xs.length):rd (xs.set u x) (u:Int)=x:=by
 rw[jL,List.getD_eq_getElem?_getD,List.getElem?_set_self h];rfl
theorem ij (xs:List Int) (u v:Nat) (x:Int) (h:u≠v):rd (xs.set u x) (v:Int)=rd xs (v:Int):=by
 rw[jL,jL,List.getD_eq_getElem?_getD,List.getD_eq_getElem?_getD,List.getElem?_set_ne h]
structure Bf (n q:Nat) (nb:Nat->Nat->Prop) (out:List Int) (Q:List Nat) (D:Int) (ex:Nat->Nat->Prop):Prop where
 len:out.length=n
 q0:rd out (q:Int)=0
 lo:∀v:Nat,v<n-> -1<=rd out (v:Int)
 hi:∀v:Nat,v<n->rd out (v:Int)+1<=bM out
 qv:∀x,x∈Q->x<n∧D<=rd out (x:Int)
 mo:Q.Pairwise fun (x y:Nat)=>rd out (x:Int)<=rd out (y:Int)
 top:∀v:Nat,v<n->rd out (v:Int)<=D+1
 d0:0<=D
 back:∀v:Nat,v<n->v≠q->0<=rd out (v:Int)->∃u:Nat,u<n∧nb u v∧0<=rd out (u:Int)∧rd out (u:Int)+1=rd out (v:Int)
 jM:∀v:Nat,v<n->0<=rd out (v:Int)->v∉Q->∀u:Nat,u<n->nb v u->¬ex v u->0<=rd out (u:Int)∧rd out (u:Int)<=rd out (v:Int)+1
theorem Bf.start {n q:Nat} {nb:Nat->Nat->Prop} (b:q<n):Bf n q nb ((List.replicate n (-1)).set q 0) [q] 0 (fun _ _=>False):=by
 have h1:∀v:Nat,v<n->rd ((List.replicate n (-1)).set q 0) (v:Int)=if q=v then 0 else -1:=fun v a=>by
  split
  ·rename_i e;subst e;exact jg _ _ _ (by simpa using a)
  ·rename_i e
   rw[ij _ _ _ _ e,jL,List.getD_eq_getElem?_getD,List.getElem?_replicate,if_pos a];rfl
 have g:bM ((List.replicate n (-1)).set q 0)=bM (List.replicate n (-1))+1:=pY _ q 0 (by simpa using b) (by rw[List.getD_eq_getElem?_getD,List.getElem?_replicate,if_pos b];decide) (by decide);refine⟨by simp,by rw[h1 q b,if_pos rfl],fun v a=>?_,fun v a=>?_,fun x i=>?_,by simp,fun v a=>?_,by decide,fun v a j h=>?_,fun v a h hn=>?_⟩
 ·rw[h1 v a];split<;>omega
 ·rw[h1 v a,g];split<;>omega
 ·obtain rfl:=List.mem_singleton.1 i
  exact⟨b,by rw[h1 x b,if_pos rfl];omega⟩
 ·rw[h1 v a];split<;>omega
 ·rw[h1 v a,if_neg (fun e=>j e.symm)] at h;omega
 ·rw[h1 v a] at h
  by_cases e:q=v
  ·exact absurd (List.mem_singleton.2 e.symm) hn
  ·rw[if_neg e] at h;omega
theorem Bf.pop {n q:Nat} {nb:Nat->Nat->Prop} {out:List Int} {v:Nat} {Q:List Nat} {D:Int} (h:Bf n q nb out (v::Q) D (fun _ _=>False)):Bf n q nb out Q (rd out (v:Int)) (fun x _=>x=v):=by
 have j:=h.qv v (List.mem_cons_self ..);have b:=List.pairwise_cons.1 h.mo;refine⟨h.len,h.q0,h.lo,h.hi,fun x a=>⟨(h.qv x (List.mem_cons_of_mem _ a)).1,b.1 x a⟩,b.2,fun u hu=>?_,by have:=h.d0;omega,h.back,fun x a g hn u hu i hex=>?_⟩
 ·have:=h.top u hu;omega
 ·exact h.jM x a g (fun hm=>by rcases List.mem_cons.1 hm with e|e;exact hex e;exact hn e) u hu i (fun f=>f)
theorem Bf.look {n q:Nat} {nb:Nat->Nat->Prop} {out:List Int} {v u:Nat} {Q:List Nat} {ex:Nat->Prop} (h:Bf n q nb out Q (rd out (v:Int)) (fun x y=>x=v∧ex y)) (hu:u<n) (z:v<n) (G:nb v u):
  (0<=rd out (u:Int)->Bf n q nb out Q (rd out (v:Int)) (fun x y=>x=v∧ex y∧y≠u))∧
  (rd out (u:Int)<0->u≠v∧rd (out.set u (rd out (v:Int)+1)) (v:Int)=rd out (v:Int)∧bM (out.set u (rd out (v:Int)+1))=bM out+1∧Bf n q nb (out.set u (rd out (v:Int)+1)) (Q++[u]) (rd out (v:Int)) (fun x y=>x=v∧ex y∧y≠u)):=by
 have hd:=h.d0;refine⟨fun k=>⟨h.len,h.q0,h.lo,h.hi,h.qv,h.mo,h.top,hd,h.back,fun x g i hn y j l hex=>?_⟩,fun k=>?_⟩
 ·by_cases e:x=v∧ex y
  ·have:y=u:=Classical.byContradiction fun e2=>hex ⟨e.1,e.2,e2⟩
   subst this;have:=h.top y j;rw[e.1];exact⟨k,this⟩
  ·exact h.jM x g i hn y j l e
 ·have B:u≠v:=fun e=>by rw[e] at k;omega
  have C:u<out.length:=by rw[h.len];exact hu
  have r:rd (out.set u (rd out (v:Int)+1)) (v:Int)=rd out (v:Int):=ij _ _ _ _ B;have e2:∀x:Nat,x<n->rd (out.set u (rd out (v:Int)+1)) (x:Int)=if u=x then rd out (v:Int)+1 else rd out (x:Int):=fun x g=>by
   split
   ·rename_i e;subst e;exact jg _ _ _ C
   ·rename_i e;exact ij _ _ _ _ e
  have D:=pY out u (rd out (v:Int)+1) C (by rw[<-jL];exact k) (by omega);have m:∀x:Nat,x<n->0<=rd out (x:Int)->rd (out.set u (rd out (v:Int)+1)) (x:Int)=rd out (x:Int):=fun x g i=>by
   rw[e2 x g,if_neg (fun e=>by subst e;omega)]
  have o:∀x,x∈Q->rd (out.set u (rd out (v:Int)+1)) (x:Int)=rd out (x:Int):=fun x g=>m x (h.qv x g).1 (by have:=(h.qv x g).2;omega)
  refine⟨B,r,D,by rw[List.length_set];exact h.len,?_,fun x g=>?_,fun x g=>?_,fun x g=>?_,?_,fun x g=>?_,hd,fun x g H i=>?_,fun x g i hn y j l hex=>?_⟩
  ·rw[ij _ _ _ _ (fun e=>by subst e;have:=h.q0;omega)];exact h.q0
  ·rw[e2 x g];split
   ·omega
   ·exact h.lo x g
  ·rw[e2 x g,D];split
   ·have:=h.hi v z;omega
   ·have:=h.hi x g;omega
  ·rcases List.mem_append.1 g with g|g
   ·exact⟨(h.qv x g).1,by rw[o x g];exact(h.qv x g).2⟩
   ·obtain rfl:=List.mem_singleton.1 g
    exact⟨hu,by rw[e2 x hu,if_pos rfl];omega⟩
  ·refine List.pairwise_append.2 ⟨h.mo.imp_of_mem fun {a b} p hb I=>by rw[o a p,o b hb];exact I,by simp,fun a p b hb=>?_⟩
   obtain rfl:=List.mem_singleton.1 hb;rw[o a p,e2 b hu,if_pos rfl];have:=h.top a (h.qv a p).1;omega
  ·rw[e2 x g];split
   ·omega
   ·exact h.top x g
  ·by_cases e:u=x
   ·subst e
    exact⟨v,z,G,by rw[r];omega,by rw[r,e2 u hu,if_pos rfl]⟩
   ·rw[e2 x g,if_neg e] at i⊢
    obtain⟨y,s,J,w,K⟩:=h.back x g H i;exact⟨y,s,J,by rw[m y s w];exact w,by rw[m y s w];exact K⟩
  ·have L:u≠x:=fun e=>hn (List.mem_append.2 (.inr (List.mem_singleton.2 e.symm)))
   rw[e2 x g,if_neg L] at i⊢;by_cases E:y=u
   ·subst E
    rw[e2 y j,if_pos rfl];by_cases F:x=v
    ·rw[F];omega
    ·have:=h.jM x g i (fun hm=>hn (List.mem_append.2 (.inl hm))) y j l (fun f=>F f.1)
     omega
   ·have:=h.jM x g i (fun hm=>hn (List.mem_append.2 (.inl hm))) y j l (fun f=>hex ⟨f.1,f.2,E⟩)
    rw[m y j this.1];exact this
end Go.Proofs.YtffdiakgjakngaaGreat.P
namespace Go.Proofs.YtffdiakgjakngaaGreat.P
open Go Go.RowKit Go.Proofs.YtffdiakgjakngaaGreatW.PrintWords Go.Proofs.YtffdiakgjakngaaGreatW.PrintLast Go.Proofs.YtffdiakgjakngaaGreatW.PrintMore
set_option linter.unusedVariables false
set_option linter.unusedSimpArgs false
set_option maxHeartbeats 8000000
set_option maxRecDepth 100000
def cn (e b:Nat) (ds:List Deferred) (w:World):Prop:=∃a:List Nat,ds=a.map (fun D=>{target:=.collected D,args:=#[]})∧a.Nodup∧∀D,D∈a->e<=D∧D<b∧w.heap[D]? =some (.deferred (some []))
theorem cn.nil (a b:Nat) (w:World):cn a b [] w:=⟨[],rfl,List.nodup_nil,fun _ h=>by cases h⟩
theorem cn.ik {g b:Nat} {ds:List Deferred} {w w':World} (h:cn g b ds w) (hk:∀D,D<b->w.heap[D]? =some (.deferred (some []))->w'.heap[D]? =some (.deferred (some []))):cn g b ds w':=by
 obtain⟨i,h1,j,a⟩:=h;exact⟨i,h1,j,fun D e=>⟨(a D e).1,(a D e).2.1,hk D (a D e).2.1 (a D e).2.2⟩⟩
theorem cn.below {a b:Nat} {ds:List Deferred} {w w':World} (h:cn a b ds w) (hb:Below w.heap.size w w'):cn a b ds w':=
 h.ik fun D _ e=>(hb.block D (Array.getElem?_eq_some_iff.1 e).1).trans e
theorem cn.bk {a b l:Nat} {ds:List Deferred} {w w':World} (h:cn a b ds w) (hb:Bk l w w') (e:b<=l):cn a b ds w':=
 h.ik fun D g hd=>(hb.heap D (by omega)).trans hd
theorem cn.set {a b:Nat} {ds:List Deferred} {w:World} (h:cn a b ds w) {p:Addr} {cs:Array Value} {t:TypeId} {fr:Nat×Nat} (hp:w.heap[p.block]? =some (.cells cs t fr)) (v:Value):cn a b ds (w.setCell p v):=
 h.ik fun D _ hd=>by
  rw[Below.heap_setCell _ _ _ _ (fun e=>by rw[e,hp] at hd;cases hd)];exact hd
theorem cn.push {a b D:Nat} {ds:List Deferred} {w:World} (h:cn a b ds w) (g:a<=D) (hb:b<=D) (hd:w.heap[D]? =some (.deferred (some []))):cn a (D+1) ({target:=.collected D,args:=#[]}::ds) w:=by
 obtain⟨i,h1,j,e⟩:=h;refine⟨D::i,by rw[h1];rfl,List.nodup_cons.2 ⟨fun hm=>by have:=(e D hm).2.1;omega,j⟩,fun D' k=>?_⟩;rcases List.mem_cons.1 k with rfl|hm
 ·exact⟨g,by omega,hd⟩
 ·have:=e D' hm
  exact⟨this.1,by omega,this.2.2⟩
inductive fj (b:Nat):World->World->Prop
 |refl (w:World):fj b w w
 |step {w w':World} (D:Nat) (h:w.heap[D]? =some (.deferred (some []))) (hb:b<=D) (a:fj b (w.putObj D (.deferred none)) w'):fj b w w'
theorem fj.kf {b:Nat} {w w':World} (h:fj b w w'):Below b w w':=by
 induction h with
 |refl w=>exact Below.refl _ _
 |step D h hb _ a=>exact(Bk.below (l:=D) ⟨_,_,h,rfl,rfl⟩ b hb).trans a
theorem fj.cells {b:Nat} {w w':World} (h:fj b w w') {k:Nat} {cs:Array Value} {t:TypeId} {fr:Nat×Nat} (hk:w.heap[k]? =some (.cells cs t fr)):w'.heap[k]? =some (.cells cs t fr):=by
 induction h with
 |refl w=>exact hk
 |step D h hb _ a=>exact a (Bk.cells (l:=D) ⟨_,_,h,rfl,rfl⟩ hk)
theorem fj.size {b:Nat} {w w':World} (h:fj b w w'):w'.heap.size=w.heap.size:=by
 induction h with
 |refl w=>rfl
 |step D h hb _ a=>rw[a];simp[World.putObj]
theorem fj.R {α:Type} {d:Kd α} {e base b:Nat} {ok:Nat->Prop} {v:Value} {xs:List α} {A B:World} (h:fj b A B) (g:d.R e A base ok v xs):d.R e B base ok v xs:=
 Kd.aV (Kd.eU (Kd.eC g) (fun k hk=>by obtain⟨_,_,_,q,_,cells,a⟩:=hk;exact(h.cells a).trans a.symm)) (fun k hk=>hk.1)
theorem tC {F:Fence} {n:Nat} {P:Program} {fn:Func} {R:Ending->World->Prop} {tm:Array Value} {g:Nat}:∀(a:List Nat) (w:World),a.Nodup->(∀D,D∈a->g<=D∧w.heap[D]? =some (.deferred (some [])))->
  (∀w',fj g w w'->∃v,(results fn tm).run P w'= .ok v w'∧R (.returned v) w')->LeavesInM F n P fn tm R (a.map (fun D=>{target:=.collected D,args:=#[]})) .returning w
 |[],w,_,_,h=>by
  obtain⟨v,h1,l⟩:=h w (fj.refl w);exact⟨_,h1,l⟩
 |D::a,w,hn,i,h=>by
  have b:=i D (List.mem_cons_self ..);have j:=List.nodup_cons.1 hn;refine⟨by simp,.inl ⟨_,_,rfl,run_takeDeferred b.2,tC a _ j.2 (fun D' k=>?_) fun w' m=>h w' (fj.step D b.2 b.1 m)⟩⟩;have h1:=i D' (List.mem_cons_of_mem _ k);exact⟨h1.1,(World.putObj_heap_other (fun e=>j.1 (by rw[<-e];exact k))).trans h1.2⟩
theorem tD {F:Fence} {n:Nat} {P:Program} {fn:Func} {R:Ending->World->Prop} {tm:Array Value} {ds:List Deferred} {a b:Nat} {w:World} (i:cn a b ds w)
  (h:∀w',fj a w w'->∃v,(results fn tm).run P w'= .ok v w'∧R (.returned v) w'):bodyPostM F n P fn R .ret {tmps:=tm,defers:=ds} w∧bodyPostM F n P fn R .normal {tmps:=tm,defers:=ds} w:=by
 obtain⟨j,rfl,k,e⟩:=i;have:=tC (F:=F) (n:=n) (P:=P) (fn:=fn) (R:=R) (tm:=tm) j w k (fun D g=>⟨(e D g).1,(e D g).2.2⟩) h;exact⟨this,this⟩
def kg (e:Nat) (J:Nat->Array Value->World->Prop) (n:Nat) (a:Act) (w:World):Prop:=(∃n',n'<n∧J n' a.tmps w)∧∃b,b<=w.heap.size∧cn e b a.defers w
theorem kg.intro {a:Nat} {J:Nat->Array Value->World->Prop} {n:Nat} {tm:Array Value} {ds:List Deferred} {w:World} (k:Nat) (h1:k<n) (e:J k tm w) (b:Nat) (hb:b<=w.heap.size) (g:cn a b ds w):kg a J n {tmps:=tm,defers:=ds} w:=⟨⟨k,h1,e⟩,b,hb,g⟩
theorem tE {F:Fence} {h:Nat} {P:Program} {Q:Exit->Act->World->Prop} {tm:Array Value} {ds:List Deferred} {w:World} {c:Code} (e:Nat) (I:Nat->Array Value->World->Prop) (i:Nat) (l:I i tm w) (b:Nat) (hb:b<=w.heap.size) (g:cn e b ds w)
  (round:∀n tm w,I n tm w->∀ds b,b<=w.heap.size->cn e b ds w->∀(J:Nat->Array Value->World->Prop) (K:Act->World->Prop),(∀k j w',I k j w'->J k j w')->(∀a' w',kg e J n a' w'->K a' w')->c.wpIn F h P (Exit.then K Q) {tmps:=tm,defers:=ds} w):
  (Code.loop c).wpIn F h P Q {tmps:=tm,defers:=ds} w:=by
 refine wpIn_loop_ghost (fun k a w=>I k a.tmps w∧∃b,b<=w.heap.size∧cn e b a.defers w) i ⟨l,b,hb,g⟩ ?_;rintro n ⟨tm,ds⟩ w ⟨m,b,hb,g⟩;exact round n tm w m ds b hb g I _ (fun _ _ _ q=>q) fun a' w' ⟨⟨n',h1,o⟩,p⟩=>⟨n',h1,o,p⟩
end Go.Proofs.YtffdiakgjakngaaGreat.P
namespace Go.Proofs.YtffdiakgjakngaaGreat.P
open Go.RowKit Go.Proofs.YtffdiakgjakngaaGreatW.PrintWords Go.Proofs.YtffdiakgjakngaaGreatW.PrintLast Go.Proofs.YtffdiakgjakngaaGreatW.PrintMore
set_option linter.unusedVariables false
set_option linter.unusedSimpArgs false
set_option maxHeartbeats 8000000
set_option maxRecDepth 100000
section
attribute [local go_sem] Oper.semAt_some
def dP (B:Nat->Bool) (L:List (Int×Int)):Int:=L.foldl (fun s x=>if B x.1.toNat=true then wrap64 (s+x.2) else s) 0
theorem pZ (B:Nat->Bool) (L:List (Int×Int)) (x:Int×Int):dP B (L++[x])=if B x.1.toNat=true then wrap64 (dP B L+x.2) else dP B L:=by simp[dP,List.foldl_append]
end
section
attribute [local go_sem] Oper.semAt_some
theorem AQ (g n:Nat) (A0:Option Addr) (c0:Nat) (E:List S83) (q:Int) (dv Q:Value) (R:Int) (v:Nat) (lb:Array Value) (B:Nat->Bool) (w:World) (ab:Kd.C aK w A0 E.length E) (hE:dV n E) (hn:n<=1000) (hv:v<n) (i:gw w g n (.slice A0 E.length c0) q dv Q R)
  (hB:∀(W:World) (u:Int),Below w.heap.size w W->0<=u->u<n->Calls Tryz.prog 195 (#[.int .i64 u]++lb) W fun e w'=>e= .returned (.bool (B u.toNat))∧Below W.heap.size W w'):
  Calls Tryz.prog 168 #[.pointer (some ⟨g,0,none⟩),.int .i64 v,.func (.func 195) #[] lb] w fun e w'=>e= .returned (.int .i64 (dP B (b8 E v E.length)))∧Below w.heap.size w w':=by
 have be:=Aside0.mk hB;have HE:=Aside0.mk hE;have ak:=Aside0.mk i;clear hB hE i;refine(callsIn_wide (n:=10)).1 ?_;refine callsIn_of_wp_marks Tryz.func168 rfl trivial ?_ rfl;simp only[Tryz.ntmps168,List.size_toArray,List.length_cons,List.length_nil,Nat.reduceAdd,Nat.reduceSub,Array.replicate_succ,Array.replicate_zero,List.push_toArray,List.append_toArray,List.nil_append,List.cons_append];gi_wp2_with (refine⟨trivial,?_⟩;gi_at_call 194;refine(callsIn_wide.2 (lr g v _)).mono ?_;rintro e w3 ⟨rfl,rfl⟩)
 obtain⟨p,am⟩:∃o:Obj,o= .cells #[.func (.func 195) #[] lb] 121:=⟨_,rfl⟩;obtain⟨on,an⟩:∃o:Obj,o= .cells #[.int .i64 0] 3:=⟨_,rfl⟩;obtain⟨r,ap⟩:∃o:Obj,o= .cells #[.pointer (some ⟨g,0,none⟩)] 135:=⟨_,rfl⟩;obtain⟨y,av⟩:∃o:Obj,o= .cells #[.int .i64 v] 3:=⟨_,rfl⟩;have Z0:=heap_alloc_new w p;have S:=heap_alloc_new (w.alloc p) on;have T:=heap_alloc_new ((w.alloc p).alloc on) r;have U:=heap_alloc_new (((w.alloc p).alloc on).alloc r) y;simp only[World.size_alloc] at S T U;have H0:=Aside0.mk ((aw (aw (aw Z0 on) r) y).trans (by rw[am]:_=some (.cells #[.func (.func 195) #[] lb] 121 (0,0))));have H1:=Aside0.mk ((aw (aw S r) y).trans (by rw[an]:_=some (.cells #[.int .i64 0] 3 (0,0))));have H2:=Aside0.mk ((aw T y).trans (by rw[ap]:_=some (.cells #[.pointer (some ⟨g,0,none⟩)] 135 (0,0))));have H3:=Aside0.mk (U.trans (by rw[av]:_=some (.cells #[.int .i64 v] 3 (0,0))));have z:=Aside0.mk (aq (aq (aq (aq (Below.refl w.heap.size w) p) on) r) y);have aP:Aside0 (gw ((((w.alloc p).alloc on).alloc r).alloc y) g n (.slice A0 E.length c0) q dv Q R):=⟨aG ak.out z.out⟩;have b5:g<w.heap.size:=ay ak.out;have bg:=Aside0.mk (Kd.al ab z.out);clear Z0 S T U;subst am an ap av;have bi:=z.out.size;have bk:((((w.alloc (.cells #[.func (.func 195) #[] lb] 121)).alloc (.cells #[.int .i64 0] 3)).alloc (.cells #[.pointer (some ⟨g,0,none⟩)] 135)).alloc (.cells #[.int .i64 v] 3)).heap.size=w.heap.size+4:=by simp
 generalize ((((w.alloc (.cells #[.func (.func 195) #[] lb] 121)).alloc (.cells #[.int .i64 0] 3)).alloc (.cells #[.pointer (some ⟨g,0,none⟩)] 135)).alloc (.cells #[.int .i64 v] 3))=j at H0 H1 H2 H3 z aP bg bi bk⊢;refine ie (σ:=Unit) (α:=Int×Int) (F:=Fence.wide) (n:=10) rfl (by decide) (gf:=207) (lb:=#[.pointer (some ⟨w.heap.size+1+1,0,none⟩),.pointer (some ⟨w.heap.size+1+1+1,0,none⟩)]) rfl trivial (enters_of Tryz.func207 (by kernel_rfl) rfl)
  (fun o=>nQ (w.heap.size+1+1) (w.heap.size+1+1+1) g n A0 c0 E q dv Q R v w _ ab HE.out hn hv (aq (aq z.out _) _) (aw (aw H2.out _) _) (aw (aw H3.out _) _) (aw (aw aP.out _) _)) (fun _=>rfl)
  (fun _=>True) ?ei ?st ?ar
  (fun _ pre W=>j.heap.size<=W.heap.size∧W.heap[w.heap.size]? =some (.cells #[.func (.func 195) #[] lb] 121 (0,0))∧W.heap[w.heap.size+1]? =some (.cells #[.int .i64 (dP B pre)] 3 (0,0))∧Below w.heap.size w W) (fun _ _ _ _=>False)
  ?is (fun _ _ _ _ _ _ h _=>h) ?ib (fun _ _ _ _ _ h _=>h) ?kt ?h0 ?a1 ?assign ?body ?done (fun _ _ _ _ _ _ _ h=>h.elim)
 case assign=>
  intro l x W K hK;gi_wp2;exact hK
 case ei=>
  intro o s W1 h;exact⟨trivial,by rw[h];exact bX.refl _ _⟩
 case st=>intro s A B _ h;exact cN h
 case ar=>intro s x A B _ h;exact cN h.2
 case is=>
  rintro s pre A B _ ⟨H,h1,V,X⟩ i;exact⟨Nat.le_trans H i.size,aG h1 i,aG V i,aU X i⟩
 case ib=>
  rintro s pre A B ⟨H,h1,V,X⟩ hb;exact⟨by rw[hb.size];exact H,hb.cells h1,hb.cells V,X.trans (hb.below w.heap.size (by omega))⟩
 case kt=>
  intro s A B C D N aS a0;refine⟨fun aQ=>((N.below w.heap.size (by omega)).trans (aS.1 (by rw[N.size];exact aQ))).trans (a0.below w.heap.size (by omega)),fun k hk I=>?_⟩;have a2:k≠j.heap.size+1:=by rcases hk with rfl|rfl|rfl<;>omega
  exact(a0.heap k a2).trans ((aS.2 k hk (by rw[N.size];exact I)).trans (N.heap k a2))
 case h0=>
  rintro o s W1 rfl;exact⟨by simp;omega,aw (aw H0.out _) _,aw (aw H1.out _) _,aq (aq z.out _) _⟩
 case body=>
  rintro l s pre ⟨u,m⟩ Wb W1 W _ ⟨H,i1,i2,i3⟩ ⟨Y,J⟩ b0 b;have Z:=Aside0.mk (b.cells (aG i1 J));have L:=Aside0.mk (b.cells (aG i2 J));have b3:=Aside0.mk ((aU i3 J).trans (b.below w.heap.size (by omega)));have b':j.heap.size<=W.heap.size:=by have:=b.size;have:=J.size;omega
  clear i1 i2 i3 J b b0;simp only at Y;have ca:W.cell? ⟨w.heap.size,0,none⟩=some (.func (.func 195) #[] lb):=(ao Z.out 0).trans rfl;have O:=Aside0.mk (be.out W u b3.out Y.1 Y.2.1);have M:=Aside0.mk (pZ B pre (u,m));generalize dP B pre=s0 at L M;cases P:B u.toNat with
  |true=>
   rw[P] at O M;clear P;gi_wp2_with (refine⟨trivial,?_⟩;gi_at_call 195;refine(callsIn_wide.2 O.out).mono ?_;rintro e w5 ⟨rfl,G⟩;have a:=Aside0.mk G;have D2:=Aside0.mk (aG L.out G);have c5:w5.cell? ⟨w.heap.size+1,0,none⟩=some (.int .i64 s0):=(ao D2.out 0).trans rfl;have f5:=bq D2.out 0;clear G)
   have aQ:=a.out.size;refine⟨(cN a.out).trans (fa _ _ (by show w.heap.size+1<j.heap.size;omega)),⟨fun aQ=>Below.setCell (a.out.mono aQ) (by show w.heap.size<=w.heap.size+1;omega) _,fun k hk I=>?_⟩,by simp;omega,?_,?_,Below.setCell (aU b3.out a.out) (by show w.heap.size<=w.heap.size+1;omega) _⟩
   ·rw[Below.heap_setCell _ _ _ _ (by rcases hk with rfl|rfl|rfl<;>(show _≠w.heap.size+1)<;>omega)]
    exact a.out.block k I
   ·rw[Below.heap_setCell _ _ _ _ (by show w.heap.size≠w.heap.size+1;omega)]
    exact aG Z.out a.out
   ·have h:=bE D2.out 0 (.int .i64 (wrap64 (s0+m)))
    rw[M.out];simpa using h
  |false=>
   rw[P] at O M;clear P;gi_wp2_with (refine⟨trivial,?_⟩;gi_at_call 195;refine(callsIn_wide.2 O.out).mono ?_;rintro e w5 ⟨rfl,G⟩;have a:=Aside0.mk G;clear G)
   have aQ:=a.out.size;exact⟨cN a.out,⟨fun aQ=>a.out.mono aQ,fun k hk I=>a.out.block k I⟩,by omega,aG Z.out a.out,by rw[M.out];exact aG L.out a.out,aU b3.out a.out⟩
 case done=>
  rintro s xs W W' _ rfl ⟨H,i1,i2,i3⟩ b a4;have L:=Aside0.mk (b.cells i2);have b3:=Aside0.mk (i3.trans (b.below w.heap.size (by omega)));have a5:=Aside0.mk a4;clear i1 i2 i3 a4;have hc:W'.cell? ⟨w.heap.size+1,0,none⟩=some (.int .i64 (dP B (b8 E v E.length))):=(ao L.out 0).trans rfl;gi_wp2_with fail
  have b4:Bk j.heap.size W' (W'.putObj j.heap.size (.deferred none)):=⟨_,_,a5.out,rfl,rfl⟩;exact iK (D:=j.heap.size) rfl a5.out (results_tmp rfl _ _ _) ⟨rfl,b3.out.trans (b4.below w.heap.size (by omega))⟩
end
section
theorem p4 {b:Nat->Bool} {u:Nat}:∀(l:List Nat),b u=true->cB b l u=true:=by
 intro l;induction l generalizing b with
 |nil=>exact id
 |cons v l a=>intro h;exact a (b:=dO b v) (by unfold dO;split<;>simp_all)
theorem p5 (b:Nat->Bool) (v:Nat) (l:List Nat):cB b (v::l)=cB (dO b v) l:=rfl
section
variable {n:Nat} {c:(Nat->Bool)->Nat->Bool}
theorem p9 (g:∀b v,c b v=true->b v=false):∀(f:Nat) (b:Nat->Bool),dD n b<=f->∀v,v<n->c (cB b (fi n c f b)) v=false:=by
 intro f;induction f with
 |zero=>
  intro b h v e;show c b v=false
  cases i:c b v with
  |false=>rfl
  |true=>
   have:=mh e (g b v i);omega
 |succ f j=>
  intro b h v e;cases a:je n c b with
  |none=>
   simp only[fi,a];unfold je at a;rw[List.find?_eq_none] at a;have:=a v (List.mem_range.2 e);simpa [cB] using this
  |some v0=>
   have h1:=List.find?_some a;have k:=List.mem_of_find?_eq_some a;have l:=mh (List.mem_range.1 k) (g b v0 (by simpa using h1));simp only[fi,a,p5];exact j (dO b v0) (by omega) v e
theorem AR (hm:∀(b b':Nat->Bool) v,(∀u,b u=true->b' u=true)->b' v=false->c b v=true->c b' v=true) (S:Nat->Bool):
  ∀(f:Nat) (b:Nat->Bool),(∀v,S v=true->b v=false)->(∃v,v<n∧S v=true∧cB b (fi n c f b) v=true)->∃v,v<n∧S v=true∧c (fun u=> !S u) v=true:=by
 intro f;induction f with
 |zero=>
  rintro b hb ⟨v,j,a,h⟩;have:=hb v a;simp[fi,cB,this] at h
 |succ f k=>
  rintro b hb ⟨v,j,a,h⟩;cases g:je n c b with
  |none=>
   simp only[fi,g] at h;have:=hb v a;simp[cB,this] at h
  |some v0=>
   have h1:=List.find?_some g;have l:=List.mem_of_find?_eq_some g;simp only[fi,g,p5] at h;cases i:S v0 with
   |true=>
    refine⟨v0,List.mem_range.1 l,i,hm b _ v0 (fun u hu=>?_) (by simp[i]) (by simpa using h1)⟩;cases m:S u with
    |true=>exact absurd hu (by simp[hb u m])
    |false=>rfl
   |false=>
    refine k (dO b v0) (fun u hu=>?_) ⟨v,j,a,h⟩;unfold dO;rw[if_neg (fun e=>by subst e;rw[i] at hu;cases hu)];exact hb u hu
theorem AS (g:∀b v,c b v=true->b v=false) (hm:∀(b b':Nat->Bool) v,(∀u,b u=true->b' u=true)->b' v=false->c b v=true->c b' v=true) (b:Nat->Bool):
  (∀v,v<n->cB b (eu n c b) v=true)↔∀S:Nat->Bool,(∃v,v<n∧S v=true)->(∀v,S v=true->b v=false)->∃v,v<n∧S v=true∧c (fun u=> !S u) v=true:=by
 constructor
 ·rintro h S ⟨v,a,i⟩ hb
  exact AR hm S (dD n b) b hb ⟨v,a,i,h v a⟩
 ·intro h v a
  cases j:cB b (eu n c b) v with
  |true=>rfl
  |false=>
   obtain⟨u,hu,l,e⟩:=h (fun u=> !cB b (eu n c b) u) ⟨v,a,by simp[j]⟩ (fun u hu=>by
    cases k:b u with
    |false=>rfl
    |true=>simp[p4 _ k] at hu)
   have:=p9 (n:=n) g (dD n b) b (Nat.le_refl _) u hu;simp only[Bool.not_not] at e;rw[show eu n c b=fi n c (dD n b) b from rfl] at e;rw[this] at e;cases e
end
theorem tF {t:Nat->Nat->Int} (a:∀i j,0<=t i j) {b b':Nat->Bool} (h:∀u,b u=true->b' u=true) (v:Nat):∀u,dr t b v u<=dr t b' v u
 |0=>Int.le_refl _
 |u+1=>by
  have h1:=tF a h v u;have e:=h u;have g:=a v u;simp only[dr];by_cases hb:b u=true
  ·rw[if_pos hb,if_pos (e hb)];omega
  ·rw[if_neg hb]
   split<;>omega
def nR (n:Nat) (t:Nat->Nat->Int) (q:Nat) (c:Nat->Int):Prop:=∀S:Nat->Bool,(∃v,v<n∧S v=true)->S q=false->∃v,v<n∧S v=true∧c v<dr t (fun u=> !S u) v n
def fJ (n:Nat) (t:Nat->Nat->Int) (q:Nat) (l:List Int):Bool:=(List.range n).all (cB (cC q) (eu n (bY n t l) (cC q)))
theorem p_ {n:Nat} {t:Nat->Nat->Int} (m:∀i j,0<=t i j) (q:Nat) (l:List Int):fJ n t q l=true↔nR n t q (fun v=>rd l v):=by
 have h:=AS (n:=n) (c:=bY n t l) (fun b v h=>mi b v h) (fun b b' v hb a g=>by
  unfold bY at g⊢;simp only[Bool.and_eq_true,decide_eq_true_eq] at g⊢;exact⟨by simp[a],Int.lt_of_lt_of_le g.2 (tF m hb v n)⟩) (cC q)
 unfold fJ nR;rw[List.all_eq_true];constructor
 ·intro h1 S hS o
  obtain⟨v,a,k,g⟩:=h.1 (fun v a=>h1 v (List.mem_range.2 a)) S hS (fun v a=>by
   unfold cC;rw[if_neg (fun e=>by subst e;rw[o] at a;cases a)])
  unfold bY at g;simp only[Bool.and_eq_true,decide_eq_true_eq] at g;exact⟨v,a,k,g.2⟩
 ·intro h1 v a
  refine h.2 (fun S hS hb=>?_) v (List.mem_range.1 a);obtain⟨v,a,k,g⟩:=h1 S hS (by
   cases p:S q with
   |false=>rfl
   |true=>have:=hb q p;simp[cC] at this)
  refine⟨v,a,k,?_⟩;unfold bY;simp[k,g]
def valOf (n:Nat) (t:Nat->Nat->Int) (v:Nat):Int:=dr t (fun u=> !decide (u=v)) v n
theorem nR.lt {n:Nat} {t:Nat->Nat->Int} {q:Nat} {c:Nat->Int} (h:nR n t q c) {v:Nat} (a:v<n) (b:v≠q):c v<valOf n t v:=by
 obtain⟨u,hu,g,i⟩:=h (fun u=>decide (u=v)) ⟨v,a,by simp⟩ (by simpa using fun e=>b e.symm);have:u=v:=by simpa using g
 subst this;exact i
end
theorem AT (gb a cr n:Nat) (B:Nat->Bool) (ok:Nat->Prop) (base:Nat) (W:World) (u:Int) (hb:W.heap[gb]? =some (.cells #[.slice (some ⟨a,0,none⟩) n cr] 43 (0,0))) (g:Kd.bool.R 4 W base ok (.slice (some ⟨a,0,none⟩) n cr) ((List.range n).map B)) (h:0<=u) (hn:u<n):
  Calls Tryz.prog 195 #[.int .i64 u,.pointer (some ⟨gb,0,none⟩)] W fun e w'=>e= .returned (.bool (B u.toNat))∧Below W.heap.size W w':=by
 have i:W.cell? ⟨gb,0,none⟩=some (.slice (some ⟨a,0,none⟩) n cr):=(ao hb 0).trans rfl;have b:=(Kd.bJ false g u h hn).1;have e:bH false ((List.range n).map B) u=B u.toNat:=by
  obtain⟨m,rfl⟩:=Int.eq_ofNat_of_zero_le h;have:m<n:=by omega
  simp[bH,List.getD_eq_getElem?_getD,List.getElem?_map,List.getElem?_range this]
 rw[e] at b;have b:W.cell? ⟨a,u.toNat,none⟩=some (.bool (B u.toNat)):=b;clear g hb e;go_enter Tryz.func195,Tryz.ntmps195
 go_wp2;go_ret;exact⟨rfl,Below.refl _ _⟩
theorem AU (n:Nat) (B:Nat->Bool) (v:Nat):((List.range n).map B).set v true=(List.range n).map (dO B v):=by
 refine List.ext_getElem (by simp) fun i h1 a=>?_
 rw[List.getElem_set];simp only[List.getElem_map,List.getElem_range];unfold dO;by_cases e:v=i
 ·subst e;simp
 ·rw[if_neg e,if_neg (fun h=>e h.symm)]
theorem AV (n q:Nat):(List.replicate n false).set q true=(List.range n).map (cC q):=by
 refine List.ext_getElem (by simp) fun i h1 a=>?_
 rw[List.getElem_set];simp only[List.getElem_map,List.getElem_range,List.getElem_replicate];unfold cC;by_cases e:q=i
 ·subst e;simp
 ·rw[if_neg e,if_neg (fun h=>e h.symm)]
theorem AW {n:Nat} {c:(Nat->Bool)->Nat->Bool} {b F:Nat->Bool} (hm:∀(b b':Nat->Bool) v,(∀u,u<n->b u=true->b' u=true)->b' v=false->c b v=true->c b' v=true) (hF:∀v,v<n->c F v=false) (hb:∀v,v<n->b v=true->F v=true):
  ∀(f:Nat) (b:Nat->Bool),(∀v,v<n->b v=true->F v=true)->∀v,v<n->cB b (fi n c f b) v=true->F v=true:=by
 intro f;induction f with
 |zero=>intro b hb v a h;exact hb v a h
 |succ f j=>
  intro b hb v a h;cases g:je n c b with
  |none=>simp only[fi,g] at h;exact hb v a h
  |some v0=>
   have h1:=List.find?_some g;have l:=List.mem_range.1 (List.mem_of_find?_eq_some g);simp only[fi,g,p5] at h;refine j (dO b v0) (fun u hu i=>?_) v a h;unfold dO at i;by_cases e:u=v0
   ·subst e
    cases k:F u with
    |true=>rfl
    |false=>have:=hm b F u hb k (by simpa using h1);rw[hF u hu] at this;cases this
   ·rw[if_neg e] at i;exact hb u hu i
def bp (n:Nat) (t:Nat->Nat->Int) (q:Nat) (d:List Int):Nat->Bool:=cB (cC q) (eu n (bY n t d) (cC q))
theorem tG {n:Nat} {t:Nat->Nat->Int} (e:∀i j,0<=t i j) {d:List Int} (b b':Nat->Bool) (v:Nat) (h:∀u,u<n->b u=true->b' u=true) (g:b' v=false) (a:bY n t d b v=true):bY n t d b' v=true:=by
 unfold bY at a⊢;simp only[Bool.and_eq_true,decide_eq_true_eq] at a⊢;have hf:∀m,m<=n->dr t b v m<=dr t b' v m:=by
  intro m;induction m with
  |zero=>intro _;exact Int.le_refl _
  |succ m k=>
   intro hm;have h1:=k (by omega);have o:=e v m;have l:=h m (by omega);simp only[dr];by_cases hb:b m=true
   ·rw[if_pos hb,if_pos (l hb)];omega
   ·rw[if_neg hb];split<;>omega
 exact⟨by simp[g],Int.lt_of_lt_of_le a.2 (hf n (Nat.le_refl _))⟩
theorem AX {n:Nat} {t:Nat->Nat->Int} (k:∀i j,0<=t i j) {q:Nat} {d:List Int} {B:Nat->Bool} (l:B q=true) (m:∀v,v<n->B v=true->bp n t q d v=true) (o:∀v,v<n->bY n t d B v=false):∀v,v<n->bp n t q d v=B v:=by
 intro v a;cases g:B v with
 |true=>exact m v a g
 |false=>
  cases hF:bp n t q d v with
  |false=>rfl
  |true=>
   have h:∀u,u<n->cC q u=true->B u=true:=fun u _ hu=>by
    unfold cC at hu;by_cases e:u=q
    ·rw[e];exact l
    ·rw[if_neg e] at hu;cases hu
   have:=AW (b:=cC q) (fun b b' v h1 p r=>tG k b b' v h1 p r) o h _ (cC q) h v a hF;rw[g] at this;cases this
theorem AY {n:Nat} {t:Nat->Nat->Int} (g:∀i j,0<=t i j) {q:Nat} {d:List Int} {B:Nat->Bool} (a:∀v,v<n->B v=true->bp n t q d v=true) {v:Nat} (m:v<n) (k:bY n t d B v=true):∀u,u<n->dO B v u=true->bp n t q d u=true:=by
 intro u hu h;unfold dO at h;by_cases e:u=v
 ·subst e
  cases hF:bp n t q d u with
  |true=>rfl
  |false=>
   have h1:=p9 (n:=n) (c:=bY n t d) (fun b v h=>mi b v h) (dD n (cC q)) (cC q) (Nat.le_refl _) u hu;have l:=tG g B (bp n t q d) u a hF k;rw[show bY n t d (cB (cC q) (fi n (bY n t d) (dD n (cC q)) (cC q))) u=bY n t d (bp n t q d) u from rfl,l] at h1;cases h1
 ·rw[if_neg e] at h;exact a u hu h
theorem AZ (g n:Nat) (A0:Option Addr) (c0:Nat) (E:List S83) (q:Nat) (Ad:Option Addr) (cd:Nat) (d:List Int) (sv:Value) (er:Int) (w:World) (c5:Kd.C aK w A0 E.length E) (hE:dV n E) (hn:n<=1000) (hq:q<n) (aO:gw w g n (.slice A0 E.length c0) q (.slice Ad d.length cd) sv er)
  (hd:Kd.C (Kd.int .i64) w Ad d.length d) (b6:d.length=n) (b_:∀(B:Nat->Bool) (v:Nat),v<n->B v=false->dP B (b8 E v E.length)=dr (aj E) B v n):
  Calls Tryz.prog 170 #[.pointer (some ⟨g,0,none⟩)] w fun e w'=>∃G cl,e= .returned (.tuple #[.slice (some ⟨G,0,none⟩) n cl,.bool ((List.range n).any fun v=> !bp n (aj E) q d v)])∧Kd.bool.R 4 w' w.heap.size (fun _=>True) (.slice (some ⟨G,0,none⟩) n cl) ((List.range n).map fun v=> !bp n (aj E) q d v)∧Below w.heap.size w w':=by
 have ek:=Tryz.underlying188;have hu:=Tryz.underlying24;have c6:=Aside0.mk b_;have HE:=Aside0.mk hE;have ar:=Aside0.mk aO;have HD:=Aside0.mk hd;have s0:w.cell? ⟨g,0,none⟩=some (.int .i64 n):=(ao aO 0).trans rfl;have cc:=b6;have c7:=Aside0.mk cc;clear b_ hE aO hd b6 cc;have ce:(0:Int)<=(n:Int):=by omega
 go_enter Tryz.func170,Tryz.ntmps170
 go_wp2_with (first|((with_reducible refine aH (N:=16) rfl ?_);refine Kd.jx Kd.bool _ 4 rfl (N:=16) rfl 43 _ _ rfl (n:Int) rfl rfl Tryz.underlying43 (.bool false) 1 l4 rfl (by decide) (by omega) false (ok:=fun _=>True) (okp:=fun _=>True) rfl (fun _ hk=>hk) trivial ce (by simp;omega) (Below.refl _ _) (Nat.le_refl _) ?_;intro v1 w1 H hb aP aS;rw[Int.toNat_natCast] at H;obtain⟨l,cr,K,cf,a0, -⟩:=Kd.fg H (by rw[List.length_replicate];omega);rw[List.length_replicate] at K;subst K;have ch:=Aside0.mk H;have a1:=Aside0.mk hb;clear H hb aP aS))
 have c8:=a1.out.size;have L:=Aside0.mk (heap_alloc_new w1 (.cells #[.slice (some ⟨l,0,none⟩) n cr] 43));have T:=Aside0.mk (Kd.aI ch.out (.cells #[.slice (some ⟨l,0,none⟩) n cr] 43));have M:=Aside0.mk (aq a1.out (.cells #[.slice (some ⟨l,0,none⟩) n cr] 43));have a2:=Aside0.mk (aG ar.out M.out);have ci:=Aside0.mk (Kd.al HD.out M.out);have el:g<w.heap.size:=ay ar.out;have c9:l<w1.heap.size:=a0;clear ch a1 a0 s0;generalize w1.alloc (.cells #[.slice (some ⟨l,0,none⟩) n cr] 43)=W2 at L T M a2 ci⊢;generalize w1.heap.size=gb at L c9 c8⊢;have b0:W2.cell? ⟨gb,0,none⟩=some (.slice (some ⟨l,0,none⟩) n cr):=(ao L.out 0).trans rfl;have s2:W2.cell? ⟨g,2,none⟩=some (.int .i64 q):=(ao a2.out 2).trans rfl;obtain⟨o,hf⟩:=Kd.bJ false T.out (q:Int) (by omega) (by omega);rw[Int.toNat_natCast] at o hf;have cj:W2.cell? ⟨l,q,none⟩=some (.bool (bH false (List.replicate n false) q)):=o;have es:(0:Int)<=(q:Int):=by omega
 have ev:(q:Int)<(n:Int):=by omega
 clear o;generalize bH false (List.replicate n false) q=x0 at cj;go_region
 go_wp2;have y:=Kd.cZ T.out (q:Int) true;rw[Int.toNat_natCast,AV] at y;have a3:=Aside0.mk (Kd.a8 y.1);have a4:=Aside0.mk (ff (cI (g:=gb) L.out y.2 (fun e=>by injection e with e;omega)));have a5:=Aside0.mk (bL (Below.setCell (p:=⟨l,q,none⟩) M.out cf (.bool true)));have ht:∀i j,0<=aj E i j:=fun i j=>(HE.out.times i j).1
 have HT:=Aside0.mk ht;have cq:=Aside0.mk (show cC q q=true by simp[cC]);have cs:Aside0 (∀v,v<n->cC q v=true->bp n (aj E) q d v=true):=⟨fun v K h=>p4 _ h⟩;have c':gb≠l:=by omega
 clear y T L a2 M ci b0 s2 cj hf ht;generalize (W2.setCell ⟨l,q,none⟩ (.bool true)).drew=W3 at a3 a4 a5⊢;go_loopg [6] (2*n+2) (fun kq ag wr=>∃(B:Nat->Bool) (b:Bool),ag= .bool b∧Aside0 (B q=true)∧Aside0 (∀v,v<n->B v=true->bp n (aj E) q d v=true)∧Aside0 (b=false->∀v,v<n->bY n (aj E) d B v=false)∧Aside0 (wr.heap[gb]? =some (.cells #[.slice (some ⟨l,0,none⟩) n cr] 43 (0,0)))∧Aside0 (Kd.bool.R 4 wr w.heap.size (fun _=>True) (.slice (some ⟨l,0,none⟩) n cr) ((List.range n).map B))∧Aside0 (Below w.heap.size w wr)∧Aside0 (2*dD n B+(if b=true then 1 else 0)<=kq))
 case atStart=>exact⟨cC q,true,rfl,cq,cs,⟨fun h=>by cases h⟩,a4,a3,a5,⟨by have:=tl n (cC q);simp;omega⟩⟩
 case round=>
  clear cq cs a4 a3 a5;obtain⟨B,b,rfl,I,J,bf,D,F,r,HK⟩:=hrel;have O:=Aside0.mk (aG ar.out r.out);have s0:wr.cell? ⟨g,0,none⟩=some (.int .i64 n):=(ao O.out 0).trans rfl;cases b with
  |true=>
   go_wp2;go_loopg [6,30] (n) (fun kq ag Z wr=>∃(v:Nat) (m:Nat->Bool) (b':Bool),ag= .bool b'∧Z= .int .i64 v∧v<=n∧Aside0 (m q=true)∧Aside0 (∀v,v<n->m v=true->bp n (aj E) q d v=true)∧Aside0 (b'=false->m=B∧∀u,u<v->bY n (aj E) d B u=false)∧Aside0 (dD n m+(if b'=true then 1 else 0)<=dD n B)∧Aside0 (wr.heap[gb]? =some (.cells #[.slice (some ⟨l,0,none⟩) n cr] 43 (0,0)))∧Aside0 (Kd.bool.R 4 wr w.heap.size (fun _=>True) (.slice (some ⟨l,0,none⟩) n cr) ((List.range n).map m))∧Aside0 (Below w.heap.size w wr)∧Aside0 (kq=n-v))
   case atStart=>exact⟨0,B,false,rfl,rfl,by omega,I,J,⟨fun _=>⟨rfl,fun u hu=>by omega⟩⟩,⟨by simp⟩,D,F,r,⟨rfl⟩⟩
   case round=>
    clear O s0 I J bf D F r;obtain⟨v,m,b',rfl,rfl,K,I,J,P,HU,D,F,r,bg⟩:=hrel;by_cases Q:v<n
    ·have dk:(0:Int)<=(v:Int):=by omega
     have dl:(v:Int)<(n:Int):=by omega
     have b0:wr.cell? ⟨gb,0,none⟩=some (.slice (some ⟨l,0,none⟩) n cr):=(ao D.out 0).trans rfl;obtain⟨o,hf⟩:=Kd.bJ false F.out (v:Int) (by omega) (by omega);rw[Int.toNat_natCast] at o hf;have e1:bH false ((List.range n).map m) v=m v:=by simp[bH,List.getD_eq_getElem?_getD,List.getElem?_map,List.getElem?_range Q]
     rw[e1] at o;replace o:wr.cell? ⟨l,v,none⟩=some (.bool (m v)):=o;clear e1;cases V:m v with
     |true=>
      rw[V] at o;have ab:=Aside0.mk V;clear V;go_wp2_with fail
      go_quiet (fail)
      go_wp2;go_roundg (n- (v+1))
      case measure=>rw[bg.out];omega
      case rel=>exact⟨v+1,m,b',rfl,by go_num,by omega,I,J,⟨fun h=>⟨(P.out h).1,fun u hu=>by
       by_cases e:u=v
       ·subst e
        have:=(P.out h).1;have h3:=ab.out;rw[this] at h3;unfold bY;rw[h3];rfl
       ·exact(P.out h).2 u (by omega)⟩⟩,HU,⟨by repeat(first|exact D.out|apply gV|apply ff)⟩,⟨by repeat(first|exact F.out|apply Kd.ba|apply Kd.a8)⟩,⟨by repeat(first|exact r.out|apply bP|apply bL)⟩,⟨rfl⟩⟩
     |false=>
      rw[V] at o;have ab:=Aside0.mk V;have O:=Aside0.mk (aG ar.out r.out);have s3:wr.cell? ⟨g,3,none⟩=some (.slice Ad d.length cd):=(ao O.out 3).trans rfl;have dv:=c7.out;obtain⟨a,ea,hx⟩:=Kd.bG (Kd.al HD.out r.out) v (by omega) (by omega);subst ea;rw[Int.toNat_natCast] at hx;have ey:(v:Int)<(d.length:Int):=by omega
      have e0:=ay D.out;have e3:=Kd.aX F.out l rfl;have e4:=ay O.out;have e5:=World.block_lt_of_cell? _ _ hx;clear V dv;go_wp2_with fail
      go_region_held3 (fun w'=>w'.cell? ⟨gb,0,none⟩=some (.slice (some ⟨l,0,none⟩) n cr)∧w'.cell? ⟨l,v,none⟩=some (.bool false)∧w'.cell? ⟨g,3,none⟩=some (.slice (some a) d.length cd)∧w'.cell? (a.add v)=some (.int .i64 (rd d v)))
       (first|go_keep|(go_split_ands;exact⟨(S.cell (p:=⟨gb,0,none⟩) (by simp;omega)).trans (by go_simp),(S.cell (p:=⟨l,v,none⟩) (by simp;omega)).trans (by go_simp),(S.cell (p:=⟨g,3,none⟩) (by simp;omega)).trans (by go_simp),(S.cell (p:=a.add v) (by simp;omega)).trans (by go_simp)⟩))
       (first|(go_at_call 168;refine(AQ g n A0 c0 E q _ sv er v #[.pointer (some ⟨gb,0,none⟩)] m _ (Kd.al c5 zB) HE.out hn Q (zK O) (fun W u cv d1 d2=>AT gb l cr n m _ _ W u (aG (zK D) cv) (Kd.cp (zR F) cv) d1 d2)).mono ?_;rintro e w5 ⟨rfl,S⟩))
      have U:=zb D S;have X:=aR F S;have am:=zS r S;have cx:=Aside0.mk (c6.out m v Q ab.out);have c1:bY n (aj E) d m v=decide (rd d v<dP m (b8 E v E.length)):=by unfold bY;rw[ab.out,cx.out];rfl
      have bk:=Aside0.mk c1;rename_i hHeld;clear hHeld c1 S D F r O o hf b0 s3 hx;generalize dP m (b8 E v E.length)=x at bk cx⊢;have b5:w5.cell? ⟨gb,0,none⟩=some (.slice (some ⟨l,0,none⟩) n cr):=(ao U.out 0).trans rfl;obtain⟨o,hf⟩:=Kd.bJ false X.out (v:Int) (by omega) (by omega);rw[Int.toNat_natCast] at o hf;generalize bH false ((List.range n).map m) (v:Int)=z at o;replace o:w5.cell? ⟨l,v,none⟩=some (.bool z):=o;by_cases c2:rd d v<x
      ·have an:decide (rd d v<x)=true:=decide_eq_true c2
       have bo:Aside0 (bY n (aj E) d m v=true):=⟨bk.out.trans an⟩;have y:=Kd.cZ X.out (v:Int) true;rw[Int.toNat_natCast,AU] at y;have d3:=Aside0.mk y.1;have d4:=Aside0.mk (cI (g:=gb) U.out y.2 (fun e=>by injection e with e;exact c' e));have d5:=Aside0.mk (Below.setCell (p:=⟨l,v,none⟩) am.out cf (.bool true));clear y;simp only[an];go_wp2;go_roundg (n- (v+1))
       case measure=>rw[bg.out];omega
       case rel=>exact⟨v+1,dO m v,true,rfl,by go_num,by omega,⟨by unfold dO;split;rfl;exact I.out⟩,⟨AY HT.out J.out Q bo.out⟩,⟨fun h=>by cases h⟩,⟨by have h1:=mh Q ab.out;have h2:=HU.out;simp;split at h2<;>omega⟩,d4,d3,d5,⟨rfl⟩⟩
      ·have an:decide (rd d v<x)=false:=decide_eq_false c2
       have bo:Aside0 (bY n (aj E) d m v=false):=⟨bk.out.trans an⟩;clear o hf b5;simp only[an];go_wp2;go_roundg (n- (v+1))
       case measure=>rw[bg.out];omega
       case rel=>exact⟨v+1,m,b',rfl,by go_num,by omega,I,J,⟨fun h=>⟨(P.out h).1,fun u hu=>by
        by_cases e:u=v
        ·subst e
         have h3:=bo.out;rw[(P.out h).1] at h3;exact h3
        ·exact(P.out h).2 u (by omega)⟩⟩,HU,U,X,am,⟨rfl⟩⟩
    ·obtain rfl:v=n:=by omega
     go_wp2;go_roundg (2*dD v m+(if b'=true then 1 else 0))
     case measure=>
      have h1:=HK.out;have h2:=HU.out;cases b'<;>simp at h1 h2⊢ <;>omega
     case rel=>exact⟨m,b',rfl,I,J,⟨fun h u hu=>by rw[(P.out h).1];exact(P.out h).2 u hu⟩,D,F,r,⟨Nat.le_refl _⟩⟩
  |false=>
   go_wp2_with (first|((with_reducible refine aH (N:=61) rfl ?_);refine Kd.jx Kd.bool _ 4 rfl (N:=61) rfl 43 _ _ rfl (n:Int) rfl rfl Tryz.underlying43 (.bool false) 1 l4 rfl (by decide) (by omega) false (ok:=fun _=>True) (okp:=fun _=>True) rfl (fun _ hk=>hk) trivial ce (by simp;omega) (Below.refl _ _) (Nat.le_refl _) ?_;intro v1 w5 H hb aP aS;rw[Int.toNat_natCast] at H;obtain⟨G,cl,K,d6,a0, -⟩:=Kd.fg H (by rw[List.length_replicate];omega);rw[List.length_replicate] at K;subst K;have c3:=Aside0.mk H;have am:=Aside0.mk (aU r.out hb);have U:=Aside0.mk (aG D.out hb);have X:=Aside0.mk (Kd.aV (Kd.cp (Kd.eC F.out) hb) (ok':=fun k=>k≠G) (fun k hk=>by have:=hk.2.2;omega));have d7:gb≠G:=(fun e=>by have:=ay D.out;omega);have d8:w.heap.size<=G:=Nat.le_trans r.out.size d6;have b5:w5.cell? ⟨gb,0,none⟩=some (.slice (some ⟨l,0,none⟩) n cr):=(ao U.out 0).trans rfl;clear H hb aP aS))
   have bv:=Aside0.mk (AX HT.out I.out J.out (bf.out (by simp)));have d9:=r.out.size;clear O s0 I J bf D F r b5;have c4:Aside0 (Kd.bool.R 4 w5 w.heap.size (fun _=>True) (.slice (some ⟨G,0,none⟩) n cl) ((List.range n).map fun u=>if u<0 then !B u else false)):=⟨by
    have h:=Kd.aW c3.out (base':=w.heap.size) d9;rw[show (List.replicate n false:List Bool)=(List.range n).map fun u=>if u<0 then !B u else false from by
     refine List.ext_getElem (by simp) fun i h1 h2=>?_
     simp] at h
    exact h⟩
   clear c3;go_loopw [9,64] (fun eb Z wr=>∃v:Nat,v<=n∧Z= .int .i64 v∧eb= .bool ((List.range v).any fun u=> !B u)∧Aside0 (wr.heap[gb]? =some (.cells #[.slice (some ⟨l,0,none⟩) n cr] 43 (0,0)))∧Aside0 (Kd.bool.R 4 wr w.heap.size (fun k=>k≠G) (.slice (some ⟨l,0,none⟩) n cr) ((List.range n).map B))∧Aside0 (Kd.bool.R 4 wr w.heap.size (fun _=>True) (.slice (some ⟨G,0,none⟩) n cl) ((List.range n).map fun u=>if u<v then !B u else false))∧Aside0 (Below w.heap.size w wr)) (fun _ Z _=>n- (intOf Z).toNat)
   case atStart=>exact⟨0,by omega,rfl,rfl,U,X,c4,am⟩
   case round=>
    clear U X c4 am;obtain⟨v,K,rfl,rfl,D,F,HL,r⟩:=hrel;by_cases Q:v<n
    ·have dk:(0:Int)<=(v:Int):=by omega
     have dl:(v:Int)<(n:Int):=by omega
     have b0:wr.cell? ⟨gb,0,none⟩=some (.slice (some ⟨l,0,none⟩) n cr):=(ao D.out 0).trans rfl;obtain⟨o, -⟩:=Kd.bJ false F.out (v:Int) (by omega) (by omega);obtain⟨hz,hf⟩:=Kd.bJ false HL.out (v:Int) (by omega) (by omega);rw[Int.toNat_natCast] at o hz hf;have e1:bH false ((List.range n).map B) v=B v:=by simp[bH,List.getD_eq_getElem?_getD,List.getElem?_map,List.getElem?_range Q]
     rw[e1] at o;replace o:wr.cell? ⟨l,v,none⟩=some (.bool (B v)):=o;generalize bH false ((List.range n).map fun u=>if u<v then !B u else false) (v:Int)=z at hz;replace hz:wr.cell? ⟨G,v,none⟩=some (.bool z):=hz;have y:=Kd.cZ HL.out (v:Int) (!B v);rw[Int.toNat_natCast] at y;have em:(((List.range n).map fun u=>if u<v then !B u else false).set v (!B v))=(List.range n).map fun u=>if u<v+1 then !B u else false:=by
      refine List.ext_getElem (by simp) fun i h1 h2=>?_
      rw[List.getElem_set];simp only[List.getElem_map,List.getElem_range];by_cases e:v=i
      ·subst e;simp
      ·rw[if_neg e]
       by_cases h:i<v
       ·rw[if_pos h,if_pos (by omega)]
       ·rw[if_neg h,if_neg (by omega)]
     rw[em] at y;have bx:=Aside0.mk y.1;have L:=Aside0.mk (cI (g:=gb) D.out y.2 (fun e=>by injection e with e;exact d7 e));have T:=Aside0.mk (Kd.kE F.out y.2 (fun k hk e=>hk (by injection e)));have M:=Aside0.mk (Below.setCell (p:=⟨G,v,none⟩) r.out d8 (.bool (!B v)));have Y:=(Kd.bJ false bx.out (v:Int) (by omega) (by omega)).1;rw[Int.toNat_natCast] at Y;have e2:bH false ((List.range n).map fun u=>if u<v+1 then !B u else false) v= !B v:=by simp[bH,List.getD_eq_getElem?_getD,List.getElem?_map,List.getElem?_range Q]
     rw[e2] at Y;have HA:=Aside0.mk (show ((List.range (v+1)).any fun u=> !B u)=(((List.range v).any fun u=> !B u)|| !B v) by simp[List.range_succ,List.any_append]);replace Y:(wr.setCell ⟨G,v,none⟩ (.bool (!B v))).cell? ⟨G,v,none⟩=some (.bool (!B v)):=Y;have e6:=Aside0.mk Y;clear y em e1 e2 Y;generalize hs:((List.range v).any fun u=> !B u)=s at HA⊢;clear hs;cases s with
     |true=>
      go_wp2;go_roundw
      case rel=>exact⟨v+1,by omega,by go_num,by rw[HA.out];rfl,L,T,bx,M⟩
      case measure=>exact(show n- ((v:Int)+1).toNat<n- ((v:Int)).toNat by omega)
     |false=>
      go_wp2;go_roundw
      case rel=>exact⟨v+1,by omega,by go_num,by rw[HA.out,Bool.false_or],L,T,bx,M⟩
      case measure=>exact(show n- ((v:Int)+1).toNat<n- ((v:Int)).toNat by omega)
    ·obtain rfl:v=n:=by omega
     go_wp2;go_ret2;refine⟨G,cl,?_,?_,r.out⟩
     ·rw[show ((List.range v).any fun u=> !bp v (aj E) q d u)=((List.range v).any fun u=> !B u) from by
       rw[Bool.eq_iff_iff,List.any_eq_true,List.any_eq_true];constructor
       ·rintro⟨u,hu,h⟩;exact⟨u,hu,by rw[<-bv.out u (List.mem_range.1 hu)];exact h⟩
       ·rintro⟨u,hu,h⟩;exact⟨u,hu,by rw[bv.out u (List.mem_range.1 hu)];exact h⟩]
      rfl
     ·have h:=HL.out
      rw[show ((List.range v).map fun u=>if u<v then !B u else false)=(List.range v).map fun u=> !bp v (aj E) q d u from List.map_congr_left fun u hu=>by
       have:=List.mem_range.1 hu;rw[if_pos this,bv.out u this]] at h
      exact h
section
structure SI (w0:World) (g gd gs cd cs n:Nat) (A0:Option Addr) (c0:Nat) (E:List S83) (q:Int) (d s:List Int) (W:World):Prop where
 hb:Below w0.heap.size w0 W
 st:gw W g n (.slice A0 E.length c0) q (.slice (some ⟨gd,0,none⟩) n cd) (.slice (some ⟨gs,0,none⟩) n cs) 0
 d:(Kd.int .i64).R 3 W w0.heap.size (fun _=>True) (.slice (some ⟨gd,0,none⟩) n cd) d
 s:(Kd.int .i64).R 3 W w0.heap.size (fun _=>True) (.slice (some ⟨gs,0,none⟩) n cs) s
 ne:gd≠gs∧g≠gd∧g≠gs∧w0.heap.size<=g
namespace SI
variable {w0 W W':World} {g gd gs cd cs n c0 l:Nat} {A0:Option Addr} {E:List S83} {q:Int} {d s:List Int}
theorem ld (h:SI w0 g gd gs cd cs n A0 c0 E q d s W):gd<W.heap.size∧gs<W.heap.size∧g<W.heap.size∧w0.heap.size<=gd∧w0.heap.size<=gs:=⟨Kd.aX h.d gd rfl,Kd.aX h.s gs rfl,ay h.st,Kd.dK h.d gd rfl,Kd.dK h.s gs rfl⟩
theorem below (h:SI w0 g gd gs cd cs n A0 c0 E q d s W) (hb:Below W.heap.size W W'):SI w0 g gd gs cd cs n A0 c0 E q d s W':=⟨aU h.hb hb,aG h.st hb,Kd.cp h.d hb,Kd.cp h.s hb,h.ne⟩
theorem alloc (h:SI w0 g gd gs cd cs n A0 c0 E q d s W) (o:Obj):SI w0 g gd gs cd cs n A0 c0 E q d s (W.alloc o):=h.below (aq (Below.refl _ _) o)
theorem drewN (h:SI w0 g gd gs cd cs n A0 c0 E q d s W) (m:Nat):SI w0 g gd gs cd cs n A0 c0 E q d s (W.drewN m):=h.below (bP (Below.refl _ _) m)
theorem bk (h:SI w0 g gd gs cd cs n A0 c0 E q d s W) (hb:Bk l W W') (a:w0.heap.size<=l):SI w0 g gd gs cd cs n A0 c0 E q d s W':=⟨h.hb.trans (hb.below _ a),hb.cells h.st,db h.d hb,db h.s hb,h.ne⟩
theorem fin (h:SI w0 g gd gs cd cs n A0 c0 E q d s W) {b:Nat} (hf:fj b W W') (hb:w0.heap.size<=b):SI w0 g gd gs cd cs n A0 c0 E q d s W':=⟨h.hb.trans (hf.kf.mono hb),hf.cells h.st,hf.R h.d,hf.R h.s,h.ne⟩
theorem gM (h:SI w0 g gd gs cd cs n A0 c0 E q d s W) (p:Addr) (v:Value) (a:p.block≠g∧p.block≠gd∧p.block≠gs) (hb:w0.heap.size<=p.block):SI w0 g gd gs cd cs n A0 c0 E q d s (W.setCell p v):=
 ⟨Below.setCell h.hb hb v,aC h.st (fun e=>a.1 e.symm) v,
  Kd.aV (Kd.eU (Kd.fU rfl h.d) (fun k hk=>Below.heap_setCell _ _ _ _ (fun e=>a.2.1 (by rw[<-e];injection hk)))) (fun _ _=>trivial),
  Kd.aV (Kd.eU (Kd.fU rfl h.s) (fun k hk=>Below.heap_setCell _ _ _ _ (fun e=>a.2.2 (by rw[<-e];injection hk)))) (fun _ _=>trivial),h.ne⟩
theorem nS (h:SI w0 g gd gs cd cs n A0 c0 E q d s W) (v:Nat) (x:Int):SI w0 g gd gs cd cs n A0 c0 E q (d.set v x) s (W.setCell ⟨gd,v,none⟩ (.int .i64 x)):=by
 obtain⟨h1,i,j,b,k⟩:=h.ld;have a:=Kd.cZ h.d (v:Int) x;rw[Int.toNat_natCast] at a;exact⟨Below.setCell h.hb b _,aC h.st h.ne.2.1 _,a.1,Kd.gX h.s rfl a.2 (fun e=>by cases e;exact h.ne.1 rfl),h.ne⟩
theorem nT (h:SI w0 g gd gs cd cs n A0 c0 E q d s W) (v:Nat) (x:Int):SI w0 g gd gs cd cs n A0 c0 E q d (s.set v x) (W.setCell ⟨gs,v,none⟩ (.int .i64 x)):=by
 obtain⟨h1,i,j,k,b⟩:=h.ld;have a:=Kd.cZ h.s (v:Int) x;rw[Int.toNat_natCast] at a;exact⟨Below.setCell h.hb b _,aC h.st h.ne.2.2.1 _,Kd.gX h.d rfl a.2 (fun e=>by cases e;exact h.ne.1 rfl),a.1,h.ne⟩
theorem jN (h:SI w0 g gd gs cd cs n A0 c0 E q d s W) (v:Nat) (a:v<n):W.cell? ⟨gd,v,none⟩=some (.int .i64 (rd d v)):=by
 have:=(Kd.bJ 0 h.d (v:Int) (by omega) (by omega)).1;rw[Int.toNat_natCast] at this;exact this
theorem cells (h:SI w0 g gd gs cd cs n A0 c0 E q d s W) (v:Nat) (a:v<n):W.cell? ⟨gs,v,none⟩=some (.int .i64 (rd s v)):=by
 have:=(Kd.bJ 0 h.s (v:Int) (by omega) (by omega)).1;rw[Int.toNat_natCast] at this;exact this
theorem nU (h:SI w0 g gd gs cd cs n A0 c0 E q d s W) (v:Nat) (a:v<n):W.frozen? ⟨gd,v,none⟩=false:=by
 have:=(Kd.bJ 0 h.d (v:Int) (by omega) (by omega)).2;rw[Int.toNat_natCast] at this;exact this
theorem tH (h:SI w0 g gd gs cd cs n A0 c0 E q d s W) (v:Nat) (a:v<n):W.frozen? ⟨gs,v,none⟩=false:=by
 have:=(Kd.bJ 0 h.s (v:Int) (by omega) (by omega)).2;rw[Int.toNat_natCast] at this;exact this
theorem f0 (h:SI w0 g gd gs cd cs n A0 c0 E q d s W):W.cell? ⟨g,0,none⟩=some (.int .i64 n):=(ao h.st 0).trans rfl
theorem f2 (h:SI w0 g gd gs cd cs n A0 c0 E q d s W):W.cell? ⟨g,2,none⟩=some (.int .i64 q):=(ao h.st 2).trans rfl
theorem f3 (h:SI w0 g gd gs cd cs n A0 c0 E q d s W):W.cell? ⟨g,3,none⟩=some (.slice (some ⟨gd,0,none⟩) n cd):=(ao h.st 3).trans rfl
theorem f4 (h:SI w0 g gd gs cd cs n A0 c0 E q d s W):W.cell? ⟨g,4,none⟩=some (.slice (some ⟨gs,0,none⟩) n cs):=(ao h.st 4).trans rfl
theorem f5 (h:SI w0 g gd gs cd cs n A0 c0 E q d s W):W.cell? ⟨g,5,none⟩=some (.int .i64 0):=(ao h.st 5).trans rfl
end SI
end
end Go.Proofs.YtffdiakgjakngaaGreat.P
namespace Go.Proofs.YtffdiakgjakngaaGreat.P
open Go Go.RowKit
set_option linter.unusedVariables false
set_option linter.unusedSimpArgs false
set_option maxHeartbeats 8000000
set_option maxRecDepth 100000
section
section
variable {F:Fence} {n:Nat} {P:Program} {md:Region.Mode} {C:World->Prop}
def eG (o:Oper):Oper:={o with op:=.move (.const undef)}
def p' (ops:List Oper):Bool:=ops.all fun o=>match o.op with| .defer _=>false|_=>true
theorem tI {l:List Oper} (h:p' l=true) {o:Oper} (a:o∈l):∀c,o.op≠ .defer c:=by
 intro c e;have:=List.all_eq_true.1 h o a;rw[e] at this;cases this
theorem tJ {ops:Array Oper} {i:Nat} {a:Act} {K:Act->Prop} {m:Act->World->Prop} {Q':Exit->Act->World->Prop} {w:World} (s:∀p,ops[i]? =some p->∀c,p.op≠ .defer c) (hC:C w) (h:∀a w',C w'->K a->m a w')
  (b:qOpIn F n P ops C i K a):wpOpIn F n P ops Q' i m a w:=by
 unfold qOpIn at b;unfold wpOpIn;split
 ·rename_i k;simp only[k] at b;exact h _ _ hC b
 ·rename_i o k
  simp only[k] at b;obtain⟨q,b⟩:=b;split
  ·rename_i hw
   simp only[hw,if_true] at b;obtain⟨v,h1,l⟩:=b;have g:=h1 w hC;unfold Oper.quietAtIn at g;unfold Oper.wpIn;refine⟨q w hC,?_⟩;rw[Oper.semAt_eq _ _ _ (s o k)];generalize (execOp a.eval o).run P w=r at*;cases r with
   |ok x w'=>
    cases x<;>simp only[Oper.quietUponIn] at g<;>simp only[Oper.uponIn]
    case value u=>
     obtain⟨j,e2⟩:=g;rw[j,e2];exact h _ _ hC l
    case skip=>
     obtain⟨j,e2⟩:=g;rw[j,<-e2];exact h _ _ hC l
    case enter f args=>
     obtain⟨j,hd,y⟩:=g;rw[j];exact⟨hd,y.mono fun e B ⟨he,z⟩=>by subst he;exact h _ _ z l⟩
   |halt x w'=>simp only[Oper.quietUponIn] at g
  ·rename_i hw;simp only[hw] at b;exact⟨q w hC,h _ _ hC b⟩
def A_ (md:Region.Mode) (l:List Oper):Bool:=(List.range l.length).all fun i=>((l[i]?).map fun o=>o.after.all fun e=> !Region.binds md e||decide (e.on<i)).getD true
def Ba (md:Region.Mode) (m:Nat) (o:Oper):Bool:=(List.range m).all fun j=>o.after.any fun e=>Region.binds md e&&e.on==j
theorem tK {ops:Array Oper} (k:∀i p,ops[i]? =some p->∀e∈p.after,Region.binds md e=true->e.on<i) (a:Array Bool) (u:a.size=ops.size):∀j,j<ops.size->a.getD j true=false->Region.ready md ops a≠[]:=by
 intro j;induction j using Nat.strongRecOn with
 |ind j l=>
  intro m n he;obtain⟨o,g⟩:∃o,ops[j]? =some o:=⟨_,Array.getElem?_eq_getElem m⟩;by_cases b:∀e∈o.after,Region.binds md e=true->a.getD e.on false=true
  ·have:=mem_ready.2 ⟨n,o,g,b⟩
   rw[he] at this;cases this
  ·simp only[Classical.not_forall] at b
   obtain⟨e,h1,q,h⟩:=b;have r:=k j o g e h1 q;refine l e.on r (by omega) ?_ he;have s:e.on<a.size:=by omega
   simp[Array.getD_eq_getD_getElem?,Array.getElem?_eq_getElem s] at h⊢;exact h
theorem Bb {l1:List Oper} {o:Oper} {Qa:Act->Prop} {Q':Exit->Act->World->Prop} (E:o.dst=none) (G:∀i p,(l1++[o]).toArray[i]? =some p->i≠l1.length->∀c,p.op≠ .defer c) (B:∀i p,(l1++[o]).toArray[i]? =some p->∀e∈p.after,Region.binds md e=true->e.on<i)
  (H:∀j,j<l1.length->∃e∈o.after,Region.binds md e=true∧e.on=j) (I:∀a w,C w->Qa a->wpListIn F n P (l1++[o]).toArray Q' [o] a w):
  ∀(fuel:Nat) (b:Array Bool) (a:Act) (w:World),b.size=l1.length+1->b.getD l1.length true=false->C w->wpAnyQIn F n P md (l1++[eG o]).toArray C Qa fuel b a->wpAnyIn F n P md (l1++[o]).toArray Q' fuel b a w:=by
 have u:∀i,i≠l1.length->(l1++[eG o]).toArray[i]? =(l1++[o]).toArray[i]? :=fun i hi=>by
  rw[List.getElem?_toArray,List.getElem?_toArray];by_cases h:i<l1.length
  ·rw[List.getElem?_append_left h,List.getElem?_append_left h]
  ·rw[List.getElem?_eq_none (by simp;omega),List.getElem?_eq_none (by simp;omega)]
 have hm:(l1++[o]).toArray[l1.length]? =some o:=by simp
 have x:(l1++[eG o]).toArray[l1.length]? =some (eG o):=by simp
 have y:∀b,Region.ready md (l1++[eG o]).toArray b=Region.ready md (l1++[o]).toArray b:=fun b=>by
  unfold Region.ready;have aQ:(l1++[eG o]).toArray.size=(l1++[o]).toArray.size:=by simp
  rw[aQ];refine List.filter_congr fun i hi=>?_
  by_cases h:i=l1.length
  ·rw[h,hm,x];rfl
  ·rw[u i h]
 have J:∀tmps,yielded (l1++[eG o]).toArray tmps=yielded (l1++[o]).toArray tmps:=fun tmps=>by
  funext j
  unfold yielded;by_cases h:j=l1.length
  ·rw[h,hm,x];rfl
  ·rw[u j h]
 have aQ:(l1++[o]).toArray.size=l1.length+1:=by simp
 have K:∀b:Array Bool,b.size=l1.length+1->l1.length∈Region.ready md (l1++[o]).toArray b->Region.ready md (l1++[o]).toArray (b.setIfInBounds l1.length true)=[]:=fun b k L=>by
  obtain⟨U,p,hp,M⟩:=mem_ready.1 L;rw[hm] at hp;obtain rfl:=Option.some.inj hp;refine List.eq_nil_iff_forall_not_mem.2 fun i hi=>?_
  obtain⟨l,p,hp, -⟩:=mem_ready.1 hi;have V:i<l1.length+1:=by have:=(Array.getElem?_eq_some_iff.1 hp).1;rw[aQ] at this;exact this
  by_cases he:i=l1.length
  ·subst he
   rw[Array.getD_eq_getD_getElem?,Array.getElem?_setIfInBounds_self_of_lt (by omega)] at l;cases l
  ·rw[getD_set_ne true (Ne.symm he)] at l
   obtain⟨e,h1,m,r⟩:=H i (by omega);have:=M e h1 m;rw[r] at this;have N:i<b.size:=by omega
   simp[Array.getD_eq_getD_getElem?,Array.getElem?_eq_getElem N] at this l;rw[this] at l;cases l
 intro fuel;induction fuel with
 |zero=>
  intro b a w k s hw h;have h1:Region.ready md (l1++[o]).toArray b=[]:=by rw[<-y];exact h.1
  exact absurd h1 (tK B b (by rw[aQ];exact k) l1.length (by rw[aQ];omega) s)
 |succ fuel O=>
  intro b a w k s hw h;refine⟨fun h1=>absurd h1 (tK B b (by rw[aQ];exact k) l1.length (by rw[aQ];omega) s),fun i hi=>?_⟩;have g:=h.2 i (by rw[y];exact hi);by_cases he:i=l1.length
  ·subst he
   have z:=K b k hi;unfold qOpIn at g;simp only[x] at g;have D:wpAnyQIn F n P md (l1++[eG o]).toArray C Qa fuel (b.setIfInBounds l1.length true) a:=by
    have hd:(eG o).dst=none:=E;have m:=g.2;split at m
    ·obtain⟨v, -,r⟩:=m
     rw[hd] at r;exact r
    ·rw[hd] at m;exact m
   have Q:Qa a:=by
    cases fuel with
    |zero=>exact D.2
    |succ f=>exact D.1 (by rw[y];exact z)
   have:=I a w hw Q;have R:wpOpIn F n P (l1++[o]).toArray Q' l1.length (fun a w=>Q' .normal a w) a w:=by
    unfold wpOpIn;simp only[hm];exact this
   refine wpOpIn_mono (fun a w q=>?_) R;cases fuel with
   |zero=>exact⟨z,q⟩
   |succ f=>exact⟨fun _=>q,fun i hi=>by rw[z] at hi;cases hi⟩
  ·have S:qOpIn F n P (l1++[o]).toArray C i (wpAnyQIn F n P md (l1++[eG o]).toArray C Qa fuel (b.setIfInBounds i true)) a:=by
    unfold qOpIn at g⊢;rw[u i he] at g;simp only[J] at g;exact g
   refine tJ (fun p hp=>G i p hp he) hw (fun a' w' T hk=>O _ a' w' (by simpa using k) ?_ T hk) S;rw[getD_set_ne true he];exact s
theorem nV {id:Nat} {Q:Exit->Act->World->Prop} {a:Act} {w:World} {l:List Oper} (l1:List Oper) (o:Oper) (u:l=l1++[o]) (hm:P.follows .mixedOrders=true) (q:o.dst=none) (v:p' l1=true) (x:A_ .any (l1++[o])=true) (y:Ba .any l1.length o=true) (k:Region.lexB .any (l1++[eG o]).toArray=true)
  (h:wpQuietIn F n P l.toArray (fun w'=>∃n,w'=w.drewN n) (fun a'=>∀w',(∃n,w'=w.drewN n)->wpListIn F n P l.toArray Q [o] a' w') l1 a):(Code.region id l.toArray true).wpIn F n P Q a w:=by
 subst u;refine wpIn_region_any hm ?_;have aQ:(l1++[o]).toArray.size=l1.length+1:=by simp
 rw[aQ];simp only[Region.lexB,Bool.and_eq_true] at k;refine Bb (C:=fun w'=>∃n,w'=w.drewN n) (Qa:=fun a'=>∀w',(∃n,w'=w.drewN n)->wpListIn F n P (l1++[o]).toArray Q [o] a' w') q (fun i p hp hi=>tI v ?_) ?_ ?_ (fun a w hw m=>m w hw) _ _ a _ (by simp) (by simp[Array.getD_eq_getD_getElem?]) ⟨1,rfl⟩ ?_
 ·rw[List.getElem?_toArray] at hp
  have g:=(List.getElem?_eq_some_iff.1 hp).1;rw[List.length_append] at g;simp at g;rw[List.getElem?_append_left (by omega)] at hp;exact List.mem_of_getElem? hp
 ·intro i p hp e he hb
  rw[List.getElem?_toArray] at hp;have g:=(List.getElem?_eq_some_iff.1 hp).1;have:=List.all_eq_true.1 x i (List.mem_range.2 g);rw[hp] at this;simp only[Option.map_some,Option.getD_some] at this;have:=Array.all_eq_true_iff_forall_mem.1 this e he;simpa [hb] using this
 ·intro j r
  have:=List.all_eq_true.1 y j (List.mem_range.2 r);rw[<-Array.any_toList,List.any_eq_true] at this;obtain⟨e,he,b⟩:=this;simp only[Bool.and_eq_true,beq_iff_eq] at b;exact⟨e,Array.mem_def.2 he,b.1,b.2⟩
 ·have m:wpQuietIn F n P (l1++[eG o]).toArray (fun w'=>∃n,w'=w.drewN n) (fun a'=>∀w',(∃n,w'=w.drewN n)->wpListIn F n P (l1++[o]).toArray Q [o] a' w') (l1++[eG o]) a:=by
   have z:∀tmps,yielded (l1++[eG o]).toArray tmps=yielded (l1++[o]).toArray tmps:=fun tmps=>by
    funext j
    unfold yielded;rw[List.getElem?_toArray,List.getElem?_toArray];by_cases h:j<l1.length
    ·rw[List.getElem?_append_left h,List.getElem?_append_left h]
    ·rw[List.getElem?_append_right (by omega),List.getElem?_append_right (by omega)]
     cases r:j-l1.length<;>rfl
   have key:∀(l2:List Oper) (a:Act),wpQuietIn F n P (l1++[o]).toArray (fun w'=>∃n,w'=w.drewN n) (fun a'=>∀w',(∃n,w'=w.drewN n)->wpListIn F n P (l1++[o]).toArray Q [o] a' w') l2 a->wpQuietIn F n P (l1++[eG o]).toArray (fun w'=>∃n,w'=w.drewN n) (fun a'=>∀w',(∃n,w'=w.drewN n)->wpListIn F n P (l1++[o]).toArray Q [o] a' w') (l2++[eG o]) a:=by
    intro l2;induction l2 with
    |nil=>
     intro a h;refine⟨fun w _ f hf=>by simp[Oper.about,eG] at hf,?_⟩;have hd:(eG o).dst=none:=q;split
     ·refine BigFrame.quietIn_move (.const undef) rfl ?_
      rw[hd];exact h
     ·rw[hd];exact h
    |cons p l2 s=>
     intro a h;refine⟨h.1,?_⟩;have b:=h.2;rw[z];split at b
     ·rename_i hw
      rw[if_pos hw];exact Oper.quietIn_mono s b
     ·rename_i hw
      rw[if_neg hw];exact s _ b
   exact key l1 a h
  have:=wpAnyQIn_lex (F:=F) (n:=n) (C:=fun w'=>∃n,w'=w.drewN n) (md:=.any) k.1 (l1++[eG o]) 0 (Array.replicate (l1.length+1) false) a (by simp) (by simpa using k.2) m;simpa using this
theorem Bc {l:List Oper} {Qa:Act->Prop} {Q':Exit->Act->World->Prop} (g:∀(i:Nat) (p:Oper),l.toArray[i]? =some p->∀c,p.op≠ .defer c) (e:∀a w,C w->Qa a->Q' .normal a w):
  ∀(fuel:Nat) (b:Array Bool) (a:Act) (w:World),C w->wpAnyQIn F n P md l.toArray C Qa fuel b a->wpAnyIn F n P md l.toArray Q' fuel b a w:=by
 intro fuel;induction fuel with
 |zero=>intro b a w hw h;exact⟨h.1,e _ _ hw h.2⟩
 |succ fuel j=>
  intro b a w hw h;exact⟨fun h1=>e _ _ hw (h.1 h1),fun i hi=>tJ (g i) hw (fun a' w' k hk=>j _ a' w' k hk) (h.2 i hi)⟩
theorem Be {id:Nat} {Q:Exit->Act->World->Prop} {a:Act} {w:World} {l:List Oper} (hm:P.follows .mixedOrders=true) (e:p' l=true) (b:Region.lexB .any l.toArray=true)
  (h:wpQuietIn F n P l.toArray (fun w'=>∃n,w'=w.drewN n) (fun a'=>∀w',(∃n,w'=w.drewN n)->Q .normal a' w') l a):(Code.region id l.toArray true).wpIn F n P Q a w:=by
 refine wpIn_region_any hm ?_;simp only[Region.lexB,Bool.and_eq_true] at b;refine Bc (C:=fun w'=>∃n,w'=w.drewN n) (Qa:=fun a'=>∀w',(∃n,w'=w.drewN n)->Q .normal a' w') (fun i p hp=>tI e ?_) (fun a w hw g=>g w hw) _ _ a _ ⟨1,rfl⟩ ?_
 ·rw[List.getElem?_toArray] at hp
  exact List.mem_of_getElem? hp
 ·have:=wpAnyQIn_lex (F:=F) (n:=n) (C:=fun w'=>∃n,w'=w.drewN n) (md:=.any) b.1 l 0 (Array.replicate l.length false) a (by simp) (by simpa using b.2) h
  simpa using this
end
end
end Go.Proofs.YtffdiakgjakngaaGreat.P
namespace Go.Proofs.YtffdiakgjakngaaGreat.P
open Go.RowKit Go.Proofs.YtffdiakgjakngaaGreatW.PrintWords Go.Proofs.YtffdiakgjakngaaGreatW.PrintLast Go.Proofs.YtffdiakgjakngaaGreatW.PrintMore
set_option linter.unusedVariables false
set_option linter.unusedSimpArgs false
set_option maxHeartbeats 8000000
set_option maxRecDepth 100000
section
attribute [local go_sem] Oper.semAt_some iU iV iW iX lU lV lW lX
def il (t:Int) (v:Nat) (d:List Int) (x:Int×Int):List Int:=
 (d.set v (wrap64 (rd d v-wrap64 (x.2*t)))).set x.1.toNat (wrap64 (rd (d.set v (wrap64 (rd d v-wrap64 (x.2*t)))) x.1+wrap64 (x.2*t)))
def fx (t:Int) (v:Nat) (d:List Int) (L:List (Int×Int)):List Int:=L.foldl (il t v) d
theorem Bg (t:Int) (v:Nat) (d:List Int) (L:List (Int×Int)) (x:Int×Int):fx t v d (L++[x])=il t v (fx t v d L) x:=by simp[fx,List.foldl_append]
theorem tL (t:Int) (v:Nat) (d:List Int) (x:Int×Int):(il t v d x).length=d.length:=by simp[il]
theorem qa (t:Int) (v:Nat):∀(L:List (Int×Int)) (d:List Int),(fx t v d L).length=d.length
 |[],_=>rfl
 |x::L,d=>(qa t v L _).trans (tL t v d x)
def bj (E:List S83) (In:Nat->Bool) (t:Int):Nat->List Int×List Int->List Int×List Int
 |0,p=>p
 |k+1,p=>if In k=true then(fx t k (bj E In t k p).1 (b8 E k E.length),(bj E In t k p).2.set k (wrap64 (rd (bj E In t k p).2 k+t))) else bj E In t k p
theorem mq (E:List S83) (In:Nat->Bool) (t:Int) (p:List Int×List Int):∀k,(bj E In t k p).1.length=p.1.length∧(bj E In t k p).2.length=p.2.length
 |0=>⟨rfl,rfl⟩
 |k+1=>by
  have h:=mq E In t p k;unfold bj;split
  ·exact⟨(qa ..).trans h.1,by rw[List.length_set];exact h.2⟩
  ·exact h
structure FI (w0 w:World) (g gd gs gi cd cs ci n:Nat) (A0:Option Addr) (c0:Nat) (E:List S83) (q:Int) (In:Nat->Bool) (t:Int) (d s:List Int) (W:World):Prop where
 si:SI w0 g gd gs cd cs n A0 c0 E q d s W
 x1:W.heap[w.heap.size]? =some (.cells #[.pointer (some ⟨g,0,none⟩)] 135 (0,0))
 x2:W.heap[w.heap.size+1]? =some (.cells #[.int .i64 t] 3 (0,0))
 hi:Kd.bool.R 4 W w0.heap.size (fun _=>True) (.slice (some ⟨gi,0,none⟩) n ci) ((List.range n).map In)
 hf:∀k,k<w.heap.size->k≠gd->k≠gs->W.heap[k]? =w.heap[k]?
 aQ:w.heap.size+2<=W.heap.size
 hw:w0.heap.size<=w.heap.size∧gd<w.heap.size∧gs<w.heap.size∧g<w.heap.size∧gd≠gi∧gs≠gi
namespace FI
variable {w0 w W W':World} {g gd gs gi cd cs ci n c0 l:Nat} {A0:Option Addr} {E:List S83} {q t:Int} {In:Nat->Bool} {d s:List Int}
theorem below (h:FI w0 w g gd gs gi cd cs ci n A0 c0 E q In t d s W) (hb:Below W.heap.size W W'):FI w0 w g gd gs gi cd cs ci n A0 c0 E q In t d s W':=⟨h.si.below hb,aG h.x1 hb,aG h.x2 hb,Kd.cp h.hi hb,fun k h1 a b=>(hb.block k (by have:=h.aQ;omega)).trans (h.hf k h1 a b),Nat.le_trans h.aQ hb.size,h.hw⟩
theorem alloc (h:FI w0 w g gd gs gi cd cs ci n A0 c0 E q In t d s W) (o:Obj):FI w0 w g gd gs gi cd cs ci n A0 c0 E q In t d s (W.alloc o):=h.below (aq (Below.refl _ _) o)
theorem drewN (h:FI w0 w g gd gs gi cd cs ci n A0 c0 E q In t d s W) (m:Nat):FI w0 w g gd gs gi cd cs ci n A0 c0 E q In t d s (W.drewN m):=h.below (bP (Below.refl _ _) m)
theorem drew (h:FI w0 w g gd gs gi cd cs ci n A0 c0 E q In t d s W):FI w0 w g gd gs gi cd cs ci n A0 c0 E q In t d s W.drew:=h.drewN 1
theorem bk (h:FI w0 w g gd gs gi cd cs ci n A0 c0 E q In t d s W) (hb:Bk l W W') (a:w.heap.size<=l):FI w0 w g gd gs gi cd cs ci n A0 c0 E q In t d s W':=⟨h.si.bk hb (Nat.le_trans h.hw.1 a),hb.cells h.x1,hb.cells h.x2,db h.hi hb,fun k h1 b e=>(hb.heap k (by omega)).trans (h.hf k h1 b e),by rw[hb.size];exact h.aQ,h.hw⟩
theorem nS (h:FI w0 w g gd gs gi cd cs ci n A0 c0 E q In t d s W) (v:Nat) (x:Int):FI w0 w g gd gs gi cd cs ci n A0 c0 E q In t (d.set v x) s (W.setCell ⟨gd,v,none⟩ (.int .i64 x)):=
 ⟨h.si.nS v x,aC h.x1 (by show w.heap.size≠gd;have:=h.hw;omega) _,aC h.x2 (by show w.heap.size+1≠gd;have:=h.hw;omega) _,by
  have a:=Kd.cZ h.si.d (v:Int) x;rw[Int.toNat_natCast] at a;exact Kd.gX h.hi rfl a.2 (fun e=>by cases e;exact h.hw.2.2.2.2.1 rfl),fun k h1 b i=>(Below.heap_setCell _ _ _ _ b).trans (h.hf k h1 b i),by simpa using h.aQ,h.hw⟩
theorem nT (h:FI w0 w g gd gs gi cd cs ci n A0 c0 E q In t d s W) (v:Nat) (x:Int):FI w0 w g gd gs gi cd cs ci n A0 c0 E q In t d (s.set v x) (W.setCell ⟨gs,v,none⟩ (.int .i64 x)):=
 ⟨h.si.nT v x,aC h.x1 (by show w.heap.size≠gs;have:=h.hw;omega) _,aC h.x2 (by show w.heap.size+1≠gs;have:=h.hw;omega) _,by
  have a:=Kd.cZ h.si.s (v:Int) x;rw[Int.toNat_natCast] at a;exact Kd.gX h.hi rfl a.2 (fun e=>by cases e;exact h.hw.2.2.2.2.2 rfl),fun k h1 i b=>(Below.heap_setCell _ _ _ _ b).trans (h.hf k h1 i b),by simpa using h.aQ,h.hw⟩
theorem c1 (h:FI w0 w g gd gs gi cd cs ci n A0 c0 E q In t d s W):W.cell? ⟨w.heap.size,0,none⟩=some (.pointer (some ⟨g,0,none⟩)):=(ao h.x1 0).trans rfl
theorem c2 (h:FI w0 w g gd gs gi cd cs ci n A0 c0 E q In t d s W):W.cell? ⟨w.heap.size+1,0,none⟩=some (.int .i64 t):=(ao h.x2 0).trans rfl
theorem Bh (h:FI w0 w g gd gs gi cd cs ci n A0 c0 E q In t d s W) (v:Nat) (b:v<n):W.cell? ⟨gi,v,none⟩=some (.bool (In v)):=by
 have a:=(Kd.bJ false h.hi (v:Int) (by omega) (by omega)).1;rw[Int.toNat_natCast,show bH false ((List.range n).map In) (v:Int)=In v from by simp[bH,List.getD_eq_getElem?_getD,List.getElem?_map,List.getElem?_range b]] at a;exact a
end FI
theorem tM (g gd gs gi cd cs ci n:Nat) (A0:Option Addr) (c0:Nat) (E:List S83) (q:Int) (d s:List Int) (In:Nat->Bool) (t:Int) (w0 w:World) (d6:Kd.C aK w0 A0 E.length E) (hE:dV n E) (hn:n<=1000) (fo:0<n)
  (h:SI w0 g gd gs cd cs n A0 c0 E q d s w) (hi:Kd.bool.R 4 w w0.heap.size (fun _=>True) (.slice (some ⟨gi,0,none⟩) n ci) ((List.range n).map In)) (cc:gd≠gi∧gs≠gi) (d7:d.length=n) (d8:s.length=n)
  (ce:∀v,v<n-> -2097152<=rd (bj E In t n (d,s)).1 v∧rd (bj E In t n (d,s)).1 v<=2097152∧ -2097152<=rd (bj E In t n (d,s)).2 v∧rd (bj E In t n (d,s)).2 v<=2097152):
  Calls Tryz.prog 166 #[.pointer (some ⟨g,0,none⟩),.slice (some ⟨gi,0,none⟩) n ci,.int .i64 t] w fun e w'=>e= .returned (.tuple #[])∧SI w0 g gd gs cd cs n A0 c0 E q (bj E In t n (d,s)).1 (bj E In t n (d,s)).2 w'∧(∀k,k<w.heap.size->k≠gd->k≠gs->w'.heap[k]? =w.heap[k]?)∧w.heap.size<=w'.heap.size:=by
 have fq:=Tryz.underlying188;have hu:=Tryz.underlying24;have HE:=Aside0.mk hE;have ch:=Aside0.mk ce;clear hE ce;refine(callsIn_wide (n:=10)).1 ?_;refine callsIn_of_wp_marks Tryz.func166 rfl trivial ?_ rfl;simp only[Tryz.ntmps166,List.size_toArray,List.length_cons,List.length_nil,Nat.reduceAdd,Nat.reduceSub,Array.replicate_succ,Array.replicate_zero,List.push_toArray,List.append_toArray,List.nil_append,List.cons_append];obtain⟨q1,q2,q3,q4,q5⟩:=h.ld;have ck:=h.hb.size;have fv:g≠gd:=h.ne.2.1;have r:Aside0 (FI w0 w g gd gs gi cd cs ci n A0 c0 E q In t d s ((w.alloc (.cells #[.pointer (some ⟨g,0,none⟩)] 135)).alloc (.cells #[.int .i64 t] 3))):=⟨(h.alloc _).alloc _,aw (heap_alloc_new w (.cells #[.pointer (some ⟨g,0,none⟩)] 135)) (.cells #[.int .i64 t] 3),heap_alloc2_new w (.cells #[.pointer (some ⟨g,0,none⟩)] 135) (.cells #[.int .i64 t] 3),Kd.aI (Kd.aI hi (.cells #[.pointer (some ⟨g,0,none⟩)] 135)) (.cells #[.int .i64 t] 3),fun k hk _ _=>by rw[Below.heap_alloc _ _ _ (by simp;omega),Below.heap_alloc _ _ _ hk],by simp,ck,q1,q2,q3,cc.1,cc.2⟩;gi_wp2;clear h hi;generalize ((w.alloc (.cells #[.pointer (some ⟨g,0,none⟩)] 135)).alloc (.cells #[.int .i64 t] 3))=W2 at r⊢;have ed:=r.out.aQ;refine tE w.heap.size (fun kq tm wr=>∃(u6 u7 u14 u15 u16 u17 u18 u19 u20 u21 u22 u23 u24 u25 u26 u27 u28 u29 u30 u31 u32 u59:Value) (v:Nat),v<=n∧Aside0 (FI w0 w g gd gs gi cd cs ci n A0 c0 E q In t (bj E In t v (d,s)).1 (bj E In t v (d,s)).2 wr)∧Aside0 (kq=n-v)∧tm=#[.pointer (some ⟨g,0,none⟩),.slice (some ⟨gi,0,none⟩) n ci,.int .i64 t,.pointer (some ⟨w.heap.size,0,none⟩),undef,.pointer (some ⟨w.heap.size+1,0,none⟩),u6,u7,undef,undef,undef,.slice (some ⟨gi,0,none⟩) n ci,.int .i64 n,.int .i64 v,u14,u15,u16,u17,u18,u19,u20,u21,u22,u23,u24,u25,u26,u27,u28,u29,u30,u31,u32,undef,undef,undef,undef,undef,undef,undef,undef,undef,undef,undef,undef,undef,undef,undef,undef,undef,undef,undef,undef,undef,undef,undef,undef,undef,undef,u59,undef,undef,undef,undef,undef,undef,undef,undef,undef,undef,undef,undef,undef,undef,undef,undef,undef,undef,undef,undef,undef,undef,undef,undef,undef,undef,undef,undef,undef,undef,undef,undef,undef,undef,undef,undef,undef,undef,undef,undef,undef,undef,undef,undef,undef,undef,undef,undef,undef,undef,undef]) n ⟨_,_,_,_,_,_,_,_,_,_,_,_,_,_,_,_,_,_,_,_,_,_,0,by omega,r,⟨rfl⟩,rfl⟩ (w.heap.size) (by omega) (cn.nil _ _ _) ?_;clear r ed;rintro gk tm wr ⟨u6,u7,u14,u15,u16,u17,u18,u19,u20,u21,u22,u23,u24,u25,u26,u27,u28,u29,u30,u31,u32,u59,v,hv,y,HK,rfl⟩ ds b hb co J K hJ hK;have a4:=Aside0.mk co;have HJ:=Aside0.mk hJ;have aQ:=y.out.aQ;clear co hJ;obtain⟨l1,l2⟩:=mq E In t (d,s) v;have L1:=Aside0.mk (show (bj E In t v (d,s)).1.length=n from l1.trans d7);have L2:=Aside0.mk (show (bj E In t v (d,s)).2.length=n from l2.trans d8);clear l1 l2;by_cases M:v<n
 ·have f1:(0:Int)<=(v:Int):=by omega
  have f2:(v:Int)<(n:Int):=by omega
  have Q:=Aside0.mk (show bj E In t (v+1) (d,s)=if In v=true then(fx t v (bj E In t v (d,s)).1 (b8 E v E.length),(bj E In t v (d,s)).2.set v (wrap64 (rd (bj E In t v (d,s)).2 v+t))) else bj E In t v (d,s) from rfl);have be:=y.out.Bh v M;cases hIn:In v with
  |false=>
   rw[hIn] at be;rw[hIn,if_neg (by decide)] at Q;have z:=Aside0.mk (y.out.alloc (.cells #[.int .i64 v] 3));gi_wp2;exact kg.intro (n- (v+1)) (by rw[HK.out];omega) (HJ.out _ _ _ ⟨_,_,_,_,_,_,_,_,_,_,_,_,_,_,_,_,_,_,_,_,_,_,v+1,by omega,by rw[Q.out];exact z,⟨rfl⟩,rfl⟩) b (by simp;omega) (a4.out.below (aq (Below.refl _ _) _))
  |true=>
   rw[hIn] at be;rw[hIn,if_pos rfl] at Q;generalize bj E In t v (d,s)=i at y Q L1 L2;clear hIn;gi_wp2;have BV:=Aside0.mk (heap_alloc_new wr (.cells #[.int .i64 v] 3));have z:=Aside0.mk (y.out.alloc (.cells #[.int .i64 v] 3));have bf:=Aside0.mk (a4.out.below (aq (Below.refl _ _) (.cells #[.int .i64 v] 3)));have cv:=Aside0.mk (show (wr.alloc (.cells #[.int .i64 v] 3)).heap.size=wr.heap.size+1 from by simp);generalize wr.alloc (.cells #[.int .i64 v] 3)=W1 at BV z bf cv⊢;have y0:=z.out.c1;have y1:=z.out.c2;have y2:=(ao BV.out 0).trans rfl;have y4:=z.out.si.f4;have y5:=z.out.si.cells v M;have y6:=z.out.si.tH v M;gi_region
   gi_wp2_with (refine⟨trivial,?_⟩;gi_at_call 194;refine(callsIn_wide.2 (lr g v _)).mono ?_;rintro e w3 ⟨rfl,rfl⟩)
   have f6:W1.heap.size=wr.heap.size+1:=cv.out;have aa:=Aside0.mk ((((z.out.nT v (wrap64 (rd i.2 v+t))).alloc (.cells #[.pointer (some ⟨g,0,none⟩)] 135)).alloc (.cells #[.int .i64 v] 3)).drew);obtain⟨f7,f8,f9,f',gb⟩:=z.out.si.ld;have el:wr.heap.size≠gs:=by omega
   have bv:=Aside0.mk (ff (aw (aw (aC (p:=⟨gs,v,none⟩) BV.out el (.int .i64 (wrap64 (rd i.2 v+t)))) (.cells #[.pointer (some ⟨g,0,none⟩)] 135)) (.cells #[.int .i64 v] 3)));have aL:=Aside0.mk (ff (aw (heap_alloc_new (W1.setCell ⟨gs,v,none⟩ (.int .i64 (wrap64 (rd i.2 v+t)))) (.cells #[.pointer (some ⟨g,0,none⟩)] 135)) (.cells #[.int .i64 v] 3)));have aO:=Aside0.mk (ff (heap_alloc2_new (W1.setCell ⟨gs,v,none⟩ (.int .i64 (wrap64 (rd i.2 v+t)))) (.cells #[.pointer (some ⟨g,0,none⟩)] 135) (.cells #[.int .i64 v] 3)));have bw:Aside0 (cn w.heap.size b ds (((W1.setCell ⟨gs,v,none⟩ (.int .i64 (wrap64 (rd i.2 v+t)))).alloc (.cells #[.pointer (some ⟨g,0,none⟩)] 135)).alloc (.cells #[.int .i64 v] 3)).drew):=⟨by
    obtain⟨inner,ho⟩:=Kd.iT z.out.si.s;obtain⟨cells,hc⟩:=iS ho gs rfl;exact(((bf.out.set (p:=⟨gs,v,none⟩) hc _).below (aq (Below.refl _ _) _)).below (aq (Below.refl _ _) _)).below (bL (Below.refl _ _))⟩
   have em:((((W1.setCell ⟨gs,v,none⟩ (.int .i64 (wrap64 (rd i.2 v+t)))).alloc (.cells #[.pointer (some ⟨g,0,none⟩)] 135)).alloc (.cells #[.int .i64 v] 3)).drew).heap.size=W1.heap.size+2:=by simp
   simp only[World.size_setCell] at aL aO;clear z bf BV y0 y1 y2 y4 y5 y6;generalize (((W1.setCell ⟨gs,v,none⟩ (.int .i64 (wrap64 (rd i.2 v+t)))).alloc (.cells #[.pointer (some ⟨g,0,none⟩)] 135)).alloc (.cells #[.int .i64 v] 3)).drew=H at aa bv aL aO bw em⊢;generalize i.2.set v (wrap64 (rd i.2 v+t))=s2 at aa Q;have bx:=aa.out.si;refine ie (σ:=Unit) (α:=Int×Int) (F:=Fence.wide) (n:=10) rfl (by decide) (gf:=207) (lb:=#[.pointer (some ⟨W1.heap.size,0,none⟩),.pointer (some ⟨W1.heap.size+1,0,none⟩)]) rfl trivial (enters_of Tryz.func207 (by kernel_rfl) rfl)
    (fun o=>nQ (W1.heap.size) (W1.heap.size+1) g n A0 c0 E q (.slice (some ⟨gd,0,none⟩) n cd) (.slice (some ⟨gs,0,none⟩) n cs) 0 v w0 _ d6 HE.out hn M (aq (aq bx.hb _) _) (aw (aw aL.out _) _) (aw (aw aO.out _) _) (aw (aw bx.st _) _)) (fun _=>rfl)
    (fun _=>True) ?ei ?st ?ar
    (fun _ pre W=>H.heap.size<=W.heap.size∧FI w0 w g gd gs gi cd cs ci n A0 c0 E q In t (fx t v i.1 pre) s2 W∧W.heap[wr.heap.size]? =some (.cells #[.int .i64 v] 3 (0,0))∧cn w.heap.size b ds W) (fun _ _ _ _=>False)
    ?is (fun _ _ _ _ _ _ h _=>h) ?ib (fun _ _ _ _ _ h _=>h) ?kt ?h0 ?a1 ?assign ?body ?done (fun _ _ _ _ _ _ _ h=>h.elim)
   case assign=>
    intro l x W K hK;gi_wp2;exact hK
   case ei=>
    intro o s W1 h;exact⟨trivial,by rw[h];exact bX.refl _ _⟩
   case st=>intro s A B _ h;exact cN h
   case ar=>intro s x A B _ h;exact cN h.2
   case is=>
    rintro s pre A B _ ⟨hs,h1,h2,h3⟩ aP;exact⟨Nat.le_trans hs aP.size,h1.below aP,aG h2 aP,h3.below aP⟩
   case ib=>
    rintro s pre A B ⟨hs,h1,h2,h3⟩ hb;exact⟨by rw[hb.size];exact hs,h1.bk hb (by omega),hb.cells h2,h3.bk hb (by omega)⟩
   case kt=>
    intro s A B C D aS cx c3;refine⟨fun aQ=>((aS.below w0.heap.size (by omega)).trans (cx.1 (by rw[aS.size];exact aQ))).trans (c3.below w0.heap.size (by omega)),fun k hk ex=>?_⟩;have c4:k≠H.heap.size+1:=by rcases hk with rfl|rfl|rfl<;>omega
    exact(c3.heap k c4).trans ((cx.2 k hk (by rw[aS.size];exact ex)).trans (aS.heap k c4))
   case h0=>
    rintro o s W1 rfl;exact⟨by simp;omega,(aa.out.alloc _).alloc _,aw (aw bv.out _) _,(bw.out.below (aq (Below.refl _ _) _)).below (aq (Below.refl _ _) _)⟩
   case body=>
    rintro l s' pre ⟨u,m⟩ Wb Wc W _ ⟨hs,i1,i2,i3⟩ ⟨c6,an⟩ ey N;have L:=Aside0.mk ((i1.below an).bk N (by omega));have I2:=Aside0.mk (N.cells (aG i2 an));have I3:=Aside0.mk ((i3.below an).bk N (by omega));have c8:H.heap.size<=W.heap.size:=by have:=N.size;have:=an.size;omega
    clear i1 i2 i3 an N ey;simp only at c6;obtain⟨u0,u1,m0,m1⟩:=c6;obtain⟨u,rfl⟩:=Int.eq_ofNat_of_zero_le u0;have a0:u<n:=by omega
    have c9:=Aside0.mk (Bg t v i.1 pre (u,m));have e0:=Aside0.mk ((qa t v pre i.1).trans L1.out);generalize fx t v i.1 pre=I at L c9 e0;have z0:=L.out.c1;have z1:=L.out.c2;have z2:W.cell? ⟨wr.heap.size,0,none⟩=some (.int .i64 v):=(ao I2.out 0).trans rfl;have z3:=L.out.si.f3;have z4:=L.out.si.jN v M;have z5:=L.out.si.nU v M;clear aa bv aL aO bw bx be;gi_wp2;refine nV [_,_,_,_,_,_,_,_,_,_,_,_] _ rfl (by kernel_rfl) rfl (by kernel_rfl) (by kernel_rfl) (by kernel_rfl) (by kernel_rfl) ?_;repeat(gi_big_quiet_step (fail))
    refine wpQuietIn_nil ?_;rintro _ ⟨nq,rfl⟩;have G:=Aside0.mk (L.out.drewN nq);have S:=Aside0.mk (gV I2.out nq);have T:=Aside0.mk (I3.out.below (bP (Below.refl _ _) nq));have U:H.heap.size<=(W.drewN nq).heap.size:=by simpa using c8
    have V:=Aside0.mk (cN (nw:=H.heap.size) (bP (Below.refl W.heap.size W) nq));have X:=Aside0.mk (bP (Below.refl w0.heap.size W) nq);have Y:Aside0 (∀k,k≠gd->(W.drewN nq).heap[k]? =W.heap[k]?):=⟨fun k _=>by simp⟩;clear z0 z1 z2 z3 z4 z5;have z4:=G.out.si.jN v M;have z5:=G.out.si.nU v M;generalize W.drewN nq=Wq at G S T U V X Y z4 z5⊢;gi_wp2;have c':gd<H.heap.size:=by omega
    have dk:wr.heap.size≠gd:=by omega
    have O:=Aside0.mk (G.out.nS v (wrap64 (rd I v-wrap64 (m*t))));have b1:=Aside0.mk (aC (p:=⟨gd,v,none⟩) S.out dk (.int .i64 (wrap64 (rd I v-wrap64 (m*t)))));have b2:Aside0 (cn w.heap.size b ds (Wq.setCell ⟨gd,v,none⟩ (.int .i64 (wrap64 (rd I v-wrap64 (m*t)))))):=⟨by
     obtain⟨inner,ho⟩:=Kd.iT G.out.si.d;obtain⟨cells,hc⟩:=iS ho gd rfl;exact T.out.set (p:=⟨gd,v,none⟩) hc _⟩
    have b3:H.heap.size<=(Wq.setCell ⟨gd,v,none⟩ (.int .i64 (wrap64 (rd I v-wrap64 (m*t))))).heap.size:=by simpa using U
    have b4:=Aside0.mk (V.out.trans (fa (bo:=gd) (j:=v) Wq (.int .i64 (wrap64 (rd I v-wrap64 (m*t)))) c'));have b5:=Aside0.mk (Below.setCell (p:=⟨gd,v,none⟩) X.out q4 (.int .i64 (wrap64 (rd I v-wrap64 (m*t)))));have b6:Aside0 (∀k,k≠gd->(Wq.setCell ⟨gd,v,none⟩ (.int .i64 (wrap64 (rd I v-wrap64 (m*t))))).heap[k]? =W.heap[k]?):=⟨fun k hk=>(Below.heap_setCell _ _ _ _ hk).trans (Y.out k hk)⟩;clear z4 z5 G S T U V X Y;generalize Wq.setCell ⟨gd,v,none⟩ (.int .i64 (wrap64 (rd I v-wrap64 (m*t))))=Wa at O b1 b2 b3 b4 b5 b6⊢;have z0:=O.out.c1;have z1:=O.out.c2;have z3:=O.out.si.f3;have z4:=O.out.si.jN u a0;have z5:=O.out.si.nU u a0;have e1:(u:Int)<(n:Int):=by omega
    refine nV [_,_,_,_,_,_,_,_,_,_,_,_] _ rfl (by kernel_rfl) rfl (by kernel_rfl) (by kernel_rfl) (by kernel_rfl) (by kernel_rfl) ?_;repeat(gi_big_quiet_step (fail))
    refine wpQuietIn_nil ?_;rintro _ ⟨P,rfl⟩;have G:=Aside0.mk (O.out.drewN P);have S:=Aside0.mk (gV b1.out P);have T:=Aside0.mk (b2.out.below (bP (Below.refl _ _) P));have U:H.heap.size<=(Wa.drewN P).heap.size:=by simpa using b3
    have V:=Aside0.mk (b4.out.trans (cN (nw:=H.heap.size) (bP (Below.refl Wa.heap.size Wa) P)));have X:=Aside0.mk (bP b5.out P);have Y:Aside0 (∀k,k≠gd->(Wa.drewN P).heap[k]? =W.heap[k]?):=⟨fun k hk=>by simpa using b6.out k hk⟩;clear z0 z1 z3 z4 z5 O b1 b2 b3 b4 b5 b6;have z4:=G.out.si.jN u a0;have z5:=G.out.si.nU u a0;generalize Wa.drewN P=Wb at G S T U V X Y z4 z5⊢;gi_wp2;have e2:cn w.heap.size b ds (Wb.setCell ⟨gd,u,none⟩ (.int .i64 (wrap64 (rd (I.set v (wrap64 (rd I v-wrap64 (m*t)))) u+wrap64 (m*t))))):=by
     obtain⟨inner,ho⟩:=Kd.iT G.out.si.d;obtain⟨cells,hc⟩:=iS ho gd rfl;exact T.out.set (p:=⟨gd,u,none⟩) hc _
    refine⟨V.out.trans (fa _ _ c'),⟨fun _=>Below.setCell (p:=⟨gd,u,none⟩) X.out q4 _,fun k hk _=>(Below.heap_setCell _ _ _ _ ?_).trans (Y.out k ?_)⟩,by simpa using U,?_,aC S.out dk _,e2⟩
    ·show k≠gd
     rcases hk with rfl|rfl|rfl<;>omega
    ·rcases hk with rfl|rfl|rfl<;>omega
    ·rw[c9.out];exact G.out.nS u _
   case done=>
    rintro s' xs W W' _ rfl ⟨hs,i1,i2,i3⟩ N b_;have L:=Aside0.mk (i1.bk N (by omega));have I3:=Aside0.mk (i3.bk N (by omega));have e3:=Aside0.mk b_;have c8:H.heap.size<W'.heap.size:=(Array.getElem?_eq_some_iff.1 b_).1;clear i1 i2 i3 b_;gi_wp2;exact kg.intro (n- (v+1)) (by rw[HK.out];omega) (HJ.out _ _ _ ⟨_,_,_,_,_,_,_,_,_,_,_,_,_,_,_,_,_,_,_,_,_,_,v+1,by omega,by rw[Q.out];exact L,⟨rfl⟩,rfl⟩) (H.heap.size+1) (by omega) (I3.out.push (by omega) (by omega) e3.out)
 ·obtain rfl:v=n:=by omega
  have x0:=y.out.c1;have s3:=y.out.si.f3;have s4:=y.out.si.f4;have s5:=y.out.si.f5;clear HJ hK;gi_wp2;gi_loopg [65] (v) (fun kq uv wq=>∃u:Nat,u<=v∧uv= .int .i64 u∧Aside0 (∃m,wq=wr.drewN m)∧Aside0 (kq=v-u))
  case atStart=>exact⟨0,by omega,rfl,⟨0,rfl⟩,⟨rfl⟩⟩
  case round=>
   obtain⟨u,hu,rfl,⟨⟨m,hm⟩⟩,e5⟩:=hrel;subst hm;by_cases b':u<v
   ·have gg:(0:Int)<=(u:Int):=by omega
    have e1:(u:Int)<(v:Int):=by omega
    have r:=Aside0.mk (y.out.drewN m);have y6:=r.out.si.jN u b';have y7:=r.out.si.cells u b';obtain⟨o1,o2,o3,o4⟩:=ch.out u b';have y0:=r.out.c1;have y3:=r.out.si.f3;have y4:=r.out.si.f4;have y5:=r.out.si.f5;have HM:Aside0 (∃m',wr.drewN m=wr.drewN m'):=⟨m,rfl⟩;clear x0 s3 s4 s5 r;generalize rd (bj E In t v (d,s)).1 u=a at y6 o1 o2;generalize rd (bj E In t v (d,s)).2 u=Z at y7 o3 o4;generalize wr.drewN m=wq at y0 y3 y4 y5 y6 y7 HM⊢;have gl:decide (2097152<(if(if(if a< -a then -a else a)<Z then Z else if a< -a then -a else a)< -Z then -Z else if(if a< -a then -a else a)<Z then Z else if a< -a then -a else a))=false:=by
     rw[decide_eq_false_iff_not];repeat' split
     all_goals omega
    gi_wp2;gi_quiet (fail)
    gi_wp2
    all_goals
     gi_roundg (v- (u+1))
     case measure=>rw[e5.out];omega
     case rel=>exact⟨u+1,by omega,by go_num,⟨by obtain⟨m',fn⟩:=HM.out;rw[fn];simp only[World.drewN_drewN];exact⟨_,rfl⟩⟩,⟨rfl⟩⟩
   ·obtain rfl:u=v:=by omega
    clear L1 L2 HE ch x0 s3 s4 s5;gi_wp2;refine(tD (a4.out.below (bP (Below.refl _ _) m)) fun w' ca=>?_).1;exact⟨_,results_none rfl _ _ _,rfl,(y.out.si.drewN m).fin ca ck,fun k h1 h2 h3=>(ca.kf.block k h1).trans (y.out.hf k h1 h2 h3),by have:=ca.size;simp at this;omega⟩
end
end Go.Proofs.YtffdiakgjakngaaGreat.P

