/- RiemannrochLoses answers true whatever the input (text 5 of 7): own walks and plain laws; no conditions. -/
import Derived.DeepKeys3
import Derived.Maps.Keyed
import Derived.Maps.Own
import Derived.StillTailTactics
import Derived.Test.YtffdiakgjakngaaGreatLoses4
namespace Go.Proofs.YtffdiakgjakngaaGreat.P
open Go.RowKit Go.Proofs.YtffdiakgjakngaaGreatW.PrintWords Go.Proofs.YtffdiakgjakngaaGreatW.PrintLast Go.Proofs.YtffdiakgjakngaaGreatW.PrintMore
set_option linter.unusedVariables false
set_option linter.unusedSimpArgs false
set_option maxHeartbeats 8000000
set_option maxRecDepth 100000
section
attribute [local go_sem] Oper.semAt_some
def jf.f (k:Nat) (N:Int) (E:List S83) (q:Int) (d:List Int):Option (List Int×List Int×Int):=
 (jE.f k N E q d).bind fun e=>if e=0 then(if gu N E q d=true then((iD N.toNat E q.toNat d k).bind fun s=>some (cN N.toNat E d s,s,0)) else none) else some ([],[],e)
theorem Fq {n q:Nat} {t:Nat->Nat->Int} (b:T.Wt n t) (a:q<n) (hn:n<=12) (e:T.sN (T.val n t) n<=19) {D dist:Nat->Int} (g:∀v,v<n-> -200<=D v/\D v<=200) {d s:List Int} (i:d.length=n) (j:s.length=n) (hp:∀v:Nat,v<n->v≠q->0<=rd d v)
  (h:T.fp n t D dist 200 0 (fun v=>rd d (v:Nat)) (fun v=>rd s (v:Nat))):jD n q t D d s:=by
 have hb:=nI b hn e g (by omega) (by omega) h;exact⟨i,j,h.eq,hp,(hb q a).1,fun v k=>(hb v k).2.2.1,(hb q a).2.2.2⟩
theorem Fs (k:Nat) (N:Int) (A0:Option Addr) (c0:Nat) (E:List S83) (q:Int) (a:Option Addr) (c2:Nat) (d:List Int) (t:Int) (w:World) (j:Kd.C aN w A0 E.length E) (l:E.length<=c0) (b:Kd.C (Kd.int .i64) w a d.length d) (g:d.length<=c2)
  (h:jE.f k N E q d=some t) (i:t≠0):
  Calls Tryz.prog 54 #[.agg #[.int .i64 N,.slice A0 E.length c0],.int .i64 q,.slice a d.length c2] w fun e w'=>e= .returned (.tuple #[.slice none 0 0,.slice none 0 0,.int .i64 t])/\Below w.heap.size w w':=by
 have hu:=Tryz.underlying24;have m:=zA h;have n:=zA b;have o:=zA g;have r:(t != 0)=true:=by simpa using i
 clear h i b g;go_enter Tryz.func54,Tryz.ntmps54
 go_wp2_with (go_at_call 108;refine(jE.calls k N A0 c0 E q a c2 d t _ (Kd.bp j _) l (Kd.bp n.out _) o.out m.out).mono ?_;rintro e w1 ⟨rfl,hb⟩;have p:=zA (aZ (ao (aq w.heap.size w) _) hb);clear hb)
 refine bodyPost_ret (results_tmp3 rfl _ _ _) rfl ?_;exact⟨rfl,p.out⟩
theorem Ft (n:Nat) (q:Int) (A0:Option Addr) (c0:Nat) (E:List S83) (a:Option Addr) (cd:Nat) (d:List Int) (w:World) (hd:Kd.C (Kd.int .i64) w a d.length d) (b:d.length<=cd) (h:d.length=n) (h1:1<=n) (hn:n<=1000):
  Calls Tryz.prog 109 #[.agg #[.int .i64 n,.slice A0 E.length c0],.int .i64 q,.slice a d.length cd] w fun e w'=>∃g gd gs i j,e= .returned (.pointer (some ⟨g,0,none⟩))/\SI w g gd gs i j n A0 c0 E q d (List.replicate n 0) w':=by
 subst h;exact Fo d.length q A0 c0 E a cd d w hd b rfl h1 hn
theorem Fu (k n:Nat) (A0:Option Addr) (c0:Nat) (E:List S83) (q:Nat) (z:Option Addr) (c2:Nat) (d s:List Int) (w:World) (J:Kd.C aN w A0 E.length E) (ak:E.length<=c0) (K:Kd.C (Kd.int .i64) w z d.length d) (L:d.length<=c2)
  (M:jE.f k n E q d=some 0) (l:dU n q E d) (N:kF n E q d s=true):
  Calls Tryz.prog 54 #[.agg #[.int .i64 n,.slice A0 E.length c0],.int .i64 q,.slice z d.length c2] w fun e w'=>∃gd gs m o,e= .returned (.tuple #[.slice (some ⟨gd,0,none⟩) n m,.slice (some ⟨gs,0,none⟩) n o,.int .i64 0])/\gd≠gs/\(Kd.int .i64).R 3 w' w.heap.size (fun _=>True) (.slice (some ⟨gd,0,none⟩) n m) (cN n E d s)/\(Kd.int .i64).R 3 w' w.heap.size (fun _=>True) (.slice (some ⟨gs,0,none⟩) n o) s/\Below w.heap.size w w':=by
 have hu:=Tryz.underlying24;have HG:=zA M;have O:=zA K;have P:=zA L;have a:=zA l;have F:=(nJ l.right).1 N;have G:=zA F.2;have an:=zA F.1;have Q:=zA l.dl;clear M K L F N;have S:=l.n1;have r:=l.n12;have p:=l.q;clear l;go_enter Tryz.func54,Tryz.ntmps54
 go_wp2_with (go_at_call 108;refine(jE.calls k n A0 c0 E q z c2 d 0 _ (Kd.bp J _) ak (Kd.bp O.out _) P.out HG.out).mono ?_;rintro e w1 ⟨rfl,hb⟩;have H:=aE (bc w (.cells #[.int .i64 n,.slice A0 E.length c0] 24)) hb;have y0:=(aj H 0).trans rfl;have y1:=(aj H 1).trans rfl;have B:=zA (aZ (ao (aq w.heap.size w) _) hb);clear hb H)
 refine(Ft n q A0 c0 E z c2 d w1 (Kd.aw O.out B.out) P.out Q.out S (by omega)).mono ?_;rintro e w2 ⟨g,gd,gs,m,o,rfl,j⟩;have U:=zA j;have V:=zA (Kd.aw J B.out);have W:=B.out.size;clear j y0 y1;go_wp2_with (go_at_call 110;refine(Fl g gd gs m o n A0 c0 E q d w1 _ V.out a.out.right a.out.len a.out.conn r p a.out.val a.out.d Q.out U.out).mono ?_;rintro e w3 ⟨rfl,d3,s3,l1,l2,j,hp,dist,hle⟩;have X:=zA j;have Y:=zA (Fq a.out.right.wt p r a.out.val a.out.d l1 l2 hp hle);clear l1 l2 j hp hle U)
 refine(E8 g gd gs m o n A0 c0 E q (fun v=>rd d (v:Nat)) (fun v=>rd (cN n E d s) (v:Nat)) (fun v=>rd s (v:Nat)) d3 s3 w1 w3 V.out a.out.right a.out.len a.out.conn r p a.out.val a.out.d G.out Y.out X.out).mono ?_;rintro e w4 ⟨rfl,d4,b,j,x,Z⟩;have aa:=zA j;have aB:=zA (x.bounds a.out.right.wt (a.out.right.conn a.out.conn) p r a.out.val a.out.d G.out);have I:eH n q (af E) (fun v=>rd d (v:Nat)) (fun v=>rd d4 (v:Nat)) (fun v=>rd b (v:Nat)-rd b q):=⟨⟨x.kB,Z⟩,fun v i=>by
  have h:=T.mc n (af E) (fun u=>rd b (u:Nat)) (fun _=>rd b q) v;rw[T.kr] at h;rw[h,x.eq v i];omega,by show rd b q-rd b q=0;omega⟩
 have HU:=zA (eH.unique a.out.right.wt (a.out.right.conn a.out.conn) p I G.out);have ad:=zA (eH.bound a.out.right.wt (a.out.right.conn a.out.conn) p r a.out.val a.out.d I);have ag:=zA x.dl;have D:=zA x.sl;clear j x Z I X Y;go_wp2_with (go_at_call 112;refine(Fp g gd gs m o n A0 c0 E q d4 b w1 _ S r p aa.out ag.out D.out (fun v i=>by have:=ad.out v i;omega) (fun v i=>by have h1: -31536<=rd b v-rd b q/\rd b v-rd b q<=31536/\_:=ad.out v i;have h2:=aB.out v i;omega)).mono ?_;rintro e w5 ⟨rfl,j⟩;have aF:=zA j;clear j aa)
 refine bodyPost_ret (results_tmp3 rfl _ _ _) rfl ?_;have e1:d4=cN n E d s:=wK ag.out (pB n E d s) (fun v i=>(HU.out v i).1);have e2:e9 b (rd b q) n=s:=wK ((nN _ _ _).trans D.out) an.out (fun v i=>by
  rw[pF _ _ _ _ (by rw[D.out];omega) (by rw[D.out];exact i),if_pos i];exact(HU.out v i).2)
 have y:=aF.out;rw[e1,e2] at y;exact⟨gd,gs,m,o,rfl,y.ne.1,Kd.bj y.d W,Kd.bj y.s W,aZ B.out y.hb⟩
theorem jf.calls (k:Nat) (b:Int) (g:Option Addr) (i:Nat) (a:List (S83)) (j:Int) (l:Option Addr) (c2:Nat) (l2:List Int) (y:List Int) (z:List Int) (B:Int) (w:World) (D:Kd.C aN w g a.length a) (E:a.length<=i) (F:Kd.C (Kd.int .i64) w l l2.length l2) (G:l2.length<=c2) (h:jf.f k b a j l2=some (y,z,B)):
  Calls Tryz.prog 54 #[.agg #[.int .i64 b,.slice g a.length i],.int .i64 j,.slice l l2.length c2] w fun e w'=>∃o p:Value,e= .returned (.tuple #[o,p,.int .i64 B])/\Kd.R (Kd.int .i64) 3 w' w.heap.size (fun r=>some r≠(p:Value).ownBlock) o y/\Kd.R (Kd.int .i64) 3 w' w.heap.size (fun r=>some r≠(o:Value).ownBlock) p z/\Below w.heap.size w w':=by
 unfold jf.f at h;obtain⟨e,he,u⟩:=Option.bind_eq_some_iff.1 h;clear h;have h:=u;by_cases v:e=0
 ·subst v
  rw[if_pos rfl] at h;by_cases x:gu b a j l2=true
  ·rw[if_pos x] at h
   obtain⟨n,q,rfl,rfl,hk⟩:=pC x;obtain⟨s,m,u⟩:=Option.bind_eq_some_iff.1 h;clear h;have h:=u;simp only[aM,Option.some.injEq,Prod.mk.injEq] at m h;obtain⟨rfl,rfl,rfl⟩:=h;refine(Fu k n g i a q l c2 l2 s w D E F G he hk (rW m)).mono ?_;rintro e w' ⟨gd,gs,K,L,rfl,H,hd,m,hb⟩;exact⟨_,_,rfl,Kd.bb (Kd.gS rfl hd) (fun k hk e=>H (by have:=hk.symm.trans e;injection this)),Kd.bb (Kd.gS rfl m) (fun k hk e=>H (by have:=e.symm.trans hk;injection this)),hb⟩
  ·rw[if_neg x] at h;cases h
 ·rw[if_neg v] at h
  injection h with h
  injection h with h1 h
  injection h with I J
  subst h1 I J;refine(Fs k b g i a j l c2 l2 e w D E F G he v).mono ?_;rintro e' w' ⟨rfl,hb⟩;exact⟨_,_,rfl,Kd.dh _ _ _ _ _,Kd.dh _ _ _ _ _,hb⟩
end
section
attribute [local go_sem] Oper.semAt_some
theorem wZ (W:World) (t:TypeId) {A B:Option Addr} {a b:List Int} {e cb:Nat} (h:Kd.C (Kd.int .i64) W A a.length a) (k:a.length<=e) (hb:Kd.C (Kd.int .i64) W B b.length b) (l:b.length<=cb):
  Kd.C (Kd.slice 3 (Kd.int .i64)) (W.alloc (.cells #[.slice A a.length e,.slice B b.length cb] t)) (some ⟨W.heap.size,0,none⟩) [a,b].length [a,b]:=by
 have g:=bc W (.cells #[.slice A a.length e,.slice B b.length cb] t);refine⟨rfl,by simp,fun _=>⟨_,rfl,fun j p hp=>?_⟩⟩;match j,hp with
 |0,hp=>
  obtain rfl:a=p:=by simpa using hp
  refine⟨[.slice A a.length e],rfl,⟨A,e,rfl,k,Kd.bp h _⟩,fun i u hu=>?_⟩;match i,hu with
  |0,hu=>
   obtain rfl:Value.slice A a.length e=u:=by simpa using hu
   rw[add_plain];exact(aj g 0).trans rfl
  |i+1,hu=>simp at hu
 |1,hp=>
  obtain rfl:b=p:=by simpa using hp
  refine⟨[.slice B b.length cb],rfl,⟨B,cb,rfl,l,Kd.bp hb _⟩,fun i u hu=>?_⟩;match i,hu with
  |0,hu=>
   obtain rfl:Value.slice B b.length cb=u:=by simpa using hu
   rw[add_plain];exact(aj g 1).trans rfl
  |i+1,hu=>simp at hu
 |j+2,hp=>simp at hp
theorem r6 (W:World) (t:TypeId) {A:Option Addr} {a:List Int} {b:Nat} (e:Kd.C (Kd.int .i64) W A a.length a) (g:a.length<=b):
  Kd.C (Kd.slice 3 (Kd.int .i64)) (W.alloc (.cells #[.slice A a.length b] t)) (some ⟨W.heap.size,0,none⟩) [a].length [a]:=by
 have h:=bc W (.cells #[.slice A a.length b] t);refine⟨rfl,by simp,fun _=>⟨_,rfl,fun j p hp=>?_⟩⟩;match j,hp with
 |0,hp=>
  obtain rfl:a=p:=by simpa using hp
  refine⟨[.slice A a.length b],rfl,⟨A,b,rfl,g,Kd.bp e _⟩,fun i u hu=>?_⟩;match i,hu with
  |0,hu=>
   obtain rfl:Value.slice A a.length b=u:=by simpa using hu
   rw[add_plain];exact(aj h 0).trans rfl
  |i+1,hu=>simp at hu
 |j+1,hp=>simp at hp
def iG (a b:List Int) (k:Nat):List Int:=(List.range a.length).map fun v=>if v<k then rd a (v:Nat)-rd b (v:Nat) else 0
def dz (a b:List Int):List Int:=iG a b a.length
def nO (a b:List Int):Bool:=decide (a.length=b.length/\1<=a.length/\a.length<=12)&&a.all cI&&b.all cI
def iH.f (k:Nat) (a b:List Int):Option (List Int×Int):=
 (bN.f k [a,b]).bind fun e=>if e=0 then(if nO a b=true then(if(dz a b).all cI=true then some (dz a b,0) else some ([],11)) else none) else some ([],e)
theorem iH.mono:∀l0 l1 k,al (iH.f k l0 l1) (iH.f (k+1) l0 l1):=by
 intro a b k;unfold iH.f;exact al.bind (bN.mono _ _) (fun _=>al.refl _)
theorem Fv (x y:Int) (w:World) (a: -1048576<=x/\x<=1048576) (b: -1048576<=y/\y<=1048576):Calls Tryz.prog 59 #[.int .i64 x,.int .i64 y] w fun e w'=>e= .returned (.int .i64 (x-y))/\w'=w:=by
 obtain⟨h1,g⟩:=a;obtain⟨h,i⟩:=b;go_enter Tryz.func59,Tryz.ntmps59
 go_wp2;go_ret;exact⟨rfl,rfl⟩
theorem pG (a b:List Int) (k:Nat):(iG a b k).length=a.length:=by simp[iG]
theorem Fw {a b:List Int} {v:Nat} (g:v<a.length):(iG a b v).set v (rd a v-rd b v)=iG a b (v+1):=by
 unfold iG;refine List.ext_getElem (by simp) fun i h1 j=>?_
 rw[List.getElem_set];simp only[List.getElem_map,List.getElem_range];by_cases e:v=i
 ·subst e;simp
 ·rw[if_neg e]
  by_cases h:i<v
  ·rw[if_pos h,if_pos (by omega)]
  ·rw[if_neg h,if_neg (by omega)]
theorem pH {a b:List Int} {v:Nat} (e:v<a.length):rd (dz a b) v=rd a v-rd b v:=by
 rw[show rd (dz a b) (v:Int)=(dz a b).getD v 0 by simp[rd],dz,iG,a7,List.getElem?_map,List.getElem?_range e];simp[e]
theorem Fx (k:Nat) (A0:Option Addr) (c0:Nat) (a:List Int) (g:Option Addr) (c1:Nat) (b:List Int) (t:Int) (n:Value) (w:World) (h:Kd.C (Kd.int .i64) w A0 a.length a) (o:a.length<=c0) (i:Kd.C (Kd.int .i64) w g b.length b) (p:b.length<=c1)
  (j:bN.f k [a,b]=some t) (l:t≠0):
  Calls Tryz.prog 58 #[.slice A0 a.length c0,.slice g b.length c1,n] w fun e w'=>e= .returned (.tuple #[.slice none 0 0,.int .i64 t])/\Below w.heap.size w w':=by
 have q:=zA j;have r:=zA (wZ w 26 h o i p);have s:(t != 0)=true:=by simpa using l
 clear j l h i;go_enter Tryz.func58,Tryz.ntmps58
 go_wp2_with (go_at_call 118;refine(bN.calls k (some ⟨w.heap.size,0,none⟩) 2 [a,b] t _ r.out (by simp) q.out).mono ?_;rintro e w1 ⟨rfl,⟨m,rfl⟩⟩)
 go_ret2;exact⟨rfl,bY (ao (aq _ _) _) m⟩
def jg (n:Nat) (a b:List Int) (base:Nat) (e:Ending) (w':World):Prop:=if(dz a b).all cI=true then ∃go co,e= .returned (.tuple #[.slice (some ⟨go,0,none⟩) n co,.int .i64 0])/\(Kd.int .i64).R 3 w' base (fun _=>True) (.slice (some ⟨go,0,none⟩) n co) (dz a b) else e= .returned (.tuple #[.slice none 0 0,.int .i64 11])
theorem jg.bad {n:Nat} {a b:List Int} {base:Nat} {w':World} {v:Nat} (e:v<a.length) (h:cI (rd a v-rd b v)=false):jg n a b base (.returned (.tuple #[.slice none 0 0,.int .i64 11])) w':=by
 unfold jg;rw[if_neg];intro g;rw[List.all_eq_true] at g;have i:v<(dz a b).length:=by simpa [dz,pG] using e
 have h1:=g (dz a b)[v] (List.getElem_mem i);have j:=pH (b:=b) e;rw[show rd (dz a b) (v:Int)=(dz a b)[v] by simp[rd,a7,bK i]] at j;rw[j,h] at h1;cases h1
theorem Fy (k n:Nat) (A0:Option Addr) (c0:Nat) (a:List Int) (S:Option Addr) (c1:Nat) (b:List Int) (w:World) (E:Kd.C (Kd.int .i64) w A0 a.length a) (an:a.length<=c0) (F:Kd.C (Kd.int .i64) w S b.length b) (ap:b.length<=c1)
  (T:bN.f k [a,b]=some 0) (G:a.length=n) (H:b.length=n) (bv:1<=n) (hn:n<=12) (U:∀v:Nat,v<n-> -1048576<=rd a v/\rd a v<=1048576) (hb:∀v:Nat,v<n-> -1048576<=rd b v/\rd b v<=1048576):
  Calls Tryz.prog 58 #[.slice A0 n c0,.slice S n c1,.func (.func 59) #[] #[]] w fun e w'=>jg n a b w.heap.size e w'/\Below w.heap.size w w':=by
 have HG:=zA T;have I:=wZ w 26 E an F ap;rw[G,H] at I;have HC:=zA I;have aB:=zA E;have aF:=zA F;have HA:=zA U;have HB:=zA hb;have q:=zA G;have aP:=zA H;have aS:(0:Int)<=(n:Int):=by omega
 clear T E F U hb I G H;go_enter Tryz.func58,Tryz.ntmps58
 go_wp2_with (first|(go_at_call 118;refine(bN.calls k (some ⟨w.heap.size,0,none⟩) 2 [a,b] 0 _ HC.out (by simp) HG.out).mono ?_;rintro e w1 ⟨rfl,⟨m,rfl⟩⟩)|((with_reducible refine aJ (N:=20) rfl ?_);refine Kd.kg (Kd.int .i64) (w0:=w) w.heap.size 3 rfl (N:=20) rfl 26 _ _ rfl (n:Int) rfl rfl Tryz.underlying26 (.int .i64 0) 8 gB rfl (by decide) (by omega) 0 (ok:=fun _=>True) (okp:=fun _=>True) rfl (fun _ hk=>hk) trivial aS (by simp;omega) (bY (ao (aq _ _) _) m) (by simp) ?_;intro v1 w5 r hb a1 a2;rw[aM] at r;obtain⟨go,co,J,a3,bw, -⟩:=Kd.fK r (by rw[List.length_replicate];omega);rw[List.length_replicate] at J;subst J;have V:=zA r;have W:=zA hb;clear r hb a1 a2))
 have X:Aside0 ((Kd.int .i64).R 3 w5 w.heap.size (fun _=>True) (.slice (some ⟨go,0,none⟩) n co) (iG a b 0)):=⟨by
  have h:=V.out;rw[show List.replicate n (0:Int)=iG a b 0 from by
   rw[<-q.out];unfold iG;refine List.ext_getElem (by simp) fun i h1 h2=>?_
   simp] at h
  exact h⟩
 clear V;go_loopg [23] (n) (fun kq vv wr=>∃v:Nat,v<=n/\vv= .int .i64 v/\Aside0 ((Kd.int .i64).R 3 wr w.heap.size (fun _=>True) (.slice (some ⟨go,0,none⟩) n co) (iG a b v))/\Aside0 (Below w.heap.size w wr)/\Aside0 (∀u:Nat,u<v->cI (rd a u-rd b u)=true)/\Aside0 (kq=n-v))
 case atStart=>exact⟨0,by omega,rfl,X,W,⟨fun u hu=>by omega⟩,⟨rfl⟩⟩
 case round=>
  clear X W;obtain⟨v,J,rfl,s,l,Y,HK⟩:=hrel;by_cases Z:v<n
  ·have b0:(0:Int)<=(v:Int):=by omega
   have b1:(v:Int)<(n:Int):=by omega
   have ad:=q.out;have bd:=aP.out;obtain⟨aa,ea,K⟩:=Kd.bU (Kd.aw aB.out l.out) (v:Int) (by omega) (by omega);obtain⟨ab,eb,L⟩:=Kd.bU (Kd.aw aF.out l.out) (v:Int) (by omega) (by omega);subst ea eb;rw[aM] at K L;obtain⟨g,hf⟩:=Kd.b7 0 s.out (v:Int) (by omega) (by omega);rw[aM] at g hf;generalize bW 0 (iG a b v) (v:Int)=z at g;replace g:wr.cell? ⟨go,v,none⟩=some (.int .i64 z):=g;have ag:=HA.out v Z;have ak:=HB.out v Z;have M:=Kd.dt (Kd.bq s.out) (v:Int) (rd a v-rd b v);rw[aM,Fw (show v<a.length by omega)] at M;have B:=zA M.1;have o:=zA (Below.setCell (p:=⟨go,v,none⟩) (bZ l.out) a3 (.int .i64 (rd a v-rd b v)));have O:=zA (show cI (rd a v-rd b v)=true->∀u:Nat,u<v+1->cI (rd a u-rd b u)=true from fun h u hu=>by
    by_cases e:u=v
    ·subst e;exact h
    ·exact Y.out u (by omega))
   have P:Aside0 (cI (rd a v-rd b v)=false->∀w',jg n a b w.heap.size (.returned (.tuple #[.slice none 0 0,.int .i64 11])) w'):=⟨fun h w'=>jg.bad (by omega) h⟩;have b4:=zA ad;clear M s l ad bd;generalize rd a v=x at K ag B o O P;generalize rd b v=y at L ak B o O P;go_wp2_with fail
   refine wp_region_still_tail 13 (by kernel_rfl) (by kernel_rfl) ?_;simp only[List.take_succ_cons,List.take_zero,List.drop_succ_cons,List.drop_zero];repeat(first|still_step|still_call (Fv x y _ ag ak))
   refine wpStill_nil ?_;change wpList _ _ _ _ _ wr.drew
   have bg:wr.drew.cell? ⟨go,v,none⟩=some (.int .i64 z):=g;have bi:wr.drew.frozen? ⟨go,v,none⟩=false:=hf;clear g hf K L;generalize wr.drew=W2 at B o bg bi⊢;have D:=zA (wG (x-y));cases j:cI (x-y) with
   |true=>
    have Q:=zA j;rw[j] at D;clear j;go_wp2_with (go_at_call 119;refine(hU.calls (x-y) true _ D.out).mono ?_;rintro e w8 ⟨rfl,⟨m8,rfl⟩⟩)
    go_roundg (n- (v+1))
    case measure=>rw[HK.out];omega
    case rel=>exact⟨v+1,by omega,by go_num,⟨Kd.bD B.out _⟩,⟨bY o.out _⟩,⟨O.out Q.out⟩,⟨rfl⟩⟩
   |false=>
    have Q:=zA j;rw[j] at D;clear j;go_wp2_with (go_at_call 119;refine(hU.calls (x-y) false _ D.out).mono ?_;rintro e w8 ⟨rfl,⟨m8,rfl⟩⟩)
    go_ret2;exact⟨P.out Q.out _,bY o.out _⟩
  ·obtain rfl:n=v:=by omega
   go_wp2;go_ret2;have bn:(dz a b).all cI=true:=by
    rw[List.all_eq_true];intro x hx;obtain⟨u,hu,rfl⟩:=List.getElem_of_mem hx;have am:u<a.length:=by simpa [dz,pG] using hu
    have:=Y.out u (by rw[<-q.out];exact am);rw[<-pH am] at this;simpa [rd,a7,bK hu] using this
   refine⟨?_,l.out⟩;unfold jg;rw[if_pos bn];refine⟨go,co,rfl,?_⟩;have h:=s.out;unfold dz;rw[q.out];exact h
theorem w_ {l:List Int}:l.all cI=true↔∀v:Nat,v<l.length-> -1048576<=rd l v/\rd l v<=1048576:=by
 have e:∀(v:Nat) (a:v<l.length),rd l (v:Int)=l[v]:=fun v a=>by simp[rd,a7,bK a]
 rw[List.all_eq_true];constructor
 ·intro h v a
  rw[e v a];simpa [cI] using h l[v] (List.getElem_mem a)
 ·intro h x b
  obtain⟨v,a,rfl⟩:=List.getElem_of_mem b;have:=h v a;rw[e v a] at this;simpa [cI] using this
theorem Fz (k:Nat) (A0:Option Addr) (c0:Nat) (a:List Int) (g:Option Addr) (c1:Nat) (b:List Int) (t:Int) (w:World) (h:Kd.C (Kd.int .i64) w A0 a.length a) (i:a.length<=c0) (j:Kd.C (Kd.int .i64) w g b.length b) (l:b.length<=c1)
  (m:bN.f k [a,b]=some t) (n:t≠0):
  Calls Tryz.prog 16 #[.slice A0 a.length c0,.slice g b.length c1] w fun e w'=>e= .returned (.tuple #[.slice none 0 0,.int .i64 t])/\Below w.heap.size w w':=by
 have o:=zA (Fx k A0 c0 a g c1 b t (.func (.func 59) #[] #[]) w h i j l m n);clear h i j l m n;go_enter Tryz.func16,Tryz.ntmps16
 go_wp2_with (go_at_call 58;refine o.out.mono ?_;rintro e w1 ⟨rfl,hb⟩;have p:=zA hb;clear hb)
 go_ret2;exact⟨rfl,p.out⟩
theorem FA (k n:Nat) (A0:Option Addr) (c0:Nat) (a:List Int) (g:Option Addr) (c1:Nat) (b:List Int) (w:World) (m:Kd.C (Kd.int .i64) w A0 a.length a) (o:a.length<=c0) (p:Kd.C (Kd.int .i64) w g b.length b) (q:b.length<=c1)
  (r:bN.f k [a,b]=some 0) (i:a.length=n) (j:b.length=n) (z:1<=n) (hn:n<=12) (s:∀v:Nat,v<n-> -1048576<=rd a v/\rd a v<=1048576) (hb:∀v:Nat,v<n-> -1048576<=rd b v/\rd b v<=1048576):
  Calls Tryz.prog 16 #[.slice A0 a.length c0,.slice g b.length c1] w fun e w'=>jg n a b w.heap.size e w'/\Below w.heap.size w w':=by
 have B:=zA (Fy k n A0 c0 a g c1 b w m o p q r i j z hn s hb);rw[i,j];clear m o p q r s hb i j;have u:=zA (show ∀e w',jg n a b w.heap.size e w'->(∃go co,e= .returned (.tuple #[.slice (some ⟨go,0,none⟩) n co,.int .i64 0]))\/e= .returned (.tuple #[.slice none 0 0,.int .i64 11]) from fun e w' h=>by
  unfold jg at h;split at h
  ·obtain⟨go,co,he, -⟩:=h;exact .inl ⟨go,co,he⟩
  ·exact .inr h)
 go_enter Tryz.func16,Tryz.ntmps16
 go_wp2_with fail
 refine B.out.mono ?_;rintro e w1 ⟨l,hb⟩;have x:=zA l;have y:=zA hb;have hp:=u.out e w1 l;clear l hb u;rcases hp with⟨go,co,rfl⟩|rfl
 ·go_wp2
  go_ret2;exact⟨x.out,y.out⟩
 ·go_wp2
  go_ret2;exact⟨x.out,y.out⟩
theorem iH.calls (k:Nat) (A0:Option Addr) (c0:Nat) (l0:List Int) (g:Option Addr) (c1:Nat) (l1:List Int) (j:List Int) (l:Int) (w:World) (m:Kd.C (Kd.int .i64) w A0 l0.length l0) (n:l0.length<=c0) (o:Kd.C (Kd.int .i64) w g l1.length l1) (p:l1.length<=c1) (h:iH.f k l0 l1=some (j,l)):
  Calls Tryz.prog 16 #[.slice A0 l0.length c0,.slice g l1.length c1] w fun e w'=>∃q:Value,e= .returned (.tuple #[q,.int .i64 l])/\Kd.R (Kd.int .i64) 3 w' w.heap.size (fun _=>True) q j/\Below w.heap.size w w':=by
 unfold iH.f at h;obtain⟨e,he,r⟩:=Option.bind_eq_some_iff.1 h;clear h;have h:=r;clear r;by_cases i:e=0
 ·subst i
  rw[if_pos rfl] at h;by_cases a:nO l0 l1=true
  ·rw[if_pos a] at h
   unfold nO at a;simp only[Bool.and_eq_true,decide_eq_true_eq] at a;obtain⟨⟨⟨h1,u,x⟩,y⟩,z⟩:=a;refine(FA k l0.length A0 c0 l0 g c1 l1 w m n o p he rfl h1.symm u x (w_.1 y) (fun v D=>w_.1 z v (by omega))).mono ?_;rintro e w' ⟨b,hb⟩;unfold jg at b;by_cases s:(dz l0 l1).all cI=true
   ·rw[if_pos s] at b h
    obtain⟨go,co,rfl,B⟩:=b;simp only[Option.some.injEq,Prod.mk.injEq] at h;obtain⟨rfl,rfl⟩:=h;exact⟨_,rfl,B,hb⟩
   ·rw[if_neg s] at b h
    simp only[Option.some.injEq,Prod.mk.injEq] at h;obtain⟨rfl,rfl⟩:=h;exact⟨_,b,Kd.dh _ _ _ _ _,hb⟩
  ·rw[if_neg a] at h;cases h
 ·rw[if_neg i] at h
  simp only[Option.some.injEq,Prod.mk.injEq] at h;obtain⟨rfl,rfl⟩:=h;refine(Fz k A0 c0 l0 g c1 l1 e w m n o p he i).mono ?_;rintro e' w' ⟨rfl,hb⟩;exact⟨_,rfl,Kd.dh _ _ _ _ _,hb⟩
end
def fu.f (k:Nat) (b:Int) (e:List (S83)) (l1:List Int):Option (Bool×List Int×List Int×Int):=(jf.f k b e 0 l1).bind fun a=>(if a.2.2=0 then(if 0<(a.1.length:Int) then(some (decide ((rd a.1 0)>=0),a.1,a.2.1,0)) else(none)) else(some (false,([]:List Int),([]:List Int),a.2.2)))
theorem fu.calls (k:Nat) (g:Int) (l:Option Addr) (m:Nat) (b:List (S83)) (q:Option Addr) (c1:Nat) (l1:List Int) (B:Bool) (D:List Int) (E:List Int) (F:Int) (w:World) (G:Kd.C aN w l b.length b) (I:b.length<=m) (J:Kd.C (Kd.int .i64) w q l1.length l1) (K:l1.length<=c1) (h:fu.f k g b l1=some (B,D,E,F)):
  Calls Tryz.prog 14 #[.agg #[.int .i64 g,.slice l b.length m],.slice q l1.length c1] w fun e w'=>∃u v:Value,e= .returned (.tuple #[.bool B,u,v,.int .i64 F])/\Kd.R (Kd.int .i64) 3 w' w.heap.size (fun x=>some x≠(v:Value).ownBlock) u D/\Kd.R (Kd.int .i64) 3 w' w.heap.size (fun x=>some x≠(u:Value).ownBlock) v E/\Below w.heap.size w w':=by
 have ag:=Tryz.underlying24;have L:=zA G;have M:=zA I;clear G I;have O:=zA J;have P:=zA K;clear J K;have a:=zA (aq w.heap.size w);unfold fu.f at h;have H:=h;clear h;obtain⟨⟨t250,t253,t256⟩,Q,H⟩:=zo H;dsimp only at H;by_cases c4:t256=0
 ·rw[if_pos c4] at H
  obtain⟨U,V⟩:=bH c4;clear c4;by_cases r:0<(t250.length:Int)
  ·rw[if_pos r] at H
   have ak:=az r;have am:decide (0<t250.length)=true:=az (by omega);clear r;simp only[Option.some.injEq,Prod.mk.injEq] at H;obtain⟨rfl,rfl,rfl,rfl⟩:=H;go_enter Tryz.func14,Tryz.ntmps14
   go_wp2_with (first|((with_reducible refine aJ (N:=2) rfl ?_);refine zX 2 #[.int .i64 g,.slice l b.length m] 24 ?_;intro W i w6 n hb;have j:=zA (n);have X:=zG a i;have Y:=zG a i;replace a:=zS a hb;clear hb n i;obtain⟨ap,ar,av,aB⟩:=ax j)|((with_reducible refine aG (f:=54) rfl ?_);refine zL (some 14) Tryz.func54 #[.agg #[.int .i64 g,.slice l b.length m],.int .i64 0,.slice q l1.length c1] ?_;(with_reducible refine(jf.calls k g _ _ b 0 _ _ l1 t250 t253 t256 _ ?ah ?ai ?aW ?aX Q.out).mono ?_);(case ah=>exact Kd.aw L.out zB);(case ai=>exact M.out);(case aW=>exact Kd.aw O.out zB);(case aX=>exact P.out);rintro e w8 ⟨Z,aa,rfl,o,p,hb⟩;refine⟨_,rfl,?_⟩;have s:=zA (Kd.bj o (bu zB));have S:=zA (Kd.bj p (bu zB));replace j:=zb j hb;replace a:=zS a hb;(try clear hb);(try clear o);(try clear p);obtain⟨aL,aO,ab⟩:=Kd.bm s.out;subst ab;have y:0<=(0:Int):=(by omega);have z:0<(t250.length:Int):=ay ‹_›;obtain⟨aP,ad,T⟩:=Kd.bU (Kd.aQ s.out).2.2 0 y z;cases ad;have aS:(0<t250.length)=True:=eq_true (by omega);(try rw[show ((0:Int)).toNat=0 from rfl] at T);(try rw[Addr.add_zero'] at T);replace y:=eq_true y;replace z:=eq_true z))
   refine bodyPost_ret (tb (rs:=[.tmp 4,.tmp 5,.tmp 6,.tmp 7]) rfl (by simp) (.tmp (.tmp (.tmp (.tmp .nil))))) rfl ?_;exact⟨_,_,zE,by(with_reducible repeat(first|apply Kd.aR|apply Kd.bD|apply Kd.bq));exact s.out,by(with_reducible repeat(first|apply Kd.aR|apply Kd.bD|apply Kd.bq));exact S.out,zB⟩
  ·rw[if_neg r] at H
   exact absurd H (by simp)
 ·rw[if_neg c4] at H
  obtain⟨U,V⟩:=bI c4;simp only[Option.some.injEq,Prod.mk.injEq] at H;obtain⟨rfl,rfl,rfl,rfl⟩:=H;go_enter Tryz.func14,Tryz.ntmps14
  go_wp2_with (first|((with_reducible refine aJ (N:=2) rfl ?_);refine zX 2 #[.int .i64 g,.slice l b.length m] 24 ?_;intro W i a0 n hb;have j:=zA (n);have X:=zG a i;have Y:=zG a i;replace a:=zS a hb;clear hb n i;obtain⟨a1,a2,a3,a4⟩:=ax j)|((with_reducible refine aG (f:=54) rfl ?_);refine zL (some 14) Tryz.func54 #[.agg #[.int .i64 g,.slice l b.length m],.int .i64 0,.slice q l1.length c1] ?_;(with_reducible refine(jf.calls k g _ _ b 0 _ _ l1 t250 t253 t256 _ ?ah ?ai ?aW ?aX Q.out).mono ?_);(case ah=>exact Kd.aw L.out zB);(case ai=>exact M.out);(case aW=>exact Kd.aw O.out zB);(case aX=>exact P.out);rintro e a5 ⟨Z,aa,rfl,o,p,hb⟩;refine⟨_,rfl,?_⟩;have s:=zA (Kd.bj o (bu zB));have S:=zA (Kd.bj p (bu zB));replace j:=zb j hb;replace a:=zS a hb;(try clear hb);(try clear o);(try clear p)))
  refine bodyPost_ret (tb (rs:=[.tmp 4,.tmp 5,.tmp 6,.tmp 7]) rfl (by simp) (.tmp (.tmp (.tmp (.tmp .nil))))) rfl ?_;exact⟨_,_,zE,by first|exact Kd.dh _ _ _ _ _|exact Kd.gT _ _ _ _ _|exact Kd.V_nil _ _ _ _ _|exact Kd.Q_nil _ _ _ _ _|exact Kd.gw _ _ _ _ _,by first|exact Kd.dh _ _ _ _ _|exact Kd.gT _ _ _ _ _|exact Kd.V_nil _ _ _ _ _|exact Kd.Q_nil _ _ _ _ _|exact Kd.gw _ _ _ _ _,zB⟩
def fw.l0:Nat->List (List Int)->Int->Int->Int->List (S83)->Option (Int)
 |0,_,_,_,_,_=>none
 |k+1,b,e,a,g,i=>if a<e then(if 0<=a then(if a<(b.length:Int) then((bs.f k (aV b a) g).bind fun h=>(if h=0 then(fw.l0 k b e (wrap64 (a+1)) g i) else(some h))) else(none)) else(none)) else(some 0)
def fw.f (k:Nat) (b:Int) (e:List (S83)) (l1:List (List Int)):Option (Int):=(cB.f k b e).bind fun a=>(if a.2=0 then(if a.1=true then(fw.l0 k l1 (l1.length:Int) 0 b e) else(some 13)) else(some a.2))
theorem fw.calls (k:Nat) (b:Int) (m:Option Addr) (n:Nat) (i:List (S83)) (U:Option Addr) (c1:Nat) (l1:List (List Int)) (r:Int) (w:World) (V:Kd.C aN w m i.length i) (W:i.length<=n) (X:Kd.C (Kd.slice 3 (Kd.int .i64)) w U l1.length l1) (Y:l1.length<=c1) (h:fw.f k b i l1=some r):
  Calls Tryz.prog 93 #[.agg #[.int .i64 b,.slice m i.length n],.slice U l1.length c1] w fun e w'=>e= .returned (.int .i64 r)/\Below w.heap.size w w':=by
 have a1:=Tryz.underlying24;have G:=zA V;have I:=zA W;clear V W;have Z:=zA X;have a2:=zA Y;clear X Y;have a:=zA (aq w.heap.size w);unfold fw.f at h;have H:=h;clear h;obtain⟨⟨aa,z⟩,J,H⟩:=zo H;dsimp only at H;by_cases c4:z=0
 ·rw[if_pos c4] at H
  obtain⟨ab,ad⟩:=bH c4;clear c4;by_cases B:aa=true
  ·subst B
   replace H:=zi H;have D:=zA H;clear H;go_enter Tryz.func93,Tryz.ntmps93
   go_wp2_with (first|((with_reducible refine aJ (N:=2) rfl ?_);refine zX 2 #[.int .i64 b,.slice m i.length n] 24 ?_;intro K l w6 o hb;have j:=zA (o);have ag:=zG a l;have ak:=zG a l;replace a:=zS a hb;clear hb o l;obtain⟨ar,av,aB,aF⟩:=ax j)|((with_reducible refine aG (f:=113) rfl ?_);refine zL (some 12) Tryz.func113 #[.agg #[.int .i64 b,.slice m i.length n]] ?_;(with_reducible refine(cB.calls k b _ _ i true z _ ?ah ?ai J.out).mono ?_);(case ah=>exact Kd.aw G.out zB);(case ai=>exact I.out);rintro e w8 ⟨rfl,hb⟩;refine⟨_,rfl,?_⟩;replace j:=zb j hb;replace a:=zS a hb;(try clear hb)))
   go_loopg [22] k (fun kq v22 w'=>∃(g:Int),v22= .int .i64 g/\Aside0 (fw.l0 kq l1 (l1.length:Int) g b i=some r)/\Aside0 (kq<=k)/\Aside0 (w'.heap[K]? =some (.cells #[.int .i64 b,(.slice m i.length n)] 24 (0,0)))/\Aside0 (Below w.heap.size w w'))
   case atStart=>exact⟨(0),zT,D,⟨aI _⟩,⟨zK j⟩,⟨zB⟩⟩
   case round=>
    clear D;clear ab ad ar av aB aF;obtain⟨g,rfl,L,an,j,a⟩:=hrel;cases gk with
    |zero=>exact absurd L.out (by simp[fw.l0])
    |succ M=>
     have H:=L.out;clear L;simp only[fw.l0] at H;by_cases u:g<(l1.length:Int)
     ·rw[if_pos u] at H
      have aL:=az u;clear u;by_cases E:0<=g
      ·rw[if_pos E] at H
       have a5:=az E;clear E;by_cases F:g<(l1.length:Int)
       ·rw[if_pos F] at H
        have a9:=az F;clear F;obtain⟨O,ap,H⟩:=zo H;by_cases v:O=0
        ·rw[if_pos v] at H
         obtain⟨aO,aP⟩:=bH v;clear v;have D:=zA H;clear H;have p:0<=(g:Int):=ay ‹_›;have q:g<(l1.length:Int):=ay ‹_›;obtain⟨aS,P,Q,R,s,x,y⟩:=gC Z.out g p q;cases R;replace s:=(a.out.cell (a8 w _ s)).trans s;have S:=zA y;have T:=zA x;clear y x;replace p:=eq_true p;replace q:=eq_true q;obtain⟨bd,be,bf,bg⟩:=ax j;go_wp2_with (first|((with_reducible refine aG (f:=87) rfl ?_);refine zL (some 29) Tryz.func87 #[.slice P (aV l1 g).length Q,.int .i64 b] ?_;(with_reducible refine(bs.calls M _ _ (aV l1 g) b O _ ?ah ?ai ap.out).mono ?_);(case ah=>exact Kd.aw S.out zB);(case ai=>exact T.out);rintro e w' ⟨rfl,⟨nd,rfl⟩⟩;refine⟨_,rfl,?_⟩))
         go_roundg M
         case measure=>have:=an.out;omega
         case rel=>exact⟨(wrap64 (g+1)),zT,D,⟨by have:=an.out;omega⟩,⟨zK j⟩,⟨zB⟩⟩
        ·rw[if_neg v] at H
         obtain⟨aO,aP⟩:=bI v;obtain rfl:=aH H;have p:0<=(g:Int):=ay ‹_›;have q:g<(l1.length:Int):=ay ‹_›;obtain⟨aS,P,Q,R,s,x,y⟩:=gC Z.out g p q;cases R;replace s:=(a.out.cell (a8 w _ s)).trans s;have S:=zA y;have T:=zA x;clear y x;replace p:=eq_true p;replace q:=eq_true q;obtain⟨bi,bk,bn,bo⟩:=ax j;go_wp2_with (first|((with_reducible refine aG (f:=87) rfl ?_);refine zL (some 29) Tryz.func87 #[.slice P (aV l1 g).length Q,.int .i64 b] ?_;(with_reducible refine(bs.calls M _ _ (aV l1 g) b O _ ?ah ?ai ap.out).mono ?_);(case ah=>exact Kd.aw S.out zB);(case ai=>exact T.out);rintro e w' ⟨rfl,⟨nd,rfl⟩⟩;refine⟨_,rfl,?_⟩))
         go_ret;exact⟨zE,zB⟩
       ·rw[if_neg F] at H
        exact absurd H (by simp)
      ·rw[if_neg E] at H
       exact absurd H (by simp)
     ·rw[if_neg u] at H
      have aL:=a6 u;clear u;obtain rfl:=aH H;go_wp2;go_ret;exact⟨zE,zB⟩
  ·replace B:=Bool.eq_false_iff.mpr B
   subst B;replace H:=zj H;obtain rfl:=aH H;go_enter Tryz.func93,Tryz.ntmps93
   go_wp2_with (first|((with_reducible refine aJ (N:=2) rfl ?_);refine zX 2 #[.int .i64 b,.slice m i.length n] 24 ?_;intro K l bv o hb;have j:=zA (o);have ag:=zG a l;have ak:=zG a l;replace a:=zS a hb;clear hb o l;obtain⟨bw,bx,b0,b1⟩:=ax j)|((with_reducible refine aG (f:=113) rfl ?_);refine zL (some 12) Tryz.func113 #[.agg #[.int .i64 b,.slice m i.length n]] ?_;(with_reducible refine(cB.calls k b _ _ i false z _ ?ah ?ai J.out).mono ?_);(case ah=>exact Kd.aw G.out zB);(case ai=>exact I.out);rintro e b2 ⟨rfl,hb⟩;refine⟨_,rfl,?_⟩;replace j:=zb j hb;replace a:=zS a hb;(try clear hb)))
   go_ret;exact⟨zE,zB⟩
 ·rw[if_neg c4] at H
  obtain⟨ab,ad⟩:=bI c4;obtain rfl:=aH H;go_enter Tryz.func93,Tryz.ntmps93
  go_wp2_with (first|((with_reducible refine aJ (N:=2) rfl ?_);refine zX 2 #[.int .i64 b,.slice m i.length n] 24 ?_;intro K l b3 o hb;have j:=zA (o);have ag:=zG a l;have ak:=zG a l;replace a:=zS a hb;clear hb o l;obtain⟨b4,b5,b6,b_⟩:=ax j)|((with_reducible refine aG (f:=113) rfl ?_);refine zL (some 12) Tryz.func113 #[.agg #[.int .i64 b,.slice m i.length n]] ?_;(with_reducible refine(cB.calls k b _ _ i aa z _ ?ah ?ai J.out).mono ?_);(case ah=>exact Kd.aw G.out zB);(case ai=>exact I.out);rintro e b' ⟨rfl,hb⟩;refine⟨_,rfl,?_⟩;replace j:=zb j hb;replace a:=zS a hb;(try clear hb)))
  go_ret;exact⟨zE,zB⟩
def eh.f (k:Nat) (b:Int) (e:List (S83)):Option (Int):=(cB.f k b e).bind fun a=>(if a.2=0 then(if a.1=true then(some 0) else(some 13)) else(some a.2))
theorem eh.mono:∀a0 a k,al (eh.f k a0 a) (eh.f (k+1) a0 a):=by
 intro a0 a k;unfold eh.f;with_reducible repeat' first|exact cB.mono _ _ _|exact al.refl _|exact al.none _|refine al.ite ?_ ?_|refine al.bind ?_ (fun _=>?_)
theorem eh.calls (k:Nat) (g:Int) (l:Option Addr) (m:Nat) (b:List (S83)) (r:Int) (w:World) (s:Kd.C aN w l b.length b) (u:b.length<=m) (h:eh.f k g b=some r):
  Calls Tryz.prog 55 #[.agg #[.int .i64 g,.slice l b.length m]] w fun e w'=>e= .returned (.int .i64 r)/\Below w.heap.size w w':=by
 have D:=Tryz.underlying24;have o:=zA s;have p:=zA u;clear s u;have a:=zA (aq w.heap.size w);unfold eh.f at h;have H:=h;clear h;obtain⟨⟨t198,t199⟩,q,H⟩:=zo H;dsimp only at H;by_cases c3:t199=0
 ·rw[if_pos c3] at H
  obtain⟨z,B⟩:=bH c3;clear c3;by_cases c4:t198=true
  ·subst c4
   replace H:=zi H;obtain rfl:=aH H;go_enter Tryz.func55,Tryz.ntmps55
   go_wp2_with (first|((with_reducible refine aJ (N:=1) rfl ?_);refine zX 1 #[.int .i64 g,.slice l b.length m] 24 ?_;intro v i E n hb;have j:=zA (n);have x:=zG a i;have y:=zG a i;replace a:=zS a hb;clear hb n i;obtain⟨F,G,I,J⟩:=ax j)|((with_reducible refine aG (f:=113) rfl ?_);refine zL (some 7) Tryz.func113 #[.agg #[.int .i64 g,.slice l b.length m]] ?_;(with_reducible refine(cB.calls k g _ _ b true t199 _ ?ah ?ai q.out).mono ?_);(case ah=>exact Kd.aw o.out zB);(case ai=>exact p.out);rintro e K ⟨rfl,hb⟩;refine⟨_,rfl,?_⟩;replace j:=zb j hb;replace a:=zS a hb;(try clear hb)))
   go_ret;exact⟨zE,zB⟩
  ·replace c4:=Bool.eq_false_iff.mpr c4
   subst c4;replace H:=zj H;obtain rfl:=aH H;go_enter Tryz.func55,Tryz.ntmps55
   go_wp2_with (first|((with_reducible refine aJ (N:=1) rfl ?_);refine zX 1 #[.int .i64 g,.slice l b.length m] 24 ?_;intro v i L n hb;have j:=zA (n);have x:=zG a i;have y:=zG a i;replace a:=zS a hb;clear hb n i;obtain⟨M,O,P,Q⟩:=ax j)|((with_reducible refine aG (f:=113) rfl ?_);refine zL (some 7) Tryz.func113 #[.agg #[.int .i64 g,.slice l b.length m]] ?_;(with_reducible refine(cB.calls k g _ _ b false t199 _ ?ah ?ai q.out).mono ?_);(case ah=>exact Kd.aw o.out zB);(case ai=>exact p.out);rintro e R ⟨rfl,hb⟩;refine⟨_,rfl,?_⟩;replace j:=zb j hb;replace a:=zS a hb;(try clear hb)))
   go_ret;exact⟨zE,zB⟩
 ·rw[if_neg c3] at H
  obtain⟨z,B⟩:=bI c3;obtain rfl:=aH H;go_enter Tryz.func55,Tryz.ntmps55
  go_wp2_with (first|((with_reducible refine aJ (N:=1) rfl ?_);refine zX 1 #[.int .i64 g,.slice l b.length m] 24 ?_;intro v i iE n hb;have j:=zA (n);have x:=zG a i;have y:=zG a i;replace a:=zS a hb;clear hb n i;obtain⟨S,T,U,V⟩:=ax j)|((with_reducible refine aG (f:=113) rfl ?_);refine zL (some 7) Tryz.func113 #[.agg #[.int .i64 g,.slice l b.length m]] ?_;(with_reducible refine(cB.calls k g _ _ b t198 t199 _ ?ah ?ai q.out).mono ?_);(case ah=>exact Kd.aw o.out zB);(case ai=>exact p.out);rintro e W ⟨rfl,hb⟩;refine⟨_,rfl,?_⟩;replace j:=zb j hb;replace a:=zS a hb;(try clear hb)))
  go_ret;exact⟨zE,zB⟩
theorem r7 {n:Nat} {E:List S83} (g:E.length<=1000) (b:cz n E=0) (hp:partsOf E n=1):Ev (fun k=>cB.f k n E) (true,(0:Int)):=by
 obtain⟨h1,j,a⟩:=gE b;unfold cB.f;have e:=nh (n:Int) E g;rw[b] at e;refine Ev.bind e ?_;have h:kx (n:Int) E=true:=by
  unfold kx;rw[az (by omega),Bool.true_and];refine List.all_eq_true.2 fun x i=>?_
  have:=a.ok x i;simp[bX] at this⊢;omega
 simp only[if_true,if_pos h,aM];rw[show decide (b8 (aK E) n=1)=true from az ((qG (by omega) (jy a.cI)).2 ((jz (by omega) a).1 hp))];exact Ev.const _
theorem nP {l:List Int} {n:Nat} (h1:1<=n) (a:n<=12) (b:l.length=n) (hb:∀v:Nat,v<n-> -1048576<=rd l v/\rd l v<=1048576):gj l n=0:=rV.2 ⟨by omega,by omega,by omega,fun v e=>hb v (by omega)⟩
theorem FB {n q:Nat} {E:List S83} {d:List Int} (h:dU n q E d) (b:cz n E=0):Ev (fun k=>jE.f k n E q d) 0:=by
 unfold jE.f;have h1:=h.q;refine Ev.bind (r7 h.len b ((jz h.n1 h.right).2 h.conn)) ?_;simp only[if_true,if_neg (show ¬(q:Int)<0 by omega),if_neg (show ¬(q:Int)>=(n:Int) by omega)];refine Ev.bind (a:=(0:Int)) ?_ (Ev.const _);have:=lE d n (by have:=h.dl;have:=h.n12;omega);rw[nP h.n1 h.n12 h.dl (fun v e=>by have:=h.d v e;omega)] at this;exact this
theorem xc {n q:Nat} {E:List S83} {d:List Int} (h:dU n q E d) (a:cz n E=0):∃s,Ev (fun k=>jf.f k n E q d) (cN n E d s,s,(0:Int))/\s.length=n/\eH n q (af E) (fun v=>rd d (v:Nat)) (fun v=>rd (cN n E d s) (v:Nat)) (fun v=>rd s (v:Nat)):=by
 obtain⟨s,h1,b,e⟩:=EY h.right h.conn h.q d;refine⟨s,?_,b,e⟩;unfold jf.f;refine Ev.bind (FB h a) ?_;simp only[if_true,if_pos (h.ok a),aM];exact Ev.bind h1 (Ev.const _)
theorem r8 {n:Nat} {E:List S83} {d:List Int} (h:dU n 0 E d) (a:cz n E=0):∃s,Ev (fun k=>fu.f k n E d) (decide (rd (cN n E d s) 0>=0),cN n E d s,s,(0:Int))/\s.length=n/\eH n 0 (af E) (fun v=>rd d (v:Nat)) (fun v=>rd (cN n E d s) (v:Nat)) (fun v=>rd s (v:Nat)):=by
 obtain⟨s,h1,b,e⟩:=xc h a;refine⟨s,?_,b,e⟩;unfold fu.f;refine Ev.bind h1 ?_;have:=h.n1;simp only[if_true,if_pos (show (0:Int)<((cN n E d s).length:Int) by rw[pB];omega)];exact Ev.const _
theorem FC {n:Nat} {E:List S83} {d:List Int} (h:dU n 0 E d) (b:cz n E=0):Ev (fun k=>fw.f k n E [d]) 0:=by
 unfold fw.f;refine Ev.bind (r7 h.len b ((jz h.n1 h.right).2 h.conn)) ?_;simp only[if_true];refine Ev.of_succ ?_;simp only[fw.l0,List.length_singleton,if_pos (show (0:Int)<((1:Nat):Int) by decide),if_pos (show (0:Int)<=0 by decide),mF,nK];have a:=lE d n (by have:=h.dl;have:=h.n12;omega);rw[nP h.n1 h.n12 h.dl (fun v e=>by have:=h.d v e;omega)] at a;refine Ev.bind a ?_;simp only[if_true];refine Ev.of_succ ?_;simp only[fw.l0,if_neg (show ¬(1:Int)<((1:Nat):Int) by decide)];exact Ev.const _
theorem xd {n:Nat} {E:List S83} {d s:List Int} (h:dU n 0 E d) (b:eH n 0 (af E) (fun v=>rd d (v:Nat)) (fun v=>rd (cN n E d s) (v:Nat)) (fun v=>rd s (v:Nat))):rd (cN n E d s) 0>=0↔T.bE n (af E) (fun v=>rd d (v:Nat)):=by
 have g:=h.q;have he:T.bM n (af E) (fun v=>rd d (v:Nat)) (fun v=>rd (cN n E d s) (v:Nat)):=⟨_,b.eq⟩;have e:=T.lf h.right.wt g b.red;constructor
 ·intro a
  exact(e.2 a).eY he.symm
 ·intro a
  exact e.1 (a.eY he)
section
namespace Small
variable {n q:Nat} {E:List S83}
def r9 (n q:Nat) (E:List S83) (c:List Int):Bool:=(List.range n).all fun v=>decide (v=q)|| !cp n (af E) q (c.set v (rd c v+1))
theorem xe {c:List Int}:r9 n q E c=true↔∀v,v<n->v≠q->cp n (af E) q (c.set v (rd c v+1))=false:=by
 unfold r9;rw[List.all_eq_true];constructor
 ·intro h v a b
  have:=h v (List.mem_range.2 a);rw[a6 b,Bool.false_or,Bool.not_eq_true'] at this;exact this
 ·intro h v a
  by_cases e:v=q
  ·rw[az e];rfl
  ·rw[a6 e,Bool.false_or,Bool.not_eq_true']
   exact h v (List.mem_range.1 a) e
def kG (n q:Nat) (E:List S83):List (List Int):=(e7 n E q).filter fun c=>r9 n q E c
theorem FD (h:Small n q E) (u:fm n E q=0):Ev (fun k=>ga.f k n E q) (kG n q E,(0:Int)):=by
 unfold ga.f;refine Ev.bind (h.DW u) ?_;simp only[if_true];obtain⟨B,y⟩:=h.Ee u;refine⟨B,fun K g=>?_⟩;have g:=y K g;have h1:kA K n E q (e7 n E q)=true:=by
  unfold kA;refine List.all_eq_true.2 fun c b=>List.all_eq_true.2 fun v i=>?_
  have z:=(h.nC b).1;by_cases a:v=q
  ·simp[a]
  ·obtain⟨r,j,m,_⟩:=g c b v (List.mem_range.2 (by have:=List.mem_range.1 i;omega)) a
   rw[j];simp[m]
 show (if kA K n E q (e7 n E q)=true then some (List.filter (fun x=> !eR x q (gI K n E q x) x.length) (e7 n E q),(0:Int)) else none)=_
 rw[if_pos h1];congr 2
 refine List.filter_congr fun c b=>?_
 have z:=(h.nC b).1;rw[Bool.eq_iff_iff,xe];unfold eR;rw[Bool.not_eq_true',List.any_eq_false];constructor
 ·intro o v i a
  obtain⟨r,j,m,p⟩:=g c b v (List.mem_range.2 i) a;have s:=o v (List.mem_range.2 (by omega));rw[show gI K n E q c v=r by unfold gI;rw[j];rfl] at s;cases e:cp n (af E) q (c.set v (rd c v+1)) with
  |false=>rfl
  |true=>
   have:=p.2 e;rw[az (show (v:Int)≠q by omega),az this] at s;exact absurd rfl s
 ·intro o v i l
  have w:v<n:=by have:=List.mem_range.1 i;omega
  rw[Bool.and_eq_true,decide_eq_true_iff,decide_eq_true_iff] at l;have a:v≠q:=fun e=>l.1 (by omega)
  obtain⟨r,j,m,p⟩:=g c b v (List.mem_range.2 w) a;rw[show gI K n E q c v=r by unfold gI;rw[j];rfl] at l;have:=p.1 l.2;rw[o v w a] at this;cases this
end Small
end
namespace Small
theorem FE {n q:Nat} {E:List S83} (h:Small n q E) {c:List Int} (m:c∈kG n q E):∃pos:Nat->Nat,T.gW n pos/\pos q=0/\∀v:Nat,v<n->rd (c.set q (-1)) v=T.nu n (af E) pos v:=by
 have o:=h.q;have a:=h.right.wt;obtain⟨hm,p⟩:=List.mem_filter.1 m;obtain⟨c1,c2,c3,c4⟩:=(h.rG c).1 hm;obtain⟨pos,r,b,g⟩:=T.tV a o ((pz a).2 c4);have s:=xe.1 p;refine⟨pos,r,b,fun v i=>?_⟩;by_cases e:v=q
 ·subst e
  rw[jc (by omega),T.tW b]
 ·rw[lA (fun k=>e k.symm)]
  have hle:=(g v i e).2;refine Classical.byContradiction fun j=>?_
  have w:rd c (v:Nat)<T.nu n (af E) pos v:=by
   have:rd c (v:Nat)<=T.nu n (af E) pos v:=hle;omega
  have l:cp n (af E) q (c.set v (rd c v+1))=true:=(pz a).1 ((T.BF a q pos).down fun u hu j=>by
   show rd (c.set v (rd c v+1)) (u:Nat)<=_
   by_cases e2:u=v
   ·subst e2;rw[jc (by omega)];omega
   ·rw[lA (fun k=>e2 k.symm)];exact(g u hu j).2)
  rw[s v i e] at l;cases l
end Small
theorem FF {i:Nat} (h:(i:Int)<9223372036854775807):wrap64 ((i:Int)+1)=((i+1:Nat):Int):=by unfold wrap64;omega
theorem FG (N:Int) (E:List S83) (m:E.length<=9223372036854775807) (i:Nat) (hi:i<E.length):Ev (fun k=>fk.f k N E i) (dQ N (iP E i) (iQ E i) (ae E i)):=by
 unfold fk.f;simp only[if_pos (show (0:Int)<=(i:Int) by omega),if_pos (show (i:Int)<(E.length:Int) by omega),BN,Option.bind_some];generalize n:ae E i=x;have key:∀b:Bool,b= !bX N x->Ev (fun k=>fk.j0 k i b N E x.f0 x.f1 x.f2) (dQ N (iP E i) (iQ E i) x):=by
  rintro b rfl;refine Ev.of_succ ?_;simp only[fk.j0];cases h:bX N x with
  |false=>simp[dQ,h];exact Ev.const _
  |true=>
   simp only[Bool.not_true,Bool.false_eq_true,if_false];have o:0<=x.f0:=by simp[bX] at h;omega
   by_cases l:x.f0>x.f1
   ·have e:dQ N (iP E i) (iQ E i) x=9:=by simp[dQ,h,l]
    rw[e];simp only[if_pos l];exact Ev.const _
   ·simp only[if_neg l]
    by_cases a:i=0
    ·subst a
     have e:dQ N (iP E 0) (iQ E 0) x=0:=by
      unfold dQ iP iQ;rw[h,if_neg (by decide),if_neg (by simp;omega)]
     rw[e];simp;exact Ev.const _
    ·simp only[if_pos (show (i:Int)>0 by omega),show wrap64 ((i:Int)-1)=((i-1:Nat):Int) by unfold wrap64;omega,if_pos (show (0:Int)<=((i-1:Nat):Int) by omega),if_pos (show ((i-1:Nat):Int)<(E.length:Int) by omega)]
     unfold iP iQ;rw[if_neg a,if_neg a];generalize ae E (i-1:Nat)=y;unfold dQ;rw[h,if_neg (show ¬(true=false) by decide)];by_cases h1:x.f0<y.f0
     ·simp only[if_pos h1];rw[if_pos (.inl h1)];exact Ev.const _
     ·simp only[if_neg h1]
      by_cases g:x.f0=y.f0
      ·simp only[if_pos g]
       by_cases j:x.f1<=y.f1
       ·simp only[if_pos j];rw[if_pos (.inr (.inl ⟨g,j⟩))];exact Ev.const _
       ·simp only[if_neg j];rw[if_neg (by omega)];exact Ev.const _
      ·simp only[if_neg g];rw[if_neg (by omega)];exact Ev.const _
 by_cases a:0<=x.f0/\x.f0<N
 ·simp only[az a,if_true]
  by_cases h1:0<=x.f1/\x.f1<N
  ·simp only[az h1,if_true]
   by_cases g:x.f2<1
   ·simp only[if_pos g]
    exact key true (by simp[bX];omega)
   ·simp only[if_neg g]
    exact key _ (by unfold bX;by_cases j:x.f2>50<;>simp[j]<;>omega)
  ·simp only[a6 h1,Bool.false_eq_true,if_false]
   exact key true (by simp[bX];omega)
 ·simp only[a6 a,Bool.false_eq_true,if_false]
  exact key true (by simp[bX];omega)
theorem xf (N:Int) (E:List S83) (a:E.length<=9223372036854775807):∀(m i:Nat),i+m=E.length->Ev (fun k=>di.l0 k i N E) (gZ N (iP E i) (iQ E i) (E.drop i))
 |0,i,hi=>by
  refine Ev.of_succ ?_;simp only[di.l0,if_neg (show ¬((i:Int)<(E.length:Int)) by omega)];rw[List.drop_eq_nil_of_le (by omega)];exact Ev.const _
 |m+1,i,hi=>by
  have b:=xf N E a m (i+1) (by omega);refine Ev.of_succ ?_;simp only[di.l0,if_pos (show (i:Int)<(E.length:Int) by omega)];rw[ng (by omega),gZ];refine Ev.bind (FG N E a i (by omega)) ?_;have e:iP E (i+1)=(ae E i).f0:=by simp[iP]
  have g:iQ E (i+1)=(ae E i).f1:=by simp[iQ]
  rw[e,g] at b;by_cases h:dQ N (iP E i) (iQ E i) (ae E i)=0
  ·simp only[if_pos h,FF (show (i:Int)<9223372036854775807 by omega)];exact b
  ·simp only[if_neg h];exact Ev.const _
theorem xg (N:Int) (E:List S83) (a:E.length<=9223372036854775807):Ev (fun k=>di.f k N E) (cz N E):=by
 unfold di.f cz;have key:∀b:Bool,b=decide (N<1\/N>12)->Ev (fun k=>di.j0 k b N E) (if N<1\/N>12 then 2 else gZ N (-1) (-1) E):=by
  rintro b rfl;refine Ev.of_succ ?_;simp only[di.j0];by_cases h:N<1\/N>12
  ·simp[h];exact Ev.const _
  ·simp only[a6 h,Bool.false_eq_true,if_false,if_neg h]
   have:=xf N E a E.length 0 (by omega);simpa [iP,iQ] using this
 by_cases h:N<1
 ·simp only[if_pos h];exact key true (by simp[h])
 ·simp only[if_neg h];exact key _ (by simp[h])
theorem FH {n:Nat} {t:Nat->Nat->Int} (i:T.Wt n t) (hn:0<n) {D:Nat->Int} (hw:T.bE n t D) {L:Int} (h1:∀v,v<n->∀k,T.cg n t (fun u=>D u-T.one v u) k->L<=k+1) (g:L=T.sN D n\/∃v,v<n/\∃k,T.cg n t (fun u=>D u-T.one v u) k/\L=k+1):T.cg n t D L:=by
 obtain⟨r,h⟩:=T.jO i hn D;obtain⟨a,v,m,b⟩:=T.BA i hn hw h;obtain⟨j,l⟩:=T.jO i hn (fun u=>D u-T.one v u);have p:=b j l;have e2:=h1 v m j l;have o:0<=r:=by
  have:=h.1;by_cases e:r= -1
  ·exact absurd hw ((T.cg.mf hn h).1 e)
  ·omega
 have q:r<=L:=by
  rcases g with g|⟨u,hu,k,hk,g⟩
  ·rw[g];exact h.qA i hn o
  ·rw[g];exact a u hu k hk
 have:r=L:=by omega
 rw[<-this];exact h
theorem xh {n:Nat} {t:Nat->Nat->Int} (b:T.Wt n t) (hn:0<n) {D:Nat->Int} (hw:¬T.bE n t D):T.cg n t D (-1):=by
 obtain⟨r,a⟩:=T.jO b hn D;have:=(T.cg.mf hn a).2 hw;rw[<-this];exact a
theorem FJ {n:Nat} {t:Nat->Nat->Int} (a:T.Wt n t) (e:T.du n t) (hn:0<n) {g:Int} (h:T.dF n t g) {D:Nat->Int} (hd:2*g-2<T.sN D n):T.cg n t D (T.sN D n-g):=by
 obtain⟨r,b⟩:=T.jO a hn D;have:=T.BB a e hn h hd b;rw[<-this];exact b
def Rk (n:Nat) (t:Nat->Nat->Int) (d:List Int) (r:Int):Prop:=T.cg n t (fun v=>rd d (v:Nat)) r
theorem r_ {n:Nat} {t:Nat->Nat->Int} {D D':Nat->Int} (h:∀v,v<n->D' v=D v) {r:Int} (a:T.cg n t D r):T.cg n t D' r:=a.eY (T.bM.of_eq h)
theorem FL {c:List Int} {n v:Nat} (a:c.length=n) (b:v<n):∀u,u<n->rd (c.set v (rd c v-1)) (u:Nat)=rd c u-T.one v u:=fun u hu=>by
 unfold T.one;by_cases e:u=v
 ·subst e;rw[jX _ _ _ (by omega),if_pos rfl]
 ·rw[jd _ _ _ _ (fun k=>e k.symm),if_neg e];omega
theorem FM {c:List Int} {v:Nat} (a:v<c.length) (x:Int):(c.set v x).set v (rd c v)=c:=by
 rw[List.set_set];refine List.ext_getElem (by simp) fun i h1 b=>?_
 rw[List.getElem_set];split
 ·rename_i e;subst e;simp[rd,a7,bK a]
 ·rfl
def jF (c:List Int):List Int:=c++List.replicate (12-c.length) 0
theorem FN {c:List Int} (h:c.length<=12):(jF c).length=12:=by simp[jF];omega
def j5 (n:Nat) (t:Nat->Nat->Int) (g:Int) (l:List Int) (x:Int):Prop:=∃c:List Int,c.length=n/\l=jF c/\Rk n t c x/\(∀v:Nat,v<n->0<=rd c v)/\(∀v:Nat,v<n->v≠0->rd c v<T.val n t v)/\T.sN (fun v=>rd c (v:Nat)) n<=2*g-2
theorem FO {n:Nat} {a b:List Int} (e:a.length=n) (hb:b.length=n) (h:jF a=jF b):a=b:=by
 unfold jF at h;rw[e,hb] at h;exact List.append_cancel_right h
theorem sa {α:Type} [DecidableEq α]:∀{a L:List α},a.Pairwise (· ≠ ·)->(∀x∈a,x∈L)->a.length<=L.length
 |[],_,_,_=>Nat.zero_le _
 |x::a,L,h,hm=>by
  rw[List.pairwise_cons] at h;have b:=hm x (List.mem_cons_self ..);have h1:=sa (L:=L.erase x) h.2 (fun y g=>(List.mem_erase_of_ne (fun e=>h.1 y g e.symm)).2 (hm y (List.mem_cons_of_mem _ g)));have i:=List.length_erase_of_mem b;have j:=List.length_pos_of_mem b;rw[List.length_cons];omega
def lG (B:Nat->Nat):Nat->List (List Int)
 |0=>[[]]
 |n+1=>(lG B n).flatMap fun c=>(List.range (B n)).map fun x:Nat=>c++[(x:Int)]
def iI (B:Nat->Nat):Nat->Nat
 |0=>1
 |n+1=>iI B n*B n
theorem xi {α β:Type} {f:α->List β} {m:Nat}:∀{l:List α},(∀x∈l,(f x).length=m)->(l.flatMap f).length=l.length*m
 |[],_=>by simp
 |x::l,h=>by
  rw[List.flatMap_cons,List.length_append,h x (List.mem_cons_self ..),xi (fun y a=>h y (List.mem_cons_of_mem _ a)),List.length_cons,Nat.succ_mul,Nat.add_comm]
theorem xj (B:Nat->Nat):∀n,(lG B n).length=iI B n
 |0=>rfl
 |n+1=>by
  rw[lG,xi (m:=B n) (fun c _=>by simp),xj B n];rfl
theorem xk (B:Nat->Nat) (f:Nat->Int):∀n,(∀v,v<n->0<=f v/\f v<B v)->(List.range n).map f∈lG B n
 |0,_=>by simp[lG]
 |n+1,h=>by
  rw[lG,List.mem_flatMap];refine⟨(List.range n).map f,xk B f n (fun v a=>h v (by omega)),List.mem_map.2 ⟨(f n).toNat,List.mem_range.2 ?_,?_⟩⟩
  ·have:=h n (by omega)
   omega
  ·have:=h n (by omega)
   rw[List.range_succ,List.map_append,Int.toNat_of_nonneg this.1];rfl
theorem FP:∀x:Nat,x<19->x ^ 3<=3 ^ x:=by decide
def gJ (n:Nat) (t:Nat->Nat->Int) (v:Nat):Nat:=if v=0 then 17 else(T.val n t v).toNat
theorem FQ {n:Nat} {t:Nat->Nat->Int} (b:∀v,v<n->0<=T.val n t v) (o:T.sN (T.val n t) n<=18):∀m,m<=n->0<=T.sN (fun v=>if v=0 then 0 else T.val n t v) m/\T.sN (fun v=>if v=0 then 0 else T.val n t v) m<=18/\iI (gJ n t) m ^ 3<=17 ^ 3*3 ^ (T.sN (fun v=>if v=0 then 0 else T.val n t v) m).toNat/\(m=0->iI (gJ n t) m ^ 3<=1):=by
 have hle:∀m,m<=n->T.sN (fun v=>if v=0 then 0 else T.val n t v) m<=T.sN (T.val n t) m/\T.sN (T.val n t) m<=18:=by
  intro m hm;refine⟨T.cX fun v p=>by have:=b v (by omega);show (if v=0 then 0 else T.val n t v)<=_;split<;>omega,?_⟩;have key:∀k,m+k<=n->T.sN (T.val n t) m<=T.sN (T.val n t) (m+k):=by
   intro k;induction k with
   |zero=>intro _;exact Int.le_refl _
   |succ k g=>
    intro hk;have:=g (by omega);show _<=T.sN (T.val n t) (m+k)+T.val n t (m+k)
    have:=b (m+k) (by omega);omega
  have:=key (n-m) (by omega);rw[show m+(n-m)=n by omega] at this;omega
 intro m;induction m with
 |zero=>intro _;exact⟨by simp[T.sN],by simp[T.sN],by simp[T.sN,iI],fun _=>by simp[iI]⟩
 |succ m g=>
  intro hm;obtain⟨i1,i2,i3,i4⟩:=g (by omega);have j:=(hle (m+1) hm);have hb:=b m (by omega);have e:T.sN (fun v=>if v=0 then 0 else T.val n t v) (m+1)=T.sN (fun v=>if v=0 then 0 else T.val n t v) m+(if m=0 then 0 else T.val n t m):=rfl;refine⟨by rw[e];split<;>omega,by omega,?_,fun h=>by omega⟩;show (iI (gJ n t) m*gJ n t m) ^ 3<=_
  rw[Nat.mul_pow];by_cases a:m=0
  ·have h1:=i4 a
   have i:gJ n t m=17:=if_pos a;rw[i];have l:1<=3 ^ (T.sN (fun v=>if v=0 then 0 else T.val n t v) (m+1)).toNat:=Nat.pow_pos (by decide);calc iI (gJ n t) m ^ 3*17 ^ 3<=1*17 ^ 3:=Nat.mul_le_mul_right _ h1
    _=17 ^ 3*1:=by simp
    _<=_:=Nat.mul_le_mul_left _ l
  ·have i:gJ n t m=(T.val n t m).toNat:=if_neg a
   rw[e,if_neg a] at j;rw[e,if_neg a,i,Int.toNat_add i1 hb,Nat.pow_add,<-Nat.mul_assoc];exact Nat.mul_le_mul i3 (FP _ (by omega))
theorem FT {n:Nat} {t:Nat->Nat->Int} (a:∀v,v<n->0<=T.val n t v) (b:T.sN (T.val n t) n<=18):iI (gJ n t) n<16384:=by
 obtain⟨h1,l,e, -⟩:=FQ a b n (aI n);have g:3 ^ (T.sN (fun v=>if v=0 then 0 else T.val n t v) n).toNat<=3 ^ 18:=Nat.pow_le_pow_right (by decide) (by omega);have i:iI (gJ n t) n ^ 3<=17 ^ 3*3 ^ 18:=Nat.le_trans e (Nat.mul_le_mul_left _ g);rcases Nat.lt_or_ge (iI (gJ n t) n) 16384 with h|h
 ·exact h
 ·have j:16384 ^ 3<=iI (gJ n t) n ^ 3:=Nat.pow_le_pow_left h 3
  have k:=Nat.le_trans j i;exact absurd k (by decide)
theorem FU {c:List Int}:(List.range c.length).map (fun v:Nat=>rd c (v:Int))=c:=by
 refine List.ext_getElem (by simp) fun i h1 a=>?_
 simp[rd,a7,bK a]
theorem FV {n:Nat} {t:Nat->Nat->Int} (k:T.Wt n t) (hn:0<n) {g:Int} (o:T.dF n t g) (B:T.sN (T.val n t) n<=19) (b:List (List Int)) (hk:b.Pairwise (· ≠ ·)) (p:∀l∈b,∃x,j5 n t g l x):b.length<16384:=by
 have q:∀v,v<n->0<=T.val n t v:=fun v _=>T.dy fun u _=>k.pos v u
 have h1:T.sN (T.can n t) n=T.sN (T.val n t) n-2*n:=by
  have key:∀m:Nat,T.sN (T.can n t) m=T.sN (T.val n t) m-2*m:=by
   intro m;induction m with
   |zero=>simp[T.sN]
   |succ m r=>
    show T.sN (T.can n t) m+T.can n t m=T.sN (T.val n t) m+T.val n t m-_
    rw[r];unfold T.can;omega
  exact key n
 have C:T.sN (T.can n t) n=2*g-2:=o;have s:T.sN (T.val n t) n<=18:=by omega
 have hle:=sa (L:=(lG (gJ n t) n).map jF) hk (fun l w=>by
  obtain⟨x,c,i,rfl, -,h,y,D⟩:=p l w;refine List.mem_map.2 ⟨c,?_,rfl⟩;have:=xk (gJ n t) (fun v=>rd c (v:Nat)) n (fun v a=>⟨h v a,by
   unfold gJ;split
   ·rename_i e
    subst e;have j:=T.gD (f:=fun v=>rd c (v:Nat)) a h;have z:rd c ((0:Nat):Int)<=T.sN (fun v=>rd c (v:Nat)) n:=j;show rd c ((0:Nat):Int)<_
    omega
   ·rename_i e
    have j:=y v a e;have z:=h v a;show rd c (v:Int)<_
    omega⟩)
  rw[<-i,FU,i] at this;exact this)
 rw[List.length_map,xj] at hle;exact Nat.lt_of_le_of_lt hle (FT q s)
def ie.f (k:Nat) (a:Int) (b:List (S83)):Option (Int):=(di.f k a b).bind fun t149=>(if t149=0 then((mj.f k a b).bind fun t150=>(if t150=true then(some 0) else(some 13))) else(some t149))
theorem ie.calls (k:Nat) (i:Int) (l:Option Addr) (m:Nat) (b:List (S83)) (r:Int) (w:World) (u:Kd.C aN w l b.length b) (v:b.length<=m) (h:ie.f k i b=some r):
  Calls Tryz.prog 48 #[.agg #[.int .i64 i,.slice l b.length m]] w fun e w'=>e= .returned (.int .i64 r)/\Below w.heap.size w w':=by
 have F:=Tryz.underlying24;have o:=zA u;have p:=zA v;clear u v;have a:=zA (aq w.heap.size w);unfold ie.f at h;have H:=h;clear h;obtain⟨t149,s,H⟩:=zo H;by_cases c3:t149=0
 ·rw[if_pos c3] at H
  obtain⟨D,E⟩:=bH c3;clear c3;obtain⟨t150,x,H⟩:=zo H;by_cases q:t150=true
  ·subst q
   replace H:=zi H;obtain rfl:=aH H;go_enter Tryz.func48,Tryz.ntmps48
   go_wp2_with (first|((with_reducible refine aJ (N:=1) rfl ?_);refine zX 1 #[.int .i64 i,.slice l b.length m] 24 ?_;intro y j G n hb;have g:=zA (n);have z:=zG a j;have B:=zG a j;replace a:=zS a hb;clear hb n j;obtain⟨I,J,K,L⟩:=ax g)|((with_reducible refine aG (f:=103) rfl ?_);refine zL (some 5) Tryz.func103 #[.agg #[.int .i64 i,.slice l b.length m]] ?_;(with_reducible refine(di.calls k i _ _ b t149 _ ?ah ?ai s.out).mono ?_);(case ah=>exact Kd.aw o.out zB);(case ai=>exact p.out);rintro e M ⟨rfl,hb⟩;refine⟨_,rfl,?_⟩;replace g:=zb g hb;replace a:=zS a hb;(try clear hb);obtain⟨O,P,Q,R⟩:=ax g)|((with_reducible refine aG (f:=104) rfl ?_);refine zL (some 10) Tryz.func104 #[.agg #[.int .i64 i,.slice l b.length m]] ?_;(with_reducible refine(mj.calls k i _ _ b true _ ?ah ?ai x.out).mono ?_);(case ah=>exact Kd.aw o.out zB);(case ai=>exact p.out);rintro e S ⟨rfl,hb⟩;refine⟨_,rfl,?_⟩;replace g:=zb g hb;replace a:=zS a hb;(try clear hb)))
   go_ret;exact⟨zE,zB⟩
  ·replace q:=Bool.eq_false_iff.mpr q
   subst q;replace H:=zj H;obtain rfl:=aH H;go_enter Tryz.func48,Tryz.ntmps48
   go_wp2_with (first|((with_reducible refine aJ (N:=1) rfl ?_);refine zX 1 #[.int .i64 i,.slice l b.length m] 24 ?_;intro y j iE n hb;have g:=zA (n);have z:=zG a j;have B:=zG a j;replace a:=zS a hb;clear hb n j;obtain⟨T,U,V,W⟩:=ax g)|((with_reducible refine aG (f:=103) rfl ?_);refine zL (some 5) Tryz.func103 #[.agg #[.int .i64 i,.slice l b.length m]] ?_;(with_reducible refine(di.calls k i _ _ b t149 _ ?ah ?ai s.out).mono ?_);(case ah=>exact Kd.aw o.out zB);(case ai=>exact p.out);rintro e X ⟨rfl,hb⟩;refine⟨_,rfl,?_⟩;replace g:=zb g hb;replace a:=zS a hb;(try clear hb);obtain⟨Y,Z,aa,ab⟩:=ax g)|((with_reducible refine aG (f:=104) rfl ?_);refine zL (some 10) Tryz.func104 #[.agg #[.int .i64 i,.slice l b.length m]] ?_;(with_reducible refine(mj.calls k i _ _ b false _ ?ah ?ai x.out).mono ?_);(case ah=>exact Kd.aw o.out zB);(case ai=>exact p.out);rintro e ad ⟨rfl,hb⟩;refine⟨_,rfl,?_⟩;replace g:=zb g hb;replace a:=zS a hb;(try clear hb)))
   go_ret;exact⟨zE,zB⟩
 ·rw[if_neg c3] at H
  obtain⟨D,E⟩:=bI c3;obtain rfl:=aH H;go_enter Tryz.func48,Tryz.ntmps48
  go_wp2_with (first|((with_reducible refine aJ (N:=1) rfl ?_);refine zX 1 #[.int .i64 i,.slice l b.length m] 24 ?_;intro y j ag n hb;have g:=zA (n);have z:=zG a j;have B:=zG a j;replace a:=zS a hb;clear hb n j;obtain⟨ak,am,an,ap⟩:=ax g)|((with_reducible refine aG (f:=103) rfl ?_);refine zL (some 5) Tryz.func103 #[.agg #[.int .i64 i,.slice l b.length m]] ?_;(with_reducible refine(di.calls k i _ _ b t149 _ ?ah ?ai s.out).mono ?_);(case ah=>exact Kd.aw o.out zB);(case ai=>exact p.out);rintro e ar ⟨rfl,hb⟩;refine⟨_,rfl,?_⟩;replace g:=zb g hb;replace a:=zS a hb;(try clear hb)))
  go_ret;exact⟨zE,zB⟩
def iJ.f (k:Nat) (a:Int) (b:List (S83)) (l1:List Int):Option (Int):=(ie.f k a b).bind fun t152=>(if t152=0 then((c_.f k l1 a).bind fun t153=>(some t153)) else(some t152))
theorem iJ.calls (k:Nat) (g:Int) (l:Option Addr) (m:Nat) (b:List (S83)) (o:Option Addr) (c1:Nat) (l1:List Int) (r:Int) (w:World) (p:Kd.C aN w l b.length b) (q:b.length<=m) (s:Kd.C (Kd.int .i64) w o l1.length l1) (u:l1.length<=c1) (h:iJ.f k g b l1=some r):
  Calls Tryz.prog 80 #[.agg #[.int .i64 g,.slice l b.length m],.slice o l1.length c1] w fun e w'=>e= .returned (.int .i64 r)/\Below w.heap.size w w':=by
 have K:=Tryz.underlying24;have v:=zA p;have x:=zA q;clear p q;have z:=zA s;have B:=zA u;clear s u;have a:=zA (aq w.heap.size w);unfold iJ.f at h;have H:=h;clear h;obtain⟨t152,y,H⟩:=zo H;by_cases c4:t152=0
 ·rw[if_pos c4] at H
  obtain⟨D,E⟩:=bH c4;clear c4;obtain⟨t153,F,H⟩:=zo H;obtain rfl:=aH H;go_enter Tryz.func80,Tryz.ntmps80
  go_wp2_with (first|((with_reducible refine aJ (N:=2) rfl ?_);refine zX 2 #[.int .i64 g,.slice l b.length m] 24 ?_;intro G j L n hb;have i:=zA (n);have I:=zG a j;have J:=zG a j;replace a:=zS a hb;clear hb n j;obtain⟨M,O,P,Q⟩:=ax i)|((with_reducible refine aG (f:=48) rfl ?_);refine zL (some 7) Tryz.func48 #[.agg #[.int .i64 g,.slice l b.length m]] ?_;(with_reducible refine(ie.calls k g _ _ b t152 _ ?ah ?ai y.out).mono ?_);(case ah=>exact Kd.aw v.out zB);(case ai=>exact x.out);rintro e R ⟨rfl,hb⟩;refine⟨_,rfl,?_⟩;replace i:=zb i hb;replace a:=zS a hb;(try clear hb);obtain⟨S,T,U,V⟩:=ax i)|((with_reducible refine aG (f:=42) rfl ?_);refine zL (some 14) Tryz.func42 #[.slice o l1.length c1,.int .i64 g] ?_;(with_reducible refine(c_.calls k _ _ l1 g t153 _ ?ah ?ai F.out).mono ?_);(case ah=>exact Kd.aw z.out zB);(case ai=>exact B.out);rintro e w' ⟨rfl,⟨W,rfl⟩⟩;refine⟨_,rfl,?_⟩))
  go_ret;exact⟨zE,zB⟩
 ·rw[if_neg c4] at H
  obtain⟨D,E⟩:=bI c4;obtain rfl:=aH H;go_enter Tryz.func80,Tryz.ntmps80
  go_wp2_with (first|((with_reducible refine aJ (N:=2) rfl ?_);refine zX 2 #[.int .i64 g,.slice l b.length m] 24 ?_;intro G j X n hb;have i:=zA (n);have I:=zG a j;have J:=zG a j;replace a:=zS a hb;clear hb n j;obtain⟨Y,Z,aa,ab⟩:=ax i)|((with_reducible refine aG (f:=48) rfl ?_);refine zL (some 7) Tryz.func48 #[.agg #[.int .i64 g,.slice l b.length m]] ?_;(with_reducible refine(ie.calls k g _ _ b t152 _ ?ah ?ai y.out).mono ?_);(case ah=>exact Kd.aw v.out zB);(case ai=>exact x.out);rintro e ad ⟨rfl,hb⟩;refine⟨_,rfl,?_⟩;replace i:=zb i hb;replace a:=zS a hb;(try clear hb)))
  go_ret;exact⟨zE,zB⟩
def eu.l0:Nat->List Int->Int->Int->Option (Int)
 |0,_,_,_=>none
 |k+1,a,x3,x4=>if x4<(a.length:Int) then(if 0<=x4 then(eu.l0 k a (wrap64 (x3+(rd a x4))) (wrap64 (x4+1))) else(none)) else(some x3)
def eu.f (k:Nat) (l0:List Int):Option (Int):=eu.l0 k l0 0 0
theorem eu.calls (k:Nat) (A0:Option Addr) (c0:Nat) (l0:List Int) (r:Int) (w:World) (m:Kd.C (Kd.int .i64) w A0 l0.length l0) (n:l0.length<=c0) (h:eu.f k l0=some r):
  Calls Tryz.prog 22 #[.slice A0 l0.length c0] w fun e w'=>e= .returned (.int .i64 r)/\aC w w':=by
 have q:=zA m;have x:=zA n;clear m n;have H:(eu.l0 k l0 0 0)=some r:=h;clear h;have b:=zA H;clear H;go_enter Tryz.func22,Tryz.ntmps22
 go_wp2;go_loopg [3,4] k (fun o v3 v4 w'=>∃(g:Int) (a:Int),v3= .int .i64 g/\v4= .int .i64 a/\Aside0 (eu.l0 o l0 g a=some r)/\Aside0 (o<=k)/\aC w w')
 case atStart=>exact⟨(0),(0),zT,zT,b,⟨aI _⟩,by repeat(first|exact aC.refl _|apply aC.step)⟩
 case round=>
  clear b;obtain⟨g,a,rfl,rfl,i,p,⟨m1,rfl⟩⟩:=hrel;cases gk with
  |zero=>exact absurd i.out (by simp[eu.l0])
  |succ s=>
   have H:=i.out;clear i;simp only[eu.l0] at H;by_cases c2:a<(l0.length:Int)
   ·rw[if_pos c2] at H
    have u:=az c2;clear c2;by_cases c3:0<=a
    ·rw[if_pos c3] at H
     have y:=az c3;clear c3;have b:=zA H;clear H;have j:0<=(a:Int):=ay ‹_›;have l:a<(l0.length:Int):=ay ‹_›;obtain⟨z,v,B⟩:=Kd.bU q.out a j l;cases v;replace j:=eq_true j;replace l:=eq_true l;go_wp2;go_roundg s
     case measure=>have:=p.out;omega
     case rel=>exact⟨(wrap64 (g+(rd l0 a))),(wrap64 (a+1)),zT,zT,b,⟨by have:=p.out;omega⟩,by repeat(first|exact aC.refl _|apply aC.step)⟩
    ·rw[if_neg c3] at H
     exact absurd H (by simp)
   ·rw[if_neg c2] at H
    have u:=a6 c2;clear c2;obtain rfl:=aH H;go_wp2;go_ret;exact⟨zT,by repeat(first|exact aC.refl _|apply aC.step)⟩
def fJ.l0:Nat->List Int->Int->Option (Bool)
 |0,_,_=>none
 |k+1,x1,a=>if a<(x1.length:Int) then(if 0<=a then(if(rd x1 a)<(-100) then(some false) else(if(rd x1 a)>100 then(some false) else(fJ.l0 k x1 (wrap64 (a+1))))) else(none)) else(some true)
def fJ.f (k:Nat) (a:Int) (b:List (S83)) (l1:List Int):Option (Bool):=if(l1.length:Int)>100 then(some false) else((c_.f k l1 a).bind fun t105=>(if t105=0 then(fJ.l0 k l1 0) else(some true)))
theorem fJ.calls (k:Nat) (m:Int) (x:Option Addr) (y:Nat) (n:List (S83)) (G:Option Addr) (c1:Nat) (l1:List Int) (r:Bool) (w:World) (Q:Kd.C aN w x n.length n) (R:n.length<=y) (S:Kd.C (Kd.int .i64) w G l1.length l1) (T:l1.length<=c1) (h:fJ.f k m n l1=some r):
  Calls Tryz.prog 38 #[.agg #[.int .i64 m,.slice x n.length y],.slice G l1.length c1] w fun e w'=>e= .returned (.bool r)/\Below w.heap.size w w':=by
 have aO:=Tryz.underlying24;have aP:=zA Q;have aS:=zA R;clear Q R;have p:=zA S;have U:=zA T;clear S T;have b:=zA (aq w.heap.size w);unfold fJ.f at h;have H:=h;clear h;by_cases c3:(l1.length:Int)>100
 ·rw[if_pos c3] at H
  have V:=az c3;have W:decide (100<l1.length)=true:=az (by omega);clear c3;obtain rfl:=aH H;go_enter Tryz.func38,Tryz.ntmps38
  go_wp2_with (first|((with_reducible refine aJ (N:=2) rfl ?_);refine zX 2 #[.int .i64 m,.slice x n.length y] 24 ?_;intro L g w4 o hb;have q:=zA (o);have X:=zG b g;have Y:=zG b g;replace b:=zS b hb;clear hb o g))
  go_ret;exact⟨zE,zB⟩
 ·rw[if_neg c3] at H
  have V:=a6 c3;have W:decide (100<l1.length)=false:=a6 (by omega);clear c3;obtain⟨t105,Z,H⟩:=zo H;by_cases E:t105=0
  ·rw[if_pos E] at H
   obtain⟨aa,ab⟩:=bH E;clear E;have I:=zA H;clear H;go_enter Tryz.func38,Tryz.ntmps38
   go_wp2_with (first|((with_reducible refine aJ (N:=2) rfl ?_);refine zX 2 #[.int .i64 m,.slice x n.length y] 24 ?_;intro L g w7 o hb;have q:=zA (o);have X:=zG b g;have Y:=zG b g;replace b:=zS b hb;clear hb o g;obtain⟨ak,am,an,ap⟩:=ax q)|((with_reducible refine aG (f:=42) rfl ?_);refine zL (some 12) Tryz.func42 #[.slice G l1.length c1,.int .i64 m] ?_;(with_reducible refine(c_.calls k _ _ l1 m t105 _ ?ah ?ai Z.out).mono ?_);(case ah=>exact Kd.aw p.out zB);(case ai=>exact U.out);rintro e w' ⟨rfl,⟨nd,rfl⟩⟩;refine⟨_,rfl,?_⟩))
   go_loopg [5] k (fun kq v5 w'=>∃(a:Int),v5= .int .i64 a/\Aside0 (fJ.l0 kq l1 a=some r)/\Aside0 (kq<=k)/\Aside0 (w'.heap[L]? =some (.cells #[.int .i64 m,(.slice x n.length y)] 24 (0,0)))/\Aside0 (Below w.heap.size w w'))
   case atStart=>exact⟨(0),zT,I,⟨aI _⟩,⟨zK q⟩,⟨zB⟩⟩
   case round=>
    clear I;clear V W aa ab ak am an ap;obtain⟨a,rfl,M,ag,q,b⟩:=hrel;cases gk with
    |zero=>exact absurd M.out (by simp[fJ.l0])
    |succ k1=>
     have H:=M.out;clear M;simp only[fJ.l0] at H;by_cases z:a<(l1.length:Int)
     ·rw[if_pos z] at H
      have aB:=az z;clear z;by_cases J:0<=a
      ·rw[if_pos J] at H
       have a2:=az J;clear J;by_cases B:(rd l1 a)<(-100)
       ·rw[if_pos B] at H
        have aF:=az B;clear B;obtain rfl:=aH H;have i:0<=(a:Int):=ay ‹_›;have j:a<(l1.length:Int):=ay ‹_›;obtain⟨K,F,l⟩:=Kd.bU p.out a i j;cases F;replace l:=(b.out.cell (a8 w _ l)).trans l;replace i:=eq_true i;replace j:=eq_true j;go_wp2;go_ret;exact⟨zE,zB⟩
       ·rw[if_neg B] at H
        have aF:=a6 B;clear B;by_cases D:(rd l1 a)>100
        ·rw[if_pos D] at H
         have aL:=az D;clear D;obtain rfl:=aH H;have i:0<=(a:Int):=ay ‹_›;have j:a<(l1.length:Int):=ay ‹_›;obtain⟨K,F,l⟩:=Kd.bU p.out a i j;cases F;replace l:=(b.out.cell (a8 w _ l)).trans l;replace i:=eq_true i;replace j:=eq_true j;have s:0<=(a:Int):=ay ‹_›;have u:a<(l1.length:Int):=ay ‹_›;obtain⟨O,P,v⟩:=Kd.bU p.out a s u;obtain rfl:K=O:=(by injection P);replace v:=(b.out.cell (a8 w _ v)).trans v;replace s:=eq_true s;replace u:=eq_true u;go_wp2;go_ret;exact⟨zE,zB⟩
        ·rw[if_neg D] at H
         have aL:=a6 D;clear D;have I:=zA H;clear H;have i:0<=(a:Int):=ay ‹_›;have j:a<(l1.length:Int):=ay ‹_›;obtain⟨K,F,l⟩:=Kd.bU p.out a i j;cases F;replace l:=(b.out.cell (a8 w _ l)).trans l;replace i:=eq_true i;replace j:=eq_true j;have s:0<=(a:Int):=ay ‹_›;have u:a<(l1.length:Int):=ay ‹_›;obtain⟨O,P,v⟩:=Kd.bU p.out a s u;obtain rfl:K=O:=(by injection P);replace v:=(b.out.cell (a8 w _ v)).trans v;replace s:=eq_true s;replace u:=eq_true u;go_wp2;go_roundg k1
         case measure=>have:=ag.out;omega
         case rel=>exact⟨(wrap64 (a+1)),zT,I,⟨by have:=ag.out;omega⟩,⟨zK q⟩,⟨zB⟩⟩
      ·rw[if_neg J] at H
       exact absurd H (by simp)
     ·rw[if_neg z] at H
      have aB:=a6 z;clear z;obtain rfl:=aH H;go_wp2;go_ret;exact⟨zE,zB⟩
  ·rw[if_neg E] at H
   obtain⟨aa,ab⟩:=bI E;obtain rfl:=aH H;go_enter Tryz.func38,Tryz.ntmps38
   go_wp2_with (first|((with_reducible refine aJ (N:=2) rfl ?_);refine zX 2 #[.int .i64 m,.slice x n.length y] 24 ?_;intro L g a3 o hb;have q:=zA (o);have X:=zG b g;have Y:=zG b g;replace b:=zS b hb;clear hb o g;obtain⟨a4,a5,a9,bd⟩:=ax q)|((with_reducible refine aG (f:=42) rfl ?_);refine zL (some 12) Tryz.func42 #[.slice G l1.length c1,.int .i64 m] ?_;(with_reducible refine(c_.calls k _ _ l1 m t105 _ ?ah ?ai Z.out).mono ?_);(case ah=>exact Kd.aw p.out zB);(case ai=>exact U.out);rintro e w' ⟨rfl,⟨nd,rfl⟩⟩;refine⟨_,rfl,?_⟩))
   go_ret;exact⟨zE,zB⟩
def lH.f (k:Nat) (a:Int) (b:List (S83)) (e:Int) (a2:Int):Option (Bool):=if(b.length:Int)>40 then(some false) else((di.f k a b).bind fun t119=>(if t119=0 then(if a<=e then((my.f a b).bind fun t120=>(some (decide (t120<=a2)))) else(some false)) else(some true)))
theorem lH.calls (k:Nat) (j:Int) (m:Option Addr) (n:Nat) (b:List (S83)) (u:Int) (a2:Int) (r:Bool) (w:World) (B:Kd.C aN w m b.length b) (D:b.length<=n) (h:lH.f k j b u a2=some r):
  Calls Tryz.prog 97 #[.agg #[.int .i64 j,.slice m b.length n],.int .i64 u,.int .i64 a2] w fun e w'=>e= .returned (.bool r)/\Below w.heap.size w w':=by
 have L:=Tryz.underlying24;have q:=zA B;have s:=zA D;clear B D;have a:=zA (aq w.heap.size w);unfold lH.f at h;have H:=h;clear h;by_cases c4:(b.length:Int)>40
 ·rw[if_pos c4] at H
  have E:=az c4;have F:decide (40<b.length)=true:=az (by omega);clear c4;obtain rfl:=aH H;go_enter Tryz.func97,Tryz.ntmps97
  go_wp2_with (first|((with_reducible refine aJ (N:=3) rfl ?_);refine zX 3 #[.int .i64 j,.slice m b.length n] 24 ?_;intro v i M l hb;have g:=zA (l);have x:=zG a i;have y:=zG a i;replace a:=zS a hb;clear hb l i;obtain⟨O,P,Q,R⟩:=ax g))
  go_ret;exact⟨zE,zB⟩
 ·rw[if_neg c4] at H
  have E:=a6 c4;have F:decide (40<b.length)=false:=a6 (by omega);clear c4;obtain⟨t119,z,H⟩:=zo H;by_cases p:t119=0
  ·rw[if_pos p] at H
   obtain⟨G,I⟩:=bH p;clear p;by_cases o:j<=u
   ·rw[if_pos o] at H
    have J:=az o;clear o;obtain⟨t120,K,H⟩:=zo H;obtain rfl:=aH H;go_enter Tryz.func97,Tryz.ntmps97
    go_wp2_with (first|((with_reducible refine aJ (N:=3) rfl ?_);refine zX 3 #[.int .i64 j,.slice m b.length n] 24 ?_;intro v i iE l hb;have g:=zA (l);have x:=zG a i;have y:=zG a i;replace a:=zS a hb;clear hb l i;obtain⟨S,T,U,V⟩:=ax g)|((with_reducible refine aG (f:=103) rfl ?_);refine zL (some 12) Tryz.func103 #[.agg #[.int .i64 j,.slice m b.length n]] ?_;(with_reducible refine(di.calls k j _ _ b t119 _ ?ah ?ai z.out).mono ?_);(case ah=>exact Kd.aw q.out zB);(case ai=>exact s.out);rintro e W ⟨rfl,hb⟩;refine⟨_,rfl,?_⟩;replace g:=zb g hb;replace a:=zS a hb;(try clear hb);obtain⟨X,Y,Z,aa⟩:=ax g)|(go_at_call 73;(with_reducible refine(my.calls j _ _ b t120 _ ?ah ?ai K.out).mono ?_);(case ah=>exact Kd.aw q.out zB);(case ai=>exact s.out);rintro e ab ⟨rfl,hb⟩;replace g:=zb g hb;replace a:=zS a hb;(try clear hb)))
    go_ret;exact⟨zE,zB⟩
   ·rw[if_neg o] at H
    have J:=a6 o;clear o;obtain rfl:=aH H;go_enter Tryz.func97,Tryz.ntmps97
    go_wp2_with (first|((with_reducible refine aJ (N:=3) rfl ?_);refine zX 3 #[.int .i64 j,.slice m b.length n] 24 ?_;intro v i ad l hb;have g:=zA (l);have x:=zG a i;have y:=zG a i;replace a:=zS a hb;clear hb l i;obtain⟨ag,ak,am,an⟩:=ax g)|((with_reducible refine aG (f:=103) rfl ?_);refine zL (some 12) Tryz.func103 #[.agg #[.int .i64 j,.slice m b.length n]] ?_;(with_reducible refine(di.calls k j _ _ b t119 _ ?ah ?ai z.out).mono ?_);(case ah=>exact Kd.aw q.out zB);(case ai=>exact s.out);rintro e ap ⟨rfl,hb⟩;refine⟨_,rfl,?_⟩;replace g:=zb g hb;replace a:=zS a hb;(try clear hb);obtain⟨ar,av,aB,aF⟩:=ax g))
    go_ret;exact⟨zE,zB⟩
  ·rw[if_neg p] at H
   obtain⟨G,I⟩:=bI p;obtain rfl:=aH H;go_enter Tryz.func97,Tryz.ntmps97
   go_wp2_with (first|((with_reducible refine aJ (N:=3) rfl ?_);refine zX 3 #[.int .i64 j,.slice m b.length n] 24 ?_;intro v i aL l hb;have g:=zA (l);have x:=zG a i;have y:=zG a i;replace a:=zS a hb;clear hb l i;obtain⟨aO,aP,aS,a0⟩:=ax g)|((with_reducible refine aG (f:=103) rfl ?_);refine zL (some 12) Tryz.func103 #[.agg #[.int .i64 j,.slice m b.length n]] ?_;(with_reducible refine(di.calls k j _ _ b t119 _ ?ah ?ai z.out).mono ?_);(case ah=>exact Kd.aw q.out zB);(case ai=>exact s.out);rintro e a3 ⟨rfl,hb⟩;refine⟨_,rfl,?_⟩;replace g:=zb g hb;replace a:=zS a hb;(try clear hb)))
   go_ret;exact⟨zE,zB⟩
def lI.f (k:Nat) (a:Int) (b:List (S83)):Option (Bool):=(lH.f k a b 5 7).bind fun t122=>(some t122)
theorem lI.calls (k:Nat) (b:Int) (i:Option Addr) (j:Nat) (a:List (S83)) (r:Bool) (w:World) (n:Kd.C aN w i a.length a) (o:a.length<=j) (h:lI.f k b a=some r):
  Calls Tryz.prog 44 #[.agg #[.int .i64 b,.slice i a.length j]] w fun e w'=>e= .returned (.bool r)/\Below w.heap.size w w':=by
 have v:=Tryz.underlying24;have q:=zA n;have s:=zA o;clear n o;have g:=zA (aq w.heap.size w);have H:((lH.f k b a 5 7).bind fun t122=>(some t122))=some r:=h;clear h;obtain⟨t122,u,H⟩:=zo H;obtain rfl:=aH H;go_enter Tryz.func44,Tryz.ntmps44
 go_wp2_with (first|((with_reducible refine aJ (N:=1) rfl ?_);refine zX 1 #[.int .i64 b,.slice i a.length j] 24 ?_;intro x l w3 p hb;have m:=zA (p);have y:=zG g l;have z:=zG g l;replace g:=zS g hb;clear hb p l;obtain⟨B,D,E,F⟩:=ax m)|((with_reducible refine aG (f:=97) rfl ?_);refine zL (some 4) Tryz.func97 #[.agg #[.int .i64 b,.slice i a.length j],.int .i64 5,.int .i64 7] ?_;(with_reducible refine(lH.calls k b _ _ a 5 7 t122 _ ?ah ?ai u.out).mono ?_);(case ah=>exact Kd.aw q.out zB);(case ai=>exact s.out);rintro e G ⟨rfl,hb⟩;refine⟨_,rfl,?_⟩;replace m:=zb m hb;replace g:=zS g hb;(try clear hb)))
 go_ret;exact⟨zE,zB⟩
def ez.j0:Nat->List Int->Int->Bool->Int->List (S83)->Option (Bool)
 |0,_,_,_,_,_=>none
 |k+1,x1,x2,e,a,b=>if e=true then(some false) else((iJ.f k a b x1).bind fun t156=>(if t156=0 then((fJ.f k a b x1).bind fun t157=>(if t157=true then((eu.f k x1).bind fun t158=>(some (decide (t158<=x2)))) else(some false))) else(some true)))
def ez.f (k:Nat) (a:Int) (b:List (S83)) (l1:List Int) (a2:Int):Option (Bool):=(lI.f k a b).bind fun t155=>(if t155=true then(ez.j0 k l1 a2 (decide ((l1.length:Int)>100)) a b) else(ez.j0 k l1 a2 true a b))
theorem ez.calls (k:Nat) (i:Int) (j:Option Addr) (l:Nat) (b:List (S83)) (s:Option Addr) (c1:Nat) (l1:List Int) (a2:Int) (r:Bool) (w:World) (J:Kd.C aN w j b.length b) (K:b.length<=l) (L:Kd.C (Kd.int .i64) w s l1.length l1) (M:l1.length<=c1) (h:ez.f k i b l1 a2=some r):
  Calls Tryz.prog 79 #[.agg #[.int .i64 i,.slice j b.length l],.slice s l1.length c1,.int .i64 a2] w fun e w'=>e= .returned (.bool r)/\Below w.heap.size w w':=by
 have W:=Tryz.underlying24;have m:=zA J;have n:=zA K;clear J K;have o:=zA L;have p:=zA M;clear L M;have g:=zA (aq w.heap.size w);unfold ez.f at h;have H:=h;clear h;have D:=zA H;clear H;go_enter Tryz.func79,Tryz.ntmps79
 go_upto_region 1 with (first|((with_reducible refine aJ (N:=3) rfl ?_);(try(refine dP (by rfl) ?_;dsimp only));refine zX 3 #[.int .i64 i,.slice j b.length l] 24 ?_;intro R E X O hb;have a:=zA (O);have Y:=zG g E;have Z:=zG g E;replace g:=zS g hb;clear hb O E))
 (try simp only[Act.put,List.setIfInBounds_toArray,List.set_cons_zero,List.set_cons_succ])
 go_cut [14] (fun S wc=>∃(v:Nat) (x:Bool),S= .bool x/\Aside0 (ez.j0 v l1 a2 x i b=some r)/\Aside0 (v<=k)/\Aside0 (wc.heap[R]? =some (.cells #[.int .i64 i,(.slice j b.length l)] 24 (0,0)))/\Aside0 (Below w.heap.size w wc))
 case first=>
  have H:=D.out;clear D;obtain⟨t155,P,H⟩:=zo H;by_cases y:t155=true
  ·subst y
   replace H:=zi H;have F:=zA H;clear H;obtain⟨aa,ab,ad,ag⟩:=ax a;go_wp2_with (first|((with_reducible refine aG (f:=44) rfl ?_);refine zL (some 8) Tryz.func44 #[.agg #[.int .i64 i,.slice j b.length l]] ?_;(with_reducible refine(lI.calls k i _ _ b true _ ?ah ?ai P.out).mono ?_);(case ah=>exact Kd.aw m.out zB);(case ai=>exact n.out);rintro e w9 ⟨rfl,hb⟩;refine⟨_,rfl,?_⟩;replace a:=zb a hb;replace g:=zS g hb;(try clear hb)))
   go_meet
   case rel=>exact⟨_,(decide ((l1.length:Int)>100)),zT,F,⟨by first|omega|exact aI _⟩,⟨zK a⟩,⟨zB⟩⟩
  ·replace y:=Bool.eq_false_iff.mpr y
   subst y;replace H:=zj H;have F:=zA H;clear H;obtain⟨am,an,ap,ar⟩:=ax a;go_wp2_with (first|((with_reducible refine aG (f:=44) rfl ?_);refine zL (some 8) Tryz.func44 #[.agg #[.int .i64 i,.slice j b.length l]] ?_;(with_reducible refine(lI.calls k i _ _ b false _ ?ah ?ai P.out).mono ?_);(case ah=>exact Kd.aw m.out zB);(case ai=>exact n.out);rintro e iE ⟨rfl,hb⟩;refine⟨_,rfl,?_⟩;replace a:=zb a hb;replace g:=zS g hb;(try clear hb)))
   go_meet
   case rel=>exact⟨_,(true),zT,F,⟨by first|omega|exact aI _⟩,⟨zK a⟩,⟨zB⟩⟩
 case rest=>
  clear D;obtain⟨v,x,rfl,G,av,a,g⟩:=hcut;cases v with
  |zero=>exact absurd G.out (by simp[ez.j0])
  |succ q=>
   have H:=G.out;clear G;simp only[ez.j0] at H;by_cases z:x=true
   ·subst z
    replace H:=zi H;obtain rfl:=aH H;go_wp2;go_ret;exact⟨zE,zB⟩
   ·replace z:=Bool.eq_false_iff.mpr z
    subst z;replace H:=zj H;obtain⟨t156,I,H⟩:=zo H;by_cases u:t156=0
    ·rw[if_pos u] at H
     obtain⟨T,U⟩:=bH u;clear u;obtain⟨t157,Q,H⟩:=zo H;by_cases B:t157=true
     ·subst B
      replace H:=zi H;obtain⟨t158,V,H⟩:=zo H;obtain rfl:=aH H;obtain⟨aB,aF,aL,aO⟩:=ax a;go_wp2_with (first|((with_reducible refine aG (f:=80) rfl ?_);refine zL (some 17) Tryz.func80 #[.agg #[.int .i64 i,.slice j b.length l],.slice s l1.length c1] ?_;(with_reducible refine(iJ.calls q i _ _ b _ _ l1 t156 _ ?ah ?ai ?aW ?aX I.out).mono ?_);(case ah=>exact Kd.aw m.out zB);(case ai=>exact n.out);(case aW=>exact Kd.aw o.out zB);(case aX=>exact p.out);rintro e aP ⟨rfl,hb⟩;refine⟨_,rfl,?_⟩;replace a:=zb a hb;replace g:=zS g hb;(try clear hb);obtain⟨aS,a0,a1,a3⟩:=ax a)|(go_at_call 38;(with_reducible refine(fJ.calls q i _ _ b _ _ l1 true _ ?ah ?ai ?aW ?aX Q.out).mono ?_);(case ah=>exact Kd.aw m.out zB);(case ai=>exact n.out);(case aW=>exact Kd.aw o.out zB);(case aX=>exact p.out);rintro e a4 ⟨rfl,hb⟩;replace a:=zb a hb;replace g:=zS g hb;(try clear hb))|(go_at_call 22;(with_reducible refine(eu.calls q _ _ l1 t158 _ ?ah ?ai V.out).mono ?_);(case ah=>exact Kd.aw o.out zB);(case ai=>exact p.out);rintro e w' ⟨rfl,⟨nd,rfl⟩⟩))
      go_ret;exact⟨zE,zB⟩
     ·replace B:=Bool.eq_false_iff.mpr B
      subst B;replace H:=zj H;obtain rfl:=aH H;obtain⟨a9,bd,be,bf⟩:=ax a;go_wp2_with (first|((with_reducible refine aG (f:=80) rfl ?_);refine zL (some 17) Tryz.func80 #[.agg #[.int .i64 i,.slice j b.length l],.slice s l1.length c1] ?_;(with_reducible refine(iJ.calls q i _ _ b _ _ l1 t156 _ ?ah ?ai ?aW ?aX I.out).mono ?_);(case ah=>exact Kd.aw m.out zB);(case ai=>exact n.out);(case aW=>exact Kd.aw o.out zB);(case aX=>exact p.out);rintro e bg ⟨rfl,hb⟩;refine⟨_,rfl,?_⟩;replace a:=zb a hb;replace g:=zS g hb;(try clear hb);obtain⟨bi,bk,bn,bo⟩:=ax a)|(go_at_call 38;(with_reducible refine(fJ.calls q i _ _ b _ _ l1 false _ ?ah ?ai ?aW ?aX Q.out).mono ?_);(case ah=>exact Kd.aw m.out zB);(case ai=>exact n.out);(case aW=>exact Kd.aw o.out zB);(case aX=>exact p.out);rintro e bv ⟨rfl,hb⟩;replace a:=zb a hb;replace g:=zS g hb;(try clear hb)))
      go_ret;exact⟨zE,zB⟩
    ·rw[if_neg u] at H
     obtain⟨T,U⟩:=bI u;obtain rfl:=aH H;obtain⟨bw,bx,b0,b1⟩:=ax a;go_wp2_with (first|((with_reducible refine aG (f:=80) rfl ?_);refine zL (some 17) Tryz.func80 #[.agg #[.int .i64 i,.slice j b.length l],.slice s l1.length c1] ?_;(with_reducible refine(iJ.calls q i _ _ b _ _ l1 t156 _ ?ah ?ai ?aW ?aX I.out).mono ?_);(case ah=>exact Kd.aw m.out zB);(case ai=>exact n.out);(case aW=>exact Kd.aw o.out zB);(case aX=>exact p.out);rintro e b2 ⟨rfl,hb⟩;refine⟨_,rfl,?_⟩;replace a:=zb a hb;replace g:=zS g hb;(try clear hb)))
     go_ret;exact⟨zE,zB⟩
end Go.Proofs.YtffdiakgjakngaaGreat.P


namespace Go.Proofs.YtffdiakgjakngaaGreat.P
open Go.RowKit Go.Proofs.YtffdiakgjakngaaGreatW.PrintWords Go.Proofs.YtffdiakgjakngaaGreatW.PrintLast Go.Proofs.YtffdiakgjakngaaGreatW.PrintMore
set_option linter.unusedVariables false
set_option linter.unusedSimpArgs false
set_option maxHeartbeats 8000000
set_option maxRecDepth 100000
def fR.l0:Nat->Int->Int->Int->Int->List (S83)->Option (Int)
 |0,_,_,_,_,_=>none
 |k+1,x1,e,a,b,g=>if a<b then(if a=x1 then(fR.l0 k x1 e (wrap64 (a+1)) b g) else((dR.f k b g a x1).bind fun t160=>(fR.l0 k x1 (wrap64 (e+t160)) (wrap64 (a+1)) b g))) else(some e)
def fR.f (k:Nat) (a:Int) (b:List (S83)) (e:Int):Option (Int):=fR.l0 k e 0 0 a b
theorem fR.calls (k:Nat) (b:Int) (n:Option Addr) (o:Nat) (a:List (S83)) (j:Int) (r:Int) (w:World) (y:Kd.C aN w n a.length a) (z:a.length<=o) (h:fR.f k b a j=some r):
  Calls Tryz.prog 144 #[.agg #[.int .i64 b,.slice n a.length o],.int .i64 j] w fun e w'=>e= .returned (.int .i64 r)/\Below w.heap.size w w':=by
 have M:=Tryz.underlying24;have E:=zA y;have F:=zA z;clear y z;have l:=zA (aq w.heap.size w);have H:(fR.l0 k j 0 0 b a)=some r:=h;clear h;have m:=zA H;clear H;go_enter Tryz.func144,Tryz.ntmps144
 go_wp2_with (first|((with_reducible refine aJ (N:=2) rfl ?_);refine zX 2 #[.int .i64 b,.slice n a.length o] 24 ?_;intro G u w3 B hb;have g:=zA (B);have O:=zG l u;have P:=zG l u;replace l:=zS l hb;clear hb B u))
 go_loopg [5,6] k (fun D v5 v6 w'=>∃(p:Int) (i:Int),v5= .int .i64 p/\v6= .int .i64 i/\Aside0 (fR.l0 D j p i b a=some r)/\Aside0 (D<=k)/\Aside0 (w'.heap[G]? =some (.cells #[.int .i64 b,(.slice n a.length o)] 24 (0,0)))/\Aside0 (Below w.heap.size w w'))
 case atStart=>exact⟨(0),(0),zT,zT,m,⟨aI _⟩,⟨zK g⟩,⟨zB⟩⟩
 case round=>
  clear m;obtain⟨p,i,rfl,rfl,v,s,g,l⟩:=hrel;cases gk with
  |zero=>exact absurd v.out (by simp[fR.l0])
  |succ x=>
   have H:=v.out;clear v;simp only[fR.l0] at H;by_cases c4:i<b
   ·rw[if_pos c4] at H
    have I:=az c4;clear c4;by_cases q:i=j
    ·rw[if_pos q] at H
     obtain⟨J,K⟩:=bH q;clear q;have m:=zA H;clear H;obtain⟨Q,R,S,T⟩:=ax g;go_wp2;go_roundg x
     case measure=>have:=s.out;omega
     case rel=>exact⟨(p),(wrap64 (i+1)),zT,zT,m,⟨by have:=s.out;omega⟩,⟨zK g⟩,⟨zB⟩⟩
    ·rw[if_neg q] at H
     obtain⟨J,K⟩:=bI q;obtain⟨t160,L,H⟩:=zo H;have m:=zA H;clear H;obtain⟨U,V,W,X⟩:=ax g;go_wp2_with (first|((with_reducible refine aG (f:=147) rfl ?_);refine zL (some 20) Tryz.func147 #[.agg #[.int .i64 b,.slice n a.length o],.int .i64 i,.int .i64 j] ?_;(with_reducible refine(dR.calls x b _ _ a i j t160 _ ?ah ?ai L.out).mono ?_);(case ah=>exact Kd.aw E.out zB);(case ai=>exact F.out);rintro e Y ⟨rfl,hb⟩;refine⟨_,rfl,?_⟩;replace g:=zb g hb;replace l:=zS l hb;(try clear hb)))
     go_roundg x
     case measure=>have:=s.out;omega
     case rel=>exact⟨(wrap64 (p+t160)),(wrap64 (i+1)),zT,zT,m,⟨by have:=s.out;omega⟩,⟨zK g⟩,⟨zB⟩⟩
   ·rw[if_neg c4] at H
    have I:=a6 c4;clear c4;obtain rfl:=aH H;obtain⟨Z,aa,ab,ad⟩:=ax g;go_wp2;go_ret;exact⟨zE,zB⟩
def fS.l0:Nat->List Int->Int->Int->List (S83)->Option (List Int)
 |0,_,_,_,_=>none
 |k+1,x3,x4,a,b=>if x4<a then((fR.f k a b x4).bind fun t162=>(if x3.length<17592186044416 then(fS.l0 k (x3++[wrap64 (t162-2)]) (wrap64 (x4+1)) a b) else(none))) else(some x3)
def fS.f (k:Nat) (a:Int) (b:List (S83)):Option (List Int):=fS.l0 k ([]:List Int) 0 a b
theorem fS.calls (k:Nat) (g:Int) (p:Option Addr) (q:Nat) (a:List (S83)) (r:List Int) (w:World) (B:Kd.C aN w p a.length a) (D:a.length<=q) (h:fS.f k g a=some r):
  Calls Tryz.prog 90 #[.agg #[.int .i64 g,.slice p a.length q]] w fun e w'=>∃E:Value,e= .returned (E)/\Kd.R (Kd.int .i64) 3 w' w.heap.size (fun _=>True) E r/\Below w.heap.size w w':=by
 have W:=Tryz.underlying24;have K:=zA B;have L:=zA D;clear B D;have j:=zA (aq w.heap.size w);have H:(fS.l0 k ([]:List Int) 0 g a)=some r:=h;clear h;have s:=zA H;clear H;go_enter Tryz.func90,Tryz.ntmps90
 go_wp2_with (first|((with_reducible refine aJ (N:=1) rfl ?_);refine zX 1 #[.int .i64 g,.slice p a.length q] 24 ?_;intro M m w2 F hb;have i:=zA (F);have X:=zG j m;have Y:=zG j m;replace j:=zS j hb;clear hb F m))
 go_loopg [3,4] k (fun G v3 v4 w'=>∃(n:List Int) (l:Int),v4= .int .i64 l/\Aside0 (fS.l0 G n l g a=some r)/\Aside0 (G<=k)/\Aside0 (Kd.R (Kd.int .i64) 3 w' w.heap.size (fun _=>True) v3 n)/\Aside0 (w'.heap[M]? =some (.cells #[.int .i64 g,(.slice p a.length q)] 24 (0,0)))/\Aside0 (Below w.heap.size w w'))
 case atStart=>exact⟨(([]:List Int)),(0),zT,s,⟨aI _⟩,⟨by first|exact Kd.dh _ _ _ _ _|exact Kd.gT _ _ _ _ _|exact Kd.V_nil _ _ _ _ _|exact Kd.Q_nil _ _ _ _ _|exact Kd.gw _ _ _ _ _⟩,⟨zK i⟩,⟨zB⟩⟩
 case round=>
  clear s;obtain⟨n,l,rfl,v,I,o,i,j⟩:=hrel;cases gk with
  |zero=>exact absurd v.out (by simp[fS.l0])
  |succ x=>
   have H:=v.out;clear v;simp only[fS.l0] at H;by_cases c3:l<g
   ·rw[if_pos c3] at H
    have O:=az c3;clear c3;obtain⟨t162,P,H⟩:=zo H;by_cases u:n.length<17592186044416
    ·rw[if_pos u] at H
     have Q:=zA u;clear u;obtain⟨J,y⟩:∃S:List Int,S=(n++[wrap64 (t162-2)]):=⟨_,rfl⟩;replace H:(fS.l0 x J (wrap64 (l+1)) g a)=some r:=zh y H;have T:=zA y;clear y;have s:=zA H;clear H;obtain⟨Z,aa,ab,ad⟩:=ax i;go_wp2_with (first|((with_reducible refine aG (f:=144) rfl ?_);refine zL (some 14) Tryz.func144 #[.agg #[.int .i64 g,.slice p a.length q],.int .i64 l] ?_;(with_reducible refine(fR.calls x g _ _ a l t162 _ ?ah ?ai P.out).mono ?_);(case ah=>exact Kd.aw K.out zB);(case ai=>exact L.out);rintro e w7 ⟨rfl,hb⟩;refine⟨_,rfl,?_⟩;replace o:=bz o hb;replace i:=zb i hb;replace j:=zS j hb;(try clear hb))|((with_reducible refine qc (b:=.append) (xs:=#[.tmp 11,.tmp 16]) rfl ?_);at_builtin;refine Kd.mJ (Kd.int .i64) (w0:=w) w.heap.size rfl (.tmp 11) (.tmp 16) 25 3 (.int .i64 0) 8 rfl Tryz.underlying25 gB rfl (by decide) (by omega) u3 n (wrap64 (t162-2)) [.int .i64 (wrap64 (t162-2))] (fun _=>True) (fun _=>False) rfl rfl ?aP (fun _ hk=>hk.elim) ?aF ?aO ?aB ?aS ?aL ?_;(case aP=>exact rfl);(case aB=>exact zB);(case aF=>exact(fun _ _=>trivial));(case aO=>exact(zR o));(case aS=>exact(bu zB));(case aL=>have:=Q.out;omega);intro v164 w8 z hb m U;rw[<-T.out] at z;replace i:=zA (da (zK i) m (Kd.dj o.out i.out (by decide)));replace j:=zA (hb);have V:=zA (z);clear o;clear z hb m U))
     go_roundg x
     case measure=>have:=I.out;omega
     case rel=>exact⟨(J),(wrap64 (l+1)),zT,s,⟨by have:=I.out;omega⟩,⟨zR V⟩,⟨zK i⟩,⟨zB⟩⟩
    ·rw[if_neg u] at H
     exact absurd H (by simp)
   ·rw[if_neg c3] at H
    have O:=a6 c3;clear c3;obtain rfl:=aH H;obtain⟨am,an,ap,ar⟩:=ax i;go_wp2;go_ret;exact⟨_,zE,by(with_reducible repeat(first|apply Kd.aR|apply Kd.bD|apply Kd.bq));exact o.out,zB⟩
def dB.l0:Nat->List Int->List Int->Int->List Int->Int->Option (List Int)
 |0,_,_,_,_,_=>none
 |k+1,b,x1,x2,e,a=>if a<(b.length:Int) then(if 0<=a then(if a<(x1.length:Int) then(if a<(e.length:Int) then(dB.l0 k b x1 x2 (e.set (a:Int).toNat (wrap64 ((rd b a)+(wrap64 (x2*(rd x1 a)))))) (wrap64 (a+1))) else(none)) else(none)) else(none)) else(some e)
def dB.f (k:Nat) (l0:List Int) (l1:List Int) (a2:Int):Option (List Int):=if 0<=(l0.length:Int) then(if((l0.length:Int):Int).toNat<=35184372088832 then(dB.l0 k l0 l1 a2 (List.replicate ((l0.length:Int):Int).toNat 0) 0) else(none)) else(none)
def dB.T5:Bool×List (List Nat×List Nat):=(true,[([],[]),([],[]),([],[]),([],[]),([2,3],[2,3]),([4],[4]),([],[]),([],[]),([],[]),([7,8],[7,8]),([9],[9]),([6,10],[6,10]),([5,11],[5,11]),([0,1,0,1,2,3,4,5,6,7,8,9,10,11,12],[0,1]),([13,12,0,1,2,3,4,5,6,7,8,9,10,11,12],[12,13])])
def dB.B5:List Nat:=[0,0,0,0,12,28,0,0,0,384,896,1984,4092,8191,16383]
theorem dB.FW:dO .any (opsOf Tryz.f134 5)=dB.T5:=by kernel_rfl
theorem dB.FX:kY dB.T5.2 dB.B5=true:=by kernel_rfl
theorem dB.calls (k:Nat) (A0:Option Addr) (c0:Nat) (l0:List Int) (T:Option Addr) (c1:Nat) (l1:List Int) (a2:Int) (r:List Int) (w:World) (U:Kd.C (Kd.int .i64) w A0 l0.length l0) (V:l0.length<=c0) (W:Kd.C (Kd.int .i64) w T l1.length l1) (X:l1.length<=c1) (h:dB.f k l0 l1 a2=some r):
  Calls Tryz.prog 134 #[.slice A0 l0.length c0,.slice T l1.length c1,.int .i64 a2] w fun e w'=>∃Y:Value,e= .returned (Y)/\Kd.R (Kd.int .i64) 3 w' w.heap.size (fun _=>True) Y r/\Below w.heap.size w w':=by
 have aO:=zA U;have b3:=zA V;clear U V;have aP:=zA W;have b4:=zA X;clear W X;have b:=zA (aq w.heap.size w);unfold dB.f at h;have H:=h;clear h;by_cases c4:0<=(l0.length:Int)
 ·rw[if_pos c4] at H
  have aS:=eq_true c4;have a0:=az c4;clear c4;by_cases o:((l0.length:Int):Int).toNat<=35184372088832
  ·rw[if_pos o] at H
   have a1:=eq_true o;have a3:=az o;clear o;obtain⟨Z,D⟩:∃E:List Int,E=(List.replicate ((l0.length:Int):Int).toNat 0):=⟨_,rfl⟩;replace H:(dB.l0 k l0 l1 a2 Z 0)=some r:=zh D H;have aa:=zA D;clear D;have u:=zA H;clear H;go_enter Tryz.func134,Tryz.ntmps134
   go_wp2_with (first|((with_reducible refine aJ (N:=11) rfl ?_);refine Kd.kg (Kd.int .i64) _ 3 rfl (N:=11) rfl 25 _ _ rfl (l0.length:Int) rfl rfl Tryz.underlying25 (.int .i64 0) 8 gB rfl (by decide) (by omega) 0 (ok:=fun _=>True) (okp:=fun _=>True) rfl (fun _ hk=>hk) trivial (ay ‹_›) (Nat.le_trans (Nat.mul_le_mul_right _ (ay ‹_› :(l0.length:Int).toNat<=35184372088832)) (by omega)) (aq _ _) (aI _) ?_;intro v167 w6 p hb a4 a5;clear a4 a5;(first|rw[<-aa.out] at p|(simp only[Int.reduceToNat] at p;rw[<-aa.out] at p));have a9:=zA (Kd.bj p (bu zB));replace b:=zS b hb;clear hb p))
   go_loopg [8] k (fun kq v8 w'=>∃(l:List Int) (a:Int),v8= .int .i64 a/\Aside0 (dB.l0 kq l0 l1 a2 l a=some r)/\Aside0 (kq<=k)/\Aside0 (Kd.R (Kd.int .i64) 3 w' w.heap.size (fun _=>True) v167 l)/\Aside0 (Below w.heap.size w w'))
   case atStart=>exact⟨(Z),(0),zT,u,⟨aI _⟩,⟨zR a9⟩,⟨zB⟩⟩
   case round=>
    clear u;clear aS a0 a1 a3;obtain⟨l,a,rfl,F,ad,g,b⟩:=hrel;cases gk with
    |zero=>exact absurd F.out (by simp[dB.l0])
    |succ k1=>
     have H:=F.out;clear F;simp only[dB.l0] at H;by_cases m:a<(l0.length:Int)
     ·rw[if_pos m] at H
      have be:=az m;clear m;by_cases x:0<=a
      ·rw[if_pos x] at H
       have b6:=az x;clear x;by_cases y:a<(l1.length:Int)
       ·rw[if_pos y] at H
        have b_:=az y;clear y;by_cases z:a<(l.length:Int)
        ·rw[if_pos z] at H
         have b':=az z;clear z;obtain⟨ak,G⟩:∃E:List Int,E=(l.set (a:Int).toNat (wrap64 ((rd l0 a)+(wrap64 (a2*(rd l1 a)))))):=⟨_,rfl⟩;replace H:(dB.l0 k1 l0 l1 a2 ak (wrap64 (a+1)))=some r:=zh G H;have bf:=zA G;clear G;have u:=zA H;clear H;try go_wp2
         replace g:=zA (Kd.bq g.out);replace b:=zA (bZ b.out);have I:0<=(a:Int):=ay ‹_›;have J:a<(l0.length:Int):=ay ‹_›;obtain⟨bg,bi,q⟩:=Kd.bU aO.out a I J;have am:=q;cases bi;replace q:=(b.out.cell (a8 w _ q)).trans q;replace I:=eq_true I;replace J:=eq_true J;have L:0<=(a:Int):=ay ‹_›;have M:a<(l1.length:Int):=ay ‹_›;obtain⟨bk,bn,s⟩:=Kd.bU aP.out a L M;have an:=s;cases bn;replace s:=(b.out.cell (a8 w _ s)).trans s;replace L:=eq_true L;replace M:=eq_true M;have O:0<=(a:Int):=ay ‹_›;have P:(a:Int)<((l.length:Int):Int):=ay ‹_›;obtain⟨ca,cb,ap,ar,bo,cc,av⟩:=Kd.fK g.out (by omega)
         (first|cases ap|(injection ap with B bv bw;(first|subst B|(injection B with B;subst B));subst bw;clear bv))
         have bx:=zA ar;have b0:=zA av;clear ar bo av;obtain⟨b1,b2⟩:=Kd.b7 0 g.out (a:Int) O P;replace O:=eq_true O;replace P:=eq_true P;have Q:=Kd.zu g.out (a:Int) (wrap64 ((rd l0 a)+(wrap64 (a2*(rd l1 a)))));rw[<-bf.out] at Q;have aB:=zA Q;clear Q;refine oh (n:=15) (S:=fun w'=>w'.cell? (bg.add (a).toNat)=some (.int .i64 (rd l0 a))/\w'.cell? (bk.add (a).toNat)=some (.int .i64 (rd l1 a))) (ds:=[14]) #[false,false,false,false,false,false,false,false,false,false,false,false,false,false,false] (by kernel_rfl) rfl rfl ⟨((b.out.cell (a8 w _ am)).trans am),((b.out.cell (a8 w _ an)).trans an)⟩ (fun hHeld=>?_);refine oN dB.FW dB.FX (fun j aF=>?_);generalize wr.drew=cd at g b b0 aB b2 b1 q s hHeld⊢;refine zs 15 0 0 (by kernel_rfl) ?_;iterate 5 (refine zn (v:=?_) (a':=?_) (by simp only[Nat.reduceAdd];rfl) j rfl rfl (by kernel_rfl) (Or.inl ⟨by rfl,?_⟩) ?_ ?_;rotate_left;(focus (intro w';go_simp;with_reducible rfl));rotate_left;(focus (simp only[Act.put,List.setIfInBounds_toArray,List.set_cons_zero,List.set_cons_succ,bG,bL];rfl)))
         refine zs 15 31 6 (by kernel_rfl) ?_;iterate 4 (refine zn (v:=?_) (a':=?_) (by simp only[Nat.reduceAdd];rfl) j rfl rfl (by kernel_rfl) (Or.inl ⟨by rfl,?_⟩) ?_ ?_;rotate_left;(focus (intro w';go_simp;with_reducible rfl));rotate_left;(focus (simp only[Act.put,List.setIfInBounds_toArray,List.set_cons_zero,List.set_cons_succ,bG,bL];rfl)))
         refine jn (i:=5) (N:=some 23) (v:=?_) (a':=?_) #[true,true,true,true,true,true,true,true,true,true,false,false,false,false,false] rfl rfl (ju j.out aF.out (by kernel_rfl)) (fun _ _ _ h=>h) (Or.inl ⟨by rfl,?_⟩) hHeld ?_ ?_;rotate_left
         ·rintro w' ⟨s0,s1⟩
          go_simp
          with_reducible rfl
         rotate_left
         ·simp only[Act.put,List.setIfInBounds_toArray,List.set_cons_zero,List.set_cons_succ,bG,bL]
          rfl
         refine jn (i:=10) (N:=some 28) (v:=?_) (a':=?_) #[true,true,true,true,true,true,true,true,true,true,true,false,false,false,false] rfl rfl (ju j.out aF.out (by kernel_rfl)) (fun _ _ _ h=>h) (Or.inl ⟨by rfl,?_⟩) hHeld ?_ ?_;rotate_left
         ·rintro w' ⟨s0,s1⟩
          go_simp
          with_reducible rfl
         rotate_left
         ·simp only[Act.put,List.setIfInBounds_toArray,List.set_cons_zero,List.set_cons_succ,bG,bL]
          rfl
         refine zs 15 2047 11 (by kernel_rfl) ?_;iterate 3 (refine zn (v:=?_) (a':=?_) (by simp only[Nat.reduceAdd];rfl) j rfl rfl (by kernel_rfl) (Or.inl ⟨by rfl,?_⟩) ?_ ?_;rotate_left;(focus (intro w';go_simp;with_reducible rfl));rotate_left;(focus (simp only[Act.put,List.setIfInBounds_toArray,List.set_cons_zero,List.set_cons_succ,bG,bL];rfl)))
         refine zP (i:=14) (N:=none) #[true,true,true,true,true,true,true,true,true,true,true,true,true,true,true] rfl rfl (jL j.out (by kernel_rfl)) (by decide) (fun K hK=>?_);refine zU (w1:=?_) (by rfl) rfl ?_ ?_;rotate_left
         ·go_simp
          rfl
         refine hK.out _ _ ?_;clear hK K;refine ot (oM j.out (by kernel_rfl)) ?_;try go_wp2
         go_roundg k1
         case measure=>have:=ad.out;omega
         case rel=>exact⟨(ak),(wrap64 (a+1)),zT,u,⟨by have:=ad.out;omega⟩,⟨zR aB⟩,⟨by repeat(first|(with_reducible first|exact b.out|apply ao|apply bY|apply bZ|refine dN ?_ bx.out)|exact b.out)⟩⟩
        ·rw[if_neg z] at H
         exact absurd H (by simp)
       ·rw[if_neg y] at H
        exact absurd H (by simp)
      ·rw[if_neg x] at H
       exact absurd H (by simp)
     ·rw[if_neg m] at H
      have be:=a6 m;clear m;obtain rfl:=aH H;go_wp2;go_ret;exact⟨_,zE,by(with_reducible repeat(first|apply Kd.aR|apply Kd.bD|apply Kd.bq));exact g.out,zB⟩
  ·rw[if_neg o] at H
   exact absurd H (by simp)
 ·rw[if_neg c4] at H
  exact absurd H (by simp)
def lJ.f (k:Nat) (a:Int) (b:List (S83)) (l1:List Int):Option (List Int):=(fS.f k a b).bind fun t173=>((dB.f k t173 l1 (-1)).bind fun t176=>(some t176))
theorem lJ.calls (k:Nat) (j:Int) (m:Option Addr) (n:Nat) (a:List (S83)) (o:Option Addr) (c1:Nat) (l1:List Int) (r:List Int) (w:World) (q:Kd.C aN w m a.length a) (s:a.length<=n) (u:Kd.C (Kd.int .i64) w o l1.length l1) (v:l1.length<=c1) (h:lJ.f k j a l1=some r):
  Calls Tryz.prog 81 #[.agg #[.int .i64 j,.slice m a.length n],.slice o l1.length c1] w fun e w'=>∃x:Value,e= .returned (x)/\Kd.R (Kd.int .i64) 3 w' w.heap.size (fun _=>True) x r/\Below w.heap.size w w':=by
 have M:=Tryz.underlying24;have z:=zA q;have B:=zA s;clear q s;have D:=zA u;have E:=zA v;clear u v;have b:=zA (aq w.heap.size w);unfold lJ.f at h;have H:=h;clear h;obtain⟨t173,F,H⟩:=zo H;obtain⟨t176,G,H⟩:=zo H;obtain rfl:=aH H;go_enter Tryz.func81,Tryz.ntmps81
 go_wp2_with (first|((with_reducible refine aJ (N:=2) rfl ?_);refine zX 2 #[.int .i64 j,.slice m a.length n] 24 ?_;intro O p P y hb;have l:=zA (y);have Q:=zG b p;have S:=zG b p;replace b:=zS b hb;clear hb y p;obtain⟨T,U,V,W⟩:=ax l)|((with_reducible refine aG (f:=90) rfl ?_);refine zL (some 6) Tryz.func90 #[.agg #[.int .i64 j,.slice m a.length n]] ?_;(with_reducible refine(fS.calls k j _ _ a t173 _ ?ah ?ai F.out).mono ?_);(case ah=>exact Kd.aw z.out zB);(case ai=>exact B.out);rintro e X ⟨Y,rfl,g,hb⟩;refine⟨_,rfl,?_⟩;have i:=zA (Kd.bj g (bu zB));replace l:=zb l hb;replace b:=zS b hb;(try clear hb);(try clear g);obtain⟨I,J,K⟩:=Kd.bm i.out;subst K)|((with_reducible refine aG (f:=134) rfl ?_);refine zL (some 8) Tryz.func134 #[.slice I t173.length J,.slice o l1.length c1,.int .i64 (-1)] ?_;(with_reducible refine(dB.calls k _ _ t173 _ _ l1 (-1) t176 _ ?ah ?ai ?aW ?aX G.out).mono ?_);(case ah=>exact zC (Kd.aQ i.out).2.2);(case ai=>exact(Kd.aQ i.out).2.1);(case aW=>exact Kd.aw D.out zB);(case aX=>exact E.out);rintro e Z ⟨aa,rfl,g,hb⟩;refine⟨_,rfl,?_⟩;have L:=zA (Kd.bj (Kd.bR g (Kd.a_ (zR i))) (bu zB));replace i:=bS i g hb;replace l:=zb l hb;replace b:=zS b hb;(try clear hb);(try clear g)))
 go_ret;exact⟨_,zE,by(with_reducible repeat(first|apply Kd.aR|apply Kd.bD|apply Kd.bq));exact Kd.bb L.out (fun _ hk=>trivial),zB⟩
def fa.f (k:Nat) (a:Int) (b:List (S83)) (l1:List Int) (a2:Int):Option (Bool):=(ez.f k a b l1 a2).bind fun t180=>(if t180=true then((iJ.f k a b l1).bind fun t181=>(if t181=0 then((lJ.f k a b l1).bind fun t182=>((ez.f k a b t182 a2).bind fun t185=>(some t185))) else(some true))) else(some false))
def fa.T3:Bool×List (List Nat×List Nat):=(true,[([],[]),([],[]),([0,1],[0,1]),([2],[2]),([3,2],[3]),([4],[4]),([4],[4]),([4],[4]),([6,7,4,4],[4,6,7]),([4],[4]),([5,8,9,8,4],[4,5,8,9]),([4,10],[4,10]),([11,10,0,1,2,3,4,5,6,7,8,9,10,11],[11])])
def fa.B3:List Nat:=[0,0,3,7,15,31,31,31,223,31,1023,2047,4095]
theorem fa.xm:dO .any (opsOf Tryz.f25 3)=fa.T3:=by kernel_rfl
theorem fa.xn:kY fa.T3.2 fa.B3=true:=by kernel_rfl
theorem fa.calls (k:Nat) (l:Int) (m:Option Addr) (o:Nat) (j:List (S83)) (s:Option Addr) (c1:Nat) (l1:List Int) (a2:Int) (r:Bool) (w:World) (L:Kd.C aN w m j.length j) (M:j.length<=o) (O:Kd.C (Kd.int .i64) w s l1.length l1) (P:l1.length<=c1) (h:fa.f k l j l1 a2=some r):
  Calls Tryz.prog 25 #[.agg #[.int .i64 l,.slice m j.length o],.slice s l1.length c1,.int .i64 a2] w fun e w'=>e= .returned (.bool r)/\Below w.heap.size w w':=by
 have av:=Tryz.underlying24;have x:=zA L;have y:=zA M;clear L M;have z:=zA O;have B:=zA P;clear O P;have b:=zA (aq w.heap.size w);unfold fa.f at h;have H:=h;clear h;obtain⟨t180,J,H⟩:=zo H;by_cases I:t180=true
 ·subst I
  replace H:=zi H;obtain⟨t181,Q,H⟩:=zo H;by_cases E:t181=0
  ·rw[if_pos E] at H
   obtain⟨Y,Z⟩:=bH E;clear E;obtain⟨t182,A8,H⟩:=zo H;obtain⟨t185,A9,H⟩:=zo H;obtain rfl:=aH H;go_enter Tryz.func25,Tryz.ntmps25
   try go_wp2_with (first|((with_reducible refine aJ (N:=3) rfl ?_);refine zX 3 #[.int .i64 l,.slice m j.length o] 24 ?_;intro D p aB u hb;have a:=zA (u);have R:=zG b p;have T:=zG b p;replace b:=zS b hb;clear hb u p;obtain⟨aF,aL,aO,aP⟩:=ax a)|((with_reducible refine aG (f:=79) rfl ?_);refine zL (some 10) Tryz.func79 #[.agg #[.int .i64 l,.slice m j.length o],.slice s l1.length c1,.int .i64 a2] ?_;(with_reducible refine(ez.calls k l _ _ j _ _ l1 a2 true _ ?ah ?ai ?aW ?aX J.out).mono ?_);(case ah=>exact Kd.aw x.out zB);(case ai=>exact y.out);(case aW=>exact Kd.aw z.out zB);(case aX=>exact B.out);rintro e ad ⟨rfl,hb⟩;refine⟨_,rfl,?_⟩;replace a:=zb a hb;replace b:=zS b hb;(try clear hb)))
   replace a:=zA (fA a.out);replace b:=zA (bZ b.out);refine oh (n:=13) (S:=fun w'=>w'.cell? ⟨D,0,none⟩=some (.int .i64 l)/\w'.cell? ⟨D,1,none⟩=some (.slice m j.length o)) (ds:=[]) #[false,false,false,false,false,false,false,false,false,false,false,false,false] (by kernel_rfl) rfl rfl ⟨(aj a.out 0).trans rfl,(aj a.out 1).trans rfl⟩ (fun hHeld=>?_);refine oN fa.xm fa.xn (fun g F=>?_);generalize ad.drew=aS at a b hHeld⊢;refine zs 13 0 1 (by kernel_rfl) ?_;refine zn (v:=?_) (a':=?_) (by simp only[Nat.reduceAdd];rfl) g rfl rfl (by kernel_rfl) (Or.inl ⟨by rfl,?_⟩) ?_ ?_;rotate_left;(focus (intro w';go_simp;with_reducible rfl));rotate_left;(focus (simp only[Act.put,List.setIfInBounds_toArray,List.set_cons_zero,List.set_cons_succ,bG,bL];rfl))
   refine jn (i:=0) (N:=some 12) (v:=?_) (a':=?_) #[true,true,false,false,false,false,false,false,false,false,false,false,false] rfl rfl (ju g.out F.out (by kernel_rfl)) (fun _ _ _ h=>h) (Or.inl ⟨by rfl,?_⟩) hHeld ?_ ?_;rotate_left
   ·rintro w' ⟨s0,s1⟩
    go_simp
    with_reducible rfl
   rotate_left
   ·simp only[Act.put,List.setIfInBounds_toArray,List.set_cons_zero,List.set_cons_succ,bG,bL]
    rfl
   refine kj (i:=2) (N:=some 14) #[true,true,true,false,false,false,false,false,false,false,false,false,false] rfl rfl (jL g.out (by kernel_rfl)) (by decide) (fun K q=>?_);refine kQ Tryz.func80 (by kernel_rfl) rfl #[.agg #[.int .i64 l,.slice m j.length o],.slice s l1.length c1] (by rfl) rfl rfl (by(try simp only[List.map_toArray,List.map_cons,List.map_nil]);first|done|rfl|(simp only[List.length_drop,List.length_take];rfl)) ?_;with_reducible refine(iJ.calls k l _ _ j _ _ l1 t181 _ ?ah ?ai ?aW ?aX Q.out).mono ?_
   (case ah=>exact Kd.aw x.out zB)
   (case ai=>exact y.out)
   (case aW=>exact Kd.aw z.out zB)
   (case aX=>exact B.out)
   rintro e a0 ⟨rfl,hb⟩;refine⟨_,rfl,?_⟩;replace a:=zb a hb;replace b:=zS b hb
   (try clear hb)
   skip;skip;skip;refine q.out _ _ ⟨(aj a.out 0).trans rfl,(aj a.out 1).trans rfl⟩ (fun hHeld=>?_);clear q K;refine kl (a':=?_) ?_ ?_;rotate_left
   ·show Act.put _ (some 14) _=_
    simp only[Act.put,List.setIfInBounds_toArray,List.set_cons_zero,List.set_cons_succ,bG,bL];rfl
   refine zs 13 7 3 (by kernel_rfl) ?_;iterate 2 (refine zn (v:=?_) (a':=?_) (by simp only[Nat.reduceAdd];rfl) g rfl rfl (by kernel_rfl) (Or.inl ⟨by rfl,?_⟩) ?_ ?_;rotate_left;(focus (intro w';go_simp;with_reducible rfl));rotate_left;(focus (simp only[Act.put,List.setIfInBounds_toArray,List.set_cons_zero,List.set_cons_succ,bG,bL];rfl)))
   refine zs 13 31 7 (by kernel_rfl) ?_;refine zn (v:=?_) (a':=?_) (by simp only[Nat.reduceAdd];rfl) g rfl rfl (by kernel_rfl) (Or.inl ⟨by rfl,?_⟩) ?_ ?_;rotate_left;(focus (intro w';go_simp;with_reducible rfl));rotate_left;(focus (simp only[Act.put,List.setIfInBounds_toArray,List.set_cons_zero,List.set_cons_succ,bG,bL];rfl))
   refine zs 13 159 9 (by kernel_rfl) ?_;refine zn (v:=?_) (a':=?_) (by simp only[Nat.reduceAdd];rfl) g rfl rfl (by kernel_rfl) (Or.inl ⟨by rfl,?_⟩) ?_ ?_;rotate_left;(focus (intro w';go_simp;with_reducible rfl));rotate_left;(focus (simp only[Act.put,List.setIfInBounds_toArray,List.set_cons_zero,List.set_cons_succ,bG,bL];rfl))
   refine jn (i:=5) (N:=some 17) (v:=?_) (a':=?_) #[true,true,true,true,true,true,false,true,false,true,false,false,false] rfl rfl (ju g.out F.out (by kernel_rfl)) (fun _ _ _ h=>h) (Or.inl ⟨by rfl,?_⟩) hHeld ?_ ?_;rotate_left
   ·rintro w' ⟨s0,s1⟩
    go_simp
    with_reducible rfl
   rotate_left
   ·simp only[Act.put,List.setIfInBounds_toArray,List.set_cons_zero,List.set_cons_succ,bG,bL]
    rfl
   refine jn (i:=6) (N:=some 18) (v:=?_) (a':=?_) #[true,true,true,true,true,true,true,true,false,true,false,false,false] rfl rfl (ju g.out F.out (by kernel_rfl)) (fun _ _ _ h=>h) (Or.inl ⟨by rfl,?_⟩) hHeld ?_ ?_;rotate_left
   ·rintro w' ⟨s0,s1⟩
    go_simp
    with_reducible rfl
   rotate_left
   ·simp only[Act.put,List.setIfInBounds_toArray,List.set_cons_zero,List.set_cons_succ,bG,bL]
    rfl
   refine kj (i:=8) (N:=some 20) #[true,true,true,true,true,true,true,true,true,true,false,false,false] rfl rfl (jL g.out (by kernel_rfl)) (by decide) (fun K q=>?_);refine kQ Tryz.func81 (by kernel_rfl) rfl #[.agg #[.int .i64 l,.slice m j.length o],.slice s l1.length c1] (by rfl) rfl rfl (by(try simp only[List.map_toArray,List.map_cons,List.map_nil]);first|done|rfl|(simp only[List.length_drop,List.length_take];rfl)) ?_;with_reducible refine(lJ.calls k l _ _ j _ _ l1 t182 _ ?ah ?ai ?aW ?aX A8.out).mono ?_
   (case ah=>exact Kd.aw x.out zB)
   (case ai=>exact y.out)
   (case aW=>exact Kd.aw z.out zB)
   (case aX=>exact B.out)
   rintro e a1 ⟨v183,rfl,U,hb⟩;refine⟨_,rfl,?_⟩;have G:=zA (Kd.bj U (bu zB));replace a:=zb a hb;replace b:=zS b hb
   (try clear hb)
   skip;skip;skip
   (try clear U)
   obtain⟨ag,ak,V⟩:=Kd.bm G.out
   (first|subst V|(injection V with W am X;have an:=W.symm;have ap:=X.symm;clear W am X;subst an;subst ap))
   refine q.out _ _ ⟨(aj a.out 0).trans rfl,(aj a.out 1).trans rfl⟩ (fun hHeld=>?_);clear q K;refine kl (a':=?_) ?_ ?_;rotate_left
   ·show Act.put _ (some 20) _=_
    simp only[Act.put,List.setIfInBounds_toArray,List.set_cons_zero,List.set_cons_succ,bG,bL];rfl
   refine kj (i:=10) (N:=some 22) #[true,true,true,true,true,true,true,true,true,true,true,false,false] rfl rfl (jL g.out (by kernel_rfl)) (by decide) (fun K q=>?_);refine kQ Tryz.func79 (by kernel_rfl) rfl #[.agg #[.int .i64 l,.slice m j.length o],.slice ag t182.length ak,.int .i64 a2] (by rfl) rfl rfl (by(try simp only[List.map_toArray,List.map_cons,List.map_nil]);first|done|rfl|(simp only[List.length_drop,List.length_take];rfl)) ?_;with_reducible refine(ez.calls k l _ _ j _ _ t182 a2 t185 _ ?ah ?ai ?aW ?aX A9.out).mono ?_
   (case ah=>exact Kd.aw x.out zB)
   (case ai=>exact y.out)
   (case aW=>exact zC (Kd.aQ G.out).2.2)
   (case aX=>exact(Kd.aQ G.out).2.1)
   rintro e a3 ⟨rfl,hb⟩;refine⟨_,rfl,?_⟩;replace G:=bz G hb;replace a:=zb a hb;replace b:=zS b hb
   (try clear hb)
   skip;skip;skip;refine q.out _ _ ⟨(aj a.out 0).trans rfl,(aj a.out 1).trans rfl⟩ (fun hHeld=>?_);clear q K;refine kl (a':=?_) ?_ ?_;rotate_left
   ·show Act.put _ (some 22) _=_
    simp only[Act.put,List.setIfInBounds_toArray,List.set_cons_zero,List.set_cons_succ,bG,bL];rfl
   refine zs 13 2047 11 (by kernel_rfl) ?_;iterate 2 (refine zn (v:=?_) (a':=?_) (by simp only[Nat.reduceAdd];rfl) g rfl rfl (by kernel_rfl) (Or.inl ⟨by rfl,?_⟩) ?_ ?_;rotate_left;(focus (intro w';go_simp;with_reducible rfl));rotate_left;(focus (simp only[Act.put,List.setIfInBounds_toArray,List.set_cons_zero,List.set_cons_succ,bG,bL];rfl)))
   refine ot (oM g.out (by kernel_rfl)) ?_;try go_wp2
   go_ret;exact⟨zE,zB⟩
  ·rw[if_neg E] at H
   obtain⟨Y,Z⟩:=bI E;obtain rfl:=aH H;go_enter Tryz.func25,Tryz.ntmps25
   try go_wp2_with (first|((with_reducible refine aJ (N:=3) rfl ?_);refine zX 3 #[.int .i64 l,.slice m j.length o] 24 ?_;intro D p a4 u hb;have a:=zA (u);have R:=zG b p;have T:=zG b p;replace b:=zS b hb;clear hb u p;obtain⟨a5,a9,bd,be⟩:=ax a)|((with_reducible refine aG (f:=79) rfl ?_);refine zL (some 10) Tryz.func79 #[.agg #[.int .i64 l,.slice m j.length o],.slice s l1.length c1,.int .i64 a2] ?_;(with_reducible refine(ez.calls k l _ _ j _ _ l1 a2 true _ ?ah ?ai ?aW ?aX J.out).mono ?_);(case ah=>exact Kd.aw x.out zB);(case ai=>exact y.out);(case aW=>exact Kd.aw z.out zB);(case aX=>exact B.out);rintro e ar ⟨rfl,hb⟩;refine⟨_,rfl,?_⟩;replace a:=zb a hb;replace b:=zS b hb;(try clear hb)))
   replace a:=zA (fA a.out);replace b:=zA (bZ b.out);refine oh (n:=13) (S:=fun w'=>w'.cell? ⟨D,0,none⟩=some (.int .i64 l)/\w'.cell? ⟨D,1,none⟩=some (.slice m j.length o)) (ds:=[]) #[false,false,false,false,false,false,false,false,false,false,false,false,false] (by kernel_rfl) rfl rfl ⟨(aj a.out 0).trans rfl,(aj a.out 1).trans rfl⟩ (fun hHeld=>?_);refine oN fa.xm fa.xn (fun g F=>?_);generalize ar.drew=bf at a b hHeld⊢;refine zs 13 0 1 (by kernel_rfl) ?_;refine zn (v:=?_) (a':=?_) (by simp only[Nat.reduceAdd];rfl) g rfl rfl (by kernel_rfl) (Or.inl ⟨by rfl,?_⟩) ?_ ?_;rotate_left;(focus (intro w';go_simp;with_reducible rfl));rotate_left;(focus (simp only[Act.put,List.setIfInBounds_toArray,List.set_cons_zero,List.set_cons_succ,bG,bL];rfl))
   refine jn (i:=0) (N:=some 12) (v:=?_) (a':=?_) #[true,true,false,false,false,false,false,false,false,false,false,false,false] rfl rfl (ju g.out F.out (by kernel_rfl)) (fun _ _ _ h=>h) (Or.inl ⟨by rfl,?_⟩) hHeld ?_ ?_;rotate_left
   ·rintro w' ⟨s0,s1⟩
    go_simp
    with_reducible rfl
   rotate_left
   ·simp only[Act.put,List.setIfInBounds_toArray,List.set_cons_zero,List.set_cons_succ,bG,bL]
    rfl
   refine kj (i:=2) (N:=some 14) #[true,true,true,false,false,false,false,false,false,false,false,false,false] rfl rfl (jL g.out (by kernel_rfl)) (by decide) (fun K q=>?_);refine kQ Tryz.func80 (by kernel_rfl) rfl #[.agg #[.int .i64 l,.slice m j.length o],.slice s l1.length c1] (by rfl) rfl rfl (by(try simp only[List.map_toArray,List.map_cons,List.map_nil]);first|done|rfl|(simp only[List.length_drop,List.length_take];rfl)) ?_;with_reducible refine(iJ.calls k l _ _ j _ _ l1 t181 _ ?ah ?ai ?aW ?aX Q.out).mono ?_
   (case ah=>exact Kd.aw x.out zB)
   (case ai=>exact y.out)
   (case aW=>exact Kd.aw z.out zB)
   (case aX=>exact B.out)
   rintro e bg ⟨rfl,hb⟩;refine⟨_,rfl,?_⟩;replace a:=zb a hb;replace b:=zS b hb
   (try clear hb)
   skip;skip;skip;refine q.out _ _ ⟨(aj a.out 0).trans rfl,(aj a.out 1).trans rfl⟩ (fun hHeld=>?_);clear q K;refine kl (a':=?_) ?_ ?_;rotate_left
   ·show Act.put _ (some 14) _=_
    simp only[Act.put,List.setIfInBounds_toArray,List.set_cons_zero,List.set_cons_succ,bG,bL];rfl
   refine zs 13 7 3 (by kernel_rfl) ?_;iterate 2 (refine zn (v:=?_) (a':=?_) (by simp only[Nat.reduceAdd];rfl) g rfl rfl (by kernel_rfl) (Or.inl ⟨by rfl,?_⟩) ?_ ?_;rotate_left;(focus (intro w';go_simp;with_reducible rfl));rotate_left;(focus (simp only[Act.put,List.setIfInBounds_toArray,List.set_cons_zero,List.set_cons_succ,bG,bL];rfl)))
   refine kP (i:=5) (N:=some 17) (v:=undef) (a':=?_) #[true,true,true,true,true,true,false,false,false,false,false,false,false] rfl rfl (kV g.out (by kernel_rfl)) (fun _ _ _ h=>h) (Or.inr ⟨by rfl,rfl⟩) ?_ ?_;rotate_left
   ·simp only[Act.put,List.setIfInBounds_toArray,List.set_cons_zero,List.set_cons_succ,bG,bL]
    rfl
   refine kP (i:=6) (N:=some 18) (v:=undef) (a':=?_) #[true,true,true,true,true,true,true,false,false,false,false,false,false] rfl rfl (kV g.out (by kernel_rfl)) (fun _ _ _ h=>h) (Or.inr ⟨by rfl,rfl⟩) ?_ ?_;rotate_left
   ·simp only[Act.put,List.setIfInBounds_toArray,List.set_cons_zero,List.set_cons_succ,bG,bL]
    rfl
   refine kP (i:=7) (N:=some 19) (v:=undef) (a':=?_) #[true,true,true,true,true,true,true,true,false,false,false,false,false] rfl rfl (kV g.out (by kernel_rfl)) (fun _ _ _ h=>h) (Or.inr ⟨by rfl,rfl⟩) ?_ ?_;rotate_left
   ·simp only[Act.put,List.setIfInBounds_toArray,List.set_cons_zero,List.set_cons_succ,bG,bL]
    rfl
   refine kP (i:=8) (N:=some 20) (v:=undef) (a':=?_) #[true,true,true,true,true,true,true,true,true,false,false,false,false] rfl rfl (kV g.out (by kernel_rfl)) (fun _ _ _ h=>h) (Or.inr ⟨by rfl,rfl⟩) ?_ ?_;rotate_left
   ·simp only[Act.put,List.setIfInBounds_toArray,List.set_cons_zero,List.set_cons_succ,bG,bL]
    rfl
   refine kP (i:=9) (N:=some 21) (v:=undef) (a':=?_) #[true,true,true,true,true,true,true,true,true,true,false,false,false] rfl rfl (kV g.out (by kernel_rfl)) (fun _ _ _ h=>h) (Or.inr ⟨by rfl,rfl⟩) ?_ ?_;rotate_left
   ·simp only[Act.put,List.setIfInBounds_toArray,List.set_cons_zero,List.set_cons_succ,bG,bL]
    rfl
   refine kP (i:=10) (N:=some 22) (v:=undef) (a':=?_) #[true,true,true,true,true,true,true,true,true,true,true,false,false] rfl rfl (kV g.out (by kernel_rfl)) (fun _ _ _ h=>h) (Or.inr ⟨by rfl,rfl⟩) ?_ ?_;rotate_left
   ·simp only[Act.put,List.setIfInBounds_toArray,List.set_cons_zero,List.set_cons_succ,bG,bL]
    rfl
   refine zs 13 2047 11 (by kernel_rfl) ?_;iterate 2 (refine zn (v:=?_) (a':=?_) (by simp only[Nat.reduceAdd];rfl) g rfl rfl (by kernel_rfl) (Or.inl ⟨by rfl,?_⟩) ?_ ?_;rotate_left;(focus (intro w';go_simp;with_reducible rfl));rotate_left;(focus (simp only[Act.put,List.setIfInBounds_toArray,List.set_cons_zero,List.set_cons_succ,bG,bL];rfl)))
   refine ot (oM g.out (by kernel_rfl)) ?_;try go_wp2
   go_ret;exact⟨zE,zB⟩
 ·replace I:=Bool.eq_false_iff.mpr I
  subst I;replace H:=zj H;obtain rfl:=aH H;go_enter Tryz.func25,Tryz.ntmps25
  go_wp2_with (first|((with_reducible refine aJ (N:=3) rfl ?_);refine zX 3 #[.int .i64 l,.slice m j.length o] 24 ?_;intro D p bi u hb;have a:=zA (u);have R:=zG b p;have T:=zG b p;replace b:=zS b hb;clear hb u p;obtain⟨bk,bn,bo,bv⟩:=ax a)|((with_reducible refine aG (f:=79) rfl ?_);refine zL (some 10) Tryz.func79 #[.agg #[.int .i64 l,.slice m j.length o],.slice s l1.length c1,.int .i64 a2] ?_;(with_reducible refine(ez.calls k l _ _ j _ _ l1 a2 false _ ?ah ?ai ?aW ?aX J.out).mono ?_);(case ah=>exact Kd.aw x.out zB);(case ai=>exact y.out);(case aW=>exact Kd.aw z.out zB);(case aX=>exact B.out);rintro e bw ⟨rfl,hb⟩;refine⟨_,rfl,?_⟩;replace a:=zb a hb;replace b:=zS b hb;(try clear hb)))
  go_ret;exact⟨zE,zB⟩
def xo.f (k:Nat) (a:Int) (b:List (S83)) (l1:List Int) (a2:Int):Option (Bool):=(ie.f k a b).bind fun t187=>(if t187=0 then((c_.f k l1 a).bind fun t188=>(if t188=0 then((fa.f k a b l1 a2).bind fun t189=>(some t189)) else(some false))) else(some false))
def FY:List (Int×Int):=(List.range 12).flatMap fun a=>(List.range 12).map fun b:Nat=>(((a:Nat):Int),(b:Int))
theorem xp {N:Int} {E:List S83} (g:N<=12) (h:br N E):E.length<=144:=by
 have h1:(E.map fun x=>(x.f0,x.f1)).length<=FY.length:=by
  refine sa ?_ (fun p hp=>?_)
  ·rw[List.pairwise_map]
   refine h.order.imp fun {x y} a e=>?_
   injection e with i e2
   unfold ix at a;omega
  ·obtain⟨x,b,rfl⟩:=List.mem_map.1 hp
   have:=h.ok x b;simp[bX] at this;refine List.mem_flatMap.2 ⟨x.f0.toNat,List.mem_range.2 (by omega),List.mem_map.2 ⟨x.f1.toNat,List.mem_range.2 (by omega),?_⟩⟩;rw[Int.toNat_of_nonneg (by omega),Int.toNat_of_nonneg (by omega)]
 rw[List.length_map] at h1;exact h1
theorem FZ {n:Nat} {f:Nat->Nat->Int} (hf:∀u v,0<=f u v) {x:S83} (o:0<=x.f0/\x.f0<n) (h1:0<=x.f1/\x.f1<n) (p:1<=x.f2):
  (∀u v,0<=cV f x u v)/\T.sN (T.val n (cV f x)) n<=T.sN (T.val n f) n+2*x.f2:=by
 unfold cV;by_cases e:x.f0=x.f1
 ·simp only[if_pos e]
  exact⟨hf,by omega⟩
 ·simp only[if_neg e]
  refine⟨fun u v=>?_,?_⟩
  ·split
   ·omega
   ·split
    ·omega
    ·exact hf u v
  ·have i:x.f0.toNat<n:=by omega
   have hb:x.f1.toNat<n:=by omega
   have h:∀a u,0<=T.one a u:=fun a u=>by unfold T.one;split<;>omega
   have hle:∀u,u<n->T.val n (fun a b=>if a=x.f1.toNat/\b=x.f0.toNat then x.f2 else if a=x.f0.toNat/\b=x.f1.toNat then x.f2 else f a b) u<=T.val n f u+(T.one x.f1.toNat u*x.f2+T.one x.f0.toNat u*x.f2):=fun u hu=>by
    unfold T.val;have k:T.one x.f1.toNat u*x.f2=T.sN (fun v=>(T.one x.f1.toNat u*x.f2)*T.one x.f0.toNat v) n:=by rw[T.eX,T.fj i,Int.mul_one]
    have e2:T.one x.f0.toNat u*x.f2=T.sN (fun v=>(T.one x.f0.toNat u*x.f2)*T.one x.f1.toNat v) n:=by rw[T.eX,T.fj hb,Int.mul_one]
    rw[k,e2,<-T.dA,<-T.dA];refine T.cX fun v q=>?_
    have r:=hf u v;have s:0<=T.one x.f1.toNat u*x.f2*T.one x.f0.toNat v:=Int.mul_nonneg (Int.mul_nonneg (h _ _) (by omega)) (h _ _);have w:0<=T.one x.f0.toNat u*x.f2*T.one x.f1.toNat v:=Int.mul_nonneg (Int.mul_nonneg (h _ _) (by omega)) (h _ _);show (if u=x.f1.toNat/\v=x.f0.toNat then x.f2 else if u=x.f0.toNat/\v=x.f1.toNat then x.f2 else f u v)<=_
    split
    ·rename_i c
     have:T.one x.f1.toNat u*x.f2*T.one x.f0.toNat v=x.f2:=by unfold T.one;rw[if_pos c.1,if_pos c.2];omega
     omega
    ·split
     ·rename_i c
      have:T.one x.f0.toNat u*x.f2*T.one x.f1.toNat v=x.f2:=by unfold T.one;rw[if_pos c.1,if_pos c.2];omega
      omega
     ·omega
   have j:=T.cX hle;rw[T.dA,T.dA] at j;have l:T.sN (fun u=>T.one x.f1.toNat u*x.f2) n=x.f2:=by
    rw[T.bP (g:=fun u=>x.f2*T.one x.f1.toNat u) (fun u _=>Int.mul_comm _ _),T.eX,T.fj hb,Int.mul_one]
   have m:T.sN (fun u=>T.one x.f0.toNat u*x.f2) n=x.f2:=by
    rw[T.bP (g:=fun u=>x.f2*T.one x.f0.toNat u) (fun u _=>Int.mul_comm _ _),T.eX,T.fj i,Int.mul_one]
   rw[l,m] at j;omega
theorem xr {n:Nat}:∀(E:List S83) (f:Nat->Nat->Int),(∀u v,0<=f u v)->(∀x∈E,bX n x=true)->T.sN (T.val n (E.foldl cV f)) n<=T.sN (T.val n f) n+2*eS E
 |[],f,_,_=>by simp[eS]
 |x::E,f,hf,h=>by
  have e:=h x (List.mem_cons_self ..);simp[bX] at e;obtain⟨a,b⟩:=FZ (n:=n) hf (x:=x) (by omega) (by omega) (by omega);have i:=xr E (cV f x) a (fun y g=>h y (List.mem_cons_of_mem _ g));rw[List.foldl_cons,eS];omega
theorem F0 {n:Nat} {E:List S83} (h:br n E):T.sN (T.val n (af E)) n<=2*(cR E E.length:Nat):=by
 have h1:=xr (n:=n) E (fun _ _=>0) (fun _ _=>Int.le_refl _) h.ok;have b:T.sN (T.val n fun _ _=>0) n=0:=T.gV fun u _=>T.jx n
 have a:=nB h E.length (aI _);rw[List.take_length] at a;unfold af;omega
def j6 (N:Int) (E:List S83):Int:=if cz N E=0 then(if partsOf E N.toNat=1 then 0 else 13) else cz N E
theorem sb (N:Int) (E:List S83) (e:E.length<=9223372036854775807):Ev (fun k=>ie.f k N E) (j6 N E):=by
 unfold ie.f j6;refine Ev.bind (xg N E e) ?_;by_cases b:cz N E=0
 ·obtain⟨h1,g,h⟩:=gE b
  obtain⟨n,rfl⟩:=Int.eq_ofNat_of_zero_le (show 0<=N by omega);have i:=xp g h;simp only[if_pos b,aM];refine Ev.bind (a:=decide (partsOf E n=1)) ?_ ?_
  ·unfold mj.f
   refine Ev.bind (B6 E (by omega) n (by omega)) ?_;rw[show (((partsOf E n:Nat):Int)==1)=decide (partsOf E n=1) by rw[Bool.eq_iff_iff];simp;omega];exact Ev.const _
  ·by_cases hp:partsOf E n=1
   ·simp only[az hp,if_true,if_pos hp];exact Ev.const _
   ·simp only[a6 hp,Bool.false_eq_true,if_false,if_neg hp];exact Ev.const _
 ·simp only[if_neg b];exact Ev.const _
theorem lK {N:Int} {E:List S83} (h:j6 N E=0):cz N E=0/\partsOf E N.toNat=1:=by
 unfold j6 at h;by_cases a:cz N E=0
 ·rw[if_pos a] at h
  by_cases hp:partsOf E N.toNat=1
  ·exact⟨a,hp⟩
  ·rw[if_neg hp] at h;cases h
 ·rw[if_neg a] at h;exact absurd h a
def j7 (N:Int) (E:List S83):Bool:=decide (E.length<=40/\N<=5/\cR E E.length<=7)
theorem xt {N:Int} {E:List S83} (b:cz N E=0):Ev (fun k=>lI.f k N E) (j7 N E):=by
 unfold lI.f lH.f j7;refine Ev.bind (a:=decide (E.length<=40/\N<=5/\cR E E.length<=7)) ?_ (Ev.const _);by_cases g:E.length>40
 ·simp only[if_pos (show (E.length:Int)>40 by omega)]
  rw[a6 (fun h=>by omega)];exact Ev.const _
 ·simp only[if_neg (show ¬(E.length:Int)>40 by omega)]
  refine Ev.bind (xg N E (by omega)) ?_;simp only[if_pos b];by_cases e:N<=5
  ·simp only[if_pos e,my.f,(gE b).2.2.vF (by omega),Option.bind_some,if_true]
   rw[show decide (((cR E E.length:Nat):Int)<=7)=decide (E.length<=40/\N<=5/\cR E E.length<=7) by congr 1;exact propext (by omega)];exact Ev.const _
  ·simp only[if_neg e]
   rw[a6 (fun h=>by omega)];exact Ev.const _
def jG (N:Int) (c:List Int):Int:=if(c.length:Int)=N then dK c else 8
theorem nQ {N:Int} {E:List S83} (h:j6 N E=0) (b:E.length<=9223372036854775807) (c:List Int):Ev (fun k=>iJ.f k N E c) (jG N c):=by
 unfold iJ.f;have a:=gE (lK h).1;have h1:=sb N E b;rw[h] at h1;refine Ev.bind h1 ?_;simp only[if_true];exact Ev.bind (mC c N ⟨a.1,a.2.1⟩) (Ev.const _)
def lL (c:List Int):Bool:=c.all fun x=>decide (-100<=x/\x<=100)
theorem sd (c:List Int) (e:c.length<=1000):∀(m i:Nat),i+m=c.length->Ev (fun k=>fJ.l0 k c i) (lL (c.drop i))
 |0,i,hi=>by
  refine Ev.of_succ ?_;simp only[fJ.l0,if_neg (show ¬((i:Int)<(c.length:Int)) by omega)];rw[List.drop_eq_nil_of_le (by omega)];exact Ev.const _
 |m+1,i,hi=>by
  have a:=sd c e m (i+1) (by omega);refine Ev.of_succ ?_;simp only[fJ.l0,if_pos (show (i:Int)<(c.length:Int) by omega),if_pos (show (0:Int)<=(i:Int) by omega),d_ (show i<=1000000 by omega)];rw[o_ (by omega)];unfold lL at a⊢;rw[List.all_cons];by_cases h1:rd c i< -100
  ·simp only[if_pos h1]
   rw[a6 (fun h=>by omega),Bool.false_and];exact Ev.const _
  ·simp only[if_neg h1]
   by_cases b:rd c i>100
   ·simp only[if_pos b]
    rw[a6 (fun h=>by omega),Bool.false_and];exact Ev.const _
   ·simp only[if_neg b]
    rw[az (⟨by omega,by omega⟩: -100<=rd c i/\rd c i<=100),Bool.true_and];exact a
theorem xu (c:List Int) (a:c.length<=1000):∀(m i:Nat) (s:Int),i+m=c.length->∃r,Ev (fun k=>eu.l0 k c s i) r
 |0,i,s,hi=>⟨s,by
  refine Ev.of_succ ?_;simp only[eu.l0,if_neg (show ¬((i:Int)<(c.length:Int)) by omega)];exact Ev.const _⟩
 |m+1,i,s,hi=>by
  obtain⟨r,b⟩:=xu c a m (i+1) (wrap64 (s+rd c i)) (by omega);refine⟨r,Ev.of_succ ?_⟩;simp only[eu.l0,if_pos (show (i:Int)<(c.length:Int) by omega),if_pos (show (0:Int)<=(i:Int) by omega),d_ (show i<=1000000 by omega)];exact b
theorem xw {N:Int} {E:List S83} (h:j6 N E=0) (m:E.length<=9223372036854775807) (c:List Int) (n:Int):
  ∃b,Ev (fun k=>ez.f k N E c n) b/\(b=true->j7 N E=true/\(jG N c=0->lL c=true)):=by
 have l:=gE (lK h).1;have key:∀x:Bool,x=true\/x=false/\c.length<=100/\j7 N E=true->∃b,Ev (fun k=>ez.j0 k c n x N E) b/\(b=true->j7 N E=true/\(jG N c=0->lL c=true)):=by
  rintro x (rfl|⟨rfl,u,g⟩)
  ·refine⟨false,Ev.of_succ ?_,fun e=>by cases e⟩
   simp only[ez.j0,if_true];exact Ev.const _
  ·by_cases i:jG N c=0
   ·cases p:lL c with
    |true=>
     obtain⟨r,s⟩:=xu c (by omega) c.length 0 0 (by omega);refine⟨decide (r<=n),Ev.of_succ ?_,fun _=>⟨g,fun _=>rfl⟩⟩;simp only[ez.j0,Bool.false_eq_true,if_false];refine Ev.bind (nQ h m c) ?_;simp only[if_pos i];refine Ev.bind (a:=true) ?_ ?_
     ·unfold fJ.f
      simp only[if_neg (show ¬(c.length:Int)>100 by omega)];refine Ev.bind (mC c N ⟨l.1,l.2.1⟩) ?_;have:=sd c (by omega) c.length 0 (by omega);rw[List.drop_zero,p] at this;have o:(if(c.length:Int)=N then dK c else 8)=0:=i;simp only[if_pos o];exact this
     ·simp only[if_true]
      refine Ev.bind (a:=r) ?_ (Ev.const _);exact s
    |false=>
     refine⟨false,Ev.of_succ ?_,fun e=>by cases e⟩;simp only[ez.j0,Bool.false_eq_true,if_false];refine Ev.bind (nQ h m c) ?_;simp only[if_pos i];refine Ev.bind (a:=false) ?_ (by simp only[Bool.false_eq_true,if_false];exact Ev.const _);unfold fJ.f;simp only[if_neg (show ¬(c.length:Int)>100 by omega)];refine Ev.bind (mC c N ⟨l.1,l.2.1⟩) ?_;have:=sd c (by omega) c.length 0 (by omega);rw[List.drop_zero,p] at this;have o:(if(c.length:Int)=N then dK c else 8)=0:=i;simp only[if_pos o];exact this
   ·refine⟨true,Ev.of_succ ?_,fun _=>⟨g,fun e=>absurd e i⟩⟩
    simp only[ez.j0,Bool.false_eq_true,if_false];refine Ev.bind (nQ h m c) ?_;simp only[if_neg i];exact Ev.const _
 unfold ez.f;cases g:j7 N E with
 |true=>
  have h1:=xt (lK h).1;rw[g] at h1;obtain⟨b,hb,j⟩:=key (decide ((c.length:Int)>100)) (by by_cases q:(c.length:Int)>100;exact .inl (az q);exact .inr ⟨a6 q,by omega,g⟩);refine⟨b,Ev.bind h1 ?_,by rw[g] at j;exact j⟩;simp only[if_true];exact hb
 |false=>
  have h1:=xt (lK h).1;rw[g] at h1;obtain⟨b,hb,j⟩:=key true (.inl rfl);refine⟨b,Ev.bind h1 ?_,by rw[g] at j;exact j⟩;simp only[Bool.false_eq_true,if_false];exact hb
theorem se {n:Nat} (hn:n<=12) {E:List S83} (a:E.length<=1000) (v:Int):∀(m i:Nat) (s:Int),i+m=n->∃r,Ev (fun k=>fR.l0 k v s i n E) r
 |0,i,s,hi=>⟨s,by
  refine Ev.of_succ ?_;simp only[fR.l0,if_neg (show ¬((i:Int)<(n:Int)) by omega)];exact Ev.const _⟩
 |m+1,i,s,hi=>by
  obtain⟨b,g⟩:=se hn a v m (i+1) s (by omega);obtain⟨h,j⟩:=se hn a v m (i+1) (wrap64 (s+db E i v)) (by omega);by_cases e:(i:Int)=v
  ·refine⟨b,Ev.of_succ ?_⟩
   simp only[fR.l0,if_pos (show (i:Int)<(n:Int) by omega),if_pos e,d_ (show i<=1000000 by omega)];exact g
  ·refine⟨h,Ev.of_succ ?_⟩
   simp only[fR.l0,if_pos (show (i:Int)<(n:Int) by omega),if_neg e,d_ (show i<=1000000 by omega)];exact Ev.bind (uj n E i v a) j
theorem xx {n:Nat} (hn:n<=12) {E:List S83} (a:E.length<=1000):∀(m i:Nat) (o:List Int),i+m=n->o.length=i->∃r:List Int,r.length=n/\Ev (fun k=>fS.l0 k o i n E) r
 |0,i,o,hi,b=>⟨o,by omega,by
  refine Ev.of_succ ?_;simp only[fS.l0,if_neg (show ¬((i:Int)<(n:Int)) by omega)];exact Ev.const _⟩
 |m+1,i,o,hi,b=>by
  obtain⟨t,e⟩:=se hn a (i:Int) n 0 0 (by omega);obtain⟨r,g,h⟩:=xx hn a m (i+1) (o++[wrap64 (t-2)]) (by omega) (by simp[b]);refine⟨r,g,Ev.of_succ ?_⟩;simp only[fS.l0,if_pos (show (i:Int)<(n:Int) by omega),if_pos (show o.length<17592186044416 by omega),d_ (show i<=1000000 by omega)];exact Ev.bind e h
theorem xz {a b:List Int} (g:a.length<=1000) (hb:a.length<=b.length) (s:Int):∀(m i:Nat) (o:List Int),i+m=a.length->o.length=a.length->∃r:List Int,Ev (fun k=>dB.l0 k a b s o i) r
 |0,i,o,hi,e=>⟨o,by
  refine Ev.of_succ ?_;simp only[dB.l0,if_neg (show ¬((i:Int)<(a.length:Int)) by omega)];exact Ev.const _⟩
 |m+1,i,o,hi,e=>by
  obtain⟨r,h⟩:=xz g hb s m (i+1) (o.set (i:Int).toNat (wrap64 (rd a i+wrap64 (s*rd b i)))) (by omega) (by rw[List.length_set];exact e);refine⟨r,Ev.of_succ ?_⟩;simp only[dB.l0,if_pos (show (i:Int)<(a.length:Int) by omega),if_pos (show (0:Int)<=(i:Int) by omega),if_pos (show (i:Int)<(b.length:Int) by omega),if_pos (show (i:Int)<(o.length:Int) by omega),d_ (show i<=1000000 by omega)];exact h
theorem F1 {n:Nat} (hn:n<=12) {E:List S83} (e:E.length<=1000) {d:List Int} (hd:d.length=n):∃r,Ev (fun k=>lJ.f k n E d) r:=by
 obtain⟨r,i,g⟩:=xx hn e n 0 [] (by omega) rfl;obtain⟨o,h⟩:=xz (a:=r) (b:=d) (by omega) (by omega) (-1) r.length 0 (List.replicate r.length 0) (by omega) (by simp);refine⟨o,?_⟩;unfold lJ.f fS.f;refine Ev.bind g ?_;refine Ev.bind (a:=o) ?_ (Ev.const _);unfold dB.f;simp only[if_pos (show (0:Int)<=(r.length:Int) by omega),aM,if_pos (show r.length<=35184372088832 by omega)];exact h
theorem F2 {N:Int} {E:List S83} (h:j6 N E=0) (g:E.length<=9223372036854775807) (d:List Int) (i:Int):
  ∃b,Ev (fun k=>fa.f k N E d i) b/\(b=true->j7 N E=true/\(jG N d=0->lL d=true)):=by
 obtain⟨b,hb,j⟩:=xw h g d i;unfold fa.f;cases l:b with
 |false=>
  subst l;refine⟨false,Ev.bind hb ?_,fun e=>by cases e⟩;simp only[Bool.false_eq_true,if_false];exact Ev.const _
 |true=>
  subst l;by_cases a:jG N d=0
  ·have m:=gE (lK h).1
   obtain⟨n,rfl⟩:=Int.eq_ofNat_of_zero_le (show 0<=N by omega);have s:=xp m.2.1 m.2.2;have hd:d.length=n:=by
    unfold jG at a;by_cases e:(d.length:Int)=(n:Int)
    ·omega
    ·rw[if_neg e] at a;cases a
   obtain⟨r,o⟩:=F1 (n:=n) (by omega) (E:=E) (by omega) hd;obtain⟨p,q, -⟩:=xw h g r i;refine⟨p,Ev.bind hb ?_,fun _=>j rfl⟩;simp only[if_true];refine Ev.bind (nQ h g d) ?_;simp only[if_pos a];exact Ev.bind o (Ev.bind q (Ev.const _))
  ·refine⟨true,Ev.bind hb ?_,fun _=>j rfl⟩
   simp only[if_true];refine Ev.bind (nQ h g d) ?_;simp only[if_neg a];exact Ev.const _
structure Curve (n:Nat) (E:List S83) (d:List Int):Prop where
 check:cz n E=0
 small:∀q,q<n->Small n q E
 val:T.sN (T.val n (af E)) n<=14
 dl:d.length=n
 low:∀v:Nat,v<n-> -100<=rd d v/\rd d v<=100
theorem F3 {N:Int} {E:List S83} {d:List Int} (h:j6 N E=0) (a:jG N d=0) (b:j7 N E=true) (j:lL d=true):∃n:Nat,N=n/\1<=n/\Curve n E d:=by
 obtain⟨g,j2⟩:=lK h;obtain⟨g1,g2,g3⟩:=gE g;obtain⟨n,rfl⟩:=Int.eq_ofNat_of_zero_le (show 0<=N by omega);rw[aM] at j2;unfold j7 at b;rw[decide_eq_true_iff] at b;have hd:d.length=n:=by
  unfold jG at a;by_cases e:(d.length:Int)=(n:Int)
  ·omega
  ·rw[if_neg e] at a;cases a
 refine⟨n,rfl,by omega,g,fun q k=>⟨g3,(jz (by omega) g3).1 j2,b.1,by omega,by omega,k,by omega⟩,?_,hd,fun v m=>?_⟩
 ·have:=F0 g3
  omega
 ·have l:=List.all_eq_true.1 j
  have i:v<d.length:=by omega
  have:=l d[v] (List.getElem_mem i);rw[decide_eq_true_iff] at this;have e:rd d (v:Int)=d[v]:=by simp[rd,a7,bK i]
  rw[e];exact this
theorem F4 (N:Int) (E:List S83) (i:E.length<=9223372036854775807) (d:List Int) (l:Int):∃b,Ev (fun k=>xo.f k N E d l) b/\(b=true->∃n:Nat,N=n/\1<=n/\Curve n E d):=by
 unfold xo.f;by_cases h:j6 N E=0
 ·have h1:=sb N E i
  rw[h] at h1;have a:=gE (lK h).1;by_cases g:jG N d=0
  ·obtain⟨b,hb,m⟩:=F2 h i d l
   refine⟨b,Ev.bind h1 ?_,fun e=>?_⟩
   ·simp only[if_true]
    refine Ev.bind (mC d N ⟨a.1,a.2.1⟩) ?_;have j:(if(d.length:Int)=N then dK d else 8)=0:=g;simp only[if_pos j];exact Ev.bind hb (Ev.const _)
   ·exact F3 h g (m e).1 ((m e).2 g)
  ·refine⟨false,Ev.bind h1 ?_,fun e=>by cases e⟩
   simp only[if_true];refine Ev.bind (mC d N ⟨a.1,a.2.1⟩) ?_;have j:¬(if(d.length:Int)=N then dK d else 8)=0:=g;simp only[if_neg j];exact Ev.const _
 ·refine⟨false,Ev.bind (sb N E i) ?_,fun e=>by cases e⟩
  simp only[if_neg h];exact Ev.const _
section
def eA (w:World) (g:Nat) (p:Nat->Nat):Prop:=∃cs:Array Value,w.heap[g]? =some (.cells cs 111 (0,0))/\cs.size=12/\∀i,i<12->cs[i]? =some (.int .i64 (p i:Nat))
namespace eA
variable {w w':World} {g:Nat} {p:Nat->Nat}
theorem lt (h:eA w g p):g<w.heap.size:=by
 obtain⟨cs,hb,_⟩:=h;exact aA hb
theorem cell (h:eA w g p) (i:Nat) (hi:i<12):w.cell? ⟨g,i,none⟩=some (.int .i64 (p i:Nat)):=by
 obtain⟨cs,hb,_,a⟩:=h;exact(aj hb i).trans (a i hi)
theorem frozen (h:eA w g p) (k:Nat):w.frozen? ⟨g,k,none⟩=false:=by
 obtain⟨cs,hb,_⟩:=h;exact bt hb k
theorem grown {row:Option Nat} (h:eA w g p) (a:w.grownBy w' row) (b:some g≠row):eA w' g p:=by
 obtain⟨cs,e,i⟩:=h;exact⟨cs,da e a b,i⟩
theorem below (h:eA w g p) (hb:Below w.heap.size w w'):eA w' g p:=by
 obtain⟨cs,a,b⟩:=h;exact⟨cs,aE a hb,b⟩
theorem alloc (h:eA w g p) (o:Obj):eA (w.alloc o) g p:=h.below (ao (aq _ _) o)
theorem set (h:eA w g p) (i:Nat) (hi:i<12) (x:Nat):eA (w.setCell ⟨g,i,none⟩ (.int .i64 x)) g (fun j=>if j=i then x else p j):=by
 obtain⟨cs,a,b,l⟩:=h;refine⟨cs.setIfInBounds i (.int .i64 x),by simpa using bQ a i (.int .i64 x),by simp[b],?_⟩;intro k hk;by_cases e:k=i
 ·subst e
  rw[Array.getElem?_setIfInBounds_self_of_lt (by omega)];simp
 ·rw[Array.getElem?_setIfInBounds_ne (by omega),l k hk];simp[e]
theorem congr {q:Nat->Nat} (h:eA w g p) (he:∀i,i<12->q i=p i):eA w g q:=by
 obtain⟨cs,a,b,e⟩:=h;exact⟨cs,a,b,fun i hi=>by rw[he i hi];exact e i hi⟩
end eA
theorem xA (g v:Nat) (p:Nat->Nat) (w:World) (hf:iy p) (m:v<12) (hw:eA w g p):
  Calls Tryz.prog 86 #[.pointer (some ⟨g,0,none⟩),.int .i64 v] w fun e w'=>e= .returned (.int .i64 (rootOf p v:Nat))/\w=w':=by
 go_enter Tryz.func86,Tryz.ntmps86
 go_wp2;go_loop [1] (fun u=>∃k:Nat,k<12/\u= .int .i64 k/\rootOf p k=rootOf p v) (fun u=>(intOf u).toNat)
 case atStart=>exact⟨v,m,rfl,rfl⟩
 case round=>
  obtain⟨k,hk,rfl,h⟩:=hrel;have i:=Lib.hid h;clear h;have n:=hw.cell k hk;have o:(0:Int)<=(k:Int):=by omega
  have q:(k:Int)<12:=by omega
  have hle:=hf k;by_cases j:p k<k
  ·have a:rootOf p k=rootOf p (p k):=by rw[rootOf,dif_pos j]
   have b:=Lib.hid a;clear a;have r:((p k:Nat):Int)≠(k:Int):=by omega
   go_wp2;go_round
   case rel=>exact⟨p k,by omega,rfl,by rw[<-i.out,b.out]⟩
   case measure=>simp[intOf];omega
  ·have a:rootOf p k=k:=by rw[rootOf,dif_neg j]
   have b:=Lib.hid a;clear a;have l:p k=k:=by omega
   rw[l] at n;clear l;go_wp2;go_ret;exact⟨uo (by rw[<-i.out,b.out]),rfl⟩
end
section
attribute [local go_sem] Oper.semAt_some jq jr js jt
theorem F5 (l f:Nat):(Fence.wide.inRound l).fn f=True:=rfl
attribute [local simp] F5
def fx (s:(Nat->Nat)×Nat) (x:Nat×Int×Int):(Nat->Nat)×Nat:=(dH s.1 x.2.1.toNat x.2.2.toNat,if rootOf s.1 x.2.1.toNat=rootOf s.1 x.2.2.toNat then s.2+1 else s.2)
def cC (xs:List (Nat×Int×Int)):(Nat->Nat)×Nat:=xs.foldl fx (id,0)
theorem F6 (xs:List (Nat×Int×Int)) (x:Nat×Int×Int):cC (xs++[x])=fx (cC xs) x:=by simp[cC,List.foldl_append]
theorem xB (xs:List (Nat×Int×Int)):iy (cC xs).1/\(cC xs).2<=xs.length:=by
 have:∀(xs:List (Nat×Int×Int)) (s:(Nat->Nat)×Nat),iy s.1->iy (xs.foldl fx s).1/\(xs.foldl fx s).2<=s.2+xs.length:=by
  intro xs;induction xs with
  |nil=>intro s h;exact⟨h,by simp⟩
  |cons x xs a=>
   intro s h;obtain⟨h1,b⟩:=a (fx s x) (uk h _ _);refine⟨h1,Nat.le_trans b ?_⟩;have:(fx s x).2<=s.2+1:=by unfold fx;dsimp only;split<;>omega
   simp only[List.length_cons];omega
 have:=this xs (id,0) (fun i=>aI _);exact⟨this.1,by simpa [cC] using this.2⟩
theorem F7 (k:Nat) (N:Int) (A0:Option Addr) (c0:Nat) (E:List S83) (t:Int) (w:World) (g:Kd.C aN w A0 E.length E) (h:E.length<=c0) (a:bh.f k N E=some t) (b:t≠0):
  Calls Tryz.prog 31 #[.agg #[.int .i64 N,.slice A0 E.length c0]] w fun e w'=>e= .returned (.tuple #[.int .i64 0,.int .i64 t])/\Below w.heap.size w w':=by
 have hu:=Tryz.underlying24;have i:=zA a;have l:(t != 0)=true:=by simpa using b
 clear a b;go_enter Tryz.func31,Tryz.ntmps31
 go_wp2_with (go_at_call 64;refine(bh.calls k N A0 c0 E t _ (Kd.bp g _) h i.out).mono ?_;rintro e w1 ⟨rfl,hb⟩;have j:=zA (aZ (ao (aq w.heap.size w) _) hb);clear hb)
 go_ret2;exact⟨rfl,j.out⟩
theorem F8 (k n:Nat) (A0:Option Addr) (c0:Nat) (E:List S83) (w:World) (bi:Kd.C aN w A0 E.length E) (c2:E.length<=c0) (r:bh.f k n E=some 0) (hE:eZ E=true) (Z:ep n E) (hn:n<=12):
  Calls Tryz.prog 31 #[.agg #[.int .i64 n,.slice A0 E.length c0]] w fun e w'=>e= .returned (.tuple #[.int .i64 (cC (cu E E.length)).2,.int .i64 0])/\Below w.heap.size w w':=by
 have hu:=Tryz.underlying24;have Ht:=zA r;have HE:=zA hE;have HI:=zA Z;clear r hE Z;refine(callsIn_wide (n:=10)).1 ?_;refine callsIn_of_wp_marks Tryz.func31 rfl trivial ?_ rfl;simp only[Tryz.ntmps31,List.size_toArray,List.length_cons,List.length_nil,Nat.reduceAdd,Nat.reduceSub,Array.replicate_succ,Array.replicate_zero,List.push_toArray,List.append_toArray,List.nil_append,List.cons_append];gi_wp2_with (refine⟨trivial,?_⟩;gi_at_call 64;refine(callsIn_wide.2 (bh.calls k n A0 c0 E 0 _ (Kd.bp bi _) c2 Ht.out)).mono ?_;rintro e w1 ⟨rfl,hb⟩;have G:=zA (aE (bc w (.cells #[.int .i64 n,.slice A0 E.length c0] 24)) hb);have J:=zA (aZ (ao (aq w.heap.size w) _) hb);clear hb)
 have aa:Aside0 (eA (w1.alloc (.cells #[.int .i64 0,.int .i64 0,.int .i64 0,.int .i64 0,.int .i64 0,.int .i64 0,.int .i64 0,.int .i64 0,.int .i64 0,.int .i64 0,.int .i64 0,.int .i64 0] 111)) w1.heap.size (fun i=>if i<0 then i else 0)):=⟨⟨_,bc _ _,rfl,fun i hi=>by
  rw[show (#[.int .i64 0,.int .i64 0,.int .i64 0,.int .i64 0,.int .i64 0,.int .i64 0,.int .i64 0,.int .i64 0,.int .i64 0,.int .i64 0,.int .i64 0,.int .i64 0]:Array Value)=Array.replicate 12 (.int .i64 0) from rfl,Array.getElem?_replicate,if_pos hi];rfl⟩⟩
 have aF:=zA (au G.out (.cells #[.int .i64 0,.int .i64 0,.int .i64 0,.int .i64 0,.int .i64 0,.int .i64 0,.int .i64 0,.int .i64 0,.int .i64 0,.int .i64 0,.int .i64 0,.int .i64 0] 111));have aL:=zA (ao J.out (.cells #[.int .i64 0,.int .i64 0,.int .i64 0,.int .i64 0,.int .i64 0,.int .i64 0,.int .i64 0,.int .i64 0,.int .i64 0,.int .i64 0,.int .i64 0,.int .i64 0] 111));have c6:w.heap.size<w1.heap.size:=aA G.out;clear G J;generalize w1.alloc (.cells #[.int .i64 0,.int .i64 0,.int .i64 0,.int .i64 0,.int .i64 0,.int .i64 0,.int .i64 0,.int .i64 0,.int .i64 0,.int .i64 0,.int .i64 0,.int .i64 0] 111)=W1 at aa aF aL⊢;generalize w1.heap.size=gf at aa c6⊢;gi_loopg [17] (12) (fun kq vv wr=>∃v:Nat,v<=12/\vv= .int .i64 v/\Aside0 (eA wr gf (fun i=>if i<v then i else 0))/\Aside0 (wr.heap[w.heap.size]? =some (.cells #[.int .i64 n,.slice A0 E.length c0] 24 (0,0)))/\Aside0 (Below w.heap.size w wr)/\Aside0 (kq=12-v))
 case atStart=>exact⟨0,by omega,rfl,aa,aF,aL,⟨rfl⟩⟩
 case round=>
  clear aa aF aL;obtain⟨v,hv,rfl,N,G,J,HK⟩:=hrel;by_cases bn:v<12
  ·have e1:(0:Int)<=(v:Int):=by omega
   have e2:(v:Int)<12:=by omega
   have z1:=N.out.cell v bn;have z2:=N.out.frozen v;generalize (if v<v then v else 0)=z at z1;have c':=zA ((N.out.set v bn v).congr (q:=fun i=>if i<v+1 then i else 0) (fun i hi=>by
    by_cases e:i=v
    ·subst e;simp
    ·simp only[if_neg e]
     by_cases h:i<v
     ·rw[if_pos h,if_pos (by omega)]
     ·rw[if_neg h,if_neg (by omega)]))
   have dd:=zA (aD (p:=⟨gf,v,none⟩) G.out (by show w.heap.size≠gf;omega) (.int .i64 v));have dk:=zA (Below.setCell (p:=⟨gf,v,none⟩) J.out (by show w.heap.size<=gf;omega) (.int .i64 v));clear N G J;gi_wp2;gi_roundg (12- (v+1))
   case measure=>rw[HK.out];omega
   case rel=>exact⟨v+1,by omega,by go_num,c',dd,dk,⟨rfl⟩⟩
  ·obtain rfl:v=12:=by omega
   have aO:=zA (N.out.congr (q:=(cC []).1) (fun i hi=>by simp[cC,hi]));have y0:(wr.alloc (.cells #[.int .i64 0] 3)).cell? ⟨w.heap.size,0,none⟩=some (.int .i64 n):=(aj (au G.out _) 0).trans rfl;have y1:(wr.alloc (.cells #[.int .i64 0] 3)).cell? ⟨w.heap.size,1,none⟩=some (.slice A0 E.length c0):=(aj (au G.out _) 1).trans rfl;gi_wp2_with (refine⟨trivial,?_⟩;gi_at_call 85;refine(callsIn_wide.2 (uY n A0 c0 E _)).mono ?_;rintro e w3 ⟨rfl,rfl⟩)
   have R:=zA (show ((wr.alloc (.cells #[.int .i64 0] 3)).alloc (.cells #[.int .i64 n,.slice A0 E.length c0] 24)).heap[wr.heap.size]? =some (.cells #[.int .i64 ((cC []).2:Nat)] 3 (0,0)) from au (bc wr _) _);have S:=zA (show ((wr.alloc (.cells #[.int .i64 0] 3)).alloc (.cells #[.int .i64 n,.slice A0 E.length c0] 24)).heap[wr.heap.size+1]? =some (.cells #[.int .i64 n,.slice A0 E.length c0] 24 (0,0)) from heap_alloc2_new wr _ _);have I:=zA (ao (ao J.out (.cells #[.int .i64 0] 3)) (.cells #[.int .i64 n,.slice A0 E.length c0] 24));have aP:=zA ((aO.out.alloc (.cells #[.int .i64 0] 3)).alloc (.cells #[.int .i64 n,.slice A0 E.length c0] 24));have dv:=aO.out.lt;clear y0 y1 N aO G J;generalize ((wr.alloc (.cells #[.int .i64 0] 3)).alloc (.cells #[.int .i64 n,.slice A0 E.length c0] 24))=g at R S I aP⊢;have bv:=aA R.out;have d0:=aA S.out;generalize aS:wr.heap.size+1=bx at S d0⊢;generalize wr.heap.size=bo at R dv bv aS⊢;have e3:=Nat.le_of_eq aS;clear aS;refine vf (σ:=Unit) (α:=Nat×Int×Int) (F:=Fence.wide) (n:=10) rfl (by decide) (gf:=140) (lb:=#[.pointer (some ⟨bx,0,none⟩)]) rfl trivial (enters_of Tryz.func140 (by kernel_rfl) rfl)
    (fun o=>ve bx n A0 c0 E w _ bi HE.out (ao (ao I.out _) _) (au (au S.out _) _)) (fun _=>rfl)
    (fun _=>True) ?en ?st ?ar
    (fun _ pre W=>g.heap.size<=W.heap.size/\eA W gf (cC pre).1/\W.heap[bo]? =some (.cells #[.int .i64 ((cC pre).2:Nat)] 3 (0,0))/\Below w.heap.size w W) (fun _ _ _ _=>False)
    ?is (fun _ _ _ _ _ _ h _=>h) ?ib (fun _ _ _ _ _ h _=>h) ?kt ?h0 ?a1 (fun x W=>W.alloc (.cells #[.int .i64 x.2.1,.int .i64 x.2.2] 116)) ?hw ?sC ?assign ?body ?done (fun _ _ _ _ _ _ _ h=>h.elim)
   case assign=>
    intro l x W K hK;gi_wp2;exact hK
   case en=>
    intro o s W1 h;exact⟨trivial,by rw[h];exact ct.refl _ _⟩
   case st=>intro s A B _ h;exact cZ h
   case ar=>intro s x A B _ h;exact cZ h.2
   case hw=>intro x W k o h1 h2 T _;exact au T _
   case sC=>
    intro s x A D h;exact⟨fun aY=>((aq w.heap.size A).alloc aY _).trans (h.1 (by simp;omega)),fun k cs t r hk=>h.2 k cs t r (au hk _)⟩
   case is=>
    rintro s pre A B _ ⟨L,h1,h2,T⟩ ad;exact⟨Nat.le_trans L ad.size,h1.below ad,aE h2 ad,aZ T ad⟩
   case ib=>
    rintro s pre A B ⟨L,⟨cs,h1,ag⟩,h2,T⟩ hb;exact⟨by rw[hb.size];exact L,⟨cs,hb.cells h1,ag⟩,hb.cells h2,T.trans (hb.below w.heap.size (by have:=I.out.size;omega))⟩
   case kt=>
    intro s A B C D a0 b0 b5;have:=I.out.size;exact⟨fun aY=>((a0.below w.heap.size (by omega)).trans (b0.1 (by rw[a0.size];exact aY))).trans (b5.below w.heap.size (by omega)),fun k cs t r hk=>b5.cells (b0.2 k cs t r (a0.cells hk))⟩
   case h0=>
    rintro o s W1 rfl;exact⟨by simp;omega,(aP.out.alloc _).alloc _,au (au R.out _) _,ao (ao I.out _) _⟩
   case body=>
    rintro l s pre ⟨i,a,b⟩ Wb W1 W _ ⟨L,i1,i2,i3⟩ ⟨b6,U⟩ b_ H;obtain⟨ed,b',ca,cb⟩:=q6 E E.length (aI _) _ b6;have Z:=HI.out ed b';simp only at ca cb;obtain⟨a,rfl⟩:=Int.eq_ofNat_of_zero_le (show 0<=a by omega);obtain⟨b,rfl⟩:=Int.eq_ofNat_of_zero_le (show 0<=b by omega);have ha:a<12:=by omega
    have hb:b<12:=by omega
    have d4:=I.out.size;have d5:g.heap.size<=W1.heap.size:=Nat.le_trans L U.size;have cc:=(xB pre).1;have d6:=(xB pre).2;have HS:=zA (F6 pre (i,(a:Int),(b:Int)));have b_:pre.length<2000:=b_;obtain⟨cs,h1,ag⟩:=(i1.below U).alloc (.cells #[.int .i64 a,.int .i64 b] 116);have b1:Aside0 (eA W gf (cC pre).1):=⟨cs,H.cells h1,ag⟩;have b2:=zA (H.cells (au (aE i2 U) (.cells #[.int .i64 a,.int .i64 b] 116)));have b3:=zA ((ao (aZ i3 U) (.cells #[.int .i64 a,.int .i64 b] 116)).trans (H.below w.heap.size (by omega)));have b4:=zA (H.cells (bc W1 (.cells #[.int .i64 a,.int .i64 b] 116)));have aY:W.heap.size=W1.heap.size+1:=by rw[H.size];simp
    have ce:g.heap.size<=W.heap.size:=by omega
    clear i1 i2 i3 U H h1 ag aY d5 L b6 b' ca cb Z;generalize W1.heap.size=pb at b4⊢;have d7:W.cell? ⟨pb,0,none⟩=some (.int .i64 a):=(aj b4.out 0).trans rfl;have d8:W.cell? ⟨pb,1,none⟩=some (.int .i64 b):=(aj b4.out 1).trans rfl;have e5:=Tryz.underlying116;have a2:=zA (fun m=>xA gf a (cC pre).1 (W.drewN m) cc ha (b1.out.below (bY (aq _ _) m)));have a3:=zA (fun m=>xA gf b (cC pre).1 (W.drewN m) cc hb (b1.out.below (bY (aq _ _) m)));have d9:=iS (cC pre).1 a;have ea:=iS (cC pre).1 b;have O:Aside0 (fx (cC pre) (i,(a:Int),(b:Int))=(dH (cC pre).1 a b,if rootOf (cC pre).1 a=rootOf (cC pre).1 b then(cC pre).2+1 else(cC pre).2)):=⟨rfl⟩;have P:Aside0 (dH (cC pre).1 a b=fun j=>if j=max (rootOf (cC pre).1 a) (rootOf (cC pre).1 b) then min (rootOf (cC pre).1 a) (rootOf (cC pre).1 b) else(cC pre).1 j):=⟨rfl⟩;generalize dH (cC pre).1 a b=pj at O P;generalize rootOf (cC pre).1 a=x at a2 O P d9;generalize rootOf (cC pre).1 b=y at a3 O P ea;generalize ci:(cC pre).2=gc at b2 d6 O;clear ci;have e6:(0:Int)<=(x:Int):=by omega
    have e_:(0:Int)<=(y:Int):=by omega
    have e':(x:Int)<12:=by omega
    have fb:(y:Int)<12:=by omega
    gi_wp2;refine EC rfl (by kernel_rfl) (by kernel_rfl) ?_;repeat(gi_big_quiet_step (fail))
    gi_big_quiet_want
    gi_big_quiet_op
    gi_big_quiet_call ((gi_at_call 86;exact CallsIn.quiet_of_same (callsIn_wide.2 ((a2.out _).mono (fun e w' h=>⟨h.1,h.2.symm⟩)))))
    repeat(gi_big_quiet_step (fail))
    gi_big_quiet_want
    gi_big_quiet_op
    gi_big_quiet_call ((gi_at_call 86;exact CallsIn.quiet_of_same (callsIn_wide.2 ((a3.out _).mono (fun e w' h=>⟨h.1,h.2.symm⟩)))))
    repeat(gi_big_quiet_step (fail))
    refine wpQuietIn_nil ?_;rintro _ ⟨nq,rfl⟩;have u:=zA (b1.out.below (bY (aq _ _) nq));have Q:=zA (iM b2.out nq);have I3:=zA (bY b3.out nq);have an:=zA (cZ (nw:=g.heap.size) (bY (aq W.heap.size W) nq));have ap:=zA (bY (aq w.heap.size W) nq);have av:Aside0 (∀k:Nat,(W.drewN nq).heap[k]? =W.heap[k]?):=⟨fun k=>by simp⟩;have aB:g.heap.size<=(W.drewN nq).heap.size:=by simpa using ce
    have eg:Aside0 (∀(k:Nat) (cs:Array Value) (t:TypeId),(t=24\/t=83)->W.heap[k]? =some (Obj.cells cs t (0,0))->k≠gf/\k≠bo):=⟨fun k cs t r hk=>by
     obtain⟨cf,cj, -⟩:=b1.out;refine⟨fun e=>?_,fun e=>?_⟩
     ·subst e;rw[hk] at cj;injection cj with h;injection h with _ h _;rcases r with rfl|rfl<;>exact absurd h (by decide)
     ·subst e;have h:=hk.symm.trans b2.out;injection h with h;injection h with _ h _;rcases r with rfl|rfl<;>exact absurd h (by decide)⟩
    have ck:gf≠bo:=by omega
    have cl:w.heap.size<=gf:=by omega
    have cn:w.heap.size<=bo:=by omega
    have ci:(gc:Int)<=2000:=by omega
    have fn:(0:Int)<=(gc:Int):=by omega
    clear b1 b2 b3 b4 d7 d8 a2 a3 ce R S I aP;generalize W.drewN nq=M at u Q I3 an ap av aB⊢;have fo:=zA (fun j=>u.out.frozen j);have co:∀(j v:Nat) (W1:World) (g':Nat),j<12->g.heap.size<=W1.heap.size->eA W1 gf (cC pre).1->W1.heap[bo]? =some (.cells #[.int .i64 (g':Nat)] 3 (0,0))->Below w.heap.size w W1->ct g.heap.size W W1->Below w.heap.size W W1->(∀k,k≠gf->k≠bo->W1.heap[k]? =W.heap[k]?)->
      (fun i=>if i=j then v else(cC pre).1 i)=pj->g'=(if x=y then gc+1 else gc)->qR (σ:=Unit) g.heap.size (fun X Y=>qZ w.heap.size X Y) (fun pre W=>g.heap.size<=W.heap.size/\eA W gf (cC pre).1/\W.heap[bo]? =some (.cells #[.int .i64 ((cC pre).2:Nat)] 3 (0,0))/\Below w.heap.size w W) (fun (_:Code) (_:List (Nat×Int×Int)) (_:World)=>False) (pre++[(i,(a:Int),(b:Int))]) W Exit.normal {tmps:=#[],defers:=[]} (W1.setCell ⟨gf,j,none⟩ (.int .i64 v)):=by
     intro j v W1 g' hj a5 f1 f2 f3 f4 f5 f6 f7 f8;refine⟨f4.trans (eO _ _ (show gf<g.heap.size by omega)),⟨fun _=>Below.setCell (p:=⟨gf,j,none⟩) f5 cl _,fun k cs t r hk=>?_⟩,by simpa using a5,?_,?_,Below.setCell (p:=⟨gf,j,none⟩) f3 cl _⟩
     ·obtain⟨k1,k2⟩:=eg.out k cs t r hk
      exact(Below.heap_setCell _ _ _ _ k1).trans ((f6 k k1 k2).trans hk)
     ·rw[HS.out,O.out]
      have h:=f1.set j hj v;rw[f7] at h;exact h
     ·rw[HS.out,O.out]
      simp only;rw[<-f8];exact aD f2 (fun e=>ck e.symm) _
    have a9:=zA co;clear co;rcases Nat.lt_trichotomy x y with bd|bd|bd
    ·have hl:(x:Int)<(y:Int):=by omega
     have he:((x:Int)==(y:Int))=false:=by simpa using (show ¬(x:Int)=(y:Int) by omega)
     have hm:max x y=y:=by omega
     have V:min x y=x:=by omega
     have hz:=u.out.cell y (by omega);have hf:=u.out.frozen y;have HM:=zA hm;have bf:=zA V;clear hm V;gi_wp2;exact a9.out y x M gc (by omega) aB u.out Q.out I3.out an.out ap.out (fun k _ _=>av.out k) (by rw[P.out,HM.out,bf.out]) (by rw[if_neg (by omega)])
    ·subst bd
     have he:((x:Int)==(x:Int))=true:=by simp
     have hl:¬(x:Int)<(x:Int):=by omega
     have hz:=u.out.cell x (by omega);have hf:=u.out.frozen x;have z1:=cY Q.out;have z2:=bt Q.out 0;have em:bo<g.heap.size:=bv;have a5:=zA (show g.heap.size<=(M.setCell ⟨bo,0,none⟩ (.int .i64 ((gc:Int)+1))).heap.size by simpa using aB);have J1:=zA (u.out.grown (ku M bo 0 (.int .i64 ((gc:Int)+1))) (fun e=>by injection e with e;exact ck e));have fq:=J1.out.cell x (by omega);have fr:=J1.out.frozen x;have J2:Aside0 ((M.setCell ⟨bo,0,none⟩ (.int .i64 ((gc:Int)+1))).heap[bo]? =some (.cells #[.int .i64 ((gc+1:Nat):Int)] 3 (0,0))):=⟨by simpa using bQ Q.out 0 (.int .i64 ((gc:Int)+1))⟩;have J3:=zA (Below.setCell (p:=⟨bo,0,none⟩) I3.out cn (.int .i64 ((gc:Int)+1)));have J4:=zA (an.out.trans (eO (bo:=bo) (j:=0) M (.int .i64 ((gc:Int)+1)) em));have J5:=zA (Below.setCell (p:=⟨bo,0,none⟩) ap.out cn (.int .i64 ((gc:Int)+1)));have J6:Aside0 (∀k,k≠gf->k≠bo->(M.setCell ⟨bo,0,none⟩ (.int .i64 ((gc:Int)+1))).heap[k]? =W.heap[k]?):=⟨fun k _ h=>(Below.heap_setCell _ _ _ _ h).trans (av.out k)⟩;gi_wp2;exact a9.out x x _ (gc+1) (by omega) a5.out J1.out J2.out J3.out J4.out J5.out J6.out (by rw[P.out,Nat.max_self,Nat.min_self]) (by simp)
    ·have hl:¬(x:Int)<(y:Int):=by omega
     have ft:(y:Int)<(x:Int):=by omega
     have he:((x:Int)==(y:Int))=false:=by simpa using (show ¬(x:Int)=(y:Int) by omega)
     have hm:max x y=x:=by omega
     have V:min x y=y:=by omega
     have hz:=u.out.cell x (by omega);have hf:=u.out.frozen x;have HM:=zA hm;have bf:=zA V;clear hm V;gi_wp2;exact a9.out x y M gc (by omega) aB u.out Q.out I3.out an.out ap.out (fun k _ _=>av.out k) (by rw[P.out,HM.out,bf.out]) (by rw[if_neg (by omega)])
   case done=>
    rintro s xs W W' _ rfl ⟨L,i1,i2,i3⟩ H cx;have d4:=I.out.size;have b1:=zA (H.cells i2);have b3:=zA (i3.trans (H.below w.heap.size (by omega)));have c1:=zA cx;clear i1 i2 i3 cx;have hc:=cY b1.out;gi_wp2_with fail
    have ey:Bk g.heap.size W' (W'.putObj g.heap.size (.deferred none)):=⟨_,_,c1.out,rfl,rfl⟩;exact iW (D:=g.heap.size) rfl c1.out (results_tmp2 rfl _ _ _) ⟨rfl,b3.out.trans (ey.below w.heap.size (by omega))⟩
def nR (N:Int) (E:List S83):Bool:=decide (0<=N/\N<=12)&&eZ E&&iR N E
def fc.f (k:Nat) (N:Int) (E:List S83):Option (Int×Int):=
 (bh.f k N E).bind fun e=>if e=0 then(if nR N E=true then some (((cC (cu E E.length)).2:Nat),0) else none) else some (0,e)
theorem fc.mono:∀a b k,al (fc.f k a b) (fc.f (k+1) a b):=by
 intro N E k;unfold fc.f;exact al.bind (bh.mono _ _ _) (fun _=>al.refl _)
theorem fc.calls (k:Nat) (i:Int) (j:Option Addr) (l:Nat) (b:List (S83)) (o:Int) (p:Int) (w:World) (q:Kd.C aN w j b.length b) (r:b.length<=l) (h:fc.f k i b=some (o,p)):
  Calls Tryz.prog 31 #[.agg #[.int .i64 i,.slice j b.length l]] w fun e w'=>e= .returned (.tuple #[.int .i64 o,.int .i64 p])/\Below w.heap.size w w':=by
 unfold fc.f at h;obtain⟨e,he,a⟩:=Option.bind_eq_some_iff.1 h;clear h;by_cases m:e=0
 ·subst m
  rw[if_pos rfl] at a;by_cases g:nR i b=true
  ·rw[if_pos g] at a
   simp only[Option.some.injEq,Prod.mk.injEq] at a;obtain⟨rfl,rfl⟩:=a;unfold nR at g;simp only[Bool.and_eq_true,decide_eq_true_eq] at g;obtain⟨⟨⟨h1,v⟩,s⟩,u⟩:=g;obtain⟨n,rfl⟩:=Int.eq_ofNat_of_zero_le h1;exact F8 k n j l b w q r he s (jy u) (by omega)
  ·rw[if_neg g] at a;cases a
 ·rw[if_neg m] at a
  simp only[Option.some.injEq,Prod.mk.injEq] at a;obtain⟨rfl,rfl⟩:=a;exact F7 k i j l b e w q r he m
end
end Go.Proofs.YtffdiakgjakngaaGreat.P


namespace Go.Proofs.YtffdiakgjakngaaGreat.P
open Go.RowKit Go.Proofs.YtffdiakgjakngaaGreatW.PrintWords Go.Proofs.YtffdiakgjakngaaGreatW.PrintLast Go.Proofs.YtffdiakgjakngaaGreatW.PrintMore
set_option linter.unusedVariables false
set_option linter.unusedSimpArgs false
set_option maxHeartbeats 8000000
set_option maxRecDepth 100000
section
attribute [local go_sem] jq jr js jt l4 l5 l6 l7
def dC.l0:Nat->Int->List (S83)->Int->Int->Int->List (S83)->Option (Int×(List (S83))×Int)
 |0,_,_,_,_,_,_=>none
 |k+1,x1,b,g,a,h,e=>if a<g then(if 0<=a then(if a<(b.length:Int) then(if((ae b a).f0)=((ae b a).f1) then(dC.l0 k x1 b g (wrap64 (a+1)) h e) else(if e.length<5864062014805 then(dC.l0 k x1 b g (wrap64 (a+1)) h (e++[(⟨(ae b a).f0,(ae b a).f1,mn ((ae b a).f2) x1⟩:S83)])) else(none))) else(none)) else(none)) else(some (h,e,0))
def dC.f (k:Nat) (b:Int) (a:List (S83)) (e:Int):Option (Int×(List (S83))×Int):=(bh.f k b a).bind fun t260=>(if t260=0 then(dC.l0 k e a (a.length:Int) 0 b ([]:List (S83))) else(some (0,([]:List (S83)),t260)))
theorem dC.cy:∀k,(∀a b e g i j,al (dC.l0 k a b e g i j) (dC.l0 (k+1) a b e g i j))
 |0=>fun _ _ _ _ _ _ r h=>by simp[dC.l0] at h
 |k+1=>by
  have l:=dC.cy k
  ·intro a b e g i j
   unfold dC.l0;with_reducible repeat' first|exact l _ _ _ _ _ _|exact bh.mono _ _ _|exact al.refl _|exact al.none _|refine al.ite ?_ ?_|refine al.bind ?_ (fun _=>?_)
theorem dC.mono:∀a0 a a2 k,al (dC.f k a0 a a2) (dC.f (k+1) a0 a a2):=by
 intro a0 a a2 k;have b:=dC.cy k;unfold dC.f;with_reducible repeat' first|exact b _ _ _ _ _ _|exact bh.mono _ _ _|exact al.refl _|exact al.none _|refine al.ite ?_ ?_|refine al.bind ?_ (fun _=>?_)
theorem dC.calls (k:Nat) (n:Int) (B:Option Addr) (y:Nat) (a:List (S83)) (K:Int) (Z:Int) (r2:List (S83)) (r3:Int) (w:World) (bn:Kd.C aN w B a.length a) (bo:a.length<=y) (h:dC.f k n a K=some (Z,r2,r3)):
  Calls Tryz.prog 84 #[.agg #[.int .i64 n,.slice B a.length y],.int .i64 K] w fun e w'=>∃bv:Value,e= .returned (.tuple #[.agg #[.int .i64 Z,bv],.int .i64 r3])/\Kd.R aN 83 w' w.heap.size (fun _=>True) bv r2/\Below w.heap.size w w':=by
 have d0:=Tryz.underlying24;have d1:=Tryz.underlying83;have ag:=zA bn;have bw:=zA bo;clear bn bo;have l:=zA (aq w.heap.size w);unfold dC.f at h;have H:=h;clear h;obtain⟨t260,A3,H⟩:=zo H;by_cases c4:t260=0
 ·rw[if_pos c4] at H
  obtain⟨b0,b1⟩:=bH c4;clear c4;have U:=zA H;clear H;go_enter Tryz.func84,Tryz.ntmps84
  go_wp2_with (first|((with_reducible refine aJ (N:=2) rfl ?_);refine zX 2 #[.int .i64 n,.slice B a.length y] 24 ?_;intro s j w5 v hb;have m:=zA (v);have b':=zG l j;have ca:=zG l j;replace l:=zS l hb;clear hb v j)|((with_reducible refine aJ (N:=4) rfl ?_);refine zX 4 #[.int .i64 0,.slice none 0 0] 24 ?_;intro u j w6 v hb;have r:=zA (v);have cb:=zG l j;have cc:=zG l j;replace l:=zS l hb;have ak:=zA ((by rw[j];exact Nat.ne_of_lt (aA (g:=s) (o:=.cells #[.int .i64 n,.slice B a.length y] 24 (0,0)) (zK m)):s≠u));have am:=zA ((by rw[j];exact Nat.ne_of_gt (aA (g:=s) (o:=.cells #[.int .i64 n,.slice B a.length y] 24 (0,0)) (zK m)):u≠s));replace m:=zb m hb;clear hb v j;have d4:=ak.out;have d5:=am.out;obtain⟨cd,ce,cf,ch⟩:=ax m)|((with_reducible refine aG (f:=64) rfl ?_);refine zL (some 11) Tryz.func64 #[.agg #[.int .i64 n,.slice B a.length y]] ?_;(with_reducible refine(bh.calls k n _ _ a t260 _ ?ah ?ai A3.out).mono ?_);(case ah=>exact Kd.aw ag.out zB);(case ai=>exact bw.out);rintro e w9 ⟨rfl,hb⟩;refine⟨_,rfl,?_⟩;replace m:=zb m hb;replace r:=zb r hb;replace l:=zS l hb;(try clear hb);obtain⟨ci,cj,ck,cl⟩:=ax m)|((with_reducible refine aJ (N:=7) rfl ?_);refine zX 7 #[.int .i64 0,.slice none 0 0] 24 ?_;intro z j iE v hb;have x:=zA (v);have d7:=zG l j;have d8:=zG l j;replace l:=zS l hb;have V:=zA ((by rw[j];exact Nat.ne_of_lt (aA (g:=s) (o:=.cells #[.int .i64 n,.slice B a.length y] 24 (0,0)) (zK m)):s≠z));have a3:=zA ((by rw[j];exact Nat.ne_of_gt (aA (g:=s) (o:=.cells #[.int .i64 n,.slice B a.length y] 24 (0,0)) (zK m)):z≠s));replace m:=zb m hb;have W:=zA ((by rw[j];exact Nat.ne_of_lt (aA (g:=u) (o:=.cells #[.int .i64 0,.slice none 0 0] 24 (0,0)) (zK r)):u≠z));have a4:=zA ((by rw[j];exact Nat.ne_of_gt (aA (g:=u) (o:=.cells #[.int .i64 0,.slice none 0 0] 24 (0,0)) (zK r)):z≠u));replace r:=zb r hb;clear hb v j;have d9:=a3.out;have ea:=V.out;have eb:=a4.out;have ed:=W.out;obtain⟨cn,co,cq,cr⟩:=ax x;obtain⟨cv,cx,c0,c1⟩:=ax m))
  go_loopg [22] k (fun kq v22 w'=>∃(i:Int) (E:List (S83)) (u262001:Value),v22= .int .i64 i/\Aside0 (dC.l0 kq K a (a.length:Int) i n E=some (Z,r2,r3))/\Aside0 (kq<=k)/\Aside0 (Kd.R aN 83 w' w.heap.size (fun _=>True) u262001 E)/\Aside0 (w'.heap[s]? =some (.cells #[.int .i64 n,(.slice B a.length y)] 24 (0,0)))/\Aside0 (w'.heap[u]? =some (.cells #[.int .i64 0,(.slice none 0 0)] 24 (0,0)))/\Aside0 (w'.heap[z]? =some (.cells #[.int .i64 n,u262001] 24 (0,0)))/\Aside0 (Below w.heap.size w w'))
  case atStart=>exact⟨(0),(([]:List (S83))),(.slice none 0 0),zT,U,⟨aI _⟩,⟨by first|exact Kd.dh _ _ _ _ _|exact Kd.gT _ _ _ _ _|exact Kd.V_nil _ _ _ _ _|exact Kd.Q_nil _ _ _ _ _|exact Kd.gw _ _ _ _ _⟩,⟨by refine zk ?_;refine aD ?_ V.out _;refine zk ?_;refine aD ?_ V.out _;exact zK m⟩,⟨by refine zk ?_;refine aD ?_ W.out _;refine zk ?_;refine aD ?_ W.out _;exact zK r⟩,⟨by refine zk ?_;refine bB (cs:=#[.int .i64 n,.slice none 0 0]) ?_ 1 _ rfl;refine zk ?_;refine bB (cs:=#[.int .i64 0,.slice none 0 0]) ?_ 0 _ rfl;exact zK x⟩,⟨zB⟩⟩
  case round=>
   clear U;clear b0 b1 ci cj cn co cv cx cd ce ck cl cq cr c0 c1 cf ch;obtain⟨i,E,u262001,rfl,HA,an,D,m,r,x,l⟩:=hrel;cases gk with
   |zero=>exact absurd HA.out (by simp[dC.l0])
   |succ k1=>
    have H:=HA.out;clear HA;simp only[dC.l0] at H;by_cases X:i<(a.length:Int)
    ·rw[if_pos X] at H
     have c2:=az X;clear X;by_cases ar:0<=i
     ·rw[if_pos ar] at H
      have eg:=az ar;clear ar;by_cases av:i<(a.length:Int)
      ·rw[if_pos av] at H
       have ek:=az av;clear av;by_cases ad:((ae a i).f0)=((ae a i).f1)
       ·rw[if_pos ad] at H
        obtain⟨c3,c5⟩:=bH ad;clear ad;have U:=zA H;clear H;have L:0<=(i:Int):=ay ‹_›;have M:i<(a.length:Int):=ay ‹_›;obtain⟨Y,a9,O,P,Q⟩:=dE ag.out i L M;cases a9;replace O:=(l.out.cell (a8 w _ O)).trans O;replace P:=(l.out.cell (a8 w _ P)).trans P;replace Q:=(l.out.cell (a8 w _ Q)).trans Q;replace L:=eq_true L;replace M:=eq_true M;go_wp2_with (first|((with_reducible refine aJ (N:=9) rfl ?_);refine zX 9 #[.int .i64 0,.int .i64 0,.int .i64 0] 83 ?_;intro q j el v hb;replace D:=zA (Kd.cT (Kd.s_ (zR D) q (Nat.le_of_eq j.symm)) hb);have S:=zA (v);have c6:=zG l j;have c7:=zG l j;replace l:=zS l hb;have G:=zA ((by rw[j];exact Nat.ne_of_lt (aA (g:=s) (o:=.cells #[.int .i64 n,.slice (some Y) a.length y] 24 (0,0)) (zK m)):s≠q));have bd:=zA ((by rw[j];exact Nat.ne_of_gt (aA (g:=s) (o:=.cells #[.int .i64 n,.slice (some Y) a.length y] 24 (0,0)) (zK m)):q≠s));replace m:=zb m hb;have I:=zA ((by rw[j];exact Nat.ne_of_lt (aA (g:=u) (o:=.cells #[.int .i64 0,.slice none 0 0] 24 (0,0)) (zK r)):u≠q));have be:=zA ((by rw[j];exact Nat.ne_of_gt (aA (g:=u) (o:=.cells #[.int .i64 0,.slice none 0 0] 24 (0,0)) (zK r)):q≠u));replace r:=zb r hb;have J:=zA ((by rw[j];exact Nat.ne_of_lt (aA (g:=z) (o:=.cells #[.int .i64 n,u262001] 24 (0,0)) (zK x)):z≠q));have bf:=zA ((by rw[j];exact Nat.ne_of_gt (aA (g:=z) (o:=.cells #[.int .i64 n,u262001] 24 (0,0)) (zK x)):q≠z));replace x:=zb x hb;clear hb v j;have em:=bd.out;have er:=G.out;have es:=be.out;have ev:=I.out;have ew:=bf.out;have ex:=J.out;obtain⟨ey,e0,e1,e2,e3,e4⟩:=cw S))
        go_roundg k1
        case measure=>have:=an.out;omega
        case rel=>exact⟨(wrap64 (i+1)),(E),(u262001),zT,U,⟨by have:=an.out;omega⟩,⟨by(with_reducible repeat(first|apply Kd.aR|apply Kd.bD|apply Kd.bq));exact Kd.bb (Kd.dr (p:=⟨q,2,none⟩) (Kd.dr (p:=⟨q,1,none⟩) (Kd.dr (p:=⟨q,0,none⟩) (Kd.bb D.out (fun T hk=>(⟨hk,hk.2⟩:_/\T≠q))) (fun _ hk=>hk.2) (.int .i64 ((ae a i).f0))) (fun _ hk=>hk.2) (.int .i64 ((ae a i).f1))) (fun _ hk=>hk.2) (.int .i64 ((ae a i).f2))) (fun _ hk=>trivial)⟩,⟨by refine zk ?_;refine aD ?_ G.out _;refine zk ?_;refine aD ?_ G.out _;refine zk ?_;refine aD ?_ G.out _;exact zK m⟩,⟨by refine zk ?_;refine aD ?_ I.out _;refine zk ?_;refine aD ?_ I.out _;refine zk ?_;refine aD ?_ I.out _;exact zK r⟩,⟨by refine zk ?_;refine aD ?_ J.out _;refine zk ?_;refine aD ?_ J.out _;refine zk ?_;refine aD ?_ J.out _;exact zK x⟩,⟨zB⟩⟩
       ·rw[if_neg ad] at H
        obtain⟨c3,c5⟩:=bI ad;obtain⟨F,bg⟩:∃j_:Int,(mn ((ae a i).f2) K)=j_:=⟨_,rfl⟩;replace H:(if E.length<5864062014805 then(dC.l0 k1 K a (a.length:Int) (wrap64 (i+1)) n (E++[(⟨(ae a i).f0,(ae a i).f1,F⟩:S83)])) else(none))=some (Z,r2,r3):=by first|(rw[bg] at H;exact H)|(simp only[bg] at H⊢;exact H)
        have e5:(if K<((ae a i).f2) then K else((ae a i).f2))=F:=bg;by_cases a0:E.length<5864062014805
        ·rw[if_pos a0] at H
         have c9:=zA a0;clear a0;obtain⟨a2,bi⟩:∃y_:List (S83),y_=(E++[(⟨(ae a i).f0,(ae a i).f1,F⟩:S83)]):=⟨_,rfl⟩;replace H:(dC.l0 k1 K a (a.length:Int) (wrap64 (i+1)) n a2)=some (Z,r2,r3):=zh bi H;have dd:=zA bi;clear bi;have U:=zA H;clear H;have L:0<=(i:Int):=ay ‹_›;have M:i<(a.length:Int):=ay ‹_›;obtain⟨Y,a9,O,P,Q⟩:=dE ag.out i L M;cases a9;replace O:=(l.out.cell (a8 w _ O)).trans O;replace P:=(l.out.cell (a8 w _ P)).trans P;replace Q:=(l.out.cell (a8 w _ Q)).trans Q;replace L:=eq_true L;replace M:=eq_true M;go_wp2_with (first|((with_reducible refine aJ (N:=9) rfl ?_);refine zX 9 #[.int .i64 0,.int .i64 0,.int .i64 0] 83 ?_;intro q j dk v hb;replace D:=zA (Kd.cT (Kd.s_ (zR D) q (Nat.le_of_eq j.symm)) hb);have S:=zA (v);have c6:=zG l j;have c7:=zG l j;replace l:=zS l hb;have G:=zA ((by rw[j];exact Nat.ne_of_lt (aA (g:=s) (o:=.cells #[.int .i64 n,.slice (some Y) a.length y] 24 (0,0)) (zK m)):s≠q));have bd:=zA ((by rw[j];exact Nat.ne_of_gt (aA (g:=s) (o:=.cells #[.int .i64 n,.slice (some Y) a.length y] 24 (0,0)) (zK m)):q≠s));replace m:=zb m hb;have I:=zA ((by rw[j];exact Nat.ne_of_lt (aA (g:=u) (o:=.cells #[.int .i64 0,.slice none 0 0] 24 (0,0)) (zK r)):u≠q));have be:=zA ((by rw[j];exact Nat.ne_of_gt (aA (g:=u) (o:=.cells #[.int .i64 0,.slice none 0 0] 24 (0,0)) (zK r)):q≠u));replace r:=zb r hb;have J:=zA ((by rw[j];exact Nat.ne_of_lt (aA (g:=z) (o:=.cells #[.int .i64 n,u262001] 24 (0,0)) (zK x)):z≠q));have bf:=zA ((by rw[j];exact Nat.ne_of_gt (aA (g:=z) (o:=.cells #[.int .i64 n,u262001] 24 (0,0)) (zK x)):q≠z));replace x:=zb x hb;clear hb v j;have e6:=bd.out;have e_:=G.out;have e':=be.out;have fb:=I.out;have fd:=bf.out;have fn:=J.out;obtain⟨fo,fq,fr,ft,fv,f3⟩:=cw S;have f4:=a3.out;have f5:=V.out;have f6:=a4.out;have f7:=W.out;obtain⟨f8,f9,f',gb⟩:=ax x;have gc:((((dk.setCell ⟨q,0,none⟩ (.int .i64 (ae a i).f0)).setCell ⟨q,1,none⟩ (.int .i64 (ae a i).f1)).setCell ⟨q,2,none⟩ (.int .i64 (ae a i).f2)).setCell ⟨q,2,none⟩ (.int .i64 F)).cell? ⟨q,2,none⟩=some (.int .i64 F):=(aj (bB (cs:=#[(.int .i64 (ae a i).f0),(.int .i64 (ae a i).f1),(.int .i64 (ae a i).f2)]) (bB (cs:=#[(.int .i64 (ae a i).f0),(.int .i64 (ae a i).f1),(.int .i64 0)]) (bB (cs:=#[(.int .i64 (ae a i).f0),(.int .i64 0),(.int .i64 0)]) (bB (cs:=#[(.int .i64 0),(.int .i64 0),(.int .i64 0)]) S.out 0 _ rfl) 1 _ rfl) 2 _ rfl) 2 _ rfl) 2).trans rfl)|((with_reducible refine qc (b:=.append) (xs:=#[.tmp 37,.tmp 39]) rfl ?_);at_builtin;refine Kd.mJ aN (w0:=w) w.heap.size rfl (.tmp 37) (.tmp 39) 22 83 (.agg #[(.int .i64 0),(.int .i64 0),(.int .i64 0)]) 24 rfl Tryz.underlying22 Bg rfl (by decide) (by omega) u262001 E (⟨(ae a i).f0,(ae a i).f1,F⟩:S83) [.int .i64 ((ae a i).f0),.int .i64 ((ae a i).f1),.int .i64 F] (fun T=>T≠q) (fun _=>False) rfl (by first|(go_simp;done)|(go_simp;rfl)) ?aP (fun _ hk=>hk.elim) ?aF ?aO ?aB ?aS ?aL ?_;(case aP=>exact jw _ _ _ (⟨(ae a i).f0,(ae a i).f1,F⟩:S83));(case aB=>exact zB);(case aF=>exact(fun T hk=>Kd.lT (g:=q) (o:=.cells #[.int .i64 ((ae a i).f0),.int .i64 ((ae a i).f1),.int .i64 F] 83 (0,0)) (by refine zk ?_;refine bB (cs:=#[.int .i64 ((ae a i).f0),.int .i64 ((ae a i).f1),.int .i64 ((ae a i).f2)]) ?_ 2 _ rfl;refine zk ?_;refine bB (cs:=#[.int .i64 ((ae a i).f0),.int .i64 ((ae a i).f1),.int .i64 0]) ?_ 2 _ rfl;refine zk ?_;refine bB (cs:=#[.int .i64 ((ae a i).f0),.int .i64 0,.int .i64 0]) ?_ 1 _ rfl;refine zk ?_;refine bB (cs:=#[.int .i64 0,.int .i64 0,.int .i64 0]) ?_ 0 _ rfl;exact zK S) T hk));(case aO=>exact(by(with_reducible repeat(first|apply Kd.aR|apply Kd.bD|apply Kd.bq));exact Kd.bb (Kd.dr (p:=⟨q,2,none⟩) (Kd.dr (p:=⟨q,2,none⟩) (Kd.dr (p:=⟨q,1,none⟩) (Kd.dr (p:=⟨q,0,none⟩) (Kd.bb D.out (fun T hk=>(⟨hk,hk.2⟩:_/\T≠q))) (fun _ hk=>hk.2) (.int .i64 ((ae a i).f0))) (fun _ hk=>hk.2) (.int .i64 ((ae a i).f1))) (fun _ hk=>hk.2) (.int .i64 ((ae a i).f2))) (fun _ hk=>hk.2) (.int .i64 F)) (fun _ hk=>hk.1.2)));(case aS=>exact(bu zB));(case aL=>have:=c9.out;omega);intro gd ge ho hb j dl;rw[<-dd.out] at ho;replace m:=zA (da (g:=s) (o:=.cells #[.int .i64 n,.slice (some Y) a.length y] 24 (0,0)) (by refine zk ?_;refine aD ?_ G.out _;refine zk ?_;refine aD ?_ G.out _;refine zk ?_;refine aD ?_ G.out _;refine zk ?_;refine aD ?_ G.out _;exact zK m) j (Kd.dj D.out m.out (by decide)));replace r:=zA (da (g:=u) (o:=.cells #[.int .i64 0,.slice none 0 0] 24 (0,0)) (by refine zk ?_;refine aD ?_ I.out _;refine zk ?_;refine aD ?_ I.out _;refine zk ?_;refine aD ?_ I.out _;refine zk ?_;refine aD ?_ I.out _;exact zK r) j (Kd.dj D.out r.out (by decide)));replace x:=zA (da (g:=z) (o:=.cells #[.int .i64 n,u262001] 24 (0,0)) (by refine zk ?_;refine aD ?_ J.out _;refine zk ?_;refine aD ?_ J.out _;refine zk ?_;refine aD ?_ J.out _;refine zk ?_;refine aD ?_ J.out _;exact zK x) j (Kd.dj D.out x.out (by decide)));replace S:=zA (da (g:=q) (o:=.cells #[.int .i64 ((ae a i).f0),.int .i64 ((ae a i).f1),.int .i64 F] 83 (0,0)) (by refine zk ?_;refine bB (cs:=#[.int .i64 ((ae a i).f0),.int .i64 ((ae a i).f1),.int .i64 ((ae a i).f2)]) ?_ 2 _ rfl;refine zk ?_;refine bB (cs:=#[.int .i64 ((ae a i).f0),.int .i64 ((ae a i).f1),.int .i64 0]) ?_ 2 _ rfl;refine zk ?_;refine bB (cs:=#[.int .i64 ((ae a i).f0),.int .i64 0,.int .i64 0]) ?_ 1 _ rfl;refine zk ?_;refine bB (cs:=#[.int .i64 0,.int .i64 0,.int .i64 0]) ?_ 0 _ rfl;exact zK S) j (Kd.yS D.out (fun _ hk=>hk.2)));replace l:=zA (hb);have b3:=zA (ho);clear D;clear ho hb j dl;obtain⟨b4,b5,ds⟩:=Kd.bm b3.out;subst ds;obtain⟨gf,gg,gi,gl⟩:=ax x))
         go_roundg k1
         case measure=>have:=an.out;omega
         case rel=>exact⟨(wrap64 (i+1)),(a2),(.slice b4 a2.length b5),zT,U,⟨by have:=an.out;omega⟩,⟨by(with_reducible repeat(first|apply Kd.aR|apply Kd.bD|apply Kd.bq));exact Kd.bb (Kd.dr (p:=⟨z,1,none⟩) (Kd.ij b3.out x.out (by decide)) (fun _ hk=>hk.2) (.slice b4 a2.length b5)) (fun _ hk=>trivial)⟩,⟨by refine zk ?_;refine aD ?_ V.out _;exact zK m⟩,⟨by refine zk ?_;refine aD ?_ W.out _;exact zK r⟩,⟨by refine zk ?_;refine bB (cs:=#[.int .i64 n,u262001]) ?_ 1 _ rfl;exact zK x⟩,⟨zB⟩⟩
        ·rw[if_neg a0] at H
         exact absurd H (by simp)
      ·rw[if_neg av] at H
       exact absurd H (by simp)
     ·rw[if_neg ar] at H
      exact absurd H (by simp)
    ·rw[if_neg X] at H
     have c2:=a6 X;clear X;simp only[Option.some.injEq,Prod.mk.injEq] at H;obtain⟨rfl,rfl,rfl⟩:=H;have gm:=a3.out;have gn:=V.out;have go:=a4.out;have gp:=W.out;obtain⟨gq,gr,gs,gt⟩:=ax x;have gx:=am.out;have g0:=ak.out;obtain⟨g1,g2,g3,g4⟩:=ax r;obtain⟨b6,b_,dv⟩:=Kd.bm D.out;subst dv;go_wp2;refine bodyPost_ret (pP rfl _ _ u 24 #[.int .i64 n,.slice b6 E.length b_] (0,0) _ rfl (by refine zk ?_;refine bB (cs:=#[.int .i64 n,.slice none 0 0]) ?_ 1 _ rfl;refine zk ?_;refine bB (cs:=#[.int .i64 0,.slice none 0 0]) ?_ 0 _ rfl;exact zK r) Tryz.underlying24 rfl (by kernel_rfl)) rfl ?_;exact⟨_,zE,by(with_reducible repeat(first|apply Kd.aR|apply Kd.bD|apply Kd.bq));exact Kd.bb (Kd.dr (p:=⟨u,1,none⟩) (Kd.dr (p:=⟨u,0,none⟩) (Kd.ij D.out r.out (by decide)) (fun _ hk=>hk.2) (.int .i64 n)) (fun _ hk=>hk.2) (.slice b6 E.length b_)) (fun _ hk=>trivial),zB⟩
 ·rw[if_neg c4] at H
  obtain⟨b0,b1⟩:=bI c4;simp only[Option.some.injEq,Prod.mk.injEq] at H;obtain⟨rfl,rfl,rfl⟩:=H;go_enter Tryz.func84,Tryz.ntmps84
  go_wp2_with (first|((with_reducible refine aJ (N:=2) rfl ?_);refine zX 2 #[.int .i64 n,.slice B a.length y] 24 ?_;intro s j g5 v hb;have m:=zA (v);have b':=zG l j;have ca:=zG l j;replace l:=zS l hb;clear hb v j)|((with_reducible refine aJ (N:=4) rfl ?_);refine zX 4 #[.int .i64 0,.slice none 0 0] 24 ?_;intro u j g6 v hb;have r:=zA (v);have cb:=zG l j;have cc:=zG l j;replace l:=zS l hb;have ak:=zA ((by rw[j];exact Nat.ne_of_lt (aA (g:=s) (o:=.cells #[.int .i64 n,.slice B a.length y] 24 (0,0)) (zK m)):s≠u));have am:=zA ((by rw[j];exact Nat.ne_of_gt (aA (g:=s) (o:=.cells #[.int .i64 n,.slice B a.length y] 24 (0,0)) (zK m)):u≠s));replace m:=zb m hb;clear hb v j;have g7:=ak.out;have g8:=am.out;obtain⟨g9,g',ha,hc⟩:=ax m)|((with_reducible refine aG (f:=64) rfl ?_);refine zL (some 11) Tryz.func64 #[.agg #[.int .i64 n,.slice B a.length y]] ?_;(with_reducible refine(bh.calls k n _ _ a t260 _ ?ah ?ai A3.out).mono ?_);(case ah=>exact Kd.aw ag.out zB);(case ai=>exact bw.out);rintro e he ⟨rfl,hb⟩;refine⟨_,rfl,?_⟩;replace m:=zb m hb;replace r:=zb r hb;replace l:=zS l hb;(try clear hb);obtain⟨hf,hh,hj,hl⟩:=ax r))
  refine bodyPost_ret (pP rfl _ _ u 24 #[.int .i64 0,.slice none 0 0] (0,0) _ rfl (by refine zk ?_;refine bB (cs:=#[.int .i64 0,.slice none 0 0]) ?_ 1 _ rfl;refine zk ?_;refine bB (cs:=#[.int .i64 0,.slice none 0 0]) ?_ 0 _ rfl;exact zK r) Tryz.underlying24 rfl (by kernel_rfl)) rfl ?_;exact⟨_,zE,by first|exact Kd.dh _ _ _ _ _|exact Kd.gT _ _ _ _ _|exact Kd.V_nil _ _ _ _ _|exact Kd.Q_nil _ _ _ _ _|exact Kd.gw _ _ _ _ _,zB⟩
end
def fT.f (k:Nat) (b:Int) (e:List (S83)):Option (Int×(List (S83))×Int):=(dC.f k b e 50).bind fun a=>(some (a.1,a.2.1,a.2.2))
theorem fT.mono:∀a0 a k,al (fT.f k a0 a) (fT.f (k+1) a0 a):=by
 intro a0 a k;unfold fT.f;with_reducible repeat' first|exact dC.mono _ _ _ _|exact al.refl _|exact al.none _|refine al.ite ?_ ?_|refine al.bind ?_ (fun _=>?_)
theorem fT.calls (k:Nat) (j:Int) (m:Option Addr) (n:Nat) (a:List (S83)) (y:Int) (z:List (S83)) (B:Int) (w:World) (D:Kd.C aN w m a.length a) (E:a.length<=n) (h:fT.f k j a=some (y,z,B)):
  Calls Tryz.prog 30 #[.agg #[.int .i64 j,.slice m a.length n]] w fun e w'=>∃F:Value,e= .returned (.tuple #[.agg #[.int .i64 y,F],.int .i64 B])/\Kd.R aN 83 w' w.heap.size (fun _=>True) F z/\Below w.heap.size w w':=by
 have U:=Tryz.underlying24;have L:=zA D;have M:=zA E;clear D E;have b:=zA (aq w.heap.size w);unfold fT.f at h;have H:=h;clear h;obtain⟨⟨u,x,O⟩,P,H⟩:=zo H;dsimp only at H;simp only[Option.some.injEq,Prod.mk.injEq] at H;obtain⟨rfl,rfl,rfl⟩:=H;go_enter Tryz.func30,Tryz.ntmps30
 go_wp2_with (first|((with_reducible refine aJ (N:=1) rfl ?_);refine zX 1 #[.int .i64 j,.slice m a.length n] 24 ?_;intro v i w3 q hb;have l:=zA (q);have V:=zG b i;have W:=zG b i;replace b:=zS b hb;clear hb q i)|((with_reducible refine aJ (N:=2) rfl ?_);refine zX 2 #[.int .i64 0,.slice none 0 0] 24 ?_;intro r i X q hb;have s:=zA (q);have Y:=zG b i;have Z:=zG b i;replace b:=zS b hb;have Q:=zA ((by rw[i];exact Nat.ne_of_lt (aA (g:=v) (o:=.cells #[.int .i64 j,.slice m a.length n] 24 (0,0)) (zK l)):v≠r));have S:=zA ((by rw[i];exact Nat.ne_of_gt (aA (g:=v) (o:=.cells #[.int .i64 j,.slice m a.length n] 24 (0,0)) (zK l)):r≠v));replace l:=zb l hb;clear hb q i;have aa:=Q.out;have ab:=S.out;obtain⟨ad,ag,ak,am⟩:=ax l)|((with_reducible refine aG (f:=84) rfl ?_);refine zL (some 5) Tryz.func84 #[.agg #[.int .i64 j,.slice m a.length n],.int .i64 50] ?_;(with_reducible refine(dC.calls k j _ _ a 50 u x O _ ?ah ?ai P.out).mono ?_);(case ah=>exact Kd.aw L.out zB);(case ai=>exact M.out);rintro e w7 ⟨ap,rfl,G,hb⟩;refine⟨_,rfl,?_⟩;have I:=zA (Kd.bj G (bu zB));replace l:=zb l hb;replace s:=zb s hb;replace b:=zS b hb;(try clear hb);(try clear G);obtain⟨ar,av,aB,aF⟩:=ax s;obtain⟨J,K,T⟩:=Kd.bm I.out;subst T))
 refine bodyPost_ret (pP rfl _ _ r 24 #[.int .i64 u,.slice J x.length K] (0,0) _ rfl (by refine zk ?_;refine bB (cs:=#[.int .i64 u,.slice none 0 0]) ?_ 1 _ rfl;refine zk ?_;refine bB (cs:=#[.int .i64 0,.slice none 0 0]) ?_ 0 _ rfl;exact zK s) Tryz.underlying24 rfl (by kernel_rfl)) rfl ?_;exact⟨_,zE,by(with_reducible repeat(first|apply Kd.aR|apply Kd.bD|apply Kd.bq));exact Kd.bb (Kd.dr (p:=⟨r,1,none⟩) (Kd.dr (p:=⟨r,0,none⟩) (Kd.ij I.out s.out (by decide)) (fun _ hk=>hk.2) (.int .i64 u)) (fun _ hk=>hk.2) (.slice J x.length K)) (fun _ hk=>trivial),zB⟩
def dD (E:List S83):List S83:=E.filter fun x=>decide (x.f0≠x.f1)
theorem nS {E:List S83} {x:S83}:x∈dD E↔x∈E/\x.f0≠x.f1:=by simp[dD]
theorem xC (E:List S83):af (dD E)=af E:=by
 unfold af dD;generalize (fun _ _=>(0:Int):Nat->Nat->Int)=f;induction E generalizing f with
 |nil=>rfl
 |cons x E a=>
  by_cases e:x.f0=x.f1
  ·rw[List.filter_cons_of_neg (by simp[e]),List.foldl_cons,a,show cV f x=f from if_pos e]
  ·rw[List.filter_cons_of_pos (by simp[e]),List.foldl_cons,List.foldl_cons,a]
theorem br.dD {N:Int} {E:List S83} (h:br N E):br N (dD E):=
 ⟨fun x a=>h.ok x (nS.1 a).1,fun x a=>h.le x (nS.1 a).1,h.order.sublist (List.filter_sublist ..)⟩
theorem xD {N:Int}:∀{E:List S83} {a b:Int},(∀x∈E,bX N x=true/\x.f0<=x.f1/\(a<x.f0\/a=x.f0/\b<x.f1))->E.Pairwise ix->gZ N a b E=0
 |[],_,_,_,_=>rfl
 |y::E,a,b,h,hp=>by
  obtain⟨g,i⟩:=List.pairwise_cons.1 hp;obtain⟨h1,j,k⟩:=h y (List.mem_cons_self ..);have he:dQ N a b y=0:=by
   unfold dQ;rw[h1,if_neg (by decide),if_neg (by omega)]
  rw[gZ,if_pos he];exact xD (fun x e=>⟨(h x (List.mem_cons_of_mem _ e)).1,(h x (List.mem_cons_of_mem _ e)).2.1,g x e⟩) i
theorem F9 {N:Int} {E:List S83} (h1:1<=N) (b:N<=12) (h:br N E):cz N E=0:=by
 unfold cz;rw[if_neg (by omega)];refine xD (fun x a=>⟨h.ok x a,h.le x a,?_⟩) h.order;have:=h.ok x a;simp[bX] at this;omega
theorem fl.dD {n:Nat} {E:List S83} (h:fl n E):fl n (dD E):=fun S h1 b=>by
 obtain⟨x,g,a⟩:=h S h1 b;exact⟨x,nS.2 ⟨g,fun e=>a (by rw[e])⟩,a⟩
theorem xE {p q:Nat->Nat} (h:∀v,rootOf q v=rootOf p v):∀u,b8 q u=b8 p u
 |0=>rfl
 |u+1=>by rw[b8,b8,xE h u,h u]
theorem xF {p q:Nat->Nat} {M m:Nat} (g:rootOf p M=M) (hm:rootOf p m=m) (a:m≠M) (h:∀v,rootOf q v=if rootOf p v=M then m else rootOf p v):∀u,b8 q u+(if M<u then 1 else 0)=b8 p u
 |0=>rfl
 |u+1=>by
  have b:=xF g hm a h u;rw[b8,b8,h u];rcases Nat.lt_trichotomy u M with e|e|e
  ·have e2:rootOf p u≠M:=by have:=iS p u;omega
   rw[if_neg (by omega)] at b;rw[if_neg e2,if_neg (show ¬M<u+1 by omega)];omega
  ·subst e
   rw[if_neg (Nat.lt_irrefl _)] at b;rw[g,if_pos rfl,if_neg a,if_pos (Nat.lt_succ_self _),if_pos rfl];omega
  ·rw[if_pos e] at b
   rw[if_pos (show M<u+1 by omega)];by_cases e2:rootOf p u=M
   ·have i:m≠u:=fun j=>a (by rw[<-hm,j,e2])
    rw[if_pos e2,if_neg i,e2,if_neg (show ¬M=u by omega)];omega
   ·rw[if_neg e2]
    omega
theorem F_ {n:Nat} (s:(Nat->Nat)×Nat) (x:Nat×Int×Int) (h1:x.2.1.toNat<n) (g:x.2.2.toNat<n):(fx s x).2+b8 s.1 n=s.2+1+b8 (fx s x).1 n:=by
 unfold fx;have a:=mi s.1 x.2.1.toNat x.2.2.toNat;have i:=mg s.1 x.2.1.toNat;have hb:=mg s.1 x.2.2.toNat;have j:=iS s.1 x.2.1.toNat;have lb:=iS s.1 x.2.2.toNat;by_cases e:rootOf s.1 x.2.1.toNat=rootOf s.1 x.2.2.toNat
 ·rw[if_pos e,xE (q:=dH s.1 x.2.1.toNat x.2.2.toNat) (p:=s.1) (fun v=>by
   rw[a v,e,Nat.max_self,Nat.min_self];split
   ·rename_i h;exact h.symm
   ·rfl) n]
 ·rw[if_neg e]
  have b:=xF (p:=s.1) (q:=dH s.1 x.2.1.toNat x.2.2.toNat) (M:=max (rootOf s.1 x.2.1.toNat) (rootOf s.1 x.2.2.toNat)) (m:=min (rootOf s.1 x.2.1.toNat) (rootOf s.1 x.2.2.toNat))
   (by rw[Nat.max_def];split<;>assumption) (by rw[Nat.min_def];split<;>assumption) (by omega) a n
  rw[if_pos (by omega)] at b;dsimp only;omega
theorem xG {n:Nat}:∀(xs:List (Nat×Int×Int)) (s:(Nat->Nat)×Nat),(∀x∈xs,x.2.1.toNat<n/\x.2.2.toNat<n)->(xs.foldl fx s).2+b8 s.1 n=s.2+xs.length+b8 (xs.foldl fx s).1 n
 |[],s,_=>by simp
 |x::xs,s,h=>by
  have h1:=F_ s x (h x (List.mem_cons_self ..)).1 (h x (List.mem_cons_self ..)).2;have b:=xG xs (fx s x) (fun y a=>h y (List.mem_cons_of_mem _ a));rw[List.foldl_cons,List.length_cons];omega
def nT (x:Nat×Int×Int):S83:=⟨x.2.1,x.2.2,1⟩
theorem xH:∀(xs:List (Nat×Int×Int)) (s:(Nat->Nat)×Nat),(xs.foldl fx s).1=(xs.map nT).foldl (fun p x=>dH p x.f0.toNat x.f1.toNat) s.1
 |[],s=>rfl
 |x::xs,s=>by rw[List.foldl_cons,List.map_cons,List.foldl_cons,xH xs (fx s x)];rfl
theorem xI:∀n,b8 id n=n
 |0=>rfl
 |n+1=>by rw[b8,xI n,mh (by simp),if_pos rfl]
theorem xJ {E:List S83} {y:Nat×Int×Int} (h:y∈cu E E.length):∃x∈E,y.2=(x.f0,x.f1):=by
 obtain⟨x,a,h1,b⟩:=q6 E _ (aI _) y h;exact⟨x,a,Prod.ext h1 b⟩
theorem xK {E:List S83} {i:Nat} (hi:i<E.length) (hm:1<=(ae E i).f2):∀{k:Nat},i<k->∃y∈cu E k,y.2=((ae E i).f0,(ae E i).f1)
 |0,h=>by omega
 |k+1,h=>by
  by_cases e:i=k
  ·subst e
   obtain⟨j,a⟩:∃j,(ae E i).f2.toNat=j+1:=⟨(ae E i).f2.toNat-1,by omega⟩;refine⟨_,List.mem_append_right _ (by rw[a];exact List.mem_append_right _ (List.mem_singleton.2 rfl)),rfl⟩
  ·obtain⟨y,b,he⟩:=xK hi hm (k:=k) (by omega)
   exact⟨y,List.mem_append_left _ b,he⟩
theorem Ga {n:Nat} {E:List S83} (e:br n E) (h:fl n E):fl n ((cu E E.length).map nT):=fun S h1 g=>by
 obtain⟨x,a,j⟩:=h S h1 g;obtain⟨i,hi,rfl⟩:=List.getElem_of_mem a;have b:ae E i=E[i]:=by simp[ae,a7,bK hi]
 have k:=e.ok _ a;simp[bX] at k;obtain⟨y,l,he⟩:=xK hi (by rw[b];omega) hi;rw[b] at he;refine⟨nT y,List.mem_map.2 ⟨y,l,rfl⟩,?_⟩;show S y.2.1.toNat≠S y.2.2.toNat
 rw[he];exact j
theorem Gb {n:Nat} {E:List S83} (hn:1<=n) (a:br n E) (h:fl n E):(cC (cu E E.length)).2+n=(cu E E.length).length+1:=by
 have i:∀x∈cu E E.length,x.2.1.toNat<n/\x.2.2.toNat<n:=fun y b=>by
  obtain⟨x,e,he⟩:=xJ b;have g:=a.ok x e;simp[bX] at g;rw[he];show x.f0.toNat<n/\x.f1.toNat<n
  omega
 have j:=xG (n:=n) (cu E E.length) (id,0) i;have hf:=xH (cu E E.length) (id,0);have h1:b8 (aK ((cu E E.length).map nT)) n=1:=(qG hn (fun z k=>by
  obtain⟨y,b,rfl⟩:=List.mem_map.1 k;obtain⟨x,e,he⟩:=xJ b;have g:=a.ok x e;simp[bX] at g;show 0<=y.2.1/\y.2.1<n/\0<=y.2.2/\y.2.2<n/\(1:Int)<=1/\(1:Int)<=50
  rw[he];show 0<=x.f0/\x.f0<n/\0<=x.f1/\x.f1<n/\(1:Int)<=1/\(1:Int)<=50
  omega)).2 (Ga a h)
 rw[show ((cu E E.length).foldl fx (id,0)).1=aK ((cu E E.length).map nT) from hf,h1,xI] at j;show ((cu E E.length).foldl fx (id,0)).2+n=_
 omega
theorem val_step_eq {n:Nat} {f:Nat->Nat->Int} {x:S83} (j:0<=x.f0/\x.f0<n) (h1:0<=x.f1/\x.f1<n) (a:x.f0≠x.f1) (b:f x.f0.toNat x.f1.toNat=0) (e:f x.f1.toNat x.f0.toNat=0) {u:Nat} (hu:u<n):
  T.val n (cV f x) u=T.val n f u+(T.one x.f1.toNat u*x.f2+T.one x.f0.toNat u*x.f2):=by
 unfold cV;rw[if_neg a];have g:x.f0.toNat<n:=by omega
 have hb:x.f1.toNat<n:=by omega
 have k:x.f0.toNat≠x.f1.toNat:=by omega
 unfold T.val;have i:T.one x.f1.toNat u*x.f2=T.sN (fun v=>(T.one x.f1.toNat u*x.f2)*T.one x.f0.toNat v) n:=by rw[T.eX,T.fj g,Int.mul_one]
 have e2:T.one x.f0.toNat u*x.f2=T.sN (fun v=>(T.one x.f0.toNat u*x.f2)*T.one x.f1.toNat v) n:=by rw[T.eX,T.fj hb,Int.mul_one]
 rw[i,e2,<-T.dA,<-T.dA];refine T.bP fun v l=>?_
 unfold T.one;dsimp only;by_cases c1:u=x.f1.toNat/\v=x.f0.toNat
 ·rw[if_pos c1,if_pos c1.1,if_pos c1.2,if_neg (show ¬u=x.f0.toNat by omega),c1.1,c1.2,e];omega
 ·rw[if_neg c1]
  by_cases c2:u=x.f0.toNat/\v=x.f1.toNat
  ·rw[if_pos c2,if_pos c2.1,if_pos c2.2,if_neg (show ¬u=x.f1.toNat by omega),c2.1,c2.2,b];omega
  ·rw[if_neg c2]
   by_cases c3:u=x.f1.toNat
   ·rw[if_pos c3,if_neg (fun h=>c1 ⟨c3,h⟩),if_neg (show ¬u=x.f0.toNat by omega)];omega
   ·rw[if_neg c3]
    by_cases c4:u=x.f0.toNat
    ·rw[if_pos c4,if_neg (fun h=>c2 ⟨c4,h⟩)];omega
    ·rw[if_neg c4];omega
theorem Gc {n:Nat} {f:Nat->Nat->Int} {x:S83} (b:0<=x.f0/\x.f0<n) (h1:0<=x.f1/\x.f1<n) (e:x.f0≠x.f1) (h:f x.f0.toNat x.f1.toNat=0) (i:f x.f1.toNat x.f0.toNat=0):
  T.sN (T.val n (cV f x)) n=T.sN (T.val n f) n+2*x.f2:=by
 have j:x.f0.toNat<n:=by omega
 have hb:x.f1.toNat<n:=by omega
 have a:=T.bP fun u hu=>val_step_eq b h1 e h i (u:=u) hu
 rw[T.dA,T.dA] at a;have k:T.sN (fun u=>T.one x.f1.toNat u*x.f2) n=x.f2:=by
  rw[T.bP (g:=fun u=>x.f2*T.one x.f1.toNat u) (fun u _=>Int.mul_comm _ _),T.eX,T.fj hb,Int.mul_one]
 have l:T.sN (fun u=>T.one x.f0.toNat u*x.f2) n=x.f2:=by
  rw[T.bP (g:=fun u=>x.f2*T.one x.f0.toNat u) (fun u _=>Int.mul_comm _ _),T.eX,T.fj j,Int.mul_one]
 rw[k,l] at a;omega
theorem xL {n:Nat}:∀(E:List S83) (f:Nat->Nat->Int),(∀x∈E,bX n x=true/\x.f0<x.f1/\f x.f0.toNat x.f1.toNat=0/\f x.f1.toNat x.f0.toNat=0)->E.Pairwise ix->T.sN (T.val n (E.foldl cV f)) n=T.sN (T.val n f) n+2*eS E
 |[],f,_,_=>by simp[eS]
 |x::E,f,h,hp=>by
  obtain⟨e,g⟩:=List.pairwise_cons.1 hp;obtain⟨h1,r,i,j⟩:=h x (List.mem_cons_self ..);simp[bX] at h1;have k:=Gc (n:=n) (f:=f) (x:=x) (by omega) (by omega) (by omega) i j;have l:=xL E (cV f x) (fun y a=>by
   obtain⟨b,m,o,p⟩:=h y (List.mem_cons_of_mem _ a);have hb:=e y a;unfold ix at hb;have q:=b;simp[bX] at q;unfold cV;rw[if_neg (show ¬x.f0=x.f1 by omega)];refine⟨b,m,?_,?_⟩
   ·show (if _ then _ else _)=_
    rw[if_neg (by omega),if_neg (by omega)];exact o
   ·show (if _ then _ else _)=_
    rw[if_neg (by omega),if_neg (by omega)];exact p) g
  rw[List.foldl_cons,l,k,eS];omega
theorem xM {n:Nat} {E:List S83} (h:br n E) (b:∀x∈E,x.f0≠x.f1):T.sN (T.val n (af E)) n=2*(cR E E.length:Nat):=by
 have h1:=xL (n:=n) E (fun _ _=>0) (fun x a=>⟨h.ok x a,by have:=h.le x a;have:=b x a;omega,rfl,rfl⟩) h.order;have g:T.sN (T.val n fun _ _=>0) n=0:=T.gV fun u _=>T.jx n
 have e:=nB h E.length (aI _);rw[List.take_length] at e;unfold af;omega
theorem Gd {n:Nat} {E:List S83} (hn:1<=n) (m:n<=12) (o:E.length<=40) (e:cz n E=0) (hC:fl n E):
  ∃g:Nat,Ev (fun k=>fc.f k n (dD E)) ((g:Int),(0:Int))/\T.dF n (af E) g:=by
 have a:=(gE e).2.2.dD;have p:(dD E).length<=E.length:=List.length_filter_le _ _;have i:=Gb hn a hC.dD;refine⟨(cC (cu (dD E) (dD E).length)).2,?_,?_⟩
 ·unfold fc.f
  have h:=nh n (dD E) (by omega);rw[F9 (by omega) (by omega) a] at h;refine Ev.bind h ?_;have j:nR n (dD E)=true:=by
   unfold nR eZ;rw[a.cI,az (by omega),az (show (dD E).length<=40 by omega)];simp only[Bool.true_and,Bool.and_true];refine List.all_eq_true.2 fun x b=>?_
   have:=a.ok x b;simp[bX] at this;exact az (by omega)
  simp only[if_true,if_pos j];exact Ev.const _
 ·have h1:=xM a (fun x b=>(nS.1 b).2)
  rw[xC] at h1;show T.sN (T.can n (af E)) n=_
  have l:T.sN (T.can n (af E)) n=T.sN (T.val n (af E)) n-2*n:=by
   show T.sN (fun v=>T.val n (af E) v-2) n=_
   rw[T.de,T.iq];omega
  rw[oY] at i;rw[l,h1];omega
def dq.l0:Nat->List Int->Int->Int->Int->List (S83)->Option (Int)
 |0,_,_,_,_,_=>none
 |k+1,b,e,a,g,h=>if a<e then(if 0<=a then(if a<(b.length:Int) then((fM.f g (rd b a)).bind fun t222=>(if t222=true then(dq.l0 k b e (wrap64 (a+1)) g h) else(some 2))) else(none)) else(none)) else(some 0)
def dq.f (k:Nat) (a:Int) (b:List (S83)) (l1:List Int):Option (Int):=(bh.f k a b).bind fun t220=>(if t220=0 then(dq.l0 k l1 (l1.length:Int) 0 a b) else(some t220))
theorem dq.cy:∀k,(∀a b e g i,al (dq.l0 k a b e g i) (dq.l0 (k+1) a b e g i))
 |0=>fun _ _ _ _ _ r h=>by simp[dq.l0] at h
 |k+1=>by
  have j:=dq.cy k
  ·intro a b e g i
   unfold dq.l0;with_reducible repeat' first|exact j _ _ _ _ _|exact bh.mono _ _ _|exact al.refl _|exact al.none _|refine al.ite ?_ ?_|refine al.bind ?_ (fun _=>?_)
theorem dq.mono:∀a0 a a2 k,al (dq.f k a0 a a2) (dq.f (k+1) a0 a a2):=by
 intro a0 a a2 k;have b:=dq.cy k;unfold dq.f;with_reducible repeat' first|exact b _ _ _ _ _|exact bh.mono _ _ _|exact al.refl _|exact al.none _|refine al.ite ?_ ?_|refine al.bind ?_ (fun _=>?_)
theorem dq.calls (k:Nat) (g:Int) (l:Option Addr) (m:Nat) (i:List (S83)) (E:Option Addr) (c1:Nat) (l1:List Int) (r:Int) (w:World) (F:Kd.C aN w l i.length i) (G:i.length<=m) (I:Kd.C (Kd.int .i64) w E l1.length l1) (J:l1.length<=c1) (h:dq.f k g i l1=some r):
  Calls Tryz.prog 203 #[.agg #[.int .i64 g,.slice l i.length m],.slice E l1.length c1] w fun e w'=>e= .returned (.int .i64 r)/\Below w.heap.size w w':=by
 have an:=Tryz.underlying24;have K:=zA F;have L:=zA G;clear F G;have M:=zA I;have ap:=zA J;clear I J;have b:=zA (aq w.heap.size w);unfold dq.f at h;have H:=h;clear h;obtain⟨t220,O,H⟩:=zo H;by_cases c4:t220=0
 ·rw[if_pos c4] at H
  obtain⟨P,Q⟩:=bH c4;clear c4;have v:=zA H;clear H;go_enter Tryz.func203,Tryz.ntmps203
  go_wp2_with (first|((with_reducible refine aJ (N:=2) rfl ?_);refine zX 2 #[.int .i64 g,.slice l i.length m] 24 ?_;intro R n w5 u hb;have j:=zA (u);have V:=zG b n;have W:=zG b n;replace b:=zS b hb;clear hb u n;obtain⟨X,Y,Z,aa⟩:=ax j)|((with_reducible refine aG (f:=64) rfl ?_);refine zL (some 9) Tryz.func64 #[.agg #[.int .i64 g,.slice l i.length m]] ?_;(with_reducible refine(bh.calls k g _ _ i t220 _ ?ah ?ai O.out).mono ?_);(case ah=>exact Kd.aw K.out zB);(case ai=>exact L.out);rintro e w7 ⟨rfl,hb⟩;refine⟨_,rfl,?_⟩;replace j:=zb j hb;replace b:=zS b hb;(try clear hb)))
  go_loopg [15] k (fun S ab w'=>∃(a:Int),ab= .int .i64 a/\Aside0 (dq.l0 S l1 (l1.length:Int) a g i=some r)/\Aside0 (S<=k)/\Aside0 (w'.heap[R]? =some (.cells #[.int .i64 g,(.slice l i.length m)] 24 (0,0)))/\Aside0 (Below w.heap.size w w'))
  case atStart=>exact⟨(0),zT,v,⟨aI _⟩,⟨zK j⟩,⟨zB⟩⟩
  case round=>
   clear v;clear P Q X Y Z aa;obtain⟨a,rfl,B,T,j,b⟩:=hrel;cases gk with
   |zero=>exact absurd B.out (by simp[dq.l0])
   |succ k1=>
    have H:=B.out;clear B;simp only[dq.l0] at H;by_cases s:a<(l1.length:Int)
    ·rw[if_pos s] at H
     have ag:=az s;clear s;by_cases x:0<=a
     ·rw[if_pos x] at H
      have aB:=az x;clear x;by_cases y:a<(l1.length:Int)
      ·rw[if_pos y] at H
       have aF:=az y;clear y;obtain⟨t222,U,H⟩:=zo H;by_cases z:t222=true
       ·subst z
        replace H:=zi H;have v:=zA H;clear H;have o:0<=(a:Int):=ay ‹_›;have p:a<(l1.length:Int):=ay ‹_›;obtain⟨ak,D,q⟩:=Kd.bU M.out a o p;cases D;replace q:=(b.out.cell (a8 w _ q)).trans q;replace o:=eq_true o;replace p:=eq_true p;obtain⟨aL,aO,aP,aS⟩:=ax j;go_wp2_with (first|((with_reducible refine aG (f:=121) rfl ?_);refine zL (some 22) Tryz.func121 #[.int .i64 g,.int .i64 (rd l1 a)] ?_;(with_reducible refine(fM.calls g (rd l1 a) true _ U.out).mono ?_);rintro e w' ⟨rfl,⟨nd,rfl⟩⟩;refine⟨_,rfl,?_⟩))
        go_roundg k1
        case measure=>have:=T.out;omega
        case rel=>exact⟨(wrap64 (a+1)),zT,v,⟨by have:=T.out;omega⟩,⟨zK j⟩,⟨zB⟩⟩
       ·replace z:=Bool.eq_false_iff.mpr z
        subst z;replace H:=zj H;obtain rfl:=aH H;have o:0<=(a:Int):=ay ‹_›;have p:a<(l1.length:Int):=ay ‹_›;obtain⟨ak,D,q⟩:=Kd.bU M.out a o p;cases D;replace q:=(b.out.cell (a8 w _ q)).trans q;replace o:=eq_true o;replace p:=eq_true p;obtain⟨a0,a1,a2,a3⟩:=ax j;go_wp2_with (first|((with_reducible refine aG (f:=121) rfl ?_);refine zL (some 22) Tryz.func121 #[.int .i64 g,.int .i64 (rd l1 a)] ?_;(with_reducible refine(fM.calls g (rd l1 a) false _ U.out).mono ?_);rintro e w' ⟨rfl,⟨nd,rfl⟩⟩;refine⟨_,rfl,?_⟩))
        go_ret;exact⟨zE,zB⟩
      ·rw[if_neg y] at H
       exact absurd H (by simp)
     ·rw[if_neg x] at H
      exact absurd H (by simp)
    ·rw[if_neg s] at H
     have ag:=a6 s;clear s;obtain rfl:=aH H;go_wp2;go_ret;exact⟨zE,zB⟩
 ·rw[if_neg c4] at H
  obtain⟨P,Q⟩:=bI c4;obtain rfl:=aH H;go_enter Tryz.func203,Tryz.ntmps203
  go_wp2_with (first|((with_reducible refine aJ (N:=2) rfl ?_);refine zX 2 #[.int .i64 g,.slice l i.length m] 24 ?_;intro R n a4 u hb;have j:=zA (u);have V:=zG b n;have W:=zG b n;replace b:=zS b hb;clear hb u n;obtain⟨a5,a9,bd,be⟩:=ax j)|((with_reducible refine aG (f:=64) rfl ?_);refine zL (some 9) Tryz.func64 #[.agg #[.int .i64 g,.slice l i.length m]] ?_;(with_reducible refine(bh.calls k g _ _ i t220 _ ?ah ?ai O.out).mono ?_);(case ah=>exact Kd.aw K.out zB);(case ai=>exact L.out);rintro e bf ⟨rfl,hb⟩;refine⟨_,rfl,?_⟩;replace j:=zb j hb;replace b:=zS b hb;(try clear hb)))
  go_ret;exact⟨zE,zB⟩
def cF.l0:Nat->Int->Int->List (S83)->Int->Int->Option (Int×Int)
 |0,_,_,_,_,_=>none
 |k+1,x1,e,b,g,a=>if a<g then(if 0<=a then(if a<(b.length:Int) then(if((ae b a).f0)=((ae b a).f1) then(cF.l0 k x1 e b g (wrap64 (a+1))) else(if((ae b a).f0)=x1 then(cF.l0 k x1 (wrap64 (e+((ae b a).f2))) b g (wrap64 (a+1))) else(if((ae b a).f1)=x1 then(cF.l0 k x1 (wrap64 (e+((ae b a).f2))) b g (wrap64 (a+1))) else(cF.l0 k x1 e b g (wrap64 (a+1)))))) else(none)) else(none)) else(some (e,0))
def cF.f (k:Nat) (e:Int) (a:List (S83)) (b:Int):Option (Int×Int):=(dq.f k e a (([b]:List Int))).bind fun t227=>(if t227=0 then(cF.l0 k b 0 a (a.length:Int) 0) else(some (0,t227)))
theorem cF.cy:∀k,(∀a b e g i,al (cF.l0 k a b e g i) (cF.l0 (k+1) a b e g i))
 |0=>fun _ _ _ _ _ r h=>by simp[cF.l0] at h
 |k+1=>by
  have j:=cF.cy k
  ·intro a b e g i
   unfold cF.l0;with_reducible repeat' first|exact j _ _ _ _ _|exact dq.mono _ _ _ _|exact al.refl _|exact al.none _|refine al.ite ?_ ?_|refine al.bind ?_ (fun _=>?_)
theorem cF.mono:∀a0 a a2 k,al (cF.f k a0 a a2) (cF.f (k+1) a0 a a2):=by
 intro a0 a a2 k;have b:=cF.cy k;unfold cF.f;with_reducible repeat' first|exact b _ _ _ _ _|exact dq.mono _ _ _ _|exact al.refl _|exact al.none _|refine al.ite ?_ ?_|refine al.bind ?_ (fun _=>?_)
theorem cF.calls (k:Nat) (m:Int) (G:Option Addr) (q:Nat) (b:List (S83)) (r:Int) (W:Int) (X:Int) (w:World) (ar:Kd.C aN w G b.length b) (av:b.length<=q) (h:cF.f k m b r=some (W,X)):
  Calls Tryz.prog 186 #[.agg #[.int .i64 m,.slice G b.length q],.int .i64 r] w fun e w'=>e= .returned (.tuple #[.int .i64 W,.int .i64 X])/\Below w.heap.size w w':=by
 have b':=Tryz.underlying24;have ca:=Tryz.underlying83;have O:=zA ar;have aB:=zA av;clear ar av;have a:=zA (aq w.heap.size w);unfold cF.f at h;have H:=h;clear h;obtain⟨Q,ad⟩:∃y_:List Int,y_=(([r]:List Int)):=⟨_,rfl⟩;replace H:((dq.f k m b Q).bind fun t227=>(if t227=0 then(cF.l0 k r 0 b (b.length:Int) 0) else(some (0,t227))))=some (W,X):=zh ad H;have Y:=zA ad;clear ad;obtain⟨t227,A3,H⟩:=zo H;by_cases c4:t227=0
 ·rw[if_pos c4] at H
  obtain⟨aL,aO⟩:=bH c4;clear c4;have E:=zA H;clear H;go_enter Tryz.func186,Tryz.ntmps186
  go_wp2_with (first|((with_reducible refine aJ (N:=2) rfl ?_);refine zX 2 #[.int .i64 m,.slice G b.length q] 24 ?_;intro n hg w5 p hb;have i:=zA (p);have a0:=zG a hg;have a2:=zG a hg;replace a:=zS a hb;clear hb p hg;obtain⟨a3,a4,a5,a9⟩:=ax i)|((with_reducible refine aJ (N:=12) rfl ?_);refine Kd.fh (Kd.int .i64) _ 3 ?hg (N:=12) ?hd (xs:=([r]:List Int)) (inner:=[.int .i64 r]) (ok:=fun _=>True) (okp:=fun _=>True) ?hr ?hp (fun _ hk=>hk) trivial (aq _ _) (aI _) (by simp) ?_;(case hd=>rfl);(case hg=>rfl);(case hr=>first|(go_simp;done)|(go_simp;rfl));(case hp=>exact(aT.one (show Kd.M (Kd.int .i64) _ _ _ r [.int .i64 r] from rfl) (aT.none _ _)));intro bd w7 R hb ag ak;clear ag ak;(first|rw[<-Y.out] at R|(simp only[Int.reduceToNat] at R;rw[<-Y.out] at R));have z:=zA (Kd.bj R (bu zB));replace i:=zb i hb;replace a:=zS a hb;clear hb R;obtain⟨be,bf,bg⟩:=Kd.bm z.out;subst bg)|((with_reducible refine aG (f:=203) rfl ?_);refine zL (some 13) Tryz.func203 #[.agg #[.int .i64 m,.slice G b.length q],.slice be Q.length bf] ?_;(with_reducible refine(dq.calls k m _ _ b _ _ Q t227 _ ?ah ?ai ?aW ?aX A3.out).mono ?_);(case ah=>exact Kd.aw O.out zB);(case ai=>exact aB.out);(case aW=>exact zC (Kd.aQ z.out).2.2);(case aX=>exact(Kd.aQ z.out).2.1);rintro e cd ⟨rfl,hb⟩;refine⟨_,rfl,?_⟩;replace z:=bz z hb;replace i:=zb i hb;replace a:=zS a hb;(try clear hb);obtain⟨bi,bk,bn,bo⟩:=ax i))
  go_loopg [7,20] k (fun kq v7 v20 w'=>∃(I:Int) (j:Int),v7= .int .i64 I/\v20= .int .i64 j/\Aside0 (cF.l0 kq r I b (b.length:Int) j=some (W,X))/\Aside0 (kq<=k)/\Aside0 (w'.heap[n]? =some (.cells #[.int .i64 m,(.slice G b.length q)] 24 (0,0)))/\Aside0 (Below w.heap.size w w'))
  case atStart=>exact⟨(0),(0),zT,zT,E,⟨aI _⟩,⟨zK i⟩,⟨zB⟩⟩
  case round=>
   clear E;clear aL aO bi bk a3 a4 bn bo a5 a9;obtain⟨I,j,rfl,rfl,HA,F,i,a⟩:=hrel;cases gk with
   |zero=>exact absurd HA.out (by simp[cF.l0])
   |succ Z=>
    have H:=HA.out;clear HA;simp only[cF.l0] at H;by_cases P:j<(b.length:Int)
    ·rw[if_pos P] at H
     have bw:=az P;clear P;by_cases aa:0<=j
     ·rw[if_pos aa] at H
      have ce:=az aa;clear aa;by_cases ab:j<(b.length:Int)
      ·rw[if_pos ab] at H
       have cf:=az ab;clear ab;by_cases S:((ae b j).f0)=((ae b j).f1)
       ·rw[if_pos S] at H
        obtain⟨bx,b0⟩:=bH S;clear S;have E:=zA H;clear H;have s:0<=(j:Int):=ay ‹_›;have u:j<(b.length:Int):=ay ‹_›;obtain⟨B,J,v,x,y⟩:=dE O.out j s u;cases J;replace v:=(a.out.cell (a8 w _ v)).trans v;replace x:=(a.out.cell (a8 w _ x)).trans x;replace y:=(a.out.cell (a8 w _ y)).trans y;replace s:=eq_true s;replace u:=eq_true u;go_wp2_with (first|((with_reducible refine aJ (N:=9) rfl ?_);refine zX 9 #[.int .i64 0,.int .i64 0,.int .i64 0] 83 ?_;intro D hg ch p hb;have K:=zA (p);have an:=zG a hg;have ap:=zG a hg;replace a:=zS a hb;have l:=zA ((by rw[hg];exact Nat.ne_of_lt (aA (g:=n) (o:=.cells #[.int .i64 m,.slice (some B) b.length q] 24 (0,0)) (zK i)):n≠D));have L:=zA ((by rw[hg];exact Nat.ne_of_gt (aA (g:=n) (o:=.cells #[.int .i64 m,.slice (some B) b.length q] 24 (0,0)) (zK i)):D≠n));replace i:=zb i hb;clear hb p hg;have ci:=L.out;have cj:=l.out;obtain⟨ck,cl,cn,co,cq,cr⟩:=cw K))
        go_roundg Z
        case measure=>have:=F.out;omega
        case rel=>exact⟨(I),(wrap64 (j+1)),zT,zT,E,⟨by have:=F.out;omega⟩,⟨by refine zk ?_;refine aD ?_ l.out _;refine zk ?_;refine aD ?_ l.out _;refine zk ?_;refine aD ?_ l.out _;exact zK i⟩,⟨zB⟩⟩
       ·rw[if_neg S] at H
        obtain⟨bx,b0⟩:=bI S;by_cases T:((ae b j).f0)=r
        ·rw[if_pos T] at H
         obtain⟨b1,b2⟩:=bH T;clear T;have E:=zA H;clear H;have s:0<=(j:Int):=ay ‹_›;have u:j<(b.length:Int):=ay ‹_›;obtain⟨B,J,v,x,y⟩:=dE O.out j s u;cases J;replace v:=(a.out.cell (a8 w _ v)).trans v;replace x:=(a.out.cell (a8 w _ x)).trans x;replace y:=(a.out.cell (a8 w _ y)).trans y;replace s:=eq_true s;replace u:=eq_true u;go_wp2_with (first|((with_reducible refine aJ (N:=9) rfl ?_);refine zX 9 #[.int .i64 0,.int .i64 0,.int .i64 0] 83 ?_;intro D hg cs p hb;have K:=zA (p);have an:=zG a hg;have ap:=zG a hg;replace a:=zS a hb;have l:=zA ((by rw[hg];exact Nat.ne_of_lt (aA (g:=n) (o:=.cells #[.int .i64 m,.slice (some B) b.length q] 24 (0,0)) (zK i)):n≠D));have L:=zA ((by rw[hg];exact Nat.ne_of_gt (aA (g:=n) (o:=.cells #[.int .i64 m,.slice (some B) b.length q] 24 (0,0)) (zK i)):D≠n));replace i:=zb i hb;clear hb p hg;have cv:=L.out;have cx:=l.out;obtain⟨c0,c1,c2,c3,c5,c6⟩:=cw K))
         go_roundg Z
         case measure=>have:=F.out;omega
         case rel=>exact⟨(wrap64 (I+((ae b j).f2))),(wrap64 (j+1)),zT,zT,E,⟨by have:=F.out;omega⟩,⟨by refine zk ?_;refine aD ?_ l.out _;refine zk ?_;refine aD ?_ l.out _;refine zk ?_;refine aD ?_ l.out _;exact zK i⟩,⟨zB⟩⟩
        ·rw[if_neg T] at H
         obtain⟨b1,b2⟩:=bI T;by_cases U:((ae b j).f1)=r
         ·rw[if_pos U] at H
          obtain⟨b3,b4⟩:=bH U;clear U;have E:=zA H;clear H;have s:0<=(j:Int):=ay ‹_›;have u:j<(b.length:Int):=ay ‹_›;obtain⟨B,J,v,x,y⟩:=dE O.out j s u;cases J;replace v:=(a.out.cell (a8 w _ v)).trans v;replace x:=(a.out.cell (a8 w _ x)).trans x;replace y:=(a.out.cell (a8 w _ y)).trans y;replace s:=eq_true s;replace u:=eq_true u;go_wp2_with (first|((with_reducible refine aJ (N:=9) rfl ?_);refine zX 9 #[.int .i64 0,.int .i64 0,.int .i64 0] 83 ?_;intro D hg c7 p hb;have K:=zA (p);have an:=zG a hg;have ap:=zG a hg;replace a:=zS a hb;have l:=zA ((by rw[hg];exact Nat.ne_of_lt (aA (g:=n) (o:=.cells #[.int .i64 m,.slice (some B) b.length q] 24 (0,0)) (zK i)):n≠D));have L:=zA ((by rw[hg];exact Nat.ne_of_gt (aA (g:=n) (o:=.cells #[.int .i64 m,.slice (some B) b.length q] 24 (0,0)) (zK i)):D≠n));replace i:=zb i hb;clear hb p hg;have c8:=L.out;have c9:=l.out;obtain⟨c',dd,dk,dl,ds,dv⟩:=cw K))
          go_roundg Z
          case measure=>have:=F.out;omega
          case rel=>exact⟨(wrap64 (I+((ae b j).f2))),(wrap64 (j+1)),zT,zT,E,⟨by have:=F.out;omega⟩,⟨by refine zk ?_;refine aD ?_ l.out _;refine zk ?_;refine aD ?_ l.out _;refine zk ?_;refine aD ?_ l.out _;exact zK i⟩,⟨zB⟩⟩
         ·rw[if_neg U] at H
          obtain⟨b3,b4⟩:=bI U;have E:=zA H;clear H;have s:0<=(j:Int):=ay ‹_›;have u:j<(b.length:Int):=ay ‹_›;obtain⟨B,J,v,x,y⟩:=dE O.out j s u;cases J;replace v:=(a.out.cell (a8 w _ v)).trans v;replace x:=(a.out.cell (a8 w _ x)).trans x;replace y:=(a.out.cell (a8 w _ y)).trans y;replace s:=eq_true s;replace u:=eq_true u;go_wp2_with (first|((with_reducible refine aJ (N:=9) rfl ?_);refine zX 9 #[.int .i64 0,.int .i64 0,.int .i64 0] 83 ?_;intro D hg d0 p hb;have K:=zA (p);have an:=zG a hg;have ap:=zG a hg;replace a:=zS a hb;have l:=zA ((by rw[hg];exact Nat.ne_of_lt (aA (g:=n) (o:=.cells #[.int .i64 m,.slice (some B) b.length q] 24 (0,0)) (zK i)):n≠D));have L:=zA ((by rw[hg];exact Nat.ne_of_gt (aA (g:=n) (o:=.cells #[.int .i64 m,.slice (some B) b.length q] 24 (0,0)) (zK i)):D≠n));replace i:=zb i hb;clear hb p hg;have d1:=L.out;have d2:=l.out;obtain⟨d3,d4,d5,d6,d7,d8⟩:=cw K))
          go_roundg Z
          case measure=>have:=F.out;omega
          case rel=>exact⟨(I),(wrap64 (j+1)),zT,zT,E,⟨by have:=F.out;omega⟩,⟨by refine zk ?_;refine aD ?_ l.out _;refine zk ?_;refine aD ?_ l.out _;refine zk ?_;refine aD ?_ l.out _;exact zK i⟩,⟨zB⟩⟩
      ·rw[if_neg ab] at H
       exact absurd H (by simp)
     ·rw[if_neg aa] at H
      exact absurd H (by simp)
    ·rw[if_neg P] at H
     have bw:=a6 P;clear P;simp only[Option.some.injEq,Prod.mk.injEq] at H;obtain⟨rfl,rfl⟩:=H;go_wp2;go_ret2;exact⟨zE,zB⟩
 ·rw[if_neg c4] at H
  obtain⟨aL,aO⟩:=bI c4;simp only[Option.some.injEq,Prod.mk.injEq] at H;obtain⟨rfl,rfl⟩:=H;go_enter Tryz.func186,Tryz.ntmps186
  go_wp2_with (first|((with_reducible refine aJ (N:=2) rfl ?_);refine zX 2 #[.int .i64 m,.slice G b.length q] 24 ?_;intro n hg d9 p hb;have i:=zA (p);have a0:=zG a hg;have a2:=zG a hg;replace a:=zS a hb;clear hb p hg;obtain⟨ea,eb,ed,eg⟩:=ax i)|((with_reducible refine aJ (N:=12) rfl ?_);refine Kd.fh (Kd.int .i64) _ 3 ?hg (N:=12) ?hd (xs:=([r]:List Int)) (inner:=[.int .i64 r]) (ok:=fun _=>True) (okp:=fun _=>True) ?hr ?hp (fun _ hk=>hk) trivial (aq _ _) (aI _) (by simp) ?_;(case hd=>rfl);(case hg=>rfl);(case hr=>first|(go_simp;done)|(go_simp;rfl));(case hp=>exact(aT.one (show Kd.M (Kd.int .i64) _ _ _ r [.int .i64 r] from rfl) (aT.none _ _)));intro bd ek V hb ag ak;clear ag ak;(first|rw[<-Y.out] at V|(simp only[Int.reduceToNat] at V;rw[<-Y.out] at V));have z:=zA (Kd.bj V (bu zB));replace i:=zb i hb;replace a:=zS a hb;clear hb V;obtain⟨b5,b6,b_⟩:=Kd.bm z.out;subst b_)|((with_reducible refine aG (f:=203) rfl ?_);refine zL (some 13) Tryz.func203 #[.agg #[.int .i64 m,.slice G b.length q],.slice b5 Q.length b6] ?_;(with_reducible refine(dq.calls k m _ _ b _ _ Q t227 _ ?ah ?ai ?aW ?aX A3.out).mono ?_);(case ah=>exact Kd.aw O.out zB);(case ai=>exact aB.out);(case aW=>exact zC (Kd.aQ z.out).2.2);(case aX=>exact(Kd.aQ z.out).2.1);rintro e el ⟨rfl,hb⟩;refine⟨_,rfl,?_⟩;replace z:=bz z hb;replace i:=zb i hb;replace a:=zS a hb;(try clear hb)))
  go_ret2;exact⟨zE,zB⟩
section
attribute [local go_sem] Oper.semAt_some
theorem xN (N:Int) (ev:Value) (w:World):Calls Tryz.prog 143 #[.agg #[.int .i64 N,ev]] w fun e w'=>e= .returned (.func (.func 185) #[] #[.pointer (some ⟨w.heap.size,0,none⟩)])/\w'=w.alloc (.cells #[.int .i64 N,ev] 24):=by
 go_enter Tryz.func143,Tryz.ntmps143
 go_wp2;go_ret;exact⟨rfl,rfl⟩
def lM (k:Nat) (N:Int) (E:List S83):Nat->Option (List Int)
 |0=>some []
 |v+1=>(lM k N E v).bind fun l=>(cF.f k N E (v:Nat)).bind fun p=>some (l++[p.1])
theorem xO (k:Nat) (N:Int) (E:List S83):∀v,al (lM k N E v) (lM (k+1) N E v)
 |0=>al.refl _
 |v+1=>al.bind (xO k N E v) (fun _=>al.bind (cF.mono _ _ _ _) (fun _=>al.refl _))
theorem xP {k:Nat} {N:Int} {E:List S83}:∀{v:Nat} {l:List Int},lM k N E v=some l->l.length=v/\∀u:Nat,u<v->∃e,cF.f k N E (u:Nat)=some (rd l u,e)
 |0,l,h=>by injection h with h;subst h;exact⟨rfl,fun u hu=>by omega⟩
 |v+1,l,h=>by
  obtain⟨l',h1,b⟩:=Option.bind_eq_some_iff.1 h;obtain⟨p,g,a⟩:=Option.bind_eq_some_iff.1 b;injection a with a
  subst a;obtain⟨i1,i2⟩:=xP h1;refine⟨by simp[i1],fun u hu=>?_⟩;by_cases e:u=v
  ·subst e
   refine⟨p.2,?_⟩;rw[g,show rd (l'++[p.1]) (u:Int)=p.1 by simp[rd,a7,<-i1]]
  ·obtain⟨e',i⟩:=i2 u (by omega)
   refine⟨e',?_⟩;rw[i,show rd (l'++[p.1]) (u:Int)=rd l' u by simp[rd,a7,List.getElem?_append_left (show u<l'.length by omega)]]
def gK (L:List Int) (v:Nat):List (Int×Int):=(List.range v).map fun u:Nat=>((u:Int),rd L u)
theorem xQ (L:List Int) (v:Nat):gK L (v+1)=gK L v++[((v:Int),rd L v)]:=by simp[gK,List.range_succ]
def Ge (base a:Nat) (X Y:World):Prop:=(base<=X.heap.size->Below base X Y)/\(a<X.heap.size->Y.heap[a]? =X.heap[a]?)
theorem xR (a k n:Nat) (A0:Option Addr) (c0:Nat) (E:List S83) (L:List Int) (w0 W:World) (N:Kd.C aN w0 A0 E.length E) (O:E.length<=c0) (hn:n<=1000) (p:∀u:Nat,u<n->∃e,cF.f k n E (u:Nat)=some (rd L u,e)) (q:Below w0.heap.size w0 W)
  (h:W.heap[a]? =some (.cells #[.int .i64 n,.slice A0 E.length c0] 24 (0,0))):
  iV (σ:=Unit) Fence.wide 9 Tryz.prog 185 #[.pointer (some ⟨a,0,none⟩)] (fun x:Int×Int=>#[.int .i64 x.1,.int .i64 x.2]) (fun _ W W1=>W1=W) (fun _ A B=>Below A.heap.size A B) (fun _ x A B=>(∃v:Nat,v<n/\x=((v:Int),rd L v))/\Below A.heap.size A B)
   (fun _ X Y=>Ge w0.heap.size a X Y)
   (fun _ xs W'=>xs=gK L n) (fun _ _ _=>True) (fun pre=>pre.length<=n) W:=by
 intro lp J Jx r s w y;have P:=zA r;have an:=zA s;have Q:=zA y;have R:=zA p;have z:=w () W rfl;clear r s w y p;have hu:=Tryz.underlying24;refine callsIn_of_wp Tryz.func185 rfl trivial ?_ rfl;simp only[Tryz.ntmps185,List.size_toArray,List.length_cons,List.length_nil,Nat.reduceAdd,Nat.reduceSub,Array.replicate_succ,Array.replicate_zero,List.push_toArray,List.append_toArray,List.nil_append,List.cons_append];have b0:W.cell? ⟨a,0,none⟩=some (.int .i64 n):=(aj h 0).trans rfl;have b:=zA h;clear h;gi_wp2;clear b0;gi_loopg [8] (n) (fun S i wr=>∃v:Nat,i= .int .i64 v/\v<=n/\Aside0 (J () (gK L v) wr)/\Aside0 (wr.heap[a]? =some (.cells #[.int .i64 n,.slice A0 E.length c0] 24 (0,0)))/\Aside0 (Below w0.heap.size w0 wr)/\Aside0 (S=n-v))
 case atStart=>exact⟨0,rfl,Nat.zero_le _,⟨z⟩,b,⟨q⟩,⟨rfl⟩⟩
 case round=>
  clear z q b;obtain⟨v,rfl,hv,j,b,l,T⟩:=hrel;by_cases D:v<n
  ·have ar:(0:Int)<=(v:Int):=by omega
   have av:(v:Int)<(n:Int):=by omega
   obtain⟨ev,F⟩:=R.out v D;have U:=zA F;have V:=zA (xQ L v);have b0:wr.cell? ⟨a,0,none⟩=some (.int .i64 n):=(aj b.out 0).trans rfl;have b1:wr.cell? ⟨a,1,none⟩=some (.slice A0 E.length c0):=(aj b.out 1).trans rfl;clear F;gi_wp2_with (refine⟨trivial,?_⟩;gi_at_call 186;refine(callsIn_wide.2 (cF.calls k n A0 c0 E v (rd L v) ev _ (Kd.aw N l.out) O U.out)).mono ?_;rintro e w3 ⟨rfl,g⟩;have Z:=zA (P.out () _ _ _ j.out g);have G:=zA (aZ l.out g);have H:=zA (aE b.out g);obtain⟨fn,tmps,aB,aF,m,I⟩:=Q.out () (gK L v) ((v:Int),rd L v) _ _ Z.out ⟨⟨v,D,rfl⟩,aq _ _⟩ (by show (gK L v).length<=n;simp[gK];omega);have aa:=zA I;simp only at m;clear I g j l b b0 b1)
   refine aa.out.mono ?_;rintro e W3 (⟨rfl,K,o⟩|⟨rfl,M⟩)
   ·have ab:=zA K
    have ad:=zA ((o.2 (aA H.out)).trans H.out);have ag:=zA (G.out.trans (o.1 G.out.size));clear K o m;gi_wp2;gi_roundg (n- (v+1))
    case measure=>rw[T.out];omega
    case rel=>exact⟨v+1,by go_num,by omega,⟨by rw[V.out];exact ab.out⟩,ad,ag,⟨rfl⟩⟩
   ·have ak:=zA M
    clear M m;gi_wp2;refine bodyPost_ret (results_none rfl _ _ _) rfl ?_;exact⟨⟨_,rfl⟩,.inr ⟨(),_,trivial,ak.out⟩⟩
  ·obtain rfl:n=v:=by omega
   gi_wp2;go_end0;exact⟨⟨_,rfl⟩,.inl ⟨(),_,rfl,j.out⟩⟩
def j8 (L:List Int) (n v:Nat):List Int:=(List.range n).map fun u:Nat=>if u<v then wrap64 (rd L u-2) else 0
theorem Gf {L:List Int} {n v:Nat} (a:v<n):(j8 L n v).set v (wrap64 (rd L v-2))=j8 L n (v+1):=by
 unfold j8;refine List.ext_getElem (by simp) fun i h1 b=>?_
 rw[List.getElem_set];simp only[List.getElem_map,List.getElem_range];by_cases e:v=i
 ·subst e;simp
 ·rw[if_neg e]
  by_cases h:i<v
  ·rw[if_pos h,if_pos (by omega)]
  ·rw[if_neg h,if_neg (by omega)]
def jh (n:Nat) (pre:List (Int×Int)):List Int:=pre.foldl (fun l x=>l.set x.1.toNat (wrap64 (x.2-2))) (List.replicate n 0)
theorem xS (n:Nat) (pre:List (Int×Int)) (x:Int×Int):jh n (pre++[x])=(jh n pre).set x.1.toNat (wrap64 (x.2-2)):=by simp[jh,List.foldl_append]
theorem Gg (n:Nat) (pre:List (Int×Int)):(jh n pre).length=n:=by
 unfold jh;have:∀(pre:List (Int×Int)) (l:List Int),(pre.foldl (fun l x=>l.set x.1.toNat (wrap64 (x.2-2))) l).length=l.length:=by
  intro pre;induction pre with
  |nil=>intro l;rfl
  |cons x pre a=>intro l;rw[List.foldl_cons,a];simp
 rw[this];simp
theorem xT (L:List Int) (n:Nat):∀v,v<=n->jh n (gK L v)=j8 L n v
 |0,_=>by
  unfold j8;refine List.ext_getElem (by simp[jh,gK]) fun i h1 a=>?_
  simp[jh,gK]
 |v+1,h=>by
  rw[xQ,xS,xT L n v (by omega)];simp only[aM];exact Gf (by omega)
def ji.f (k:Nat) (N:Int) (E:List S83):Option (List Int):=if 1<=N/\N<=1000 then(lM k N E N.toNat).bind fun l=>some (j8 l N.toNat N.toNat) else none
theorem ji.mono:∀a b k,al (ji.f k a b) (ji.f (k+1) a b):=by
 intro N E k;unfold ji.f;exact al.ite (al.bind (xO _ _ _ _) (fun _=>al.refl _)) (al.refl _)
theorem Gh (k n:Nat) (A0:Option Addr) (c0:Nat) (E:List S83) (L:List Int) (w:World) (ad:Kd.C aN w A0 E.length E) (ag:E.length<=c0) (a5:1<=n) (hn:n<=1000) (J:∀u:Nat,u<n->∃e,cF.f k n E (u:Nat)=some (rd L u,e)):
  Calls Tryz.prog 89 #[.agg #[.int .i64 n,.slice A0 E.length c0]] w fun e w'=>∃go co,e= .returned (.slice (some ⟨go,0,none⟩) n co)/\(Kd.int .i64).R 3 w' w.heap.size (fun _=>True) (.slice (some ⟨go,0,none⟩) n co) (j8 L n n)/\Below w.heap.size w w':=by
 have hu:=Tryz.underlying24;have HL:=zA J;have a9:(0:Int)<=(n:Int):=by omega
 obtain⟨zs,am,M⟩:=mz 26 Tryz.underlying26 n hn;have N:=zA M;clear J M;refine(callsIn_wide (n:=10)).1 ?_;refine callsIn_of_wp_marks Tryz.func89 rfl trivial ?_ rfl;simp only[Tryz.ntmps89,List.size_toArray,List.length_cons,List.length_nil,Nat.reduceAdd,Nat.reduceSub,Array.replicate_succ,Array.replicate_zero,List.push_toArray,List.append_toArray,List.nil_append,List.cons_append];gi_wp2_with (first|(refine⟨trivial,?_⟩;gi_at_call 143;refine(callsIn_wide.2 (xN n _ _)).mono ?_;rintro e w3 ⟨rfl,rfl⟩))
 have q:=bc ((w.alloc (.cells #[.int .i64 n,.slice A0 E.length c0] 24)).alloc (.cells zs 3)) (.cells #[.slice (some ⟨w.heap.size+1,0,none⟩) n n] 26);have r:=bc (((w.alloc (.cells #[.int .i64 n,.slice A0 E.length c0] 24)).alloc (.cells zs 3)).alloc (.cells #[.slice (some ⟨w.heap.size+1,0,none⟩) n n] 26)) (.cells #[.int .i64 n,.slice A0 E.length c0] 24);have hS:=N.out (w.alloc (.cells #[.int .i64 n,.slice A0 E.length c0] 24)) (fun _=>True) trivial;simp only[World.size_alloc] at q r hS;have O:=zA (au q (.cells #[.int .i64 n,.slice A0 E.length c0] 24));have P:=zA r;have y:=zA (ao (ao (ao (ao (aq w.heap.size w) (.cells #[.int .i64 n,.slice A0 E.length c0] 24)) (.cells zs 3)) (.cells #[.slice (some ⟨w.heap.size+1,0,none⟩) n n] 26)) (.cells #[.int .i64 n,.slice A0 E.length c0] 24));have Q:Aside0 ((Kd.int .i64).R 3 ((((w.alloc (.cells #[.int .i64 n,.slice A0 E.length c0] 24)).alloc (.cells zs 3)).alloc (.cells #[.slice (some ⟨w.heap.size+1,0,none⟩) n n] 26)).alloc (.cells #[.int .i64 n,.slice A0 E.length c0] 24)) w.heap.size (fun _=>True) (.slice (some ⟨w.heap.size+1,0,none⟩) n n) (jh n [])):=⟨Kd.bj (Kd.aR (Kd.aR hS _) _) (by omega)⟩;have an:=Nat.le_of_eq (show ((((w.alloc (.cells #[.int .i64 n,.slice A0 E.length c0] 24)).alloc (.cells zs 3)).alloc (.cells #[.slice (some ⟨w.heap.size+1,0,none⟩) n n] 26)).alloc (.cells #[.int .i64 n,.slice A0 E.length c0] 24)).heap.size=w.heap.size+4 by simp);have ap:=Nat.le_of_eq (show w.heap.size+4=((((w.alloc (.cells #[.int .i64 n,.slice A0 E.length c0] 24)).alloc (.cells zs 3)).alloc (.cells #[.slice (some ⟨w.heap.size+1,0,none⟩) n n] 26)).alloc (.cells #[.int .i64 n,.slice A0 E.length c0] 24)).heap.size by simp);clear q r hS N am;generalize (((w.alloc (.cells #[.int .i64 n,.slice A0 E.length c0] 24)).alloc (.cells zs 3)).alloc (.cells #[.slice (some ⟨w.heap.size+1,0,none⟩) n n] 26)).alloc (.cells #[.int .i64 n,.slice A0 E.length c0] 24)=b at O P y Q an ap⊢;refine iz (σ:=Unit) (α:=Int×Int) (F:=Fence.wide) (n:=10) rfl (by decide) (gf:=185) (lb:=#[.pointer (some ⟨w.heap.size+1+1+1,0,none⟩)]) rfl trivial (enters_of Tryz.func185 (by kernel_rfl) rfl)
  (fun o=>xR (w.heap.size+1+1+1) k n A0 c0 E L w _ ad ag hn HL.out (ao (ao y.out _) _) (au (au P.out _) _)) (fun _=>rfl)
  (fun _=>True) ?en ?st ?ar
  (fun _ pre W=>b.heap.size<=W.heap.size/\(Kd.int .i64).R 3 W w.heap.size (fun _=>True) (.slice (some ⟨w.heap.size+1,0,none⟩) n n) (jh n pre)/\W.heap[w.heap.size+1+1]? =some (.cells #[.slice (some ⟨w.heap.size+1,0,none⟩) n n] 26 (0,0))/\Below w.heap.size w W) (fun _ _ _ _=>False)
  ?is (fun _ _ _ _ _ _ h _=>h) ?ib (fun _ _ _ _ _ h _=>h) ?kt ?h0 ?a1 ?assign ?body ?done (fun _ _ _ _ _ _ _ h=>h.elim)
 case assign=>
  intro l x W K hK;gi_wp2;exact hK
 case en=>
  intro o s W1 h;exact⟨trivial,by rw[h];exact ct.refl _ _⟩
 case st=>intro s A B _ h;exact cZ h
 case ar=>intro s x A B _ h;exact cZ h.2
 case is=>
  rintro s pre A B _ ⟨g,h1,G,H⟩ j;exact⟨Nat.le_trans g j.size,Kd.cT h1 j,aE G j,aZ H j⟩
 case ib=>
  rintro s pre A B ⟨g,h1,G,H⟩ hb;exact⟨by rw[hb.size];exact g,df h1 hb,hb.cells G,H.trans (hb.below w.heap.size (by omega))⟩
 case kt=>
  intro s A B C D m S T;refine⟨fun aY=>((m.below w.heap.size (by omega)).trans (S.1 (by rw[m.size];exact aY))).trans (T.below w.heap.size (by omega)),fun aB=>?_⟩;have U:w.heap.size+1+1+1≠b.heap.size+1:=by omega
  exact(T.heap _ U).trans ((S.2 (by rw[m.size];exact aB)).trans (m.heap _ U))
 case h0=>
  rintro o s W1 rfl;exact⟨by simp;omega,Kd.aR (Kd.aR Q.out _) _,au (au O.out _) _,ao (ao y.out _) _⟩
 case body=>
  rintro l s' pre ⟨xv,V⟩ Wb Wc W _ ⟨g,i1,i2,i3⟩ ⟨⟨v,bg,hx⟩,i⟩ aL a;injection hx with aO aP
  subst aO;have X:=zA (df (Kd.cT i1 i) a);have Y:=zA (a.cells (aE i2 i));have I3:=zA ((aZ i3 i).trans (a.below w.heap.size (by omega)));have a0:b.heap.size<=W.heap.size:=by have:=a.size;have:=i.size;omega
  have a2:=zA (xS n pre ((v:Int),V));have bi:=zA (Gg n pre);clear i1 i2 i3 i a aL g aP;have z1:=cY Y.out;obtain⟨z2,z3⟩:=Kd.b7 0 X.out (v:Int) (by omega) (by omega);rw[aM] at z2 z3;generalize bW 0 (jh n pre) (v:Int)=z at z2;replace z2:W.cell? ⟨w.heap.size+1,v,none⟩=some (.int .i64 z):=z2;have bk:(0:Int)<=(v:Int):=by omega
  have bn:(v:Int)<(n:Int):=by omega
  have I:=Kd.dt X.out (v:Int) (wrap64 (V-2));rw[aM] at I;have a3:=zA I.1;clear I;gi_wp2;refine⟨eO _ _ (by omega),⟨fun _=>Below.setCell (p:=⟨w.heap.size+1,v,none⟩) (aq _ _) (by show w.heap.size<=w.heap.size+1;omega) _,fun _=>Below.heap_setCell _ _ _ _ (by show w.heap.size+1+1+1≠w.heap.size+1;omega)⟩,by simpa using a0,?_,aD Y.out (by show w.heap.size+1+1≠w.heap.size+1;omega) _,Below.setCell (p:=⟨w.heap.size+1,v,none⟩) I3.out (by show w.heap.size<=w.heap.size+1;omega) _⟩;rw[a2.out];exact a3.out
 case done=>
  rintro s' xs W W' _ rfl ⟨g,i1,i2,i3⟩ a Z;have b1:=zA (df i1 a);have b2:=zA (a.cells i2);have b3:=zA (i3.trans (a.below w.heap.size (by omega)));have aa:=zA Z;clear i1 i2 i3 Z;have hc:=cY b2.out;gi_wp2_with fail
  have ab:Bk b.heap.size W' (W'.putObj b.heap.size (.deferred none)):=⟨_,_,aa.out,rfl,rfl⟩;have h1:=b1.out;rw[xT L n n (aI _)] at h1;exact iW (D:=b.heap.size) rfl aa.out (results_tmp rfl _ _ _) ⟨_,_,rfl,df h1 ab,b3.out.trans (ab.below w.heap.size (by omega))⟩
theorem ji.calls (k:Nat) (b:Int) (i:Option Addr) (j:Nat) (a:List (S83)) (r:List Int) (w:World) (o:Kd.C aN w i a.length a) (p:a.length<=j) (h:ji.f k b a=some r):
  Calls Tryz.prog 89 #[.agg #[.int .i64 b,.slice i a.length j]] w fun e w'=>∃l:Value,e= .returned (l)/\Kd.R (Kd.int .i64) 3 w' w.heap.size (fun _=>True) l r/\Below w.heap.size w w':=by
 unfold ji.f at h;by_cases m:1<=b/\b<=1000
 ·rw[if_pos m] at h
  obtain⟨n,rfl⟩:=Int.eq_ofNat_of_zero_le (show 0<=b by omega);obtain⟨L,h1,g⟩:=Option.bind_eq_some_iff.1 h;simp only[aM] at h1 g;injection g with g
  subst g;refine(Gh k n i j a L w o p (by omega) (by omega) (xP h1).2).mono ?_;rintro e w' ⟨go,co,rfl,q,s⟩;exact⟨_,rfl,q,s⟩
 ·rw[if_neg m] at h;cases h
end
section
attribute [local go_sem] Oper.semAt_some
def eU (d:List Int):Nat->Int
 |0=>0
 |k+1=>eU d k+rd d k
theorem sg {d:List Int} {n:Nat} (hd:∀v:Nat,v<n-> -1048576<=rd d v/\rd d v<=1048576):∀k,k<=n-> -(k*1048576)<=eU d k/\eU d k<=k*1048576
 |0,_=>by simp[eU]
 |k+1,h=>by
  have h1:=sg hd k (by omega);have a:=hd k (by omega);unfold eU;omega
theorem Gi (A0:Option Addr) (c0 n:Nat) (d:List Int) (w:World) (b:Kd.C (Kd.int .i64) w A0 d.length d) (p:d.length<=c0) (a:d.length=n) (K:1<=n) (hn:n<=12) (hd:∀v:Nat,v<n-> -1048576<=rd d v/\rd d v<=1048576):
  Calls Tryz.prog 148 #[.slice A0 n c0] w fun e w'=>e= .returned (.tuple #[.int .i64 (eU d n),.int .i64 0])/\Below w.heap.size w w':=by
 obtain⟨k,hk⟩:=(EZ d (by omega)).get;rw[show rX d=0 from rV.2 ⟨by omega,by omega,rfl,fun v l=>hd v (by omega)⟩] at hk;have q:=zA hk;have g:=r6 w 26 b p;rw[a] at g;have r:=zA g;have s:=zA b;have u:=zA hd;have z:=zA a;have B:=zA (sg hd);clear hk b hd g a;go_enter Tryz.func148,Tryz.ntmps148
 go_wp2_with (go_at_call 118;refine(bN.calls k (some ⟨w.heap.size,0,none⟩) 1 [d] 0 _ r.out (by simp) q.out).mono ?_;rintro e w1 ⟨rfl,⟨m,rfl⟩⟩)
 have h:=zA (bY (ao (aq w.heap.size w) (.cells #[.slice A0 n c0] 26)) m);generalize (w.alloc (.cells #[.slice A0 n c0] 26)).drewN m=W1 at h⊢;go_loopg [5,16] (n) (fun D E F wr=>∃v:Nat,v<=n/\F= .int .i64 v/\E= .int .i64 (eU d v)/\Aside0 (Below w.heap.size w wr)/\Aside0 (D=n-v))
 case atStart=>exact⟨0,by omega,rfl,rfl,h,⟨rfl⟩⟩
 case round=>
  clear h;obtain⟨v,l,rfl,rfl,i,G⟩:=hrel;by_cases H:v<n
  ·have L:(0:Int)<=(v:Int):=by omega
   have M:(v:Int)<(n:Int):=by omega
   have a:=z.out;obtain⟨N,I,o⟩:=Kd.bU (Kd.aw s.out i.out) (v:Int) (by omega) (by omega);subst I;rw[aM] at o;have h1:=u.out v H;have J:=B.out v l;have j:=zA (show eU d (v+1)=eU d v+rd d v from rfl);clear a;generalize rd d v=x at o h1 j;generalize eU d v=y at J j⊢;go_wp2;go_roundg (n- (v+1))
   case measure=>rw[G.out];omega
   case rel=>exact⟨v+1,by omega,by go_num,by rw[j.out],i,⟨rfl⟩⟩
  ·obtain rfl:n=v:=by omega
   go_wp2;go_ret2;exact⟨rfl,i.out⟩
end
end Go.Proofs.YtffdiakgjakngaaGreat.P
namespace Go.Proofs.YtffdiakgjakngaaGreat.P
open Go.RowKit Go.Maps Go.Proofs.YtffdiakgjakngaaGreatW.PrintWords Go.Proofs.YtffdiakgjakngaaGreatW.PrintLast Go.Proofs.YtffdiakgjakngaaGreatW.PrintMore
set_option linter.unusedVariables false
set_option linter.unusedSimpArgs false
set_option maxHeartbeats 8000000
set_option maxRecDepth 100000
section
theorem xU {α:Type} (f:α->α):∀(l:List α) (j:Nat) (e:α),l[j]? =some e->l.modify j f=l.set j (f e)
 |[],j,e,h=>by simp at h
 |x::l,0,e,h=>by
  obtain rfl:x=e:=by simpa using h
  rfl
 |x::l,j+1,e,h=>by
  have:=xU f l j e (by simpa using h);simp[this]
def ei (l:List Int):Value:=.agg (l.map (Value.int .i64)).toArray
def mH (l:List Int):Prop:=l.length=12/\∀x∈l, -1000000<=x/\x<=1000000
theorem kH:WideMaps.KeyLaw Tryz.prog 172:=deep_law (m:=2) (by decide) (by kernel_rfl) (by kernel_rfl) (by kernel_rfl)
theorem mapM_some {α β:Type} {f:α->Option β}:∀{l:List α},(∀x∈l,∃y,f x=some y)->∃ys,l.mapM f=some ys
 |[],_=>⟨[],rfl⟩
 |x::l,h=>by
  obtain⟨y,a⟩:=h x (List.mem_cons_self ..);obtain⟨ys,b⟩:=mapM_some (l:=l) (fun z e=>h z (List.mem_cons_of_mem _ e));exact⟨y::ys,by rw[List.mapM_cons,a,b];rfl⟩
theorem sh:Tryz.prog.underlying 172=some (.array 12 3):=by kernel_rfl
theorem xV:Tryz.prog.cellsOf 172=12:=by kernel_rfl
theorem Gj:Tryz.prog.cellsOf 3=1:=by kernel_rfl
theorem Gk:Tryz.prog.keyType 172=true:=by kernel_rfl
theorem Gl:∃m,Tryz.prog.types.size=m+1:=⟨Tryz.prog.types.size-1,by
 have h:decide (0<Tryz.prog.types.size)=true:=by kernel_rfl
 have a:=ay h;omega⟩
theorem pI {l:List Int} (h:mH l):∃s,keyOf Tryz.prog 172 (ei l)=some s:=by
 unfold keyOf;rw[sh];have hf:(ei l).formed Tryz.prog 172=true:=by
  unfold ei Value.formed;rw[sh,xV];simp[h.1]
 simp only[Gk,hf,Bool.and_self,if_true];obtain⟨m,hm⟩:=Gl;rw[hm];unfold Program.keyLits;rw[sh];have b:(ei l).cells.toList=l.map (Value.int .i64):=by simp[ei,Value.cells]
 rw[b];dsimp only;rw[xV,Gj];simp only[List.length_map,h.1,if_true];obtain⟨ys,g⟩:=mapM_some (f:=fun i=>Tryz.prog.keyLits (m+1) 3 (List.take 1 (List.drop (i*1) (l.map (Value.int .i64))))) (l:=List.range 12) (fun i hi=>by
  have hi:=List.mem_range.1 hi;have a:i<l.length:=by rw[h.1];exact hi
  have e:List.take 1 (List.drop (i*1) (l.map (Value.int .i64)))=[Value.int .i64 l[i]]:=by
   rw[Nat.mul_one,List.drop_eq_getElem_cons (by simpa using a)];simp
  have hb:=h.2 l[i] (List.getElem_mem a);refine⟨[.int .i64 l[i]],?_⟩;show Tryz.prog.keyLits (m+1) 3 (List.take 1 (List.drop (i*1) (l.map (Value.int .i64))))=_
  rw[e];unfold Program.keyLits;rw[Tryz.underlying3];simp only[true_and];rw[if_pos (WalkArith.wf_i64 (by omega))])
 rw[g];exact⟨_,rfl⟩
theorem Gm {a b:List Int} (h:ei a=ei b):a=b:=by
 unfold ei at h;injection h with h
 have e:=congrArg Array.toList h;simp only at e;have key:∀a b:List Int,a.map (Value.int .i64)=b.map (Value.int .i64)->a=b:=by
  intro a;induction a with
  |nil=>intro b h;cases b with|nil=>rfl|cons y b=>simp at h
  |cons x a g=>
   intro b h;cases b with
   |nil=>simp at h
   |cons y b=>
    simp only[List.map_cons,List.cons.injEq,Value.int.injEq,true_and] at h;rw[h.1,g b h.2]
 exact key a b e
def dV (G:List Int->Int->Prop) (w:World) (b:Nat):Prop:=∃es clock,w.heap[b]? =some (.map es clock)/\(∀e∈es.toList,∃l x,e.key=ei l/\e.val= .int .i64 x/\mH l/\G l x)/\(es.toList.map fun e=>e.key).Pairwise (· ≠ ·)
namespace dV
variable {G:List Int->Int->Prop} {w w':World} {b:Nat}
theorem lt (h:dV G w b):b<w.heap.size:=by
 obtain⟨es,c,h, -⟩:=h;exact aA h
theorem i' (h:dV G w b) (hk:w'.heap[b]? =w.heap[b]?):dV G w' b:=by
 obtain⟨es,c,h1,a,e⟩:=h;exact⟨es,c,hk.trans h1,a,e⟩
theorem below (h:dV G w b) (hb:Below w.heap.size w w'):dV G w' b:=h.i' (hb.block b h.lt)
theorem alloc (h:dV G w b) (o:Obj):dV G (w.alloc o) b:=h.below (ao (aq _ _) o)
theorem iC (h:dV G w b) (p:Addr) (v:Value) (hp:b≠p.block):dV G (w.setCell p v) b:=h.i' (Below.heap_setCell _ _ _ _ hp)
theorem made (w:World):dV G (w.alloc (.map #[] 0)) w.heap.size:=⟨#[],0,bc w _,fun e he=>by simp at he,by simp⟩
theorem look (h:dV G w b) (y:∀w,(zeroValue 3).run Tryz.prog w= .ok (.int .i64 0) w) {l:List Int} (o:mH l):
  (∃x,G l x/\∀w':World,w'.heap[b]? =w.heap[b]? ->(Instr.lookup 169 (.map (some b)) (ei l) true).run Tryz.prog w'= .ok (.tuple #[.int .i64 x,.bool true]) w')\/(∀w':World,w'.heap[b]? =w.heap[b]? ->(Instr.lookup 169 (.map (some b)) (ei l) true).run Tryz.prog w'= .ok (.tuple #[.int .i64 0,.bool false]) w'):=by
 obtain⟨es,c,hb,r,p⟩:=h;have u:∀e∈es.toList,∃l,keyOf Tryz.prog 172 e.key=some l:=fun e he=>by
  obtain⟨l,x,hk, -,o, -⟩:=r e he;rw[hk];exact pI o
 obtain⟨s,n⟩:=pI o;by_cases hex:∃(j:Nat) (e:MapEntry),es.toList[j]? =some e/\e.key=ei l
 ·left
  obtain⟨j,e,i,hk⟩:=hex;obtain⟨l',x,a,z,D,B⟩:=r e (List.mem_of_getElem? i);obtain rfl:=Gm (a.symm.trans hk);refine⟨x,B,fun w' q=>?_⟩;rcases kH.find w' n es.toList u with⟨h1,v⟩|⟨k,e',h1,g,a⟩
  ·exact absurd hk (v e (List.mem_of_getElem? i))
  ·have C:e'=e:=by
    have l1:=(List.getElem?_eq_some_iff.1 i).1;have l2:=(List.getElem?_eq_some_iff.1 g).1;have g1:=(List.getElem?_eq_some_iff.1 i).2;have g2:=(List.getElem?_eq_some_iff.1 g).2;rw[List.pairwise_iff_getElem] at p;rcases Nat.lt_trichotomy j k with m|m|m
    ·have:=p j k (by simpa using l1) (by simpa using l2) m
     simp only[List.getElem_map,g1,g2] at this;exact absurd (hk.trans a.symm) this
    ·subst m
     rw[i] at g;exact(aH g).symm
    ·have:=p k j (by simpa using l2) (by simpa using l1) m
     simp only[List.getElem_map,g1,g2] at this;exact absurd (a.trans hk.symm) this
   subst C;simp[Instr.lookup,run_underlying Tryz.underlying169,MapKept.run_getObj_map (q.trans hb),kH.check w' _ n,h1,z,Result.andThen]
 ·right
  intro w' q;rcases kH.find w' n es.toList u with⟨h1,v⟩|⟨k,e',h1,g,a⟩
  ·simp[Instr.lookup,run_underlying Tryz.underlying169,MapKept.run_getObj_map (q.trans hb),kH.check w' _ n,h1,y,Result.andThen]
  ·exact absurd ⟨k,e',g,a⟩ hex
theorem store (h:dV G w b) {l:List Int} {x:Int} (a:mH l) (o:G l x):
  ∃w',(Instr.mapUpdate 169 (.map (some b)) (ei l) (.int .i64 x)).run Tryz.prog w= .ok () w'/\dV G w' b/\w.grownBy w' (some b):=by
 obtain⟨es,c,hb,n,p⟩:=h;have u:∀e∈es.toList,∃l,keyOf Tryz.prog 172 e.key=some l:=fun e he=>by
  obtain⟨l,x,hk, -,a, -⟩:=n e he;rw[hk];exact pI a
 obtain⟨s,g⟩:=pI a;have q:=aA hb;rcases kH.find w g es.toList u with⟨h1,v⟩|⟨j,e,h1,m,hk⟩
 ·refine⟨w.putObj b (.map (es.push ⟨ei l,.int .i64 x,c⟩) (c+1)),?_,⟨_,_,World.putObj_heap_same q,fun e he=>?_,?_⟩,?_⟩
  ·simp[Instr.mapUpdate,run_underlying Tryz.underlying169,MapKept.run_getObj_map hb,kH.check w _ g,h1,MapKept.run_setObj_map _ hb,Result.andThen,World.putObj]
  ·simp only[Array.toList_push,List.mem_append,List.mem_singleton] at he
   rcases he with he|rfl
   ·exact n e he
   ·exact⟨l,x,rfl,rfl,a,o⟩
  ·simp only[Array.toList_push,List.map_append,List.map_cons,List.map_nil]
   refine List.pairwise_append.2 ⟨p,by simp,fun k hk k' y=>?_⟩;obtain rfl:=List.mem_singleton.1 y;obtain⟨e,he,rfl⟩:=List.mem_map.1 hk;exact v e he
  ·exact grownBy_putObj' w b _
 ·have z:j<es.toList.length:=(List.getElem?_eq_some_iff.1 m).1
  have B:es[j]? =some e:=by simpa using m
  have r:(es.modify j (fun e'=>{e' with key:=ei l,val:=.int .i64 x})).toList=es.toList.set j {e with key:=ei l,val:=.int .i64 x}:=by rw[Array.toList_modify,xU _ _ _ _ m]
  refine⟨w.putObj b (.map (es.modify j (fun e'=>{e' with key:=ei l,val:=.int .i64 x})) c),?_,⟨_,_,World.putObj_heap_same q,fun e' he=>?_,?_⟩,?_⟩
  ·simp[Instr.mapUpdate,run_underlying Tryz.underlying169,MapKept.run_getObj_map hb,kH.check w _ g,h1,B,hk,kH.stays w g,MapKept.run_setObj_map _ hb,Result.andThen,World.putObj]
  ·rw[r] at he
   rcases List.mem_or_eq_of_mem_set he with he|rfl
   ·exact n e' he
   ·exact⟨l,x,rfl,rfl,a,o⟩
  ·rw[r]
   have:(es.toList.set j {e with key:=ei l,val:=.int .i64 x}).map (fun e=>e.key)=es.toList.map (fun e=>e.key):=by
    rw[List.map_set];refine List.ext_getElem (by simp) fun i D a2=>?_
    rw[List.getElem_set];split
    ·rename_i C
     subst C;have:es.toList[j]=e:=by
      have:=bK z;rw[m] at this;exact(aH this).symm
     simp only[List.getElem_map,this];exact hk.symm
    ·rfl
   rw[this];exact p
  ·exact grownBy_putObj' w b _
theorem len (h:dV G w b) (ty:TypeId):∃m:Nat,(Builtin.len_ #[169] ty #[.map (some b)]).run Tryz.prog w= .ok (.int .i64 m) w/\∃a:List (List Int),a.length=m/\a.Pairwise (· ≠ ·)/\∀l∈a,∃x,G l x:=by
 obtain⟨es,c,hb,j,n⟩:=h;refine⟨es.size,by simp[Builtin.len_,run_underlying Tryz.underlying169,MapKept.run_getObj_map hb,goInt,Result.andThen],?_⟩;have key:∀L:List MapEntry,(∀e∈L,∃l x,e.key=ei l/\e.val= .int .i64 x/\mH l/\G l x)->(L.map fun e=>e.key).Pairwise (· ≠ ·)->∃a:List (List Int),a.length=L.length/\a.map ei=L.map (fun e=>e.key)/\a.Pairwise (· ≠ ·)/\∀l∈a,∃x,G l x:=by
  intro L;induction L with
  |nil=>intro _ _;exact⟨[],rfl,rfl,List.Pairwise.nil,fun l o=>by cases o⟩
  |cons e L p=>
   intro h i;obtain⟨l,x,hk, -, -,q⟩:=h e (List.mem_cons_self ..);rw[List.map_cons,List.pairwise_cons] at i;obtain⟨a,i1,i2,i3,i4⟩:=p (fun e he=>h e (List.mem_cons_of_mem _ he)) i.2;refine⟨l::a,by simp[i1],by simp[i2,hk],List.pairwise_cons.2 ⟨fun k g r=>?_,i3⟩,fun k g=>?_⟩
   ·subst r
    refine i.1 (ei l) ?_ hk;rw[<-i2];exact List.mem_map.2 ⟨l,g,rfl⟩
   ·rcases List.mem_cons.1 g with rfl|g
    ·exact⟨x,q⟩
    ·exact i4 k g
 obtain⟨a,i1, -,i3,i4⟩:=key es.toList j n;exact⟨a,by simpa using i1,i3,i4⟩
end dV
end
end Go.Proofs.YtffdiakgjakngaaGreat.P


