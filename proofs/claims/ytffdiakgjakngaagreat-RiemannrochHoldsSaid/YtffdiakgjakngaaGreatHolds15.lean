/- RiemannrochHolds answers true whatever the input (text 15 of 20): own walks and plain laws; no conditions. -/
import Derived.BigQuiet
import Derived.Deep.QuietTactic
import Derived.DeepKeys3
import Derived.Laws.CopyRow
import Derived.Maps.Keyed
import Derived.Maps.Own
import Derived.StillTailTactics
import Derived.Test.YtffdiakgjakngaaGreatHolds14
namespace Go.Proofs.YtffdiakgjakngaaGreat.P
open Go.RowKit Go.Proofs.YtffdiakgjakngaaGreatW.PrintWords Go.Proofs.YtffdiakgjakngaaGreatW.PrintLast Go.Proofs.YtffdiakgjakngaaGreatW.PrintMore
set_option linter.unusedVariables false
set_option linter.unusedSimpArgs false
set_option maxHeartbeats 8000000
set_option maxRecDepth 100000
section
attribute [local go_sem] Oper.semAt_some
def jP.f (k:Nat) (N:Int) (E:List S83) (q:Int) (d:List Int):Option (List Int×List Int×Int):=
 (iP.f k N E q d).bind fun e=>if e=0 then(if gy N E q d=true then((gN N.toNat E q.toNat d k).bind fun s=>some (eh N.toNat E d s,s,0)) else none) else some ([],[],e)
theorem DQ {n q:Nat} {t:Nat->Nat->Int} (b:T.Wt n t) (a:q<n) (hn:n<=12) (e:T.sN (T.val n t) n<=19) {D dist:Nat->Int} (g:∀v,v<n-> -200<=D v∧D v<=200) {d s:List Int} (i:d.length=n) (j:s.length=n) (hp:∀v:Nat,v<n->v≠q->0<=rd d v)
  (h:T.eO n t D dist 200 0 (fun v=>rd d (v:Nat)) (fun v=>rd s (v:Nat))):iL n q t D d s:=by
 have hb:=mu b hn e g (by omega) (by omega) h;exact⟨i,j,h.eq,hp,(hb q a).1,fun v k=>(hb v k).2.2.1,(hb q a).2.2.2⟩
theorem DR (k:Nat) (N:Int) (A0:Option Addr) (c0:Nat) (E:List S83) (q:Int) (a:Option Addr) (c2:Nat) (d:List Int) (t:Int) (w:World) (j:Kd.C aK w A0 E.length E) (l:E.length<=c0) (b:Kd.C (Kd.int .i64) w a d.length d) (g:d.length<=c2)
  (h:iP.f k N E q d=some t) (i:t≠0):
  Calls Tryz.prog 54 #[.agg #[.int .i64 N,.slice A0 E.length c0],.int .i64 q,.slice a d.length c2] w fun e w'=>e= .returned (.tuple #[.slice none 0 0,.slice none 0 0,.int .i64 t])∧Below w.heap.size w w':=by
 have hu:=Tryz.underlying24;have m:=Aside0.mk h;have n:=Aside0.mk b;have o:=Aside0.mk g;have r:(t != 0)=true:=by simpa using i
 clear h i b g;go_enter Tryz.func54,Tryz.ntmps54
 go_wp2_with (go_at_call 108;refine(iP.calls k N A0 c0 E q a c2 d t _ (Kd.br j _) l (Kd.br n.out _) o.out m.out).mono ?_;rintro e w1 ⟨rfl,hb⟩;have p:=Aside0.mk (aU (aq (Below.refl w.heap.size w) _) hb);clear hb)
 refine bodyPost_ret (results_tmp3 rfl _ _ _) rfl ?_;exact⟨rfl,p.out⟩
theorem DS (n:Nat) (q:Int) (A0:Option Addr) (c0:Nat) (E:List S83) (a:Option Addr) (cd:Nat) (d:List Int) (w:World) (hd:Kd.C (Kd.int .i64) w a d.length d) (b:d.length<=cd) (h:d.length=n) (h1:1<=n) (hn:n<=1000):
  Calls Tryz.prog 109 #[.agg #[.int .i64 n,.slice A0 E.length c0],.int .i64 q,.slice a d.length cd] w fun e w'=>∃g gd gs i j,e= .returned (.pointer (some ⟨g,0,none⟩))∧SI w g gd gs i j n A0 c0 E q d (List.replicate n 0) w':=by
 subst h;exact DO d.length q A0 c0 E a cd d w hd b rfl h1 hn
theorem DT (k n:Nat) (A0:Option Addr) (c0:Nat) (E:List S83) (q:Nat) (z:Option Addr) (c2:Nat) (d s:List Int) (w:World) (J:Kd.C aK w A0 E.length E) (ak:E.length<=c0) (K:Kd.C (Kd.int .i64) w z d.length d) (L:d.length<=c2)
  (M:iP.f k n E q d=some 0) (l:dW n q E d) (N:jO n E q d s=true):
  Calls Tryz.prog 54 #[.agg #[.int .i64 n,.slice A0 E.length c0],.int .i64 q,.slice z d.length c2] w fun e w'=>∃gd gs m o,e= .returned (.tuple #[.slice (some ⟨gd,0,none⟩) n m,.slice (some ⟨gs,0,none⟩) n o,.int .i64 0])∧gd≠gs∧(Kd.int .i64).R 3 w' w.heap.size (fun _=>True) (.slice (some ⟨gd,0,none⟩) n m) (eh n E d s)∧(Kd.int .i64).R 3 w' w.heap.size (fun _=>True) (.slice (some ⟨gs,0,none⟩) n o) s∧Below w.heap.size w w':=by
 have hu:=Tryz.underlying24;have HG:=Aside0.mk M;have O:=Aside0.mk K;have P:=Aside0.mk L;have a:=Aside0.mk l;have F:=(mw l.right).1 N;have G:=Aside0.mk F.2;have an:=Aside0.mk F.1;have Q:=Aside0.mk l.dl;clear M K L F N;have S:=l.n1;have r:=l.n12;have p:=l.q;clear l;go_enter Tryz.func54,Tryz.ntmps54
 go_wp2_with (go_at_call 108;refine(iP.calls k n A0 c0 E q z c2 d 0 _ (Kd.br J _) ak (Kd.br O.out _) P.out HG.out).mono ?_;rintro e w1 ⟨rfl,hb⟩;have H:=aG (heap_alloc_new w (.cells #[.int .i64 n,.slice A0 E.length c0] 24)) hb;have y0:=(ao H 0).trans rfl;have y1:=(ao H 1).trans rfl;have B:=Aside0.mk (aU (aq (Below.refl w.heap.size w) _) hb);clear hb H)
 refine(DS n q A0 c0 E z c2 d w1 (Kd.al O.out B.out) P.out Q.out S (by omega)).mono ?_;rintro e w2 ⟨g,gd,gs,m,o,rfl,j⟩;have U:=Aside0.mk j;have V:=Aside0.mk (Kd.al J B.out);have W:=B.out.size;clear j y0 y1;go_wp2_with (go_at_call 110;refine(DM g gd gs m o n A0 c0 E q d w1 _ V.out a.out.right a.out.len a.out.conn r p a.out.val a.out.d Q.out U.out).mono ?_;rintro e w3 ⟨rfl,d3,s3,l1,l2,j,hp,dist,hle⟩;have X:=Aside0.mk j;have Y:=Aside0.mk (DQ a.out.right.wt p r a.out.val a.out.d l1 l2 hp hle);clear l1 l2 j hp hle U)
 refine(Dy g gd gs m o n A0 c0 E q (fun v=>rd d (v:Nat)) (fun v=>rd (eh n E d s) (v:Nat)) (fun v=>rd s (v:Nat)) d3 s3 w1 w3 V.out a.out.right a.out.len a.out.conn r p a.out.val a.out.d G.out Y.out X.out).mono ?_;rintro e w4 ⟨rfl,d4,b,j,x,Z⟩;have aa:=Aside0.mk j;have aB:=Aside0.mk (x.bounds a.out.right.wt (a.out.right.conn a.out.conn) p r a.out.val a.out.d G.out);have I:ez n q (aj E) (fun v=>rd d (v:Nat)) (fun v=>rd d4 (v:Nat)) (fun v=>rd b (v:Nat)-rd b q):=⟨⟨x.jK,Z⟩,fun v i=>by
  have h:=T.kQ n (aj E) (fun u=>rd b (u:Nat)) (fun _=>rd b q) v;rw[T.jG] at h;rw[h,x.eq v i];omega,by show rd b q-rd b q=0;omega⟩
 have HU:=Aside0.mk (ez.unique a.out.right.wt (a.out.right.conn a.out.conn) p I G.out);have ad:=Aside0.mk (ez.bound a.out.right.wt (a.out.right.conn a.out.conn) p r a.out.val a.out.d I);have ag:=Aside0.mk x.dl;have D:=Aside0.mk x.sl;clear j x Z I X Y;go_wp2_with (go_at_call 112;refine(DP g gd gs m o n A0 c0 E q d4 b w1 _ S r p aa.out ag.out D.out (fun v i=>by have:=ad.out v i;omega) (fun v i=>by have h1: -31536<=rd b v-rd b q∧rd b v-rd b q<=31536∧_:=ad.out v i;have h2:=aB.out v i;omega)).mono ?_;rintro e w5 ⟨rfl,j⟩;have aF:=Aside0.mk j;clear j aa)
 refine bodyPost_ret (results_tmp3 rfl _ _ _) rfl ?_;have e1:d4=eh n E d s:=ud ag.out (qi n E d s) (fun v i=>(HU.out v i).1);have e2:eI b (rd b q) n=s:=ud ((mI _ _ _).trans D.out) an.out (fun v i=>by
  rw[ow _ _ _ _ (by rw[D.out];omega) (by rw[D.out];exact i),if_pos i];exact(HU.out v i).2)
 have y:=aF.out;rw[e1,e2] at y;exact⟨gd,gs,m,o,rfl,y.ne.1,Kd.aW y.d W,Kd.aW y.s W,aU B.out y.hb⟩
theorem jP.calls (k:Nat) (b:Int) (g:Option Addr) (i:Nat) (a:List (S83)) (j:Int) (l:Option Addr) (c2:Nat) (l2:List Int) (y:List Int) (z:List Int) (B:Int) (w:World) (D:Kd.C aK w g a.length a) (E:a.length<=i) (F:Kd.C (Kd.int .i64) w l l2.length l2) (G:l2.length<=c2) (h:jP.f k b a j l2=some (y,z,B)):
  Calls Tryz.prog 54 #[.agg #[.int .i64 b,.slice g a.length i],.int .i64 j,.slice l l2.length c2] w fun e w'=>∃o p:Value,e= .returned (.tuple #[o,p,.int .i64 B])∧Kd.R (Kd.int .i64) 3 w' w.heap.size (fun r=>some r≠(p:Value).ownBlock) o y∧Kd.R (Kd.int .i64) 3 w' w.heap.size (fun r=>some r≠(o:Value).ownBlock) p z∧Below w.heap.size w w':=by
 unfold jP.f at h;obtain⟨e,he,u⟩:=Option.bind_eq_some_iff.1 h;clear h;have h:=u;by_cases v:e=0
 ·subst v
  rw[if_pos rfl] at h;by_cases x:gy b a j l2=true
  ·rw[if_pos x] at h
   obtain⟨n,q,rfl,rfl,hk⟩:=nY x;obtain⟨s,m,u⟩:=Option.bind_eq_some_iff.1 h;clear h;have h:=u;simp only[Int.toNat_natCast,Option.some.injEq,Prod.mk.injEq] at m h;obtain⟨rfl,rfl,rfl⟩:=h;refine(DT k n g i a q l c2 l2 s w D E F G he hk (qj m)).mono ?_;rintro e w' ⟨gd,gs,K,L,rfl,H,hd,m,hb⟩;exact⟨_,_,rfl,Kd.aV (Kd.fU rfl hd) (fun k hk e=>H (by have:=hk.symm.trans e;injection this)),Kd.aV (Kd.fU rfl m) (fun k hk e=>H (by have:=e.symm.trans hk;injection this)),hb⟩
  ·rw[if_neg x] at h;cases h
 ·rw[if_neg v] at h
  injection h with h
  injection h with h1 h
  injection h with I J
  subst h1 I J;refine(DR k b g i a j l c2 l2 e w D E F G he v).mono ?_;rintro e' w' ⟨rfl,hb⟩;exact⟨_,_,rfl,Kd.cV _ _ _ _ _,Kd.cV _ _ _ _ _,hb⟩
end
section
attribute [local go_sem] Oper.semAt_some
theorem vL (W:World) (t:TypeId) {A B:Option Addr} {a b:List Int} {e cb:Nat} (h:Kd.C (Kd.int .i64) W A a.length a) (k:a.length<=e) (hb:Kd.C (Kd.int .i64) W B b.length b) (l:b.length<=cb):
  Kd.C (Kd.slice 3 (Kd.int .i64)) (W.alloc (.cells #[.slice A a.length e,.slice B b.length cb] t)) (some ⟨W.heap.size,0,none⟩) [a,b].length [a,b]:=by
 have g:=heap_alloc_new W (.cells #[.slice A a.length e,.slice B b.length cb] t);refine⟨rfl,by simp,fun _=>⟨_,rfl,fun j p hp=>?_⟩⟩;match j,hp with
 |0,hp=>
  obtain rfl:a=p:=by simpa using hp
  refine⟨[.slice A a.length e],rfl,⟨A,e,rfl,k,Kd.br h _⟩,fun i u hu=>?_⟩;match i,hu with
  |0,hu=>
   obtain rfl:Value.slice A a.length e=u:=by simpa using hu
   rw[add_plain];exact(ao g 0).trans rfl
  |i+1,hu=>simp at hu
 |1,hp=>
  obtain rfl:b=p:=by simpa using hp
  refine⟨[.slice B b.length cb],rfl,⟨B,cb,rfl,l,Kd.br hb _⟩,fun i u hu=>?_⟩;match i,hu with
  |0,hu=>
   obtain rfl:Value.slice B b.length cb=u:=by simpa using hu
   rw[add_plain];exact(ao g 1).trans rfl
  |i+1,hu=>simp at hu
 |j+2,hp=>simp at hp
theorem qF (W:World) (t:TypeId) {A:Option Addr} {a:List Int} {b:Nat} (e:Kd.C (Kd.int .i64) W A a.length a) (g:a.length<=b):
  Kd.C (Kd.slice 3 (Kd.int .i64)) (W.alloc (.cells #[.slice A a.length b] t)) (some ⟨W.heap.size,0,none⟩) [a].length [a]:=by
 have h:=heap_alloc_new W (.cells #[.slice A a.length b] t);refine⟨rfl,by simp,fun _=>⟨_,rfl,fun j p hp=>?_⟩⟩;match j,hp with
 |0,hp=>
  obtain rfl:a=p:=by simpa using hp
  refine⟨[.slice A a.length b],rfl,⟨A,b,rfl,g,Kd.br e _⟩,fun i u hu=>?_⟩;match i,hu with
  |0,hu=>
   obtain rfl:Value.slice A a.length b=u:=by simpa using hu
   rw[add_plain];exact(ao h 0).trans rfl
  |i+1,hu=>simp at hu
 |j+1,hp=>simp at hp
def gS (a b:List Int) (k:Nat):List Int:=(List.range a.length).map fun v=>if v<k then rd a (v:Nat)-rd b (v:Nat) else 0
def cD (a b:List Int):List Int:=gS a b a.length
def mJ (a b:List Int):Bool:=decide (a.length=b.length∧1<=a.length∧a.length<=12)&&a.all cT&&b.all cT
def gE.f (k:Nat) (a b:List Int):Option (List Int×Int):=
 (bD.f k [a,b]).bind fun e=>if e=0 then(if mJ a b=true then(if(cD a b).all cT=true then some (cD a b,0) else some ([],11)) else none) else some ([],e)
theorem gE.mono:∀l0 l1 k,ae (gE.f k l0 l1) (gE.f (k+1) l0 l1):=by
 intro a b k;unfold gE.f;exact ae.bind (bD.mono _ _) (fun _=>ae.refl _)
theorem DU (x y:Int) (w:World) (a: -1048576<=x∧x<=1048576) (b: -1048576<=y∧y<=1048576):Calls Tryz.prog 59 #[.int .i64 x,.int .i64 y] w fun e w'=>e= .returned (.int .i64 (x-y))∧w'=w:=by
 obtain⟨h1,g⟩:=a;obtain⟨h,i⟩:=b;go_enter Tryz.func59,Tryz.ntmps59
 go_wp2;go_ret;exact⟨rfl,rfl⟩
theorem oA (a b:List Int) (k:Nat):(gS a b k).length=a.length:=by simp[gS]
theorem DV {a b:List Int} {v:Nat} (g:v<a.length):(gS a b v).set v (rd a v-rd b v)=gS a b (v+1):=by
 unfold gS;refine List.ext_getElem (by simp) fun i h1 j=>?_
 rw[List.getElem_set];simp only[List.getElem_map,List.getElem_range];by_cases e:v=i
 ·subst e;simp
 ·rw[if_neg e]
  by_cases h:i<v
  ·rw[if_pos h,if_pos (by omega)]
  ·rw[if_neg h,if_neg (by omega)]
theorem oB {a b:List Int} {v:Nat} (e:v<a.length):rd (cD a b) v=rd a v-rd b v:=by
 rw[show rd (cD a b) (v:Int)=(cD a b).getD v 0 by simp[rd],cD,gS,List.getD_eq_getElem?_getD,List.getElem?_map,List.getElem?_range e];simp[e]
theorem DW (k:Nat) (A0:Option Addr) (c0:Nat) (a:List Int) (g:Option Addr) (c1:Nat) (b:List Int) (t:Int) (n:Value) (w:World) (h:Kd.C (Kd.int .i64) w A0 a.length a) (o:a.length<=c0) (i:Kd.C (Kd.int .i64) w g b.length b) (p:b.length<=c1)
  (j:bD.f k [a,b]=some t) (l:t≠0):
  Calls Tryz.prog 58 #[.slice A0 a.length c0,.slice g b.length c1,n] w fun e w'=>e= .returned (.tuple #[.slice none 0 0,.int .i64 t])∧Below w.heap.size w w':=by
 have q:=Aside0.mk j;have r:=Aside0.mk (vL w 26 h o i p);have s:(t != 0)=true:=by simpa using l
 clear j l h i;go_enter Tryz.func58,Tryz.ntmps58
 go_wp2_with (go_at_call 118;refine(bD.calls k (some ⟨w.heap.size,0,none⟩) 2 [a,b] t _ r.out (by simp) q.out).mono ?_;rintro e w1 ⟨rfl,⟨m,rfl⟩⟩)
 go_ret2;exact⟨rfl,bP (aq (Below.refl _ _) _) m⟩
def iz (n:Nat) (a b:List Int) (base:Nat) (e:Ending) (w':World):Prop:=if(cD a b).all cT=true then ∃go co,e= .returned (.tuple #[.slice (some ⟨go,0,none⟩) n co,.int .i64 0])∧(Kd.int .i64).R 3 w' base (fun _=>True) (.slice (some ⟨go,0,none⟩) n co) (cD a b) else e= .returned (.tuple #[.slice none 0 0,.int .i64 11])
theorem iz.bad {n:Nat} {a b:List Int} {base:Nat} {w':World} {v:Nat} (e:v<a.length) (h:cT (rd a v-rd b v)=false):iz n a b base (.returned (.tuple #[.slice none 0 0,.int .i64 11])) w':=by
 unfold iz;rw[if_neg];intro g;rw[List.all_eq_true] at g;have i:v<(cD a b).length:=by simpa [cD,oA] using e
 have h1:=g (cD a b)[v] (List.getElem_mem i);have j:=oB (b:=b) e;rw[show rd (cD a b) (v:Int)=(cD a b)[v] by simp[rd,List.getD_eq_getElem?_getD,List.getElem?_eq_getElem i]] at j;rw[j,h] at h1;cases h1
theorem DX (k n:Nat) (A0:Option Addr) (c0:Nat) (a:List Int) (S:Option Addr) (c1:Nat) (b:List Int) (w:World) (E:Kd.C (Kd.int .i64) w A0 a.length a) (an:a.length<=c0) (F:Kd.C (Kd.int .i64) w S b.length b) (ap:b.length<=c1)
  (T:bD.f k [a,b]=some 0) (G:a.length=n) (H:b.length=n) (bw:1<=n) (hn:n<=12) (U:∀v:Nat,v<n-> -1048576<=rd a v∧rd a v<=1048576) (hb:∀v:Nat,v<n-> -1048576<=rd b v∧rd b v<=1048576):
  Calls Tryz.prog 58 #[.slice A0 n c0,.slice S n c1,.func (.func 59) #[] #[]] w fun e w'=>iz n a b w.heap.size e w'∧Below w.heap.size w w':=by
 have HG:=Aside0.mk T;have I:=vL w 26 E an F ap;rw[G,H] at I;have HC:=Aside0.mk I;have aB:=Aside0.mk E;have aF:=Aside0.mk F;have HA:=Aside0.mk U;have HB:=Aside0.mk hb;have q:=Aside0.mk G;have aP:=Aside0.mk H;have aS:(0:Int)<=(n:Int):=by omega
 clear T E F U hb I G H;go_enter Tryz.func58,Tryz.ntmps58
 go_wp2_with (first|(go_at_call 118;refine(bD.calls k (some ⟨w.heap.size,0,none⟩) 2 [a,b] 0 _ HC.out (by simp) HG.out).mono ?_;rintro e w1 ⟨rfl,⟨m,rfl⟩⟩)|((with_reducible refine aH (N:=20) rfl ?_);refine Kd.jx (Kd.int .i64) (w0:=w) w.heap.size 3 rfl (N:=20) rfl 26 _ _ rfl (n:Int) rfl rfl Tryz.underlying26 (.int .i64 0) 8 fY rfl (by decide) (by omega) 0 (ok:=fun _=>True) (okp:=fun _=>True) rfl (fun _ hk=>hk) trivial aS (by simp;omega) (bP (aq (Below.refl _ _) _) m) (by simp) ?_;intro v1 w5 r hb a1 a2;rw[Int.toNat_natCast] at r;obtain⟨go,co,J,a3,bx, -⟩:=Kd.fg r (by rw[List.length_replicate];omega);rw[List.length_replicate] at J;subst J;have V:=Aside0.mk r;have W:=Aside0.mk hb;clear r hb a1 a2))
 have X:Aside0 ((Kd.int .i64).R 3 w5 w.heap.size (fun _=>True) (.slice (some ⟨go,0,none⟩) n co) (gS a b 0)):=⟨by
  have h:=V.out;rw[show List.replicate n (0:Int)=gS a b 0 from by
   rw[<-q.out];unfold gS;refine List.ext_getElem (by simp) fun i h1 h2=>?_
   simp] at h
  exact h⟩
 clear V;go_loopg [23] (n) (fun kq vv wr=>∃v:Nat,v<=n∧vv= .int .i64 v∧Aside0 ((Kd.int .i64).R 3 wr w.heap.size (fun _=>True) (.slice (some ⟨go,0,none⟩) n co) (gS a b v))∧Aside0 (Below w.heap.size w wr)∧Aside0 (∀u:Nat,u<v->cT (rd a u-rd b u)=true)∧Aside0 (kq=n-v))
 case atStart=>exact⟨0,by omega,rfl,X,W,⟨fun u hu=>by omega⟩,⟨rfl⟩⟩
 case round=>
  clear X W;obtain⟨v,J,rfl,s,l,Y,HK⟩:=hrel;by_cases Z:v<n
  ·have b1:(0:Int)<=(v:Int):=by omega
   have b2:(v:Int)<(n:Int):=by omega
   have ad:=q.out;have be:=aP.out;obtain⟨aa,ea,K⟩:=Kd.bG (Kd.al aB.out l.out) (v:Int) (by omega) (by omega);obtain⟨ab,eb,L⟩:=Kd.bG (Kd.al aF.out l.out) (v:Int) (by omega) (by omega);subst ea eb;rw[Int.toNat_natCast] at K L;obtain⟨g,hf⟩:=Kd.bJ 0 s.out (v:Int) (by omega) (by omega);rw[Int.toNat_natCast] at g hf;generalize bH 0 (gS a b v) (v:Int)=z at g;replace g:wr.cell? ⟨go,v,none⟩=some (.int .i64 z):=g;have ag:=HA.out v Z;have ak:=HB.out v Z;have M:=Kd.cZ (Kd.a8 s.out) (v:Int) (rd a v-rd b v);rw[Int.toNat_natCast,DV (show v<a.length by omega)] at M;have B:=Aside0.mk M.1;have o:=Aside0.mk (Below.setCell (p:=⟨go,v,none⟩) (bL l.out) a3 (.int .i64 (rd a v-rd b v)));have O:=Aside0.mk (show cT (rd a v-rd b v)=true->∀u:Nat,u<v+1->cT (rd a u-rd b u)=true from fun h u hu=>by
    by_cases e:u=v
    ·subst e;exact h
    ·exact Y.out u (by omega))
   have P:Aside0 (cT (rd a v-rd b v)=false->∀w',iz n a b w.heap.size (.returned (.tuple #[.slice none 0 0,.int .i64 11])) w'):=⟨fun h w'=>iz.bad (by omega) h⟩;have b5:=Aside0.mk ad;clear M s l ad be;generalize rd a v=x at K ag B o O P;generalize rd b v=y at L ak B o O P;go_wp2_with fail
   refine wp_region_still_tail 13 (by kernel_rfl) (by kernel_rfl) ?_;simp only[List.take_succ_cons,List.take_zero,List.drop_succ_cons,List.drop_zero];repeat(first|still_step|still_call (DU x y _ ag ak))
   refine wpStill_nil ?_;change wpList _ _ _ _ _ wr.drew
   have bi:wr.drew.cell? ⟨go,v,none⟩=some (.int .i64 z):=g;have bk:wr.drew.frozen? ⟨go,v,none⟩=false:=hf;clear g hf K L;generalize wr.drew=W2 at B o bi bk⊢;have D:=Aside0.mk (tX (x-y));cases j:cT (x-y) with
   |true=>
    have Q:=Aside0.mk j;rw[j] at D;clear j;go_wp2_with (go_at_call 119;refine(ig.calls (x-y) true _ D.out).mono ?_;rintro e w8 ⟨rfl,⟨m8,rfl⟩⟩)
    go_roundg (n- (v+1))
    case measure=>rw[HK.out];omega
    case rel=>exact⟨v+1,by omega,by go_num,⟨Kd.ba B.out _⟩,⟨bP o.out _⟩,⟨O.out Q.out⟩,⟨rfl⟩⟩
   |false=>
    have Q:=Aside0.mk j;rw[j] at D;clear j;go_wp2_with (go_at_call 119;refine(ig.calls (x-y) false _ D.out).mono ?_;rintro e w8 ⟨rfl,⟨m8,rfl⟩⟩)
    go_ret2;exact⟨P.out Q.out _,bP o.out _⟩
  ·obtain rfl:n=v:=by omega
   go_wp2;go_ret2;have bo:(cD a b).all cT=true:=by
    rw[List.all_eq_true];intro x hx;obtain⟨u,hu,rfl⟩:=List.getElem_of_mem hx;have am:u<a.length:=by simpa [cD,oA] using hu
    have:=Y.out u (by rw[<-q.out];exact am);rw[<-oB am] at this;simpa [rd,List.getD_eq_getElem?_getD,List.getElem?_eq_getElem hu] using this
   refine⟨?_,l.out⟩;unfold iz;rw[if_pos bo];refine⟨go,co,rfl,?_⟩;have h:=s.out;unfold cD;rw[q.out];exact h
theorem vM {l:List Int}:l.all cT=true↔∀v:Nat,v<l.length-> -1048576<=rd l v∧rd l v<=1048576:=by
 have e:∀(v:Nat) (a:v<l.length),rd l (v:Int)=l[v]:=fun v a=>by simp[rd,List.getD_eq_getElem?_getD,List.getElem?_eq_getElem a]
 rw[List.all_eq_true];constructor
 ·intro h v a
  rw[e v a];simpa [cT] using h l[v] (List.getElem_mem a)
 ·intro h x b
  obtain⟨v,a,rfl⟩:=List.getElem_of_mem b;have:=h v a;rw[e v a] at this;simpa [cT] using this
theorem DY (k:Nat) (A0:Option Addr) (c0:Nat) (a:List Int) (g:Option Addr) (c1:Nat) (b:List Int) (t:Int) (w:World) (h:Kd.C (Kd.int .i64) w A0 a.length a) (i:a.length<=c0) (j:Kd.C (Kd.int .i64) w g b.length b) (l:b.length<=c1)
  (m:bD.f k [a,b]=some t) (n:t≠0):
  Calls Tryz.prog 16 #[.slice A0 a.length c0,.slice g b.length c1] w fun e w'=>e= .returned (.tuple #[.slice none 0 0,.int .i64 t])∧Below w.heap.size w w':=by
 have o:=Aside0.mk (DW k A0 c0 a g c1 b t (.func (.func 59) #[] #[]) w h i j l m n);clear h i j l m n;go_enter Tryz.func16,Tryz.ntmps16
 go_wp2_with (go_at_call 58;refine o.out.mono ?_;rintro e w1 ⟨rfl,hb⟩;have p:=Aside0.mk hb;clear hb)
 go_ret2;exact⟨rfl,p.out⟩
theorem DZ (k n:Nat) (A0:Option Addr) (c0:Nat) (a:List Int) (g:Option Addr) (c1:Nat) (b:List Int) (w:World) (m:Kd.C (Kd.int .i64) w A0 a.length a) (o:a.length<=c0) (p:Kd.C (Kd.int .i64) w g b.length b) (q:b.length<=c1)
  (r:bD.f k [a,b]=some 0) (i:a.length=n) (j:b.length=n) (z:1<=n) (hn:n<=12) (s:∀v:Nat,v<n-> -1048576<=rd a v∧rd a v<=1048576) (hb:∀v:Nat,v<n-> -1048576<=rd b v∧rd b v<=1048576):
  Calls Tryz.prog 16 #[.slice A0 a.length c0,.slice g b.length c1] w fun e w'=>iz n a b w.heap.size e w'∧Below w.heap.size w w':=by
 have B:=Aside0.mk (DX k n A0 c0 a g c1 b w m o p q r i j z hn s hb);rw[i,j];clear m o p q r s hb i j;have u:=Aside0.mk (show ∀e w',iz n a b w.heap.size e w'->(∃go co,e= .returned (.tuple #[.slice (some ⟨go,0,none⟩) n co,.int .i64 0]))∨e= .returned (.tuple #[.slice none 0 0,.int .i64 11]) from fun e w' h=>by
  unfold iz at h;split at h
  ·obtain⟨go,co,he, -⟩:=h;exact .inl ⟨go,co,he⟩
  ·exact .inr h)
 go_enter Tryz.func16,Tryz.ntmps16
 go_wp2_with fail
 refine B.out.mono ?_;rintro e w1 ⟨l,hb⟩;have x:=Aside0.mk l;have y:=Aside0.mk hb;have hp:=u.out e w1 l;clear l hb u;rcases hp with⟨go,co,rfl⟩|rfl
 ·go_wp2
  go_ret2;exact⟨x.out,y.out⟩
 ·go_wp2
  go_ret2;exact⟨x.out,y.out⟩
theorem gE.calls (k:Nat) (A0:Option Addr) (c0:Nat) (l0:List Int) (g:Option Addr) (c1:Nat) (l1:List Int) (j:List Int) (l:Int) (w:World) (m:Kd.C (Kd.int .i64) w A0 l0.length l0) (n:l0.length<=c0) (o:Kd.C (Kd.int .i64) w g l1.length l1) (p:l1.length<=c1) (h:gE.f k l0 l1=some (j,l)):
  Calls Tryz.prog 16 #[.slice A0 l0.length c0,.slice g l1.length c1] w fun e w'=>∃q:Value,e= .returned (.tuple #[q,.int .i64 l])∧Kd.R (Kd.int .i64) 3 w' w.heap.size (fun _=>True) q j∧Below w.heap.size w w':=by
 unfold gE.f at h;obtain⟨e,he,r⟩:=Option.bind_eq_some_iff.1 h;clear h;have h:=r;clear r;by_cases i:e=0
 ·subst i
  rw[if_pos rfl] at h;by_cases a:mJ l0 l1=true
  ·rw[if_pos a] at h
   unfold mJ at a;simp only[Bool.and_eq_true,decide_eq_true_eq] at a;obtain⟨⟨⟨h1,u,x⟩,y⟩,z⟩:=a;refine(DZ k l0.length A0 c0 l0 g c1 l1 w m n o p he rfl h1.symm u x (vM.1 y) (fun v D=>vM.1 z v (by omega))).mono ?_;rintro e w' ⟨b,hb⟩;unfold iz at b;by_cases s:(cD l0 l1).all cT=true
   ·rw[if_pos s] at b h
    obtain⟨go,co,rfl,B⟩:=b;simp only[Option.some.injEq,Prod.mk.injEq] at h;obtain⟨rfl,rfl⟩:=h;exact⟨_,rfl,B,hb⟩
   ·rw[if_neg s] at b h
    simp only[Option.some.injEq,Prod.mk.injEq] at h;obtain⟨rfl,rfl⟩:=h;exact⟨_,b,Kd.cV _ _ _ _ _,hb⟩
  ·rw[if_neg a] at h;cases h
 ·rw[if_neg i] at h
  simp only[Option.some.injEq,Prod.mk.injEq] at h;obtain⟨rfl,rfl⟩:=h;refine(DY k A0 c0 l0 g c1 l1 e w m n o p he i).mono ?_;rintro e' w' ⟨rfl,hb⟩;exact⟨_,rfl,Kd.cV _ _ _ _ _,hb⟩
end
def jQ.f (k:Nat) (b:Int) (e:List (S83)) (l1:List Int):Option (Bool×List Int×List Int×Int):=(jP.f k b e 0 l1).bind fun a=>(if a.2.2=0 then(if 0<(a.1.length:Int) then(some (decide ((rd a.1 0)>=0),a.1,a.2.1,0)) else(none)) else(some (false,([]:List Int),([]:List Int),a.2.2)))
theorem jQ.calls (k:Nat) (g:Int) (l:Option Addr) (m:Nat) (b:List (S83)) (q:Option Addr) (c1:Nat) (l1:List Int) (B:Bool) (D:List Int) (E:List Int) (F:Int) (w:World) (G:Kd.C aK w l b.length b) (I:b.length<=m) (J:Kd.C (Kd.int .i64) w q l1.length l1) (K:l1.length<=c1) (h:jQ.f k g b l1=some (B,D,E,F)):
  Calls Tryz.prog 14 #[.agg #[.int .i64 g,.slice l b.length m],.slice q l1.length c1] w fun e w'=>∃u v:Value,e= .returned (.tuple #[.bool B,u,v,.int .i64 F])∧Kd.R (Kd.int .i64) 3 w' w.heap.size (fun x=>some x≠(v:Value).ownBlock) u D∧Kd.R (Kd.int .i64) 3 w' w.heap.size (fun x=>some x≠(u:Value).ownBlock) v E∧Below w.heap.size w w':=by
 have ag:=Tryz.underlying24;have L:=Aside0.mk G;have M:=Aside0.mk I;clear G I;have O:=Aside0.mk J;have P:=Aside0.mk K;clear J K;have a:=Aside0.mk (Below.refl w.heap.size w);unfold jQ.f at h;have H:=h;clear h;obtain⟨⟨t250,t253,t256⟩,Q,H⟩:=zo H;dsimp only at H;by_cases c4:t256=0
 ·rw[if_pos c4] at H
  obtain⟨U,V⟩:=bt c4;clear c4;by_cases r:0<(t250.length:Int)
  ·rw[if_pos r] at H
   have ak:=decide_eq_true r;have am:decide (0<t250.length)=true:=decide_eq_true (by omega);clear r;simp only[Option.some.injEq,Prod.mk.injEq] at H;obtain⟨rfl,rfl,rfl,rfl⟩:=H;go_enter Tryz.func14,Tryz.ntmps14
   go_wp2_with (first|((with_reducible refine aH (N:=2) rfl ?_);refine zX 2 #[.int .i64 g,.slice l b.length m] 24 ?_;intro W i w6 n hb;have j:=Aside0.mk (n);have X:=zG a i;have Y:=zG a i;replace a:=zS a hb;clear hb n i;obtain⟨ap,ar,av,aB⟩:=au j)|((with_reducible refine ax (f:=54) rfl ?_);refine zL (some 14) Tryz.func54 #[.agg #[.int .i64 g,.slice l b.length m],.int .i64 0,.slice q l1.length c1] ?_;(with_reducible refine(jP.calls k g _ _ b 0 _ _ l1 t250 t253 t256 _ ?af ?ah ?aD ?aE Q.out).mono ?_);(case af=>exact Kd.al L.out zB);(case ah=>exact M.out);(case aD=>exact Kd.al O.out zB);(case aE=>exact P.out);rintro e w8 ⟨Z,aa,rfl,o,p,hb⟩;refine⟨_,rfl,?_⟩;have s:=Aside0.mk (Kd.aW o (a_ zB));have S:=Aside0.mk (Kd.aW p (a_ zB));replace j:=zb j hb;replace a:=zS a hb;(try clear hb);(try clear o);(try clear p);obtain⟨aL,aO,ab⟩:=Kd.aZ s.out;subst ab;have y:0<=(0:Int):=(by omega);have z:0<(t250.length:Int):=of_decide_eq_true ‹_›;obtain⟨aP,ad,T⟩:=Kd.bG (Kd.aA s.out).2.2 0 y z;cases ad;have aS:(0<t250.length)=True:=eq_true (by omega);(try rw[show ((0:Int)).toNat=0 from rfl] at T);(try rw[Addr.add_zero'] at T);replace y:=eq_true y;replace z:=eq_true z))
   refine bodyPost_ret (rI (rs:=[.tmp 4,.tmp 5,.tmp 6,.tmp 7]) rfl (by simp) (.tmp (.tmp (.tmp (.tmp .nil))))) rfl ?_;exact⟨_,_,zE,by(with_reducible repeat(first|apply Kd.aI|apply Kd.ba|apply Kd.a8));exact s.out,by(with_reducible repeat(first|apply Kd.aI|apply Kd.ba|apply Kd.a8));exact S.out,zB⟩
  ·rw[if_neg r] at H
   exact absurd H (by simp)
 ·rw[if_neg c4] at H
  obtain⟨U,V⟩:=bu c4;simp only[Option.some.injEq,Prod.mk.injEq] at H;obtain⟨rfl,rfl,rfl,rfl⟩:=H;go_enter Tryz.func14,Tryz.ntmps14
  go_wp2_with (first|((with_reducible refine aH (N:=2) rfl ?_);refine zX 2 #[.int .i64 g,.slice l b.length m] 24 ?_;intro W i a0 n hb;have j:=Aside0.mk (n);have X:=zG a i;have Y:=zG a i;replace a:=zS a hb;clear hb n i;obtain⟨a1,a2,a3,a4⟩:=au j)|((with_reducible refine ax (f:=54) rfl ?_);refine zL (some 14) Tryz.func54 #[.agg #[.int .i64 g,.slice l b.length m],.int .i64 0,.slice q l1.length c1] ?_;(with_reducible refine(jP.calls k g _ _ b 0 _ _ l1 t250 t253 t256 _ ?af ?ah ?aD ?aE Q.out).mono ?_);(case af=>exact Kd.al L.out zB);(case ah=>exact M.out);(case aD=>exact Kd.al O.out zB);(case aE=>exact P.out);rintro e a5 ⟨Z,aa,rfl,o,p,hb⟩;refine⟨_,rfl,?_⟩;have s:=Aside0.mk (Kd.aW o (a_ zB));have S:=Aside0.mk (Kd.aW p (a_ zB));replace j:=zb j hb;replace a:=zS a hb;(try clear hb);(try clear o);(try clear p)))
  refine bodyPost_ret (rI (rs:=[.tmp 4,.tmp 5,.tmp 6,.tmp 7]) rfl (by simp) (.tmp (.tmp (.tmp (.tmp .nil))))) rfl ?_;exact⟨_,_,zE,by first|exact Kd.cV _ _ _ _ _|exact Kd.fV _ _ _ _ _|exact Kd.V_nil _ _ _ _ _|exact Kd.Q_nil _ _ _ _ _|exact Kd.fB _ _ _ _ _,by first|exact Kd.cV _ _ _ _ _|exact Kd.fV _ _ _ _ _|exact Kd.V_nil _ _ _ _ _|exact Kd.Q_nil _ _ _ _ _|exact Kd.fB _ _ _ _ _,zB⟩
def eS.l0:Nat->List (List Int)->Int->Int->Int->List (S83)->Option (Int)
 |0,_,_,_,_,_=>none
 |k+1,b,e,a,g,i=>if a<e then(if 0<=a then(if a<(b.length:Int) then((bc.f k (aT b a) g).bind fun h=>(if h=0 then(eS.l0 k b e (wrap64 (a+1)) g i) else(some h))) else(none)) else(none)) else(some 0)
def eS.f (k:Nat) (b:Int) (e:List (S83)) (l1:List (List Int)):Option (Int):=(bS.f k b e).bind fun a=>(if a.2=0 then(if a.1=true then(eS.l0 k l1 (l1.length:Int) 0 b e) else(some 13)) else(some a.2))
theorem eS.calls (k:Nat) (b:Int) (m:Option Addr) (n:Nat) (i:List (S83)) (U:Option Addr) (c1:Nat) (l1:List (List Int)) (r:Int) (w:World) (V:Kd.C aK w m i.length i) (W:i.length<=n) (X:Kd.C (Kd.slice 3 (Kd.int .i64)) w U l1.length l1) (Y:l1.length<=c1) (h:eS.f k b i l1=some r):
  Calls Tryz.prog 93 #[.agg #[.int .i64 b,.slice m i.length n],.slice U l1.length c1] w fun e w'=>e= .returned (.int .i64 r)∧Below w.heap.size w w':=by
 have a1:=Tryz.underlying24;have G:=Aside0.mk V;have I:=Aside0.mk W;clear V W;have Z:=Aside0.mk X;have a2:=Aside0.mk Y;clear X Y;have a:=Aside0.mk (Below.refl w.heap.size w);unfold eS.f at h;have H:=h;clear h;obtain⟨⟨aa,B⟩,J,H⟩:=zo H;dsimp only at H;by_cases c4:B=0
 ·rw[if_pos c4] at H
  obtain⟨ab,ad⟩:=bt c4;clear c4;by_cases v:aa=true
  ·subst v
   replace H:=zi H;have D:=Aside0.mk H;clear H;go_enter Tryz.func93,Tryz.ntmps93
   go_wp2_with (first|((with_reducible refine aH (N:=2) rfl ?_);refine zX 2 #[.int .i64 b,.slice m i.length n] 24 ?_;intro K l w6 o hb;have j:=Aside0.mk (o);have ag:=zG a l;have ak:=zG a l;replace a:=zS a hb;clear hb o l;obtain⟨ar,av,aB,aF⟩:=au j)|((with_reducible refine ax (f:=113) rfl ?_);refine zL (some 12) Tryz.func113 #[.agg #[.int .i64 b,.slice m i.length n]] ?_;(with_reducible refine(bS.calls k b _ _ i true B _ ?af ?ah J.out).mono ?_);(case af=>exact Kd.al G.out zB);(case ah=>exact I.out);rintro e w8 ⟨rfl,hb⟩;refine⟨_,rfl,?_⟩;replace j:=zb j hb;replace a:=zS a hb;(try clear hb)))
   go_loopg [22] k (fun kq v22 w'=>∃(g:Int),v22= .int .i64 g∧Aside0 (eS.l0 kq l1 (l1.length:Int) g b i=some r)∧Aside0 (kq<=k)∧Aside0 (w'.heap[K]? =some (.cells #[.int .i64 b,(.slice m i.length n)] 24 (0,0)))∧Aside0 (Below w.heap.size w w'))
   case atStart=>exact⟨(0),zT,D,⟨Nat.le_refl _⟩,⟨zK j⟩,⟨zB⟩⟩
   case round=>
    clear D;try clear c1
    try clear p2
    try clear c4
    try clear ab
    try clear ad
    try clear v
    try clear ar
    try clear av
    try clear aB
    try clear aF
    obtain⟨g,rfl,L,an,j,a⟩:=hrel;cases gk with
    |zero=>exact absurd L.out (by simp[eS.l0])
    |succ M=>
     have H:=L.out;clear L;simp only[eS.l0] at H;by_cases u:g<(l1.length:Int)
     ·rw[if_pos u] at H
      have aL:=decide_eq_true u;clear u;by_cases E:0<=g
      ·rw[if_pos E] at H
       have a9:=decide_eq_true E;clear E;by_cases F:g<(l1.length:Int)
       ·rw[if_pos F] at H
        have be:=decide_eq_true F;clear F;obtain⟨O,ap,H⟩:=zo H;by_cases x:O=0
        ·rw[if_pos x] at H
         obtain⟨aO,aP⟩:=bt x;clear x;have D:=Aside0.mk H;clear H;have p:0<=(g:Int):=of_decide_eq_true ‹_›;have q:g<(l1.length:Int):=of_decide_eq_true ‹_›;obtain⟨aS,P,Q,R,s,y,z⟩:=fE Z.out g p q;cases R;replace s:=(a.out.cell (World.block_lt_of_cell? w _ s)).trans s;have S:=Aside0.mk z;have T:=Aside0.mk y;clear z y;replace p:=eq_true p;replace q:=eq_true q;obtain⟨bf,bg,bi,bk⟩:=au j;go_wp2_with (first|((with_reducible refine ax (f:=87) rfl ?_);refine zL (some 29) Tryz.func87 #[.slice P (aT l1 g).length Q,.int .i64 b] ?_;(with_reducible refine(bc.calls M _ _ (aT l1 g) b O _ ?af ?ah ap.out).mono ?_);(case af=>exact Kd.al S.out zB);(case ah=>exact T.out);rintro e w' ⟨rfl,⟨nd,rfl⟩⟩;refine⟨_,rfl,?_⟩))
         go_roundg M
         case measure=>have:=an.out;omega
         case rel=>exact⟨(wrap64 (g+1)),zT,D,⟨by have:=an.out;omega⟩,⟨zK j⟩,⟨zB⟩⟩
        ·rw[if_neg x] at H
         obtain⟨aO,aP⟩:=bu x;obtain rfl:=Option.some.inj H;have p:0<=(g:Int):=of_decide_eq_true ‹_›;have q:g<(l1.length:Int):=of_decide_eq_true ‹_›;obtain⟨aS,P,Q,R,s,y,z⟩:=fE Z.out g p q;cases R;replace s:=(a.out.cell (World.block_lt_of_cell? w _ s)).trans s;have S:=Aside0.mk z;have T:=Aside0.mk y;clear z y;replace p:=eq_true p;replace q:=eq_true q;obtain⟨bn,bo,bv,bw⟩:=au j;go_wp2_with (first|((with_reducible refine ax (f:=87) rfl ?_);refine zL (some 29) Tryz.func87 #[.slice P (aT l1 g).length Q,.int .i64 b] ?_;(with_reducible refine(bc.calls M _ _ (aT l1 g) b O _ ?af ?ah ap.out).mono ?_);(case af=>exact Kd.al S.out zB);(case ah=>exact T.out);rintro e w' ⟨rfl,⟨nd,rfl⟩⟩;refine⟨_,rfl,?_⟩))
         go_ret;exact⟨zE,zB⟩
       ·rw[if_neg F] at H
        exact absurd H (by simp)
      ·rw[if_neg E] at H
       exact absurd H (by simp)
     ·rw[if_neg u] at H
      have aL:=decide_eq_false u;clear u;obtain rfl:=Option.some.inj H;go_wp2;go_ret;exact⟨zE,zB⟩
  ·replace v:=Bool.eq_false_iff.mpr v
   subst v;replace H:=zj H;obtain rfl:=Option.some.inj H;go_enter Tryz.func93,Tryz.ntmps93
   go_wp2_with (first|((with_reducible refine aH (N:=2) rfl ?_);refine zX 2 #[.int .i64 b,.slice m i.length n] 24 ?_;intro K l bx o hb;have j:=Aside0.mk (o);have ag:=zG a l;have ak:=zG a l;replace a:=zS a hb;clear hb o l;obtain⟨b0,b1,b2,b3⟩:=au j)|((with_reducible refine ax (f:=113) rfl ?_);refine zL (some 12) Tryz.func113 #[.agg #[.int .i64 b,.slice m i.length n]] ?_;(with_reducible refine(bS.calls k b _ _ i false B _ ?af ?ah J.out).mono ?_);(case af=>exact Kd.al G.out zB);(case ah=>exact I.out);rintro e b4 ⟨rfl,hb⟩;refine⟨_,rfl,?_⟩;replace j:=zb j hb;replace a:=zS a hb;(try clear hb)))
   go_ret;exact⟨zE,zB⟩
 ·rw[if_neg c4] at H
  obtain⟨ab,ad⟩:=bu c4;obtain rfl:=Option.some.inj H;go_enter Tryz.func93,Tryz.ntmps93
  go_wp2_with (first|((with_reducible refine aH (N:=2) rfl ?_);refine zX 2 #[.int .i64 b,.slice m i.length n] 24 ?_;intro K l b5 o hb;have j:=Aside0.mk (o);have ag:=zG a l;have ak:=zG a l;replace a:=zS a hb;clear hb o l;obtain⟨b6,b_,b',ca⟩:=au j)|((with_reducible refine ax (f:=113) rfl ?_);refine zL (some 12) Tryz.func113 #[.agg #[.int .i64 b,.slice m i.length n]] ?_;(with_reducible refine(bS.calls k b _ _ i aa B _ ?af ?ah J.out).mono ?_);(case af=>exact Kd.al G.out zB);(case ah=>exact I.out);rintro e cb ⟨rfl,hb⟩;refine⟨_,rfl,?_⟩;replace j:=zb j hb;replace a:=zS a hb;(try clear hb)))
  go_ret;exact⟨zE,zB⟩
def de.f (k:Nat) (b:Int) (e:List (S83)):Option (Int):=(bS.f k b e).bind fun a=>(if a.2=0 then(if a.1=true then(some 0) else(some 13)) else(some a.2))
theorem de.mono:∀a0 a k,ae (de.f k a0 a) (de.f (k+1) a0 a):=by
 intro a0 a k;unfold de.f;repeat' first
   |(with_reducible exact bS.mono _ _ _)
   |(with_reducible exact ae.refl _)
   |(with_reducible exact ae.none _)
   |(with_reducible refine ae.ite ?_ ?_)
   |(with_reducible refine ae.bind ?_ (fun _=>?_))
   |exact bS.mono _ _ _
   |exact ae.none _
   |refine ae.ite ?_ ?_
   |refine ae.bind ?_ (fun _=>?_)
theorem de.calls (k:Nat) (g:Int) (l:Option Addr) (m:Nat) (b:List (S83)) (r:Int) (w:World) (s:Kd.C aK w l b.length b) (u:b.length<=m) (h:de.f k g b=some r):
  Calls Tryz.prog 55 #[.agg #[.int .i64 g,.slice l b.length m]] w fun e w'=>e= .returned (.int .i64 r)∧Below w.heap.size w w':=by
 have D:=Tryz.underlying24;have o:=Aside0.mk s;have p:=Aside0.mk u;clear s u;have a:=Aside0.mk (Below.refl w.heap.size w);unfold de.f at h;have H:=h;clear h;obtain⟨⟨t198,t199⟩,q,H⟩:=zo H;dsimp only at H;by_cases c3:t199=0
 ·rw[if_pos c3] at H
  obtain⟨z,B⟩:=bt c3;clear c3;by_cases c4:t198=true
  ·subst c4
   replace H:=zi H;obtain rfl:=Option.some.inj H;go_enter Tryz.func55,Tryz.ntmps55
   go_wp2_with (first|((with_reducible refine aH (N:=1) rfl ?_);refine zX 1 #[.int .i64 g,.slice l b.length m] 24 ?_;intro v i E n hb;have j:=Aside0.mk (n);have x:=zG a i;have y:=zG a i;replace a:=zS a hb;clear hb n i;obtain⟨F,G,I,J⟩:=au j)|((with_reducible refine ax (f:=113) rfl ?_);refine zL (some 7) Tryz.func113 #[.agg #[.int .i64 g,.slice l b.length m]] ?_;(with_reducible refine(bS.calls k g _ _ b true t199 _ ?af ?ah q.out).mono ?_);(case af=>exact Kd.al o.out zB);(case ah=>exact p.out);rintro e K ⟨rfl,hb⟩;refine⟨_,rfl,?_⟩;replace j:=zb j hb;replace a:=zS a hb;(try clear hb)))
   go_ret;exact⟨zE,zB⟩
  ·replace c4:=Bool.eq_false_iff.mpr c4
   subst c4;replace H:=zj H;obtain rfl:=Option.some.inj H;go_enter Tryz.func55,Tryz.ntmps55
   go_wp2_with (first|((with_reducible refine aH (N:=1) rfl ?_);refine zX 1 #[.int .i64 g,.slice l b.length m] 24 ?_;intro v i L n hb;have j:=Aside0.mk (n);have x:=zG a i;have y:=zG a i;replace a:=zS a hb;clear hb n i;obtain⟨M,O,P,Q⟩:=au j)|((with_reducible refine ax (f:=113) rfl ?_);refine zL (some 7) Tryz.func113 #[.agg #[.int .i64 g,.slice l b.length m]] ?_;(with_reducible refine(bS.calls k g _ _ b false t199 _ ?af ?ah q.out).mono ?_);(case af=>exact Kd.al o.out zB);(case ah=>exact p.out);rintro e R ⟨rfl,hb⟩;refine⟨_,rfl,?_⟩;replace j:=zb j hb;replace a:=zS a hb;(try clear hb)))
   go_ret;exact⟨zE,zB⟩
 ·rw[if_neg c3] at H
  obtain⟨z,B⟩:=bu c3;obtain rfl:=Option.some.inj H;go_enter Tryz.func55,Tryz.ntmps55
  go_wp2_with (first|((with_reducible refine aH (N:=1) rfl ?_);refine zX 1 #[.int .i64 g,.slice l b.length m] 24 ?_;intro v i iy n hb;have j:=Aside0.mk (n);have x:=zG a i;have y:=zG a i;replace a:=zS a hb;clear hb n i;obtain⟨S,T,U,V⟩:=au j)|((with_reducible refine ax (f:=113) rfl ?_);refine zL (some 7) Tryz.func113 #[.agg #[.int .i64 g,.slice l b.length m]] ?_;(with_reducible refine(bS.calls k g _ _ b t198 t199 _ ?af ?ah q.out).mono ?_);(case af=>exact Kd.al o.out zB);(case ah=>exact p.out);rintro e W ⟨rfl,hb⟩;refine⟨_,rfl,?_⟩;replace j:=zb j hb;replace a:=zS a hb;(try clear hb)))
  go_ret;exact⟨zE,zB⟩
theorem qG {n:Nat} {E:List S83} (g:E.length<=1000) (b:cG n E=0) (hp:partsOf E n=1):Ev (fun k=>bS.f k n E) (true,(0:Int)):=by
 obtain⟨h1,j,a⟩:=gJ b;unfold bS.f;have e:=ny (n:Int) E g;rw[b] at e;refine Ev.bind e ?_;have h:lh (n:Int) E=true:=by
  unfold lh;rw[decide_eq_true (by omega),Bool.true_and];refine List.all_eq_true.2 fun x i=>?_
  have:=a.ok x i;simp[bQ] at this⊢;omega
 simp only[if_true,if_pos h,Int.toNat_natCast];rw[show decide (bN (aJ E) n=1)=true from decide_eq_true ((sZ (by omega) (kT a.cT)).2 ((kc (by omega) a).1 hp))];exact Ev.const _
theorem mK {l:List Int} {n:Nat} (h1:1<=n) (a:n<=12) (b:l.length=n) (hb:∀v:Nat,v<n-> -1048576<=rd l v∧rd l v<=1048576):fy l n=0:=qh.2 ⟨by omega,by omega,by omega,fun v e=>hb v (by omega)⟩
theorem D0 {n q:Nat} {E:List S83} {d:List Int} (h:dW n q E d) (b:cG n E=0):Ev (fun k=>iP.f k n E q d) 0:=by
 unfold iP.f;have h1:=h.q;refine Ev.bind (qG h.len b ((kc h.n1 h.right).2 h.conn)) ?_;simp only[if_true,if_neg (show ¬(q:Int)<0 by omega),if_neg (show ¬(q:Int)>=(n:Int) by omega)];refine Ev.bind (a:=(0:Int)) ?_ (Ev.const _);have:=ki d n (by have:=h.dl;have:=h.n12;omega);rw[mK h.n1 h.n12 h.dl (fun v e=>by have:=h.d v e;omega)] at this;exact this
theorem D3 {n q:Nat} {E:List S83} {d:List Int} (h:dW n q E d) (a:cG n E=0):∃s,Ev (fun k=>jP.f k n E q d) (eh n E d s,s,(0:Int))∧s.length=n∧ez n q (aj E) (fun v=>rd d (v:Nat)) (fun v=>rd (eh n E d s) (v:Nat)) (fun v=>rd s (v:Nat)):=by
 obtain⟨s,h1,b,e⟩:=BB h.right h.conn h.q d;refine⟨s,?_,b,e⟩;unfold jP.f;refine Ev.bind (D0 h a) ?_;simp only[if_true,if_pos (h.ok a),Int.toNat_natCast];exact Ev.bind h1 (Ev.const _)
theorem D4 {n:Nat} {E:List S83} {d:List Int} (h:dW n 0 E d) (a:cG n E=0):∃s,Ev (fun k=>jQ.f k n E d) (decide (rd (eh n E d s) 0>=0),eh n E d s,s,(0:Int))∧s.length=n∧ez n 0 (aj E) (fun v=>rd d (v:Nat)) (fun v=>rd (eh n E d s) (v:Nat)) (fun v=>rd s (v:Nat)):=by
 obtain⟨s,h1,b,e⟩:=D3 h a;refine⟨s,?_,b,e⟩;unfold jQ.f;refine Ev.bind h1 ?_;have:=h.n1;simp only[if_true,if_pos (show (0:Int)<((eh n E d s).length:Int) by rw[qi];omega)];exact Ev.const _
theorem D5 {n:Nat} {E:List S83} {d:List Int} (h:dW n 0 E d) (b:cG n E=0):Ev (fun k=>eS.f k n E [d]) 0:=by
 unfold eS.f;refine Ev.bind (qG h.len b ((kc h.n1 h.right).2 h.conn)) ?_;simp only[if_true];refine Ev.of_succ ?_;simp only[eS.l0,List.length_singleton,if_pos (show (0:Int)<((1:Nat):Int) by decide),if_pos (show (0:Int)<=0 by decide),lB,mF];have a:=ki d n (by have:=h.dl;have:=h.n12;omega);rw[mK h.n1 h.n12 h.dl (fun v e=>by have:=h.d v e;omega)] at a;refine Ev.bind a ?_;simp only[if_true];refine Ev.of_succ ?_;simp only[eS.l0,if_neg (show ¬(1:Int)<((1:Nat):Int) by decide)];exact Ev.const _
section
namespace Small
variable {n q:Nat} {E:List S83}
end Small
end
section
attribute [local go_sem] Oper.semAt_some
def eB (d:List Int):Nat->Int
 |0=>0
 |k+1=>eB d k+rd d k
theorem qH {d:List Int} {n:Nat} (hd:∀v:Nat,v<n-> -1048576<=rd d v∧rd d v<=1048576):∀k,k<=n-> -(k*1048576)<=eB d k∧eB d k<=k*1048576
 |0,_=>by simp[eB]
 |k+1,h=>by
  have h1:=qH hd k (by omega);have a:=hd k (by omega);unfold eB;omega
theorem D6 (A0:Option Addr) (c0 n:Nat) (d:List Int) (w:World) (b:Kd.C (Kd.int .i64) w A0 d.length d) (p:d.length<=c0) (a:d.length=n) (K:1<=n) (hn:n<=12) (hd:∀v:Nat,v<n-> -1048576<=rd d v∧rd d v<=1048576):
  Calls Tryz.prog 148 #[.slice A0 n c0] w fun e w'=>e= .returned (.tuple #[.int .i64 (eB d n),.int .i64 0])∧Below w.heap.size w w':=by
 obtain⟨k,hk⟩:=(Dt d (by omega)).get;rw[show qC d=0 from qh.2 ⟨by omega,by omega,rfl,fun v l=>hd v (by omega)⟩] at hk;have q:=Aside0.mk hk;have g:=qF w 26 b p;rw[a] at g;have r:=Aside0.mk g;have s:=Aside0.mk b;have u:=Aside0.mk hd;have z:=Aside0.mk a;have B:=Aside0.mk (qH hd);clear hk b hd g a;go_enter Tryz.func148,Tryz.ntmps148
 go_wp2_with (go_at_call 118;refine(bD.calls k (some ⟨w.heap.size,0,none⟩) 1 [d] 0 _ r.out (by simp) q.out).mono ?_;rintro e w1 ⟨rfl,⟨m,rfl⟩⟩)
 have h:=Aside0.mk (bP (aq (Below.refl w.heap.size w) (.cells #[.slice A0 n c0] 26)) m);generalize (w.alloc (.cells #[.slice A0 n c0] 26)).drewN m=W1 at h⊢;go_loopg [5,16] (n) (fun D E F wr=>∃v:Nat,v<=n∧F= .int .i64 v∧E= .int .i64 (eB d v)∧Aside0 (Below w.heap.size w wr)∧Aside0 (D=n-v))
 case atStart=>exact⟨0,by omega,rfl,rfl,h,⟨rfl⟩⟩
 case round=>
  clear h;obtain⟨v,l,rfl,rfl,i,G⟩:=hrel;by_cases H:v<n
  ·have L:(0:Int)<=(v:Int):=by omega
   have M:(v:Int)<(n:Int):=by omega
   have a:=z.out;obtain⟨N,I,o⟩:=Kd.bG (Kd.al s.out i.out) (v:Int) (by omega) (by omega);subst I;rw[Int.toNat_natCast] at o;have h1:=u.out v H;have J:=B.out v l;have j:=Aside0.mk (show eB d (v+1)=eB d v+rd d v from rfl);clear a;generalize rd d v=x at o h1 j;generalize eB d v=y at J j⊢;go_wp2;go_roundg (n- (v+1))
   case measure=>rw[G.out];omega
   case rel=>exact⟨v+1,by omega,by go_num,by rw[j.out],i,⟨rfl⟩⟩
  ·obtain rfl:n=v:=by omega
   go_wp2;go_ret2;exact⟨rfl,i.out⟩
end
end Go.Proofs.YtffdiakgjakngaaGreat.P
namespace Go.Proofs.YtffdiakgjakngaaGreat.P
open Go.RowKit Go.Maps Go.Proofs.YtffdiakgjakngaaGreatW.PrintWords Go.Proofs.YtffdiakgjakngaaGreatW.PrintLast Go.Proofs.YtffdiakgjakngaaGreatW.PrintMore
set_option linter.unusedVariables false
set_option linter.unusedSimpArgs false
set_option maxHeartbeats 8000000
set_option maxRecDepth 100000
section
theorem vN {α:Type} (f:α->α):∀(l:List α) (j:Nat) (e:α),l[j]? =some e->l.modify j f=l.set j (f e)
 |[],j,e,h=>by simp at h
 |x::l,0,e,h=>by
  obtain rfl:x=e:=by simpa using h
  rfl
 |x::l,j+1,e,h=>by
  have:=vN f l j e (by simpa using h);simp[this]
def dQ (l:List Int):Value:=.agg (l.map (Value.int .i64)).toArray
def lD (l:List Int):Prop:=l.length=12∧∀x∈l, -1000000<=x∧x<=1000000
theorem jR:WideMaps.KeyLaw Tryz.prog 172:=deep_law (m:=2) (by decide) (by kernel_rfl) (by kernel_rfl) (by kernel_rfl)
theorem mapM_some {α β:Type} {f:α->Option β}:∀{l:List α},(∀x∈l,∃y,f x=some y)->∃ys,l.mapM f=some ys
 |[],_=>⟨[],rfl⟩
 |x::l,h=>by
  obtain⟨y,a⟩:=h x (List.mem_cons_self ..);obtain⟨ys,b⟩:=mapM_some (l:=l) (fun z e=>h z (List.mem_cons_of_mem _ e));exact⟨y::ys,by rw[List.mapM_cons,a,b];rfl⟩
theorem qI:Tryz.prog.underlying 172=some (.array 12 3):=by kernel_rfl
theorem vO:Tryz.prog.cellsOf 172=12:=by kernel_rfl
theorem D7:Tryz.prog.cellsOf 3=1:=by kernel_rfl
theorem D8:Tryz.prog.keyType 172=true:=by kernel_rfl
theorem D9:∃m,Tryz.prog.types.size=m+1:=⟨Tryz.prog.types.size-1,by
 have h:decide (0<Tryz.prog.types.size)=true:=by kernel_rfl
 have a:=of_decide_eq_true h;omega⟩
theorem oC {l:List Int} (h:lD l):∃s,keyOf Tryz.prog 172 (dQ l)=some s:=by
 unfold keyOf;rw[qI];have hf:(dQ l).formed Tryz.prog 172=true:=by
  unfold dQ Value.formed;rw[qI,vO];simp[h.1]
 simp only[D8,hf,Bool.and_self,if_true];obtain⟨m,hm⟩:=D9;rw[hm];unfold Program.keyLits;rw[qI];have b:(dQ l).cells.toList=l.map (Value.int .i64):=by simp[dQ,Value.cells]
 rw[b];dsimp only;rw[vO,D7];simp only[List.length_map,h.1,if_true];obtain⟨ys,g⟩:=mapM_some (f:=fun i=>Tryz.prog.keyLits (m+1) 3 (List.take 1 (List.drop (i*1) (l.map (Value.int .i64))))) (l:=List.range 12) (fun i hi=>by
  have hi:=List.mem_range.1 hi;have a:i<l.length:=by rw[h.1];exact hi
  have e:List.take 1 (List.drop (i*1) (l.map (Value.int .i64)))=[Value.int .i64 l[i]]:=by
   rw[Nat.mul_one,List.drop_eq_getElem_cons (by simpa using a)];simp
  have hb:=h.2 l[i] (List.getElem_mem a);refine⟨[.int .i64 l[i]],?_⟩;show Tryz.prog.keyLits (m+1) 3 (List.take 1 (List.drop (i*1) (l.map (Value.int .i64))))=_
  rw[e];unfold Program.keyLits;rw[Tryz.underlying3];simp only[true_and];rw[if_pos (WalkArith.wf_i64 (by omega))])
 rw[g];exact⟨_,rfl⟩
theorem D_ {a b:List Int} (h:dQ a=dQ b):a=b:=by
 unfold dQ at h;injection h with h
 have e:=congrArg Array.toList h;simp only at e;have key:∀a b:List Int,a.map (Value.int .i64)=b.map (Value.int .i64)->a=b:=by
  intro a;induction a with
  |nil=>intro b h;cases b with|nil=>rfl|cons y b=>simp at h
  |cons x a g=>
   intro b h;cases b with
   |nil=>simp at h
   |cons y b=>
    simp only[List.map_cons,List.cons.injEq,Value.int.injEq,true_and] at h;rw[h.1,g b h.2]
 exact key a b e
def dH (G:List Int->Int->Prop) (w:World) (b:Nat):Prop:=∃es clock,w.heap[b]? =some (.map es clock)∧(∀e∈es.toList,∃l x,e.key=dQ l∧e.val= .int .i64 x∧lD l∧G l x)∧(es.toList.map fun e=>e.key).Pairwise (· ≠ ·)
namespace dH
variable {G:List Int->Int->Prop} {w w':World} {b:Nat}
theorem lt (h:dH G w b):b<w.heap.size:=by
 obtain⟨es,c,h, -⟩:=h;exact ay h
theorem ik (h:dH G w b) (hk:w'.heap[b]? =w.heap[b]?):dH G w' b:=by
 obtain⟨es,c,h1,a,e⟩:=h;exact⟨es,c,hk.trans h1,a,e⟩
theorem below (h:dH G w b) (hb:Below w.heap.size w w'):dH G w' b:=h.ik (hb.block b h.lt)
theorem alloc (h:dH G w b) (o:Obj):dH G (w.alloc o) b:=h.below (aq (Below.refl _ _) o)
theorem gM (h:dH G w b) (p:Addr) (v:Value) (hp:b≠p.block):dH G (w.setCell p v) b:=h.ik (Below.heap_setCell _ _ _ _ hp)
theorem made (w:World):dH G (w.alloc (.map #[] 0)) w.heap.size:=⟨#[],0,heap_alloc_new w _,fun e he=>by simp at he,by simp⟩
theorem look (h:dH G w b) (y:∀w,(zeroValue 3).run Tryz.prog w= .ok (.int .i64 0) w) {l:List Int} (o:lD l):
  (∃x,G l x∧∀w':World,w'.heap[b]? =w.heap[b]? ->(Instr.lookup 169 (.map (some b)) (dQ l) true).run Tryz.prog w'= .ok (.tuple #[.int .i64 x,.bool true]) w')∨(∀w':World,w'.heap[b]? =w.heap[b]? ->(Instr.lookup 169 (.map (some b)) (dQ l) true).run Tryz.prog w'= .ok (.tuple #[.int .i64 0,.bool false]) w'):=by
 obtain⟨es,c,hb,r,p⟩:=h;have u:∀e∈es.toList,∃l,keyOf Tryz.prog 172 e.key=some l:=fun e he=>by
  obtain⟨l,x,hk, -,o, -⟩:=r e he;rw[hk];exact oC o
 obtain⟨s,n⟩:=oC o;by_cases hex:∃(j:Nat) (e:MapEntry),es.toList[j]? =some e∧e.key=dQ l
 ·left
  obtain⟨j,e,i,hk⟩:=hex;obtain⟨l',x,a,z,D,B⟩:=r e (List.mem_of_getElem? i);obtain rfl:=D_ (a.symm.trans hk);refine⟨x,B,fun w' q=>?_⟩;rcases jR.find w' n es.toList u with⟨h1,v⟩|⟨k,e',h1,g,a⟩
  ·exact absurd hk (v e (List.mem_of_getElem? i))
  ·have C:e'=e:=by
    have l1:=(List.getElem?_eq_some_iff.1 i).1;have l2:=(List.getElem?_eq_some_iff.1 g).1;have g1:=(List.getElem?_eq_some_iff.1 i).2;have g2:=(List.getElem?_eq_some_iff.1 g).2;rw[List.pairwise_iff_getElem] at p;rcases Nat.lt_trichotomy j k with m|m|m
    ·have:=p j k (by simpa using l1) (by simpa using l2) m
     simp only[List.getElem_map,g1,g2] at this;exact absurd (hk.trans a.symm) this
    ·subst m
     rw[i] at g;exact(Option.some.inj g).symm
    ·have:=p k j (by simpa using l2) (by simpa using l1) m
     simp only[List.getElem_map,g1,g2] at this;exact absurd (a.trans hk.symm) this
   subst C;simp[Instr.lookup,run_underlying Tryz.underlying169,MapKept.run_getObj_map (q.trans hb),jR.check w' _ n,h1,z,Result.andThen]
 ·right
  intro w' q;rcases jR.find w' n es.toList u with⟨h1,v⟩|⟨k,e',h1,g,a⟩
  ·simp[Instr.lookup,run_underlying Tryz.underlying169,MapKept.run_getObj_map (q.trans hb),jR.check w' _ n,h1,y,Result.andThen]
  ·exact absurd ⟨k,e',g,a⟩ hex
theorem store (h:dH G w b) {l:List Int} {x:Int} (a:lD l) (o:G l x):
  ∃w',(Instr.mapUpdate 169 (.map (some b)) (dQ l) (.int .i64 x)).run Tryz.prog w= .ok () w'∧dH G w' b∧w.grownBy w' (some b):=by
 obtain⟨es,c,hb,n,p⟩:=h;have u:∀e∈es.toList,∃l,keyOf Tryz.prog 172 e.key=some l:=fun e he=>by
  obtain⟨l,x,hk, -,a, -⟩:=n e he;rw[hk];exact oC a
 obtain⟨s,g⟩:=oC a;have q:=ay hb;rcases jR.find w g es.toList u with⟨h1,v⟩|⟨j,e,h1,m,hk⟩
 ·refine⟨w.putObj b (.map (es.push ⟨dQ l,.int .i64 x,c⟩) (c+1)),?_,⟨_,_,World.putObj_heap_same q,fun e he=>?_,?_⟩,?_⟩
  ·simp[Instr.mapUpdate,run_underlying Tryz.underlying169,MapKept.run_getObj_map hb,jR.check w _ g,h1,MapKept.run_setObj_map _ hb,Result.andThen,World.putObj]
  ·simp only[Array.toList_push,List.mem_append,List.mem_singleton] at he
   rcases he with he|rfl
   ·exact n e he
   ·exact⟨l,x,rfl,rfl,a,o⟩
  ·simp only[Array.toList_push,List.map_append,List.map_cons,List.map_nil]
   refine List.pairwise_append.2 ⟨p,by simp,fun k hk k' y=>?_⟩;obtain rfl:=List.mem_singleton.1 y;obtain⟨e,he,rfl⟩:=List.mem_map.1 hk;exact v e he
  ·exact grownBy_putObj' w b _
 ·have z:j<es.toList.length:=(List.getElem?_eq_some_iff.1 m).1
  have B:es[j]? =some e:=by simpa using m
  have r:(es.modify j (fun e'=>{e' with key:=dQ l,val:=.int .i64 x})).toList=es.toList.set j {e with key:=dQ l,val:=.int .i64 x}:=by rw[Array.toList_modify,vN _ _ _ _ m]
  refine⟨w.putObj b (.map (es.modify j (fun e'=>{e' with key:=dQ l,val:=.int .i64 x})) c),?_,⟨_,_,World.putObj_heap_same q,fun e' he=>?_,?_⟩,?_⟩
  ·simp[Instr.mapUpdate,run_underlying Tryz.underlying169,MapKept.run_getObj_map hb,jR.check w _ g,h1,B,hk,jR.stays w g,MapKept.run_setObj_map _ hb,Result.andThen,World.putObj]
  ·rw[r] at he
   rcases List.mem_or_eq_of_mem_set he with he|rfl
   ·exact n e' he
   ·exact⟨l,x,rfl,rfl,a,o⟩
  ·rw[r]
   have:(es.toList.set j {e with key:=dQ l,val:=.int .i64 x}).map (fun e=>e.key)=es.toList.map (fun e=>e.key):=by
    rw[List.map_set];refine List.ext_getElem (by simp) fun i D a2=>?_
    rw[List.getElem_set];split
    ·rename_i C
     subst C;have:es.toList[j]=e:=by
      have:=List.getElem?_eq_getElem z;rw[m] at this;exact(Option.some.inj this).symm
     simp only[List.getElem_map,this];exact hk.symm
    ·rfl
   rw[this];exact p
  ·exact grownBy_putObj' w b _
theorem len (h:dH G w b) (ty:TypeId):∃m:Nat,(Builtin.len_ #[169] ty #[.map (some b)]).run Tryz.prog w= .ok (.int .i64 m) w∧∃a:List (List Int),a.length=m∧a.Pairwise (· ≠ ·)∧∀l∈a,∃x,G l x:=by
 obtain⟨es,c,hb,j,n⟩:=h;refine⟨es.size,by simp[Builtin.len_,run_underlying Tryz.underlying169,MapKept.run_getObj_map hb,goInt,Result.andThen],?_⟩;have key:∀L:List MapEntry,(∀e∈L,∃l x,e.key=dQ l∧e.val= .int .i64 x∧lD l∧G l x)->(L.map fun e=>e.key).Pairwise (· ≠ ·)->∃a:List (List Int),a.length=L.length∧a.map dQ=L.map (fun e=>e.key)∧a.Pairwise (· ≠ ·)∧∀l∈a,∃x,G l x:=by
  intro L;induction L with
  |nil=>intro _ _;exact⟨[],rfl,rfl,List.Pairwise.nil,fun l o=>by cases o⟩
  |cons e L p=>
   intro h i;obtain⟨l,x,hk, -, -,q⟩:=h e (List.mem_cons_self ..);rw[List.map_cons,List.pairwise_cons] at i;obtain⟨a,i1,i2,i3,i4⟩:=p (fun e he=>h e (List.mem_cons_of_mem _ he)) i.2;refine⟨l::a,by simp[i1],by simp[i2,hk],List.pairwise_cons.2 ⟨fun k g r=>?_,i3⟩,fun k g=>?_⟩
   ·subst r
    refine i.1 (dQ l) ?_ hk;rw[<-i2];exact List.mem_map.2 ⟨l,g,rfl⟩
   ·rcases List.mem_cons.1 g with rfl|g
    ·exact⟨x,q⟩
    ·exact i4 k g
 obtain⟨a,i1, -,i3,i4⟩:=key es.toList j n;exact⟨a,by simpa using i1,i3,i4⟩
end dH
end
end Go.Proofs.YtffdiakgjakngaaGreat.P
namespace Go.Proofs.YtffdiakgjakngaaGreat.P
open Go.RowKit Go.Proofs.YtffdiakgjakngaaGreatW.PrintWords Go.Proofs.YtffdiakgjakngaaGreatW.PrintLast Go.Proofs.YtffdiakgjakngaaGreatW.PrintMore
set_option linter.unusedVariables false
set_option linter.unusedSimpArgs false
set_option maxHeartbeats 8000000
set_option maxRecDepth 100000
section
attribute [local go_sem] Oper.semAt_some iU iV iW iX
theorem oD (d:List Int):∀n,eB d n=T.sN (fun v=>rd d (v:Nat)) n
 |0=>rfl
 |n+1=>by
  show eB d n+_=T.sN _ n+_
  rw[oD d n]
def fO (W:World) (a:Nat) (n:Nat) (A0:Option Addr) (E:List S83) (c0:Nat) (g:Int) (b:Nat):Prop:=W.heap[a]? =some (.cells #[.int .i64 n,.slice A0 E.length c0,.int .i64 g,.map (some b)] 171 (0,0))
def eJ (a:Nat) (W W':World):Prop:=Below a W W'∧∀k,k<W.heap.size->k≠a->W'.heap[k]? =W.heap[k]?
theorem eJ.lE {a:Nat} {W W':World} (h:Below W.heap.size W W') (hm:a<=W.heap.size):eJ a W W':=⟨h.mono hm,fun k hk _=>h.block k hk⟩
theorem eJ.trans {a:Nat} {A B C:World} (h:eJ a A B) (b:eJ a B C):eJ a A C:=⟨h.1.trans b.1,fun k hk e=>(b.2 k (Nat.lt_of_lt_of_le hk h.1.size) e).trans (h.2 k hk e)⟩
theorem eJ.vP {a:Nat} {W W':World} (h:eJ a W W') {k:Nat} {cs:Array Value} {t:TypeId} (hk:W.heap[k]? =some (.cells cs t (0,0))) (b:k≠a):W'.heap[k]? =some (.cells cs t (0,0)):=(h.2 k (ay hk) b).trans hk
structure qJ (n:Nat) (E:List S83) (g:Int):Prop where
 n1:1<=n
 n12:n<=12
 right:bm n E
 conn:e7 n E
 len:E.length<=1000
 val:T.sN (T.val n (aj E)) n<=19
 gen:T.ee n (aj E) g
 g0: -100<=g∧g<=100
 vQ:∀d:List Int,dW n 0 E d->∃k s,jQ.f k n E d=some (decide (rd (eh n E d s) 0>=0),eh n E d s,s,0)∧jO n E 0 d s=true
 bM:∀a:List (List Int),a.Pairwise (· ≠ ·)->(∀l∈a,∃x,jk n (aj E) g l x)->a.length<16384
def oE (n:Nat) (d:List Int):Prop:=d.length=n∧∀v:Nat,v<n-> -200<=rd d v∧rd d v<=200
def qK (n:Nat) (t:Nat->Nat->Int) (g:Int) (d:List Int) (a:Nat) (W:World) (e:Ending) (W':World):Prop:=∃r:Int,e= .returned (.tuple #[.int .i64 r,.int .i64 0])∧Rk n t d r∧dH (jk n t g) W' a∧eJ a W W'
theorem vR (n:Nat) (A0:Option Addr) (c0:Nat) (E:List S83) (g:Int) (q i:Nat) (w0:World) (g3:Kd.C aK w0 A0 E.length E) (er:E.length<=c0) (hG:qJ n E g) (g4:w0.heap.size<=i)
  (d:List Int) (A:Option Addr) (c:Nat) (W:World) (hd:oE n d) (ih:0<=eB d n->∀(d':List Int) (A':Option Addr) (c':Nat) (W':World),oE n d'->eB d' n<eB d n->Below w0.heap.size w0 W'->fO W' q n A0 E c0 g i->dH (jk n (aj E) g) W' i->Kd.C (Kd.int .i64) W' A' d'.length d'->d'.length<=c'->Calls Tryz.prog 95 #[.pointer (some ⟨q,0,none⟩),.slice A' n c'] W' (qK n (aj E) g d' i W')) (hB:Below w0.heap.size w0 W) (hF:fO W q n A0 E c0 g i) (hM:dH (jk n (aj E) g) W i) (ak:q≠i) (hC:Kd.C (Kd.int .i64) W A d.length d) (hc:d.length<=c):
  Calls Tryz.prog 95 #[.pointer (some ⟨q,0,none⟩),.slice A n c] W (qK n (aj E) g d i W):=by
  have IH:=Aside0.mk ih;have X:=Aside0.mk hG;have HD:=Aside0.mk hd;have HB:=Aside0.mk hB;have HF:=Aside0.mk hF;have HM:=Aside0.mk hM;have HC:=Aside0.mk hC;have c7:=Aside0.mk hc;have e1:=hG.n1;have b6:=hG.n12;have e2:=hG.g0;have h8:=Tryz.underlying171;have hu:=Tryz.underlying24;have g6:=hM.lt;have h9:=ay hF;have e3:=Aside0.mk (qH (n:=n) (d:=d) (fun v Q=>by have:=hd.2 v Q;omega) n (Nat.le_refl n));have e4:=Aside0.mk (oD d n);clear ih hG hd hB hF hM hC hc;go_enter Tryz.func95,Tryz.ntmps95
  go_wp2_with fail
  refine(D6 A c n d W HC.out c7.out HD.out.1 e1 b6 (fun v Q=>by have:=HD.out.2 v Q;omega)).mono ?_;rintro e w1 ⟨rfl,hb⟩;have b_:=Aside0.mk hb;have b':=Aside0.mk (show fO w1 q n A0 E c0 g i from aG HF.out hb);have ap:=Aside0.mk (HM.out.below hb);clear hb;have ca:=Aside0.mk (aU HB.out b_.out);have cb:=Aside0.mk (eJ.lE b_.out (Nat.le_of_lt g6));have y2:w1.cell? ⟨q,2,none⟩=some (.int .i64 g):=(ao b'.out 2).trans rfl;have y0:w1.cell? ⟨q,0,none⟩=some (.int .i64 n):=(ao b'.out 0).trans rfl;have y1:w1.cell? ⟨q,1,none⟩=some (.slice A0 E.length c0):=(ao b'.out 1).trans rfl;have Z:0<n:=by omega
  have aa:=Aside0.mk X.out.right.wt;have e5:=Aside0.mk (X.out.right.conn X.out.conn);have hb:=e3.out;have bw:Aside0 (eB d n=T.sN (fun v=>rd d (v:Nat)) n):=e4;generalize g7:eB d n=S at hb IH bw⊢;have g8: -20000000<=S:=by omega
  have g9:S<=20000000:=by omega
  clear g7 hb e3 e4;by_cases e6:S<0
  ·have P:Aside0 (Rk n (aj E) d (-1)):=⟨uh aa.out Z (fun hw=>by have:=hw.a6 aa.out;rw[<-bw.out] at this;omega)⟩
   have g':decide (S<0)=true:=decide_eq_true e6;go_wp2;go_ret2;exact⟨-1,rfl,P.out,ap.out,cb.out⟩
  have g':decide (S<0)=false:=decide_eq_false e6;by_cases cc:2*g-2<S
  ·have P:Aside0 (Rk n (aj E) d (S-g)):=⟨by rw[bw.out];exact BD aa.out e5.out Z X.out.gen (by rw[<-bw.out];exact cc)⟩
   have ha:decide (2*g-2<S)=true:=decide_eq_true cc;obtain⟨he,hf⟩:=e2;go_wp2;go_ret2;exact⟨S-g,rfl,P.out,ap.out,cb.out⟩
  have ha:decide (2*g-2<S)=false:=decide_eq_false cc;obtain⟨he,hf⟩:=e2;obtain⟨kW,s,e',hs⟩:=X.out.vQ d ⟨e1,b6,Z,X.out.len,X.out.right,X.out.conn,X.out.val,HD.out.1,HD.out.2⟩;have cd:=(mw X.out.right).1 hs;have ce:=Aside0.mk cd.2;have Y:=Aside0.mk (qi n E d s);have bx:=Aside0.mk e';have fn:=Aside0.mk (Kd.al g3 ca.out);have fo:=Aside0.mk (Kd.al HC.out b_.out);have c8:=Aside0.mk (ez.bound aa.out e5.out Z b6 X.out.val HD.out.2 cd.2);have b0:Aside0 (T.bI n (aj E) (fun v=>rd d (v:Nat)) (fun v=>rd (eh n E d s) (v:Nat))):=⟨⟨_,cd.2.eq⟩⟩;have hg:=Aside0.mk HD.out.1;clear e' hs cd;generalize eh n E d s=cl at ce Y bx c8 b0;have hh:=hg.out;subst hh;cases aO:decide (rd cl 0>=0) with
  |false=>
   have aP:¬0<=rd cl (0:Nat):=by simpa using aO
   have P:Aside0 (Rk d.length (aj E) d (-1)):=⟨uh aa.out Z (fun hw=>aP ((T.nB aa.out Z ce.out.red).1 (hw.fF b0.out)))⟩;rw[aO] at bx;clear aO aP;go_wp2_with (go_at_call 14;refine(jQ.calls kW d.length A0 c0 E A c d false cl s 0 _ fn.out er fo.out c7.out bx.out).mono ?_;rintro e w2 ⟨v1,v2,rfl,aS,c9,ad⟩;have cf:=Aside0.mk (cb.out.trans (eJ.lE ad (Nat.le_of_lt ap.out.lt)));have a0:=Aside0.mk (ap.out.below ad);clear aS c9 ad)
   go_ret2;exact⟨-1,rfl,P.out,a0.out,cf.out⟩
  |true=>
   have aP:0<=rd cl (0:Nat):=by simpa using aO
   have hl:Aside0 (T.b7 d.length (aj E) (fun v=>rd cl (v:Nat))):=⟨(T.nB aa.out Z ce.out.red).2 aP⟩;have hm:=Aside0.mk aP;rw[aO] at bx;clear aO aP;go_wp2_with (go_at_call 14;refine(jQ.calls kW d.length A0 c0 E A c d true cl s 0 _ fn.out er fo.out c7.out bx.out).mono ?_;rintro e w2 ⟨v1,v2,rfl,aS,c9,ad⟩;obtain⟨l,cr,rfl,ii,im, -⟩:=Kd.fg aS (by rw[Y.out];omega);rw[Y.out] at aS⊢;have ch:=Aside0.mk (Kd.aV aS (ok':=fun _=>True) (fun _ _=>trivial));have cf:=Aside0.mk (cb.out.trans (eJ.lE ad (Nat.le_of_lt ap.out.lt)));have a0:=Aside0.mk (ap.out.below ad);have fq:=Aside0.mk (aU ca.out ad);have fr:=Aside0.mk (show fO w2 q d.length A0 E c0 g i from aG b'.out ad);have io:=ad.size;clear aS c9 ad)
   obtain⟨qs,ft,dk⟩:∃qs:List Int,qs=iM cl∧qs.length=12:=⟨_,rfl,BG (by rw[Y.out];exact b6)⟩;have HQ:=Aside0.mk ft;have fv:=Kd.aA ch.out;have hn:=Aside0.mk fv.2.2;rw[run_copy_row _ (w2.alloc (.cells #[.int .i64 0,.int .i64 0,.int .i64 0,.int .i64 0,.int .i64 0,.int .i64 0,.int .i64 0,.int .i64 0,.int .i64 0,.int .i64 0,.int .i64 0,.int .i64 0] 172)) 25 26 3 3 w2.heap.size 0 12 12 ⟨l,0,none⟩ d.length cr _ 172 (cl.map (Value.int .i64)) Tryz.underlying25 (by kernel_rfl) (heap_alloc_new w2 _) (by rw[List.length_map,Y.out];show d.length=min d.length 12;omega) (fun j v hj=>by
    obtain⟨dl,hp⟩:=List.getElem?_eq_some_iff.1 hj;rw[List.length_map] at dl;have h:=(Kd.bJ 0 (Kd.aI ch.out (.cells #[.int .i64 0,.int .i64 0,.int .i64 0,.int .i64 0,.int .i64 0,.int .i64 0,.int .i64 0,.int .i64 0,.int .i64 0,.int .i64 0,.int .i64 0,.int .i64 0] 172)) (j:Int) (by omega) (by rw[Y.out] at dl;omega)).1;rw[Int.toNat_natCast] at h;rw[add_plain,h,<-hp];simp[bH,List.getD_eq_getElem?_getD,List.getElem?_eq_getElem dl]) (by rw[List.length_map,Y.out];simp;omega) (fun v Q=>by obtain⟨x, -,rfl⟩:=List.mem_map.1 Q;rfl)]
   have hq:∃z B D F G H I J K M N O:Int,qs=[z,B,D,F,G,H,I,J,K,M,N,O]:=by
    match qs,dk with
    |[z,B,D,F,G,H,I,J,K,M,N,O],_=>exact⟨_,_,_,_,_,_,_,_,_,_,_,_,rfl⟩
   obtain⟨z,B,D,F,G,H,I,J,K,M,N,O,hk⟩:=hq;rw[show ((#[.int .i64 0,.int .i64 0,.int .i64 0,.int .i64 0,.int .i64 0,.int .i64 0,.int .i64 0,.int .i64 0,.int .i64 0,.int .i64 0,.int .i64 0,.int .i64 0]:Array Value).toList.take 0++cl.map (Value.int .i64)++(#[.int .i64 0,.int .i64 0,.int .i64 0,.int .i64 0,.int .i64 0,.int .i64 0,.int .i64 0,.int .i64 0,.int .i64 0,.int .i64 0,.int .i64 0,.int .i64 0]:Array Value).toList.drop (0+(cl.map (Value.int .i64)).length)).toArray=#[.int .i64 z,.int .i64 B,.int .i64 D,.int .i64 F,.int .i64 G,.int .i64 H,.int .i64 I,.int .i64 J,.int .i64 K,.int .i64 M,.int .i64 N,.int .i64 O] from by
    rw[show (#[.int .i64 0,.int .i64 0,.int .i64 0,.int .i64 0,.int .i64 0,.int .i64 0,.int .i64 0,.int .i64 0,.int .i64 0,.int .i64 0,.int .i64 0,.int .i64 0]:Array Value).toList=List.replicate 12 (Value.int .i64 0) from rfl,List.take_zero,List.nil_append,List.length_map,Nat.zero_add,List.drop_replicate];have h:qs.map (Value.int .i64)=cl.map (Value.int .i64)++List.replicate (12-cl.length) (Value.int .i64 0):=by rw[HQ.out,iM,List.map_append,List.map_replicate]
    rw[<-h,hk];rfl]
   have ds:=Aside0.mk hk;have U:=Aside0.mk (setRow_heap (w2.alloc (.cells #[.int .i64 0,.int .i64 0,.int .i64 0,.int .i64 0,.int .i64 0,.int .i64 0,.int .i64 0,.int .i64 0,.int .i64 0,.int .i64 0,.int .i64 0,.int .i64 0] 172)) w2.heap.size _ #[.int .i64 z,.int .i64 B,.int .i64 D,.int .i64 F,.int .i64 G,.int .i64 H,.int .i64 I,.int .i64 J,.int .i64 K,.int .i64 M,.int .i64 N,.int .i64 O] _ _ (heap_alloc_new w2 _));have ar:=Aside0.mk (below_setRow (g:=w2.heap.size) (aq (Below.refl w2.heap.size w2) (.cells #[.int .i64 0,.int .i64 0,.int .i64 0,.int .i64 0,.int .i64 0,.int .i64 0,.int .i64 0,.int .i64 0,.int .i64 0,.int .i64 0,.int .i64 0,.int .i64 0] 172)) (Nat.le_refl _) #[.int .i64 z,.int .i64 B,.int .i64 D,.int .i64 F,.int .i64 G,.int .i64 H,.int .i64 I,.int .i64 J,.int .i64 K,.int .i64 M,.int .i64 N,.int .i64 O]);clear hk ft fv;rw[Result.andThen_ok];generalize (w2.alloc (.cells #[.int .i64 0,.int .i64 0,.int .i64 0,.int .i64 0,.int .i64 0,.int .i64 0,.int .i64 0,.int .i64 0,.int .i64 0,.int .i64 0,.int .i64 0,.int .i64 0] 172)).setRow w2.heap.size #[.int .i64 z,.int .i64 B,.int .i64 D,.int .i64 F,.int .i64 G,.int .i64 H,.int .i64 I,.int .i64 J,.int .i64 K,.int .i64 M,.int .i64 N,.int .i64 O]=y at U ar⊢;rw[Oper.upon_value];have f0:=Aside0.mk (aU fq.out ar.out);have dv:=Aside0.mk (show fO y q d.length A0 E c0 g i from aG fr.out ar.out);have a1:=Aside0.mk (a0.out.below ar.out);have d0:=Aside0.mk (cf.out.trans (eJ.lE ar.out (Nat.le_of_lt a0.out.lt)));have f1:=Aside0.mk (Kd.cp ch.out ar.out);have f2:l≠i:=by have:=ap.out.lt;omega
   have f4:w2.heap.size≠i:=by have:=a0.out.lt;omega
   have d1:l≠w2.heap.size:=by omega
   clear fq fr a0 cf ch ar hn;have f5:Aside0 (lD qs):=⟨⟨dk,fun x hx=>by
    rw[HQ.out,iM] at hx;rcases List.mem_append.1 hx with hx|hx
    ·obtain⟨v,Q,rfl⟩:=List.getElem_of_mem hx
     have h:=c8.out v (by rw[<-Y.out];exact Q);have e:rd cl (v:Int)=cl[v]:=by simp[rd,List.getD_eq_getElem?_getD,List.getElem?_eq_getElem Q]
     rw[e] at h;omega
    ·rw[List.eq_of_mem_replicate hx];omega⟩⟩
   have d2:=a1.out.look pC f5.out;rw[ds.out] at d2;have x0:y.cell? ⟨w2.heap.size,0,none⟩=some (.int .i64 z):=(ao U.out 0).trans rfl;have x1:y.cell? ⟨w2.heap.size,1,none⟩=some (.int .i64 B):=(ao U.out 1).trans rfl;have x2:y.cell? ⟨w2.heap.size,2,none⟩=some (.int .i64 D):=(ao U.out 2).trans rfl;have x3:y.cell? ⟨w2.heap.size,3,none⟩=some (.int .i64 F):=(ao U.out 3).trans rfl;have x4:y.cell? ⟨w2.heap.size,4,none⟩=some (.int .i64 G):=(ao U.out 4).trans rfl;have x5:y.cell? ⟨w2.heap.size,5,none⟩=some (.int .i64 H):=(ao U.out 5).trans rfl;have x6:y.cell? ⟨w2.heap.size,6,none⟩=some (.int .i64 I):=(ao U.out 6).trans rfl;have x7:y.cell? ⟨w2.heap.size,7,none⟩=some (.int .i64 J):=(ao U.out 7).trans rfl;have x8:y.cell? ⟨w2.heap.size,8,none⟩=some (.int .i64 K):=(ao U.out 8).trans rfl;have x9:y.cell? ⟨w2.heap.size,9,none⟩=some (.int .i64 M):=(ao U.out 9).trans rfl;have bf:y.cell? ⟨w2.heap.size,10,none⟩=some (.int .i64 N):=(ao U.out 10).trans rfl;have bg:y.cell? ⟨w2.heap.size,11,none⟩=some (.int .i64 O):=(ao U.out 11).trans rfl;have f3:y.cell? ⟨q,3,none⟩=some (.map (some i)):=(ao dv.out 3).trans rfl;have b1:dQ [z,B,D,F,G,H,I,J,K,M,N,O]= .agg #[.int .i64 z,.int .i64 B,.int .i64 D,.int .i64 F,.int .i64 G,.int .i64 H,.int .i64 I,.int .i64 J,.int .i64 K,.int .i64 M,.int .i64 N,.int .i64 O]:=rfl;rw[b1] at d2;clear b1 dk;rcases d2 with⟨x,hx,b2⟩|b2
   ·have d3:∀m,(Instr.lookup 169 (.map (some i)) (.agg #[.int .i64 z,.int .i64 B,.int .i64 D,.int .i64 F,.int .i64 G,.int .i64 H,.int .i64 I,.int .i64 J,.int .i64 K,.int .i64 M,.int .i64 N,.int .i64 O]) true).run Tryz.prog (y.drewN m)= .ok (.tuple #[.int .i64 x,.bool true]) (y.drewN m):=fun m=>b2 _ rfl
    have hr:Aside0 (Rk d.length (aj E) d x):=⟨by
     obtain⟨c',ht,f6,hy, -⟩:=hx;rw[<-ds.out,HQ.out] at f6;obtain rfl:=BH Y.out ht f6;exact T.bK.fF b0.out.symm hy⟩
    clear b2 hx;go_wp2_with fail
    go_quiet (fail)
    clear d3 x0 x1 x2 x3 x4 x5 x6 x7 x8 x9 bf bg f3;have bi:=Aside0.mk (a1.out.below (bP (Below.refl _ _) nq));have b3:=Aside0.mk (d0.out.trans (eJ.lE (bP (Below.refl _ _) nq) (Nat.le_of_lt a1.out.lt)));go_wp2;go_ret2;exact⟨x,rfl,hr.out,bi.out,b3.out⟩
   ·have d3:∀m,(Instr.lookup 169 (.map (some i)) (.agg #[.int .i64 z,.int .i64 B,.int .i64 D,.int .i64 F,.int .i64 G,.int .i64 H,.int .i64 I,.int .i64 J,.int .i64 K,.int .i64 M,.int .i64 N,.int .i64 O]) true).run Tryz.prog (y.drewN m)= .ok (.tuple #[.int .i64 0,.bool false]) (y.drewN m):=fun m=>b2 _ rfl
    clear b2;go_wp2_with fail
    go_quiet (fail)
    clear d3 x0 x1 x2 x3 x4 x5 x6 x7 x8 x9 bf bg f3;have av:=bP (Below.refl y.heap.size y) nq;have bi:=Aside0.mk (a1.out.below av);have b3:=Aside0.mk (d0.out.trans (eJ.lE av (Nat.le_of_lt a1.out.lt)));have cj:=Aside0.mk (show fO (y.drewN nq) q d.length A0 E c0 g i from aG dv.out av);have d4:=Aside0.mk (Kd.cp f1.out av);have d5:=Aside0.mk (aU f0.out av);have ck:=Aside0.mk (aG U.out av);clear av a1 d0 dv f1 f0 U;generalize y.drewN nq=W4 at bi b3 cj d4 d5 ck⊢;obtain⟨ml,hlen,ks,hE,f7,f8⟩:=bi.out.len 3;have hH:=X.out.bM ks f7 f8;have ip:((ml:Int)==16384)=false:=by simp;omega
    have f3:W4.cell? ⟨q,3,none⟩=some (.map (some i)):=(ao cj.out 3).trans rfl;clear hE f7 f8 hH;have f9:T.sN (fun v=>rd cl (v:Nat)) d.length=S:=by rw[bw.out];exact T.bI.a6 aa.out b0.out
    have co:Aside0 (∀v:Nat,v<d.length->0<=rd cl v):=⟨fun v Q=>by
     by_cases e:v=0
     ·subst e;exact hm.out
     ·exact(c8.out v Q).2.2.2.2 e |>.1⟩
    have f':Aside0 (∀v:Nat,v<d.length->rd cl v<=198):=⟨fun v Q=>by
     have h:=T.gh (f:=fun v=>rd cl (v:Nat)) Q co.out;have h2:rd cl (v:Nat)<=T.sN (fun v=>rd cl (v:Nat)) d.length:=h;omega⟩
    have d6:=Aside0.mk f9;clear f9;go_wp2;clear hlen f3;generalize d7:w2.heap.size=o at f4 d1 ck⊢;have is:=Nat.le_of_eq d7;have it:=Nat.le_of_eq d7.symm;clear d7;have iv:(d.length:Int)<=12:=by omega
    go_loopg [81,14] (d.length) (fun kq vv lv wr=>∃(v:Nat) (L:Int),v<=d.length∧vv= .int .i64 v∧lv= .int .i64 L∧ -20000000<=L∧L<=20000000∧Aside0 (∀u,u<v->∀k,T.bK d.length (aj E) (fun w=>rd cl (w:Nat)-T.one u w) k->L<=k+1)∧Aside0 (L=S∨∃u,u<v∧∃k,T.bK d.length (aj E) (fun w=>rd cl (w:Nat)-T.one u w) k∧L=k+1)∧Aside0 ((Kd.int .i64).R 3 wr w1.heap.size (fun _=>True) (.slice (some ⟨l,0,none⟩) d.length cr) cl)∧Aside0 (dH (jk d.length (aj E) g) wr i)∧Aside0 (eJ i W wr)∧Aside0 (Below w0.heap.size w0 wr)∧Aside0 (fO wr q d.length A0 E c0 g i)∧Aside0 (wr.heap[o]? =some (.cells #[.int .i64 z,.int .i64 B,.int .i64 D,.int .i64 F,.int .i64 G,.int .i64 H,.int .i64 I,.int .i64 J,.int .i64 K,.int .i64 M,.int .i64 N,.int .i64 O] 172 (0,0)))∧Aside0 (kq=d.length-v))
    case atStart=>exact⟨0,S,by omega,rfl,rfl,g8,g9,⟨fun u hu=>by omega⟩,⟨.inl rfl⟩,d4,bi,b3,d5,cj,ck,⟨rfl⟩⟩
    case round=>
     clear d4 bi b3 d5 cj ck;obtain⟨v,L,Q,rfl,rfl,hL,hN,d8,gb,HR,HM,HK,gc,HF,V,hO⟩:=hrel;by_cases b4:v<d.length
     ·have i0:(0:Int)<=(v:Int):=by omega
      have i1:(v:Int)<(d.length:Int):=by omega
      have d9:=Y.out;obtain⟨z1,z2⟩:=Kd.bJ 0 HR.out (v:Int) (by omega) (by omega);rw[Int.toNat_natCast] at z1 z2;replace z1:wr.cell? ⟨l,v,none⟩=some (.int .i64 (rd cl v)):=z1;have hP:=co.out v b4;have hQ:=f'.out v b4;have P:=Kd.cZ HR.out (v:Int) (rd cl v-1);rw[Int.toNat_natCast] at P;have bn:=Aside0.mk P.1;have cx:=Aside0.mk (show fO (wr.setCell ⟨l,v,none⟩ (.int .i64 (rd cl v-1))) q d.length A0 E c0 g i from aC HF.out (by show q≠l;have:=HF.out;intro e;subst e;have h2:=(Kd.fS HR.out q rfl);obtain⟨cs,b5⟩:=h2;rw[fO,b5] at this;injection this with h;injection h with _ h _;exact absurd h (by decide)) _);have ea:=Aside0.mk (HM.out.gM ⟨l,v,none⟩ (.int .i64 (rd cl v-1)) (fun e=>f2 e.symm));have eb:=Aside0.mk (aC (p:=⟨l,v,none⟩) V.out (fun e=>d1 e.symm) (.int .i64 (rd cl v-1)));have c1:=Aside0.mk (Below.setCell (p:=⟨l,v,none⟩) gc.out (by show w0.heap.size<=l;have:=ca.out.size;omega) (.int .i64 (rd cl v-1)));have i2:W.heap.size<=l:=by have:=b_.out.size;omega
      have ed:Aside0 (eJ i W (wr.setCell ⟨l,v,none⟩ (.int .i64 (rd cl v-1)))):=⟨Below.setCell (p:=⟨l,v,none⟩) HK.out.1 (by show i<=l;omega) _,fun k hk ak=>(Below.heap_setCell _ _ _ _ (by show k≠l;omega)).trans (HK.out.2 k hk ak)⟩;have c2:∀u,u<d.length->rd (cl.set v (rd cl v-1)) (u:Nat)=rd cl u-T.one v u:=BE d9 b4;have gd:eB (cl.set v (rd cl v-1)) d.length=S-1:=by
       rw[oD,T.bC c2,T.c_,d6.out,T.eY b4]
      have ge:=Aside0.mk (IH.out (by omega) (cl.set v (rd cl v-1)) (some ⟨l,0,none⟩) cr _ ⟨by rw[List.length_set];exact d9,fun u hu=>by
       rw[c2 u hu];have a:=co.out u hu;have b:=f'.out u hu;unfold T.one;split<;>omega⟩ (by omega) c1.out cx.out ea.out (Kd.aA bn.out).2.2 (by have h:=(Kd.aA bn.out);rw[<-h.1];exact h.2.1))
      have gf:=Aside0.mk c2;have gg:=Aside0.mk (BF (c:=cl) (v:=v) (by omega) (rd cl v-1));have hR:=Aside0.mk (show (cl.set v (rd cl v-1)).length=cl.length from by rw[List.length_set]);clear P c2 d9 HR HM HK gc HF V;generalize gi:rd cl v=xv at z1 hP hQ gd bn cx ea eb c1 ed ge gg hR gf;have i3:=Aside0.mk gi;clear gi;go_wp2_with fail
      refine ge.out.mono ?_;rintro e w6 ⟨r,rfl,c4,gl,bo⟩;have i4: -1<=r:=c4.1;have eg:Aside0 (T.bK d.length (aj E) (fun w=>rd cl (w:Nat)-T.one v w) r):=⟨nZ (fun u hu=>(gf.out u hu).symm) c4⟩;have i5:r<=S:=by
       by_cases e0:0<=r
       ·have h:=T.bK.pz aa.out Z c4 e0
        rw[<-oD,gd] at h;omega
       ·omega
      clear c4;have ek:=Aside0.mk (Kd.aV (ok':=fun _=>True) (Kd.eU (Kd.fU rfl bn.out) (fun k hk=>bo.2 k (by obtain⟨cs,b5⟩:=Kd.fS bn.out k hk.symm;exact ay b5) (by have:=Option.some.inj (show some l=some k from hk.symm);omega))) (fun _ _=>trivial));have gm:=Aside0.mk (show fO w6 q d.length A0 E c0 g i from bo.vP cx.out ak);have hV:=Aside0.mk (bo.vP eb.out f4);have hW:=Aside0.mk (show Below w0.heap.size w0 w6 from c1.out.trans (bo.1.mono g4));have gn:=Aside0.mk (ed.out.trans bo);have hX:=Aside0.mk gl;clear gl bo bn cx eb c1 ed ea;obtain⟨z3,z4⟩:=Kd.bJ 0 ek.out (v:Int) (by omega) (by omega);rw[Int.toNat_natCast] at z3 z4;have go:bH 0 (cl.set v (xv-1)) (v:Int)=xv-1:=jg _ _ _ (by rw[Y.out];exact b4);rw[go] at z3;have P:=Kd.cZ ek.out (v:Int) xv;rw[Int.toNat_natCast,gg.out] at P;have gp:=Aside0.mk P.1;clear P go;have gq:=Aside0.mk (show fO (w6.setCell ⟨l,v,none⟩ (.int .i64 xv)) q d.length A0 E c0 g i from aC gm.out (by show q≠l;have:=gm.out;intro e;subst e;have h2:=(Kd.fS ek.out q rfl);obtain⟨cs,b5⟩:=h2;rw[fO,b5] at this;injection this with h;injection h with _ h _;exact absurd h (by decide)) _);have gs:=Aside0.mk (hX.out.gM ⟨l,v,none⟩ (.int .i64 xv) (fun e=>f2 e.symm));have gt:=Aside0.mk (aC (p:=⟨l,v,none⟩) hV.out (fun e=>d1 e.symm) (.int .i64 xv));have gx:=Aside0.mk (Below.setCell (p:=⟨l,v,none⟩) hW.out (by show w0.heap.size<=l;have:=ca.out.size;omega) (.int .i64 xv));have g1:Aside0 (eJ i W (w6.setCell ⟨l,v,none⟩ (.int .i64 xv))):=⟨Below.setCell (p:=⟨l,v,none⟩) gn.out.1 (by show i<=l;omega) _,fun k hk ak=>(Below.heap_setCell _ _ _ _ (by show k≠l;omega)).trans (gn.out.2 k hk ak)⟩;go_wp2
      all_goals
       go_roundg (d.length- (v+1))
       case measure=>rw[hO.out];omega
      case rel=>exact⟨v+1,r+1,by omega,by go_num,rfl,by omega,by omega,⟨fun u hu k hk=>by
       by_cases e:u=v
       ·subst e
        have:=T.bK.unique Z hk eg.out;omega
       ·have:=d8.out u (by omega) k hk
        omega⟩,⟨.inr ⟨v,by omega,r,eg.out,rfl⟩⟩,gp,gs,g1,gx,gq,gt,⟨rfl⟩⟩
      exact⟨v+1,L,by omega,by go_num,rfl,hL,hN,⟨fun u hu k hk=>by
       by_cases e:u=v
       ·subst e
        have:=T.bK.unique Z hk eg.out;omega
       ·exact d8.out u (by omega) k hk⟩,⟨gb.out.imp id (fun⟨u,hu,h⟩=>⟨u,by omega,h⟩)⟩,gp,gs,g1,gx,gq,gt,⟨rfl⟩⟩
     ·obtain rfl:v=d.length:=by omega
      have P:Aside0 (Rk d.length (aj E) cl L):=⟨BC aa.out Z hl.out d8.out (by rw[d6.out];exact gb.out)⟩;have hY:Aside0 (Rk d.length (aj E) d L):=⟨T.bK.fF b0.out.symm P.out⟩;have h1:Aside0 (jk d.length (aj E) g qs L):=⟨cl,Y.out,HQ.out,P.out,co.out,fun v Q h0=>T.nE aa.out ce.out.red.2 Q h0,by rw[d6.out];simpa using cc⟩;obtain⟨w9,el,g2,em⟩:=dH.store (HM.out.ik (w':=wr.drew) rfl) f5.out h1.out;have x0:wr.cell? ⟨o,0,none⟩=some (.int .i64 z):=(ao V.out 0).trans rfl;have x1:wr.cell? ⟨o,1,none⟩=some (.int .i64 B):=(ao V.out 1).trans rfl;have x2:wr.cell? ⟨o,2,none⟩=some (.int .i64 D):=(ao V.out 2).trans rfl;have x3:wr.cell? ⟨o,3,none⟩=some (.int .i64 F):=(ao V.out 3).trans rfl;have x4:wr.cell? ⟨o,4,none⟩=some (.int .i64 G):=(ao V.out 4).trans rfl;have x5:wr.cell? ⟨o,5,none⟩=some (.int .i64 H):=(ao V.out 5).trans rfl;have x6:wr.cell? ⟨o,6,none⟩=some (.int .i64 I):=(ao V.out 6).trans rfl;have x7:wr.cell? ⟨o,7,none⟩=some (.int .i64 J):=(ao V.out 7).trans rfl;have x8:wr.cell? ⟨o,8,none⟩=some (.int .i64 K):=(ao V.out 8).trans rfl;have x9:wr.cell? ⟨o,9,none⟩=some (.int .i64 M):=(ao V.out 9).trans rfl;have bf:wr.cell? ⟨o,10,none⟩=some (.int .i64 N):=(ao V.out 10).trans rfl;have bg:wr.cell? ⟨o,11,none⟩=some (.int .i64 O):=(ao V.out 11).trans rfl;have f3:wr.cell? ⟨q,3,none⟩=some (.map (some i)):=(ao HF.out 3).trans rfl;rw[ds.out] at el;have b1:dQ [z,B,D,F,G,H,I,J,K,M,N,O]= .agg #[.int .i64 z,.int .i64 B,.int .i64 D,.int .i64 F,.int .i64 G,.int .i64 H,.int .i64 I,.int .i64 J,.int .i64 K,.int .i64 M,.int .i64 N,.int .i64 O]:=rfl;rw[b1] at el;have h5:=Aside0.mk g2;have h6:=HM.out.lt;have h7:Aside0 (eJ i W w9):=⟨⟨Below.grown (gF HK.out.1) em (Nat.le_of_lt h6) (fun k e=>by cases e;exact Nat.le_refl _),fun k hk ak=>(em.block k (Nat.lt_of_lt_of_le hk (HK.out.1.size)) (fun e=>ak (Option.some.inj e))).trans (HK.out.2 k hk ak)⟩⟩;clear g2 em b1;go_wp2_with fail
      refine wp_region_still_tail 6 (by kernel_rfl) (by kernel_rfl) ?_;simp only[List.take_succ_cons,List.take_zero,List.drop_succ_cons,List.drop_zero];repeat still_step
      refine wpStill_nil ?_;change wpList _ _ _ _ _ wr.drew
      replace x0:wr.drew.cell? ⟨o,0,none⟩=some (.int .i64 z):=x0;replace x1:wr.drew.cell? ⟨o,1,none⟩=some (.int .i64 B):=x1;replace x2:wr.drew.cell? ⟨o,2,none⟩=some (.int .i64 D):=x2;replace x3:wr.drew.cell? ⟨o,3,none⟩=some (.int .i64 F):=x3;replace x4:wr.drew.cell? ⟨o,4,none⟩=some (.int .i64 G):=x4;replace x5:wr.drew.cell? ⟨o,5,none⟩=some (.int .i64 H):=x5;replace x6:wr.drew.cell? ⟨o,6,none⟩=some (.int .i64 I):=x6;replace x7:wr.drew.cell? ⟨o,7,none⟩=some (.int .i64 J):=x7;replace x8:wr.drew.cell? ⟨o,8,none⟩=some (.int .i64 K):=x8;replace x9:wr.drew.cell? ⟨o,9,none⟩=some (.int .i64 M):=x9;replace bf:wr.drew.cell? ⟨o,10,none⟩=some (.int .i64 N):=bf;replace bg:wr.drew.cell? ⟨o,11,none⟩=some (.int .i64 O):=bg;replace f3:wr.drew.cell? ⟨q,3,none⟩=some (.map (some i)):=f3;generalize wr.drew=wd at x0 x1 x2 x3 x4 x5 x6 x7 x8 x9 bf bg f3 el⊢;go_wp2;go_ret2;exact⟨L,rfl,hY.out,h5.out,h7.out⟩
theorem vS (n:Nat) (A0:Option Addr) (c0:Nat) (E:List S83) (g:Int) (b a:Nat) (w0:World) (e:Kd.C aK w0 A0 E.length E) (i:E.length<=c0) (j:qJ n E g) (k:w0.heap.size<=a) (l:b≠a):
  ∀(m:Nat) (d:List Int) (A:Option Addr) (c:Nat) (W:World),oE n d->eB d n<m->Below w0.heap.size w0 W->fO W b n A0 E c0 g a->dH (jk n (aj E) g) W a->Kd.C (Kd.int .i64) W A d.length d->d.length<=c->
   Calls Tryz.prog 95 #[.pointer (some ⟨b,0,none⟩),.slice A n c] W (qK n (aj E) g d a W)
 |0,d,A,c,W,hd,r,o,hF,p,hC,q=>vR n A0 c0 E g b a w0 e i j k d A c W hd (fun h=>by omega) o hF p l hC q
 |m+1,d,A,c,W,hd,r,o,hF,p,hC,q=>vR n A0 c0 E g b a w0 e i j k d A c W hd (fun h d' A' s W' u B v w x y z=>vS n A0 c0 E g b a w0 e i j k l m d' A' s W' u (by omega) v w x y z) o hF p l hC q
end
end Go.Proofs.YtffdiakgjakngaaGreat.P
namespace Go.Proofs.YtffdiakgjakngaaGreat.P
open Go.RowKit Go.Maps Go.Proofs.YtffdiakgjakngaaGreatW.PrintWords Go.Proofs.YtffdiakgjakngaaGreatW.PrintLast Go.Proofs.YtffdiakgjakngaaGreatW.PrintMore
set_option linter.unusedVariables false
set_option linter.unusedSimpArgs false
set_option maxHeartbeats 8000000
set_option maxRecDepth 100000
section
attribute [local go_sem] Oper.semAt_some
theorem Ea (G:List Int->Int->Prop) (k n:Nat) (A0:Option Addr) (c0:Nat) (E:List S83) (n' g:Int) (a:List S83) (w:World) (m:Kd.C aK w A0 E.length E) (v:E.length<=c0) (o:dy.f k n E=some (n',a,0)) (p:dx.f k n' a=some (g,0)):
  Calls Tryz.prog 94 #[.agg #[.int .i64 n,.slice A0 E.length c0]] w fun e w'=>∃h b,e= .returned (.tuple #[.pointer (some ⟨h,0,none⟩),.int .i64 0])∧fO w' h n A0 E c0 g b∧dH G w' b∧h≠b∧w.heap.size<=b∧Below w.heap.size w w':=by
 have hu:=Tryz.underlying24;have J:=Tryz.underlying171;have x:=Aside0.mk o;have y:=Aside0.mk p;have z:=Aside0.mk m;clear o p m;go_enter Tryz.func94,Tryz.ntmps94
 have q:=heap_alloc_new w (.cells #[.int .i64 n,.slice A0 E.length c0] 24);go_wp2_with (go_at_call 30;refine(dy.calls k n A0 c0 E n' a 0 _ (Kd.br z.out _) v x.out).mono ?_;rintro e w1 ⟨v1,rfl,i,j⟩;obtain⟨B,c1,rfl⟩:=Kd.aZ i;have r:=Aside0.mk (Kd.aA i);have D:=Aside0.mk (aU (aq (Below.refl w.heap.size w) _) j);have F:=Aside0.mk (aG q j);clear i j)
 refine(dx.calls k n' B c1 a g 0 _ (Kd.br r.out.2.2 _) r.out.2.1 y.out).mono ?_;rintro e w2 ⟨rfl,l⟩;have s:=Aside0.mk (aG (aw F.out _) l);have u:=Aside0.mk (aU (aq D.out _) l);have K:w2.cell? ⟨w.heap.size,0,none⟩=some (.int .i64 n):=(ao s.out 0).trans rfl;have L:w2.cell? ⟨w.heap.size,1,none⟩=some (.slice A0 E.length c0):=(ao s.out 1).trans rfl;have aQ:=u.out.size;clear l q;have M:=@run_makeMap Tryz.prog;go_wp2_with fail
 have H:=aq (Below.refl w2.heap.size w2) (.map #[] 0);have I:=aq H (.cells #[.int .i64 n,.slice A0 E.length c0,.int .i64 g,.map (some w2.heap.size)] 171);go_ret2;refine⟨_,w2.heap.size,rfl,?_,(dH.made w2).alloc _,by omega,by omega,aU u.out I⟩;have:=heap_alloc_new (w2.alloc (.map #[] 0)) (.cells #[.int .i64 n,.slice A0 E.length c0,.int .i64 g,.map (some w2.heap.size)] 171);rw[show (w2.alloc (.map #[] 0)).heap.size=w2.heap.size+1 from by simp] at this;exact this
noncomputable def vT (n:Nat) (t:Nat->Nat->Int) (d:List Int):Int:=@Classical.epsilon Int ⟨0⟩ fun r=>Rk n t d r
theorem vU {n:Nat} {t:Nat->Nat->Int} {d:List Int} (hn:0<n) {r:Int} (h:Rk n t d r):vT n t d=r:=
 T.bK.unique hn (@Classical.epsilon_spec_aux Int ⟨0⟩ (fun r=>Rk n t d r) ⟨r,h⟩) h
noncomputable def dZ.f (k:Nat) (N:Int) (E:List S83) (d:List Int):Option (Int×Int):=
 (eS.f k N E [d]).bind fun e=>if e=0 then(if gy N E 0 d=true then((dy.f k N E).bind fun p=>if p.2.2=0 then((dx.f k p.1 p.2.1).bind fun g=>if g.2=0 then(if T.sN (T.can N.toNat (aj E)) N.toNat=2*g.1-2 then some (vT N.toNat (aj E) d,0) else none) else none) else none) else none) else some (0,e)
theorem Eb (k:Nat) (N:Int) (A0:Option Addr) (c0:Nat) (E:List S83) (a:Option Addr) (c2:Nat) (d:List Int) (t:Int) (w:World) (l:Kd.C aK w A0 E.length E) (m:E.length<=c0) (g:Kd.C (Kd.int .i64) w a d.length d) (h:d.length<=c2)
  (i:eS.f k N E [d]=some t) (j:t≠0):
  Calls Tryz.prog 41 #[.agg #[.int .i64 N,.slice A0 E.length c0],.slice a d.length c2] w fun e w'=>e= .returned (.tuple #[.int .i64 0,.int .i64 t])∧Below w.heap.size w w':=by
 have hu:=Tryz.underlying24;have n:=Aside0.mk i;have o:=Aside0.mk g;have p:=Aside0.mk h;have r:(t != 0)=true:=by simpa using j
 clear i j g h;go_enter Tryz.func41,Tryz.ntmps41
 have b:=qF (w.alloc (.cells #[.int .i64 N,.slice A0 E.length c0] 24)) 26 (Kd.br o.out _) p.out;rw[show (w.alloc (.cells #[.int .i64 N,.slice A0 E.length c0] 24)).heap.size=w.heap.size+1 from by simp] at b;go_wp2_with fail
 refine(eS.calls k N A0 c0 E (some ⟨w.heap.size+1,0,none⟩) 1 [d] t _ (Kd.br (Kd.br l _) _) m b (Nat.le_refl 1) n.out).mono ?_;rintro e w1 ⟨rfl,hb⟩;have q:=Aside0.mk (aU (aq (aq (Below.refl w.heap.size w) (.cells #[.int .i64 N,.slice A0 E.length c0] 24)) (.cells #[.slice a d.length c2] 26)) hb);clear hb b;go_wp2;go_ret2;exact⟨rfl,q.out⟩
theorem Ec {n:Nat} {t:Nat->Nat->Int} (a:T.Wt n t) (hn:n<=12) (h:T.sN (T.val n t) n<=19) {g:Int} (b:T.ee n t g): -100<=g∧g<=100:=by
 have h1:T.sN (T.can n t) n=T.sN (T.val n t) n-2*n:=by
  have key:∀m:Nat,T.sN (T.can n t) m=T.sN (T.val n t) m-2*m:=by
   intro m;induction m with
   |zero=>simp[T.sN]
   |succ m e=>
    show T.sN (T.can n t) m+T.can n t m=T.sN (T.val n t) m+T.val n t m-_
    rw[e];unfold T.can;omega
  exact key n
 have i:T.sN (T.can n t) n=2*g-2:=b;have j:0<=T.sN (T.val n t) n:=T.di fun v _=>T.di fun u _=>a.pos v u
 omega
theorem Ed {n:Nat} {E:List S83} {d:List Int} {g:Int} (h:dW n 0 E d) (i:cG n E=0) (a:T.ee n (aj E) g):qJ n E g where
 n1:=h.n1
 n12:=h.n12
 right:=h.right
 conn:=h.conn
 len:=h.len
 val:=h.val
 gen:=a
 g0:=Ec h.right.wt h.n12 h.val a
 vQ:=fun d' e=>by
  obtain⟨s,h1,b,j⟩:=D4 e i;obtain⟨k,hk⟩:=h1.get;exact⟨k,s,hk,(mw e.right).2 ⟨b,j⟩⟩
 bM:=fun l h1 b=>BM h.right.wt h.n1 a h.val l h1 b
theorem Ee (k n:Nat) (A0:Option Addr) (c0:Nat) (E:List S83) (a:Option Addr) (c2:Nat) (d:List Int) (n' g:Int) (h:List S83) (w:World) (i:Kd.C aK w A0 E.length E) (j:E.length<=c0) (p:Kd.C (Kd.int .i64) w a d.length d) (q:d.length<=c2)
  (s:eS.f k n E [d]=some 0) (b:dW n 0 E d) (u:cG n E=0) (v:dy.f k n E=some (n',h,0)) (x:dx.f k n' h=some (g,0)) (K:T.ee n (aj E) g):
  Calls Tryz.prog 41 #[.agg #[.int .i64 n,.slice A0 E.length c0],.slice a d.length c2] w fun e w'=>∃r,e= .returned (.tuple #[.int .i64 r,.int .i64 0])∧Rk n (aj E) d r∧Below w.heap.size w w':=by
 have hu:=Tryz.underlying24;have L:=Aside0.mk s;have M:=Aside0.mk v;have N:=Aside0.mk x;have y:=Aside0.mk p;have z:=Aside0.mk q;have O:=Aside0.mk (Ed b u K);have P:Aside0 (oE n d):=⟨b.dl,b.d⟩;have Q:=Aside0.mk b.dl;clear s v x p q b u;have B:=heap_alloc_new w (.cells #[.int .i64 n,.slice A0 E.length c0] 24);have l:=qF (w.alloc (.cells #[.int .i64 n,.slice A0 E.length c0] 24)) 26 (Kd.br y.out _) z.out;rw[show (w.alloc (.cells #[.int .i64 n,.slice A0 E.length c0] 24)).heap.size=w.heap.size+1 from by simp] at l;go_enter Tryz.func41,Tryz.ntmps41
 go_wp2_with fail
 refine(eS.calls k n A0 c0 E (some ⟨w.heap.size+1,0,none⟩) 1 [d] 0 _ (Kd.br (Kd.br i _) _) j l (Nat.le_refl 1) L.out).mono ?_;rintro e w1 ⟨rfl,hb⟩;have D:=Aside0.mk (aG (aw B (.cells #[.slice a d.length c2] 26)) hb);have m:=Aside0.mk (aU (aq (aq (Below.refl w.heap.size w) (.cells #[.int .i64 n,.slice A0 E.length c0] 24)) (.cells #[.slice a d.length c2] 26)) hb);have Z:w1.cell? ⟨w.heap.size,0,none⟩=some (.int .i64 n):=(ao D.out 0).trans rfl;have y1:w1.cell? ⟨w.heap.size,1,none⟩=some (.slice A0 E.length c0):=(ao D.out 1).trans rfl;clear hb l B;go_wp2_with fail
 refine(Ea (jk n (aj E) g) k n A0 c0 E n' g h w1 (Kd.al i m.out) j M.out N.out).mono ?_;rintro e w2 ⟨R,F,rfl,hF,G,S,ab,H⟩;have o:=Aside0.mk (aU m.out H);have U:=Aside0.mk hF;have V:=Aside0.mk G;have I:w.heap.size<=F:=by have:=m.out.size;omega
 clear hF G H;go_wp2_with fail
 have W:=Q.out;subst W;refine(vS d.length A0 c0 E g R F w i j O.out I S ((eB d d.length).toNat+1) d a c2 w2 P.out (by omega) o.out U.out V.out (Kd.al y.out o.out) z.out).mono ?_;rintro e w3 ⟨r,rfl,J, -,hk⟩;have X:=Aside0.mk J;have Y:=Aside0.mk (o.out.trans (hk.1.mono I));clear J hk;go_wp2;go_ret2;exact⟨r,rfl,X.out,Y.out⟩
theorem dZ.calls (k:Nat) (j:Int) (l:Option Addr) (m:Nat) (b:List (S83)) (o:Option Addr) (c1:Nat) (l1:List Int) (s:Int) (u:Int) (w:World) (v:Kd.C aK w l b.length b) (x:b.length<=m) (y:Kd.C (Kd.int .i64) w o l1.length l1) (z:l1.length<=c1) (h:dZ.f k j b l1=some (s,u)):
  Calls Tryz.prog 41 #[.agg #[.int .i64 j,.slice l b.length m],.slice o l1.length c1] w fun e w'=>e= .returned (.tuple #[.int .i64 s,.int .i64 u])∧Below w.heap.size w w':=by
 unfold dZ.f at h;obtain⟨e,he,a⟩:=Option.bind_eq_some_iff.1 h;clear h;by_cases q:e=0
 ·subst q
  rw[if_pos rfl] at a;by_cases i:gy j b 0 l1=true
  ·rw[if_pos i] at a
   obtain⟨⟨n',E,F⟩,G,a⟩:=Option.bind_eq_some_iff.1 a;have H:cG j b=0:=by
    unfold gy at i;rw[Bool.and_eq_true,decide_eq_true_eq] at i;exact i.1.2.2.2.2.2.1
   obtain⟨n,I,rfl,L,hO⟩:=nY i;obtain rfl:I=0:=by omega
   simp only at a;by_cases B:F=0
   ·subst B
    rw[if_pos rfl] at a;obtain⟨⟨g,e2⟩,J,a⟩:=Option.bind_eq_some_iff.1 a;simp only at a;by_cases D:e2=0
    ·subst D
     rw[if_pos rfl] at a;by_cases p:T.sN (T.can (n:Int).toNat (aj b)) (n:Int).toNat=2*g-2
     ·rw[if_pos p] at a
      simp only[Option.some.injEq,Prod.mk.injEq,Int.toNat_natCast] at a;obtain⟨rfl,rfl⟩:=a;rw[Int.toNat_natCast] at p;refine(Ee k n l m b o c1 l1 n' g E w v x y z he hO H G J p).mono ?_;rintro e w' ⟨r,rfl,K,hb⟩;rw[vU hO.n1 K];exact⟨rfl,hb⟩
     ·rw[if_neg p] at a;cases a
    ·rw[if_neg D] at a;cases a
   ·rw[if_neg B] at a;cases a
  ·rw[if_neg i] at a;cases a
 ·rw[if_neg q] at a
  simp only[Option.some.injEq,Prod.mk.injEq] at a;obtain⟨rfl,rfl⟩:=a;exact Eb k j l m b o c1 l1 e w v x y z he q
end
end Go.Proofs.YtffdiakgjakngaaGreat.P

