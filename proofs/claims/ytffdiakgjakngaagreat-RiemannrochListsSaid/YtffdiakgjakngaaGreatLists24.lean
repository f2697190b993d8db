/- Lists2 answers true whatever the input (text 4 of 8): own walks and plain laws; no conditions. -/
import Derived.AtR
import Derived.BigQuiet
import Derived.BigRegion
import Derived.BigRegionIn
import Derived.Deep.QuietTactic
import Derived.Deep.RegionHeld3
import Derived.Deep.RegionLaw
import Derived.Laws.CopyOwn
import Derived.RegionTactic
import Derived.Sort.QuietIn
import Derived.Test.YtffdiakgjakngaaGreatLists23
namespace Go.Proofs.YtffdiakgjakngaaGreat.T
set_option linter.unusedVariables false
set_option linter.unusedSimpArgs false
set_option maxHeartbeats 8000000
set_option maxRecDepth 100000
def dB (n:Nat) (t:Nat->Nat->Int):Prop:=∀S:Nat->Bool,(∃v,v<n/\S v=true)->(∃v,v<n/\S v=false)->∃u v,u<n/\v<n/\S u=true/\S v=false/\0<t u v
theorem DP {f:Nat->Nat->Int} (h:∀u v,f u v= -f v u) (n:Nat):sN (fun v=>sN (fun u=>f v u) n) n=0:=by
 have h1:=nF f n n;have a:sN (fun u=>sN (fun v=>f v u) n) n=sN (fun u=> -sN (fun v=>f u v) n) n:=bL fun u _=>by
  rw[<-nE];exact bL fun v _=>h v u
 rw[a,nE] at h1;omega
theorem DQ {n:Nat} {t:Nat->Nat->Int} (a:Wt n t) (S:Nat->Bool) (s:Nat->Int):sN (fun v=>if S v=true then aV n t s v else 0) n=sN (fun v=>sN (fun u=>if S v=true/\S u=false then t v u*(s v-s u) else 0) n) n:=by
 have h1:=DP (f:=fun v u=>if S v=true/\S u=true then t v u*(s v-s u) else 0) (fun u v=>by
  by_cases e:S u=true/\S v=true
  ·rw[if_pos e,if_pos ⟨e.2,e.1⟩,a.sym v u,<-Int.mul_neg];congr 1;omega
  ·rw[if_neg e,if_neg (fun h=>e ⟨h.2,h.1⟩)];rfl) n
 have b:sN (fun v=>if S v=true then aV n t s v else 0) n=sN (fun v=>sN (fun u=>if S v=true/\S u=true then t v u*(s v-s u) else 0) n+sN (fun u=>if S v=true/\S u=false then t v u*(s v-s u) else 0) n) n:=by
  refine bL fun v _=>?_
  show (if S v=true then aV n t s v else 0)=_
  by_cases e:S v=true
  ·rw[if_pos e,<-dE]
   unfold aV;refine bL fun u _=>?_
   cases hu:S u<;>simp[e]
  ·rw[if_neg e,iu fun u _=>if_neg (fun h=>e h.1),iu fun u _=>if_neg (fun h=>e h.1)];rfl
 rw[b,dE,h1];omega
theorem DR {n:Nat} {t:Nat->Nat->Int} (g:Wt n t) (S:Nat->Bool) (s:Nat->Int) (M:Int) (m:0<=M) (j:∀u v,u<n->v<n->S u=true->S v=false->M<=s u-s v) {a b:Nat} (h:a<n) (hb:b<n) (k:S a=true) (l:S b=false) (q:0<t a b):
  M<=sN (fun v=>if S v=true then aV n t s v else 0) n:=by
 rw[DQ g];have hp:∀v,v<n->∀u,u<n->0<=(if S v=true/\S u=false then t v u*(s v-s u) else 0):=fun v i u hu=>by
  by_cases e:S v=true/\S u=false
  ·rw[if_pos e]
   have:=j v u i hu e.1 e.2;exact Int.mul_nonneg (g.pos _ _) (by omega)
  ·rw[if_neg e];exact Int.le_refl _
 have h1:=fL (f:=fun v=>sN (fun u=>if S v=true/\S u=false then t v u*(s v-s u) else 0) n) h (fun v i=>dw (hp v i));have o:=fL (f:=fun u=>if S a=true/\S u=false then t a u*(s a-s u) else 0) hb (hp a h);refine Int.le_trans ?_ (Int.le_trans o h1);show M<=(if S a=true/\S b=false then t a b*(s a-s b) else 0)
 rw[if_pos ⟨k,l⟩];have p:=j a b h hb k l;have r:=Int.mul_le_mul (show (1:Int)<=t a b by omega) p m (g.pos _ _);omega
def b7 (S:Nat->Bool):Nat->Nat
 |0=>0
 |n+1=>b7 S n+if S n=true then 1 else 0
theorem j8 (S:Nat->Bool):∀n,b7 S n<=n
 |0=>Nat.le_refl _
 |n+1=>by have:=j8 S n;unfold b7;split<;>omega
theorem nH {S T:Nat->Bool}:∀{n:Nat},(∀v,v<n->S v=true->T v=true)->b7 S n<=b7 T n
 |0,_=>Nat.le_refl _
 |n+1,h=>by
  have h1:=nH (n:=n) (fun v b=>h v (by omega));have a:=h n (by omega);unfold b7;cases hS:S n with
  |true=>rw[a hS];simp;exact h1
  |false=>simp only[Bool.false_eq_true,if_false];split<;>omega
theorem pq {S T:Nat->Bool} {w:Nat}:∀{n:Nat},(∀v,v<n->S v=true->T v=true)->w<n->S w=false->T w=true->b7 S n<b7 T n
 |0,_,h,_,_=>by omega
 |n+1,h,hw,hS,a=>by
  by_cases e:w=n
  ·subst e
   have h1:=nH (n:=w) (fun v b=>h v (by omega));unfold b7;rw[hS,a];simp;omega
  ·have h1:=pq (n:=n) (fun v b=>h v (by omega)) (by omega) hS a
   have g:=h n (by omega);unfold b7;cases i:S n with
   |true=>rw[g i];simp;omega
   |false=>simp only[Bool.false_eq_true,if_false];split<;>omega
theorem rC {S:Nat->Bool}:∀{n:Nat},n<=b7 S n->∀v,v<n->S v=true
 |0,_,v,a=>by omega
 |n+1,h,v,a=>by
  have h1:=j8 S n;unfold b7 at h;by_cases e:S n=true
  ·rw[if_pos e] at h
   by_cases e2:v=n
   ·subst e2;exact e
   ·exact rC (n:=n) (by omega) v (by omega)
  ·rw[if_neg e] at h;omega
theorem DS {S:Nat->Bool} {w n:Nat} (hw:w<n) (hS:S w=true):1<=b7 S n:=by
 have:=pq (S:=fun _=>false) (T:=S) (n:=n) (fun v _ h=>by cases h) hw rfl hS;omega
theorem rD:∀n:Nat,b7 (fun _=>true) n=n
 |0=>rfl
 |n+1=>by unfold b7;rw[rD n];simp
theorem kB {n:Nat} {t:Nat->Nat->Int} (r:Wt n t) (s:dB n t) {b:Nat->Int} {v0:Nat} (l:v0<n) (y:b v0<=0) {M:Int} (z:0<=M)
  (h:∀x:Int,0<=x->sN (fun v=>if decide (x<b v)=true then aV n t b v else 0) n<=M):∀v,v<n->b v<=n*M:=by
 have step:∀j:Nat,j+1<=b7 (fun v=>decide (b v<=j*M)) n\/n<=b7 (fun v=>decide (b v<=j*M)) n:=by
  intro j;induction j with
  |zero=>
   left
   exact DS l (by simp;exact y)
  |succ j i=>
   have k:(((j+1:Nat):Int))*M=j*M+M:=by rw[Int.natCast_add,Int.add_mul];simp
   have m:∀v,v<n->decide (b v<=(j:Int)*M)=true->decide (b v<=((j+1:Nat):Int)*M)=true:=fun v _ g=>by
    have:=of_decide_eq_true g;exact decide_eq_true (by rw[k];omega)
   by_cases hn:n<=b7 (fun v=>decide (b v<=j*M)) n
   ·right;exact Nat.le_trans hn (nH m)
   ·rcases i with i|i
    ·left
     by_cases o:∃w,w<n/\(j:Int)*M<b w/\b w<=j*M+M
     ·obtain⟨w,hw,L,N⟩:=o
      have:=pq (S:=fun v=>decide (b v<=j*M)) (T:=fun v=>decide (b v<=((j+1:Nat):Int)*M)) m hw (decide_eq_false (by omega)) (decide_eq_true (by rw[k];omega));omega
     ·exfalso
      have B:0<=(j:Int)*M:=Int.mul_nonneg (by omega) z;have hex:∃v,v<n/\decide ((j:Int)*M<b v)=true:=by
       refine Classical.byContradiction fun C=>hn ?_
       have D:∀v,v<n->decide (b v<=(j:Int)*M)=true:=fun v g=>by
        by_cases e:b v<=(j:Int)*M
        ·exact decide_eq_true e
        ·exact absurd ⟨v,g,decide_eq_true (by omega)⟩ C
       have p:=rD n;have q:=nH (S:=fun _=>true) (T:=fun v=>decide (b v<=(j:Int)*M)) (n:=n) (fun v g _=>D v g);omega
      obtain⟨a,c,E,F,G,H,I⟩:=s (fun v=>decide ((j:Int)*M<b v)) hex ⟨v0,l,decide_eq_false (by omega)⟩;have h1:=DR r (fun v=>decide ((j:Int)*M<b v)) b (M+1) (by omega) (fun u v hu g J K=>by
       have k:=of_decide_eq_true J;have e2:=of_decide_eq_false K;have O:¬(b u<=j*M+M):=fun h=>o ⟨u,hu,k,h⟩
       omega) E F G H I
      have p:=h _ B;omega
    ·exact absurd i hn
 intro v g;have h1:=step n;have p:=j8 (fun v=>decide (b v<=(n:Int)*M)) n;have q:n<=b7 (fun v=>decide (b v<=(n:Int)*M)) n:=by omega
 exact of_decide_eq_true (rC q v g)
theorem vO {α:Type} {P:α->Prop} (f:α->Nat) (B:Nat) (h:∃a,P a) (i:∀a,P a->f a<=B):∃a,P a/\∀c,P c->f c<=f a:=by
 obtain⟨a,b⟩:=h;have key:∀(k:Nat) (a:α),B-f a<=k->P a->∃a,P a/\∀c,P c->f c<=f a:=by
  intro k;induction k with
  |zero=>intro a hk b;exact⟨a,b,fun c g=>by have:=i c g;have:=i a b;omega⟩
  |succ k l=>
   intro a hk b;by_cases j:∃c,P c/\f a<f c
   ·obtain⟨c,g,m⟩:=j
    have:=i c g;exact l c (by omega) g
   ·exact⟨a,b,fun c g=>by
     by_cases e:f a<f c
     ·exact absurd ⟨c,g,e⟩ j
     ·omega⟩
 exact key _ a (Nat.le_refl _) b
def one (w:Nat) (v:Nat):Int:=if v=w then 1 else 0
theorem pr {n:Nat} {t:Nat->Nat->Int} (a:Wt n t) {w:Nat} (hw:w<n):aV n t (one w) w=val n t w:=by
 unfold aV val;refine bL fun u _=>?_
 unfold one;by_cases e:u=w
 ·subst e;rw[a.self];simp
 ·rw[if_pos rfl,if_neg e];simp
theorem pv {n:Nat} {t:Nat->Nat->Int} {w v:Nat} (hw:w<n) (a:v≠w):aV n t (one w) v= -t v w:=by
 unfold aV;rw[j6 (v:=w) hw]
 ·unfold one;rw[if_neg a,if_pos rfl];omega
 ·intro u _ hu
  unfold one;rw[if_neg a,if_neg hu];simp
theorem fa {n w:Nat} (hw:w<n):sN (one w) n=1:=by
 rw[j6 (f:=one w) hw (fun u _ hu=>if_neg hu)];exact if_pos rfl
theorem DT {n:Nat} {t:Nat->Nat->Int} (g:Wt n t) (m:dB n t) {q:Nat} (o:q<n) (D:Nat->Int):∃D',bX n t D D'/\∀v,v<n->v≠q->0<=D' v:=by
 let P:(Nat->Int)->Prop:=fun b=>b q=0/\(∀v,v<n->0<=b v)/\∀v,v<n->0<b v->D v+aV n t b v<=val n t v-1
 have j:∀v,0<=val n t v:=fun v=>dw fun u _=>g.pos v u
 have p:∀b,P b->∀v,v<n->b v<=n*(sN (val n t) n+sN (fun v=>((D v).natAbs:Int)) n):=by
  rintro b ⟨h1,k,l⟩;refine kB g m o (by omega) ?_ ?_
  ·have i:0<=sN (val n t) n:=dw fun v _=>j v
   have z:0<=sN (fun v=>((D v).natAbs:Int)) n:=dw fun v _=>by omega
   omega
  ·intro x B
   have i:sN (fun v=>if decide (x<b v)=true then aV n t b v else 0) n<=sN (fun v=>val n t v+((D v).natAbs:Int)) n:=cW fun v a=>by
    show (if decide (x<b v)=true then aV n t b v else 0)<=_
    by_cases e:x<b v
    ·rw[if_pos (decide_eq_true e)]
     have:=l v a (by omega);omega
    ·rw[if_neg (by simpa using e)]
     have:=j v;omega
   rw[dE] at i;exact i
 obtain⟨b,hb,r⟩:=vO (P:=P) (fun b=>(sN b n).toNat) (sN (fun _=>n*(sN (val n t) n+sN (fun v=>((D v).natAbs:Int)) n)) n).toNat ⟨fun _=>0,rfl,fun _ _=>Int.le_refl _,fun v _ (h:(0:Int)<0)=>by omega⟩ (fun b hb=>by
  have h1:=cW (n:=n) (fun v a=>p b hb v a);have k:=dw (f:=b) (n:=n) hb.2.1;show (sN b n).toNat<=_
  omega)
 refine⟨fun v=>D v+aV n t b v,⟨fun u=> -b u,fun v _=>by show D v+aV n t b v=_;rw[lO];omega⟩,fun v a s=>?_⟩;show 0<=D v+aV n t b v
 refine Classical.byContradiction fun C=>?_
 have w:P (fun u=>b u+one v u):=by
  refine⟨by show b q+one v q=0;rw[hb.1];unfold one;rw[if_neg (fun h=>s h.symm)];rfl,fun u hu=>by have:=hb.2.1 u hu;show 0<=b u+one v u;unfold one;split<;>omega,fun u hu y=>?_⟩;rw[j7];by_cases e:u=v
  ·subst e;rw[pr g a];omega
  ·rw[pv a e]
   have E:b u+one v u=b u:=by unfold one;rw[if_neg e];omega
   have:=hb.2.2 u hu (by have:0<b u+one v u:=y;omega);have:=g.pos u v;omega
 have h1:=r (fun u=>b u+one v u) w;have k:sN (fun u=>b u+one v u) n=sN b n+1:=by rw[dE,fa a]
 have l:=dw (f:=b) (n:=n) hb.2.1;have i:(sN (fun u=>b u+one v u) n).toNat<=(sN b n).toNat:=h1;omega
def iK (n:Nat) (t:Nat->Nat->Int) (q:Nat) (c:Nat->Int):Prop:=∀S:Nat->Bool,(∃v,v<n/\S v=true)->S q=false->∃v,v<n/\S v=true/\c v<sN (fun u=>if S u=false then t v u else 0) n
def kP (n:Nat) (t:Nat->Nat->Int) (q:Nat) (c:Nat->Int):Prop:=(∀v,v<n->v≠q->0<=c v)/\iK n t q c
def ind (S:Nat->Bool) (v:Nat):Int:=if S v=true then 1 else 0
theorem rE {n:Nat} {t:Nat->Nat->Int} (S:Nat->Bool) (v:Nat):aV n t (ind S) v=if S v=true then sN (fun u=>if S u=false then t v u else 0) n else -sN (fun u=>if S u=true then t v u else 0) n:=by
 unfold aV;by_cases e:S v=true
 ·rw[if_pos e]
  refine bL fun u _=>?_
  unfold ind;cases hu:S u<;>simp[e]
 ·rw[if_neg e,<-nE]
  refine bL fun u _=>?_
  unfold ind;cases hu:S u<;>simp[e]
theorem vP {n:Nat} {t:Nat->Nat->Int} (i:Wt n t) (j:dB n t) {q:Nat} (k:q<n) (D:Nat->Int):∃c,bX n t D c/\kP n t q c:=by
 obtain⟨a,o,p⟩:=DT i j k D;let P:(Nat->Int)->Prop:=fun b=>b q=0/\(∀v,v<n->0<=b v)/\∀v,v<n->v≠q->0<=a v-aV n t b v
 have r:∀b,P b->∀v,v<n->b v<=n*sN (fun v=>((a v).natAbs:Int)) n:=by
  rintro b ⟨h1,l,m⟩;refine kB i j k (by omega) (dw fun v _=>by omega) ?_;intro x I;refine cW fun v g=>?_
  show (if decide (x<b v)=true then aV n t b v else 0)<=((a v).natAbs:Int)
  by_cases e:x<b v
  ·rw[if_pos (decide_eq_true e)]
   have:=m v g (fun s=>by subst s;omega);omega
  ·rw[if_neg (by simpa using e)];omega
 obtain⟨b,hb,y⟩:=vO (P:=P) (fun b=>(sN b n).toNat) (sN (fun _=>n*sN (fun v=>((a v).natAbs:Int)) n) n).toNat ⟨fun _=>0,rfl,fun _ _=>Int.le_refl _,fun v g h=>by rw[jD];have:=p v g h;omega⟩ (fun b hb=>by
  have h1:=cW (n:=n) (fun v g=>r b hb v g);have l:=dw (f:=b) (n:=n) hb.2.1;show (sN b n).toNat<=_
  omega)
 refine⟨fun v=>a v-aV n t b v,o.trans ⟨b,fun v _=>rfl⟩,hb.2.2,fun S hS z=>?_⟩;refine Classical.byContradiction fun B=>?_
 have C:∀v,v<n->S v=true->sN (fun u=>if S u=false then t v u else 0) n<=a v-aV n t b v:=fun v g E=>by
  refine Classical.byContradiction fun h=>B ⟨v,g,E,?_⟩
  show a v-aV n t b v<_
  omega
 have F:P (fun u=>b u+ind S u):=by
  refine⟨by show b q+ind S q=0;rw[hb.1];unfold ind;rw[z];simp,fun u hu=>by have:=hb.2.1 u hu;show 0<=b u+ind S u;unfold ind;split<;>omega,fun u hu G=>?_⟩;rw[j7,rE];by_cases e:S u=true
  ·rw[if_pos e];have:=C u hu e;omega
  ·rw[if_neg e]
   have:=hb.2.2 u hu G;have:0<=sN (fun w=>if S w=true then t u w else 0) n:=dw fun w _=>by
    show 0<=(if S w=true then t u w else 0)
    have:=i.pos u w;split<;>omega
   omega
 obtain⟨w,hw,H⟩:=hS;have h1:=y (fun u=>b u+ind S u) F;have l:sN (fun u=>b u+ind S u) n=sN b n+sN (ind S) n:=dE _ _ _;have m:=dw (f:=b) (n:=n) hb.2.1;have J:=fL (f:=ind S) hw (fun u _=>by unfold ind;split<;>omega);have K:ind S w=1:=by unfold ind;rw[if_pos H]
 have L:(sN (fun u=>b u+ind S u) n).toNat<=(sN b n).toNat:=h1;omega
theorem rF {n:Nat} {t:Nat->Nat->Int} (i:Wt n t) (w:dB n t) {q:Nat} (j:q<n) {c g:Nat->Int} (h:kP n t q c) (k:∀v,v<n->v≠q->0<=g v) {s:Nat->Int} (l:∀v,v<n->g v=c v-aV n t s v):∀v,v<n->s v<=s q:=by
 obtain⟨m,hm,b⟩:=pn s (show 0<n by omega);by_cases e:s q=s m
 ·intro v a;rw[e];exact b v a
 ·exfalso
  have x:=b q j;obtain⟨v,a,o,y⟩:=h.2 (fun v=>decide (s v=s m)) ⟨m,hm,by simp⟩ (by simpa using e);have p:s v=s m:=of_decide_eq_true o;have r:v≠q:=fun h=>by subst h;exact e p
  have h1:=k v a r;rw[l v a] at h1;have z:sN (fun u=>if decide (s u=s m)=false then t v u else 0) n<=aV n t s v:=by
   unfold aV;refine cW fun u hu=>?_
   show (if decide (s u=s m)=false then t v u else 0)<=t v u*(s v-s u)
   have hp:=i.pos v u;have hle:=b u hu;by_cases e2:s u=s m
   ·rw[if_neg (by simp[e2])]
    exact Int.mul_nonneg hp (by omega)
   ·rw[if_pos (by simpa using e2)]
    have:=Int.mul_le_mul_of_nonneg_left (show (1:Int)<=s v-s u by omega) hp;omega
  omega
theorem DU {n:Nat} {t:Nat->Nat->Int} (j:Wt n t) (k:dB n t) {q:Nat} (l:q<n) {c g:Nat->Int} (h:kP n t q c) (m:kP n t q g) (he:bX n t c g):∀v,v<n->g v=c v:=by
 obtain⟨s,i⟩:=he;have h1:=rF j k l h m.1 i;have o:=rF j k l m h.1 (s:=fun u=> -s u) (fun v e=>by rw[lO,i v e];omega);intro v e;have:aV n t s v=0:=by
  unfold aV;refine iu fun u hu=>?_
  have a:=h1 u hu;have b:=o u hu;have c:=h1 v e;have d:=o v e;rw[show s v-s u=0 by omega,Int.mul_zero]
 rw[i v e,this];omega
theorem DV {f:Nat->Int} {n:Nat} {M:Int} (a:0<=M) (S:Nat->Bool) (h:∀v,v<n->S v=true->f v<=M):sN (fun v=>if S v=true then f v else 0) n<=n*M:=by
 rw[<-jd];refine cW fun v b=>?_
 show (if S v=true then f v else 0)<=M
 split
 ·exact h v b ‹_›
 ·exact a
theorem nI {n:Nat} {t:Nat->Nat->Int} (e:Wt n t) (g:dB n t) {q:Nat} (i:q<n) {b:Nat->Int} (hb:b q=0) {M:Int} (a:0<=M) (h:∀v,v<n->0<b v->aV n t b v<=M):∀v,v<n->b v<=n*(n*M):=by
 refine kB e g i (by omega) (Int.mul_nonneg (by omega) a) fun x l=>?_
 refine DV a (fun v=>decide (x<b v)) fun v j k=>h v j ?_
 have:=of_decide_eq_true k;omega
theorem DW {n:Nat} {t:Nat->Nat->Int} (g:Wt n t) (i:dB n t) {q:Nat} (j:q<n) {s s':Nat->Int} (l:s q=s' q) (h:∀v,v<n->aV n t s v=aV n t s' v):∀v,v<n->s v=s' v:=by
 have h1:=nI g i j (b:=fun u=>s u-s' u) (by show s q-s' q=0;omega) (M:=0) (by omega) (fun v e _=>by rw[lP,h v e];omega);have k:=nI g i j (b:=fun u=>s' u-s u) (by show s' q-s q=0;omega) (M:=0) (by omega) (fun v e _=>by rw[lP,h v e];omega);intro v e;have a:=h1 v e;have b:=k v e;simp only[Int.mul_zero] at a b;omega
theorem pw {n:Nat} {t:Nat->Nat->Int} (a:Wt n t) {q:Nat} {c:Nat->Int} (h:iK n t q c) {v:Nat} (b:v<n) (g:v≠q):c v<val n t v:=by
 obtain⟨u,hu,i,j⟩:=h (fun u=>decide (u=v)) ⟨v,b,by simp⟩ (by simpa using fun e=>g e.symm);obtain rfl:u=v:=of_decide_eq_true i;refine Int.lt_of_lt_of_le j ?_;unfold val;refine cW fun w hw=>?_
 show (if decide (w=u)=false then t u w else 0)<=t u w
 have:=a.pos u w;split<;>omega
theorem DX {n:Nat} {t:Nat->Nat->Int} (h:Wt n t) (i:dB n t) {q:Nat} (j:q<n) {D c s:Nat->Int} (k:kP n t q c) (l:∀v,v<n->c v=D v-aV n t s v) (o:s q=0) {B V:Int} (x:0<=B) (y:0<=V) (m:∀v,v<n-> -B<=D v/\D v<=B) (p:∀v,v<n->val n t v<=V):∀v,v<n-> -(n*(n*(B+V)))<=s v/\s v<=n*(n*(B+V)):=by
 have h1:=nI h i j (b:=s) o (M:=B+V) (by omega) (fun v g hp=>by
  have:=l v g;have:=k.1 v g (fun e=>by subst e;omega);have:=m v g;omega)
 have r:=nI h i j (b:=fun u=> -s u) (by show -s q=0;omega) (M:=B+V) (by omega) (fun v g hp=>by
  rw[lO];have:=l v g;have w:v≠q:=fun e=>by subst e;omega
  have:=pw h k.2 g w;have:=p v g;have:=m v g;omega)
 intro v g;have a:=h1 v g;have b: -s v<=_:=r v g;omega
theorem DY (f:Nat->Int) {q n:Nat} (a:q<n):sN (fun v=>if v=q then 0 else f v) n=sN f n-f q:=by
 have h:=dE (fun v=>if v=q then 0 else f v) (fun v=>if v=q then f v else 0) n;have b:sN (fun v=>if v=q then f v else 0) n=f q:=by
  rw[j6 a (fun u _ hu=>if_neg hu)];simp
 have g:sN (fun v=>(if v=q then 0 else f v)+(if v=q then f v else 0)) n=sN f n:=bL fun v _=>by
  by_cases e:v=q<;>simp[e]
 have i:sN (fun v=>(if v=q then 0 else f v)+(if v=q then f v else 0)) n=sN (fun v=>if v=q then 0 else f v) n+sN (fun v=>if v=q then f v else 0) n:=h;omega
theorem DZ {f:Nat->Int} {q n:Nat} (g:q<n) {a b:Int} (i:a<=0) (hb:0<=b) (h:∀v,v<n->v≠q->a<=f v/\f v<=b):sN f n-n*b<=f q/\f q<=sN f n-n*a:=by
 have h1:=DY f g;have j:sN (fun v=>if v=q then 0 else f v) n<=sN (fun _=>b) n:=cW fun v e=>by
  show (if v=q then 0 else f v)<=b
  split
  ·exact hb
  ·exact(h v e ‹_›).2
 have k:sN (fun _=>a) n<=sN (fun v=>if v=q then 0 else f v) n:=cW fun v e=>by
  show a<=(if v=q then 0 else f v)
  split
  ·exact i
  ·exact(h v e ‹_›).1
 rw[jd] at j k;omega
theorem px {f:Nat->Int} {n:Nat} {B:Int} (h:∀v,v<n-> -B<=f v/\f v<=B): -(n*B)<=sN f n/\sN f n<=n*B:=by
 have h1:sN (fun _=> -B) n<=sN f n:=cW fun v a=>(h v a).1
 have b:sN f n<=sN (fun _=>B) n:=cW fun v a=>(h v a).2
 rw[jd] at h1 b;rw[Int.mul_neg] at h1;omega
theorem rG {n:Nat} {t:Nat->Nat->Int} (b:Wt n t) (e:dB n t) {q:Nat} (g:q<n) {D c σ d s:Nat->Int} (i:kP n t q c) (j:∀v,v<n->c v=D v-aV n t σ v) (k:σ q=0) (hd:∀v,v<n->d v=D v-aV n t s v) (hp:∀v,v<n->v≠q->0<=d v):∀v,v<n->s v<=σ v+s q:=by
 have:=rF b e g i hp (s:=fun u=>s u-σ u) (fun v a=>by rw[lP,j v a,hd v a];omega);intro v a;have h:s v-σ v<=s q-σ q:=this v a;omega
theorem D0 {n:Nat} {t:Nat->Nat->Int} (b:Wt n t) {L:Nat->Bool} {d:Nat->Int} {T:Int} (e:0<=T) (h:∀v,v<n->L v=true->T*sN (fun u=>if L u=false then t v u else 0) n<=d v):∀v,v<n->(L v=true->0<=d v-T*aV n t (ind L) v)/\(L v=false->d v<=d v-T*aV n t (ind L) v):=by
 intro v g;rw[rE];refine⟨fun a=>?_,fun a=>?_⟩
 ·rw[if_pos a]
  have:=h v g a;omega
 ·rw[if_neg (by simp[a]),Int.mul_neg]
  have:0<=T*sN (fun u=>if L u=true then t v u else 0) n:=Int.mul_nonneg e (dw fun u _=>by
   show 0<=(if L u=true then t v u else 0)
   have:=b.pos v u;split<;>omega)
  omega
def eS (n:Nat) (t:Nat->Nat->Int) (dist:Nat->Int) (v:Nat):Int:=sN (fun u=>if dist v<dist u then t v u else 0) n
theorem mH {n:Nat} {t:Nat->Nat->Int} (a:Wt n t) (dist:Nat->Int) (v:Nat):0<=eS n t dist v:=dw fun u _=>by
 show 0<=(if dist v<dist u then t v u else 0)
 have:=a.pos v u;split<;>omega
theorem D3 {n:Nat} {t:Nat->Nat->Int} (a:Wt n t) (dist:Nat->Int):2*sN (eS n t dist) n<=sN (val n t) n:=by
 have h1:sN (eS n t dist) n=sN (fun v=>sN (fun u=>if dist u<dist v then t v u else 0) n) n:=by
  show sN (fun v=>sN (fun u=>if dist v<dist u then t v u else 0) n) n=_
  rw[nF];refine bL fun u _=>bL fun v _=>?_
  rw[a.sym v u]
 have b:sN (fun v=>eS n t dist v+sN (fun u=>if dist u<dist v then t v u else 0) n) n<=sN (val n t) n:=by
  refine cW fun v e=>?_
  show sN (fun u=>if dist v<dist u then t v u else 0) n+sN (fun u=>if dist u<dist v then t v u else 0) n<=sN (fun u=>t v u) n
  rw[<-dE];refine cW fun u hu=>?_
  show (if dist v<dist u then t v u else 0)+(if dist u<dist v then t v u else 0)<=t v u
  have:=a.pos v u;split<;>split<;>omega
 rw[dE,<-h1] at b;omega
def eG (n:Nat) (t:Nat->Nat->Int) (dist:Nat->Int) (k:Int):Int:=sN (fun v=>if k<=dist v then eS n t dist v else 0) n
theorem vQ {n:Nat} {t:Nat->Nat->Int} (a:Wt n t) (dist:Nat->Int) (k:Int):0<=eG n t dist k/\eG n t dist k<=sN (eS n t dist) n:=by
 refine⟨dw fun v _=>?_,cW fun v _=>?_⟩
 ·show 0<=(if k<=dist v then eS n t dist v else 0)
  have:=mH a dist v;split<;>omega
 ·show (if k<=dist v then eS n t dist v else 0)<=_
  have:=mH a dist v;split<;>omega
theorem D4 {n:Nat} {t:Nat->Nat->Int} (a:Wt n t) (dist:Nat->Int) (k:Int) {v:Nat} (b:v<n) (hd:dist v=k-1):eG n t dist k+eS n t dist v<=eG n t dist (k-1):=by
 have h1:sN (fun u=>(if k<=dist u then eS n t dist u else 0)+(if u=v then eS n t dist u else 0)) n<=eG n t dist (k-1):=by
  refine cW fun u _=>?_
  show (if k<=dist u then eS n t dist u else 0)+(if u=v then eS n t dist u else 0)<=(if k-1<=dist u then eS n t dist u else 0)
  have:=mH a dist u;by_cases e:u=v
  ·subst e
   rw[if_neg (show ¬k<=dist u by omega),if_pos rfl,if_pos (by omega)];omega
  ·rw[if_neg e]
   split
   ·rw[if_pos (by omega)];omega
   ·split<;>omega
 rw[dE] at h1;have g:sN (fun u=>if u=v then eS n t dist u else 0) n=eS n t dist v:=by
  rw[j6 b (fun u _ hu=>if_neg hu)];simp
 unfold eG at h1⊢;omega
theorem lQ (m:Nat):1+(m:Int)<=2 ^ m:=by
 induction m with
 |zero=>decide
 |succ m a=>rw[Int.pow_succ];omega
def fM (n:Nat) (t:Nat->Nat->Int) (dist:Nat->Int) (B k:Int):Int:=B*2 ^ (eG n t dist k).toNat
theorem py {n:Nat} {t:Nat->Nat->Int} (dist:Nat->Int) {B:Int} (a:0<=B) (k:Int):B<=fM n t dist B k:=by
 unfold fM;have h:(1:Int)<=2 ^ (eG n t dist k).toNat:=by have:=lQ (eG n t dist k).toNat;omega
 have:=Int.mul_le_mul_of_nonneg_left h a;omega
theorem rH {n:Nat} {t:Nat->Nat->Int} (a:Wt n t) (dist:Nat->Int) {B:Int} (e:0<=B) (g:sN (val n t) n<=19) (k:Int):fM n t dist B k<=B*512:=by
 unfold fM;have h1:=vQ a dist k;have h:=D3 a dist;have b:(eG n t dist k).toNat<=9:=by omega
 refine Int.mul_le_mul_of_nonneg_left ?_ e;generalize (eG n t dist k).toNat=m at b;have:∀m:Nat,m<=9->(2:Int) ^ m<=512:=by decide
 exact this m b
theorem D5 {n:Nat} {t:Nat->Nat->Int} (e:Wt n t) (dist:Nat->Int) {B:Int} (i:0<=B) (k:Int) {v:Nat} (j:v<n) (hd:dist v=k-1):fM n t dist B k*(1+eS n t dist v)<=fM n t dist B (k-1):=by
 unfold fM;have h1:=D4 e dist k j hd;have l:=vQ e dist k;have o:=mH e dist v;obtain⟨m,hm⟩:=Int.eq_ofNat_of_zero_le o;obtain⟨a,g⟩:=Int.eq_ofNat_of_zero_le l.1;rw[hm,g];rw[hm,g] at h1;obtain⟨b,hb⟩:∃b:Nat,eG n t dist (k-1)=((a+m+b:Nat):Int):=⟨(eG n t dist (k-1)).toNat-a-m,by omega⟩;rw[hb,Int.toNat_natCast,Int.toNat_natCast,Int.mul_assoc];refine Int.mul_le_mul_of_nonneg_left ?_ i;have p:=lQ m;have h:(0:Int)<=2 ^ a:=by have:=lQ a;omega
 have s:=Int.mul_le_mul_of_nonneg_left p h;have q:(1:Int)<=2 ^ b:=by have:=lQ b;omega
 have r:(0:Int)<=2 ^ a*2 ^ m:=Int.mul_nonneg h (by have:=lQ m;omega);have u:=Int.mul_le_mul_of_nonneg_left q r;rw[Int.pow_add,Int.pow_add];omega
theorem D6 {n:Nat} {t:Nat->Nat->Int} (a:Wt n t) (dist:Nat->Int) {B:Int} (e:0<=B) (k:Int):fM n t dist B k<=fM n t dist B (k-1):=by
 unfold fM;have h1:eG n t dist k<=eG n t dist (k-1):=cW fun v _=>by
  show (if k<=dist v then eS n t dist v else 0)<=(if k-1<=dist v then eS n t dist v else 0)
  have:=mH a dist v;split
  ·rw[if_pos (by omega)];omega
  ·split<;>omega
 refine Int.mul_le_mul_of_nonneg_left ?_ e;obtain⟨b,hb⟩:∃b:Nat,(eG n t dist (k-1)).toNat=(eG n t dist k).toNat+b:=⟨(eG n t dist (k-1)).toNat- (eG n t dist k).toNat,by omega⟩;rw[hb,Int.pow_add];have g:(0:Int)<=2 ^ (eG n t dist k).toNat:=by have:=lQ (eG n t dist k).toNat;omega
 have h:(1:Int)<=2 ^ b:=by have:=lQ b;omega
 have:=Int.mul_le_mul_of_nonneg_left h g;omega
def bG (dist:Nat->Int) (k:Int) (u:Nat):Bool:=decide (dist u<k)
structure fs (n:Nat) (t:Nat->Nat->Int) (D dist:Nat->Int) (B k:Int) (d s:Nat->Int):Prop where
 eq:∀v,v<n->d v=D v-aV n t s v
 kQ:∀v,v<n->k<dist v->0<=d v
 low:∀v,v<n-> -fM n t dist B k<=d v
 s0:∀v,v<n->0<=s v/\s v<=(n-k)*(B*512)
theorem fs.start {n:Nat} {t:Nat->Nat->Int} {D dist:Nat->Int} {B k:Int} (b:0<=B) (e:∀v,v<n-> -B<=D v) (hk:∀v,v<n->dist v<=k) (g:k<=n):fs n t D dist B k D (fun _=>0):=by
 refine⟨fun v _=>by rw[jD];omega,fun v a h=>by have:=hk v a;omega,fun v a=>?_,fun v _=>⟨Int.le_refl _,Int.mul_nonneg (by omega) (by omega)⟩⟩;have:=py (n:=n) (t:=t) dist b k;have:=e v a;omega
theorem fs.step {n:Nat} {t:Nat->Nat->Int} (b:Wt n t) {D dist:Nat->Int} {B k:Int} (i:0<=B) (x:sN (val n t) n<=19) (o:∀u v,u<n->v<n->0<t u v->dist v<=dist u+1) {d s:Nat->Int} (h:fs n t D dist B k d s) {T:Int} (j:0<=T) (y:T<=fM n t dist B k)
  (z:∀v,v<n->dist v=k->d v<0-> -d v<=T*sN (fun u=>if bG dist k u=true then t v u else 0) n) {d' s':Nat->Int} (l:∀v,v<n->d' v=d v-T*aV n t (ind (bG dist k)) v) (p:∀v,v<n->s' v=s v+T*ind (bG dist k) v):fs n t D dist B (k-1) d' s':=by
 have g:∀v,v<n->(k<dist v->aV n t (ind (bG dist k)) v=0)/\(dist v=k->aV n t (ind (bG dist k)) v= -sN (fun u=>if bG dist k u=true then t v u else 0) n)/\(dist v<k-1->aV n t (ind (bG dist k)) v=0)/\(dist v=k-1->0<=aV n t (ind (bG dist k)) v/\aV n t (ind (bG dist k)) v<=eS n t dist v):=by
  intro v a;rw[rE];refine⟨fun hk=>?_,fun hk=>?_,fun hk=>?_,fun hk=>?_⟩
  ·rw[if_neg (by unfold bG;simp;omega),iu fun u hu=>?_]; · rfl
   show (if bG dist k u=true then t v u else 0)=0
   split
   ·rename_i hn
    have h1:=of_decide_eq_true hn;have m:=b.pos v u;by_cases e:0<t v u
    ·rw[b.sym] at e
     have:=o u v hu a e;omega
    ·omega
   ·rfl
  ·rw[if_neg (by unfold bG;simp;omega)]
  ·rw[if_pos (by unfold bG;simp;omega)]
   refine iu fun u hu=>?_
   show (if bG dist k u=false then t v u else 0)=0
   split
   ·rename_i hn
    have h1:=of_decide_eq_false hn;have m:=b.pos v u;by_cases e:0<t v u
    ·have:=o v u a hu e
     omega
    ·omega
   ·rfl
  ·rw[if_pos (by unfold bG;simp;omega)]
   refine⟨dw fun u _=>?_,cW fun u _=>?_⟩
   ·show 0<=(if bG dist k u=false then t v u else 0)
    have:=b.pos v u;split<;>omega
   ·show (if bG dist k u=false then t v u else 0)<=(if dist v<dist u then t v u else 0)
    have:=b.pos v u;by_cases e:bG dist k u=false
    ·have h1:=of_decide_eq_false e
     rw[if_pos e,if_pos (by omega)];omega
    ·rw[if_neg e];split<;>omega
 have G:0<=fM n t dist B k:=by have:=py (n:=n) (t:=t) dist i k;omega
 refine⟨fun v a=>?_,fun v a hk=>?_,fun v a=>?_,fun v a=>?_⟩
 ·have e:aV n t s' v=aV n t s v+T*aV n t (ind (bG dist k)) v:=by
   rw[mG (r:=fun u=>s u+T*ind (bG dist k) u) (fun u hu=>p u hu) a,j7,vL]
  rw[l v a,h.eq v a,e];omega
 ·rw[l v a]
  by_cases e:k<dist v
  ·rw[(g v a).1 e]
   have:=h.kQ v a e;omega
  ·have q:dist v=k:=by omega
   rw[(g v a).2.1 q,Int.mul_neg];have h1:0<=T*sN (fun u=>if bG dist k u=true then t v u else 0) n:=Int.mul_nonneg j (dw fun u _=>by
    show 0<=(if bG dist k u=true then t v u else 0)
    have:=b.pos v u;split<;>omega)
   by_cases C:d v<0
   ·have:=z v a q C
    omega
   ·omega
 ·rw[l v a]
  have H:=h.low v a;have hm:=D6 b dist i k;by_cases E:k<dist v
  ·rw[(g v a).1 E];omega
  by_cases e2:dist v=k
  ·rw[(g v a).2.1 e2,Int.mul_neg]
   have h1:0<=T*sN (fun u=>if bG dist k u=true then t v u else 0) n:=Int.mul_nonneg j (dw fun u _=>by
    show 0<=(if bG dist k u=true then t v u else 0)
    have:=b.pos v u;split<;>omega)
   omega
  by_cases F:dist v<k-1
  ·rw[(g v a).2.2.1 F];omega
  have w:dist v=k-1:=by omega
  obtain⟨l1,l2⟩:=(g v a).2.2.2 w;have h1:=D5 b dist i k a w;have m:=Int.mul_le_mul_of_nonneg_left l2 j;have I:=Int.mul_le_mul_of_nonneg_right y (mH b dist v);rw[Int.mul_add] at h1;omega
 ·have h1:=h.s0 v a
  have m:=rH b dist i x k;rw[p v a];have e:(n- (k-1))*(B*512)=(n-k)*(B*512)+B*512:=by
   rw[show (n:Int)- (k-1)=(n-k)+1 by omega,Int.add_mul,Int.one_mul]
  rw[e];unfold ind;split
  ·rw[Int.mul_one];omega
  ·rw[Int.mul_zero];omega
end Go.Proofs.YtffdiakgjakngaaGreat.T
namespace Go.Proofs.YtffdiakgjakngaaGreat.P
open Go.RowKit Go.Proofs.YtffdiakgjakngaaGreatW.PrintWords Go.Proofs.YtffdiakgjakngaaGreatW.PrintLast Go.Proofs.YtffdiakgjakngaaGreatW.PrintMore
set_option linter.unusedVariables false
set_option linter.unusedSimpArgs false
set_option maxHeartbeats 8000000
set_option maxRecDepth 100000
def fc (n:Nat) (E:List S83):Prop:=∀S:Nat->Bool,(∃v,v<n/\S v=true)->(∃v,v<n/\S v=false)->∃x,x∈E/\S x.f0.toNat≠S x.f1.toNat
theorem pz {p:Nat->Nat} {v:Nat} (h:p v<v):rootOf p v=rootOf p (p v):=by rw[rootOf,dif_pos h]
theorem mI {p:Nat->Nat} {v:Nat} (h:¬p v<v):rootOf p v=v:=by rw[rootOf,dif_neg h]
theorem D7 {p:Nat->Nat} {v:Nat} (h:rootOf p v=v):¬p v<v:=fun a=>by
 have h1:=pz a;have b:=iZ p (p v);omega
theorem mJ (p:Nat->Nat) (a b v:Nat):rootOf (dP p a b) v=if rootOf p v=max (rootOf p a) (rootOf p b) then min (rootOf p a) (rootOf p b) else rootOf p v:=by
 have l:=mC p a;have hb:=mC p b;have i:rootOf p (max (rootOf p a) (rootOf p b))=max (rootOf p a) (rootOf p b):=by rw[Nat.max_def];split<;>assumption
 have hm:rootOf p (min (rootOf p a) (rootOf p b))=min (rootOf p a) (rootOf p b):=by rw[Nat.min_def];split<;>assumption
 have hle:min (rootOf p a) (rootOf p b)<=max (rootOf p a) (rootOf p b):=by omega
 have h:∀j,dP p a b j=if j=max (rootOf p a) (rootOf p b) then min (rootOf p a) (rootOf p b) else p j:=fun j=>rfl
 generalize max (rootOf p a) (rootOf p b)=M at*;generalize min (rootOf p a) (rootOf p b)=m at*;generalize dP p a b=q at*;induction v using Nat.strongRecOn with
 |ind v k=>
  by_cases e:v=M
  ·subst e
   rw[i,if_pos rfl];by_cases g:m<v
   ·have h1:q v=m:=by rw[h,if_pos rfl]
    rw[pz (by omega),h1];refine mI ?_;rw[h,if_neg (by omega)];exact D7 hm
   ·rw[mI (by rw[h,if_pos rfl];exact g)]
    omega
  ·have h1:q v=p v:=by rw[h,if_neg e]
   by_cases g:p v<v
   ·rw[pz (p:=q) (by omega),h1,k _ g,pz (p:=p) g]
   ·rw[mI (p:=q) (by omega),mI (p:=p) g,if_neg e]
theorem D8 (S:Nat->Bool):∀(E:List S83) (p:Nat->Nat),(∀x∈E,S x.f0.toNat=S x.f1.toNat)->(∀v,S (rootOf p v)=S v)->∀v,S (rootOf (E.foldl (fun p x=>dP p x.f0.toNat x.f1.toNat) p) v)=S v:=by
 intro E;induction E with
 |nil=>exact fun p _ h=>h
 |cons x E g=>
  intro p a h;refine g _ (fun y i=>a y (List.mem_cons_of_mem _ i)) fun v=>?_
  rw[mJ];split
  ·rename_i e
   have j:=a x (List.mem_cons_self ..);have h1:=h x.f0.toNat;have k:=h x.f1.toNat;have b:=h v;rw[e] at b;rw[<-b];rw[Nat.min_def,Nat.max_def];split<;>simp_all
  ·exact h v
theorem D9:∀(E:List S83) (p:Nat->Nat) (u v:Nat),rootOf p u=rootOf p v->rootOf (E.foldl (fun p x=>dP p x.f0.toNat x.f1.toNat) p) u=rootOf (E.foldl (fun p x=>dP p x.f0.toNat x.f1.toNat) p) v:=by
 intro E;induction E with
 |nil=>exact fun p u v h=>h
 |cons x E a=>
  intro p u v h;refine a _ u v ?_;rw[mJ,mJ,h]
theorem D_:∀(E:List S83) (p:Nat->Nat),∀x∈E,rootOf (E.foldl (fun p x=>dP p x.f0.toNat x.f1.toNat) p) x.f0.toNat=rootOf (E.foldl (fun p x=>dP p x.f0.toNat x.f1.toNat) p) x.f1.toNat:=by
 intro E;induction E with
 |nil=>exact fun p x a=>absurd a (by simp)
 |cons y E e=>
  intro p x a;rcases List.mem_cons.1 a with rfl|a
  ·refine D9 E _ _ _ ?_
   rw[mJ,mJ];by_cases h1:rootOf p x.f0.toNat=max (rootOf p x.f0.toNat) (rootOf p x.f1.toNat)<;>by_cases b:rootOf p x.f1.toNat=max (rootOf p x.f0.toNat) (rootOf p x.f1.toNat)
   ·rw[if_pos h1,if_pos b]
   ·rw[if_pos h1,if_neg b];omega
   ·rw[if_neg h1,if_pos b];omega
   ·omega
  ·exact e _ x a
theorem vR (p:Nat->Nat) (a:rootOf p 0=0):∀u,1<=u->1<=bY p u
 |0,h=>by omega
 |u+1,_=>by
  by_cases e:u=0
  ·subst e;simp[bY,a]
  ·have:=vR p a u (by omega)
   simp only[bY];omega
theorem vS (p:Nat->Nat) (a:rootOf p 0=0):∀u,bY p u=1->∀v,v<u->rootOf p v=v->v=0
 |0,h=>by simp[bY] at h
 |u+1,h=>by
  intro v g b;simp only[bY] at h;by_cases e:u=0
  ·omega
  ·have h1:=vR p a u (by omega)
   by_cases hu:rootOf p u=u
   ·rw[if_pos hu] at h;omega
   ·rw[if_neg hu] at h
    by_cases ev:v=u
    ·subst ev;exact absurd b hu
    ·exact vS p a u (by omega) v (by omega) b
theorem vT (p:Nat->Nat):∀u,1<=u->(∀v,v<u->rootOf p v=0)->bY p u=1
 |0,h,_=>by omega
 |u+1,_,h=>by
  by_cases e:u=0
  ·subst e;simp[bY,h 0 (by omega)]
  ·have:=vT p u (by omega) (fun v a=>h v (by omega))
   simp only[bY];rw[this,h u (by omega),if_neg (fun e2=>e e2.symm)]
theorem pA {n:Nat} {E:List S83} (hn:1<=n) (r:ez n E):bY (aK E) n=1↔fc n E:=by
 have i:rootOf (aK E) 0=0:=Nat.le_zero.1 (iZ _ 0);constructor
 ·rintro h S ⟨u,hu,l⟩ ⟨v,b,m⟩
  refine Classical.byContradiction fun e=>?_
  have hS:∀x∈E,S x.f0.toNat=S x.f1.toNat:=fun x o=>Classical.byContradiction fun g=>e ⟨x,o,g⟩
  have j:=D8 S E id hS (fun v=>by rw[mI (by simp)]);have k:∀w,w<n->rootOf (aK E) w=0:=fun w hw=>vS _ i n h _ (Nat.lt_of_le_of_lt (iZ _ w) hw) (mC _ w)
  have h1:=j u;have a:=j v;rw[show E.foldl (fun p x=>dP p x.f0.toNat x.f1.toNat) id=aK E from rfl] at h1 a;rw[k u hu] at h1;rw[k v b] at a;rw[h1,l] at a;rw[m] at a;cases a
 ·intro h
  refine vT _ n hn fun v b=>?_
  refine Classical.byContradiction fun g=>?_
  obtain⟨x,e,q⟩:=h (fun u=>decide (rootOf (aK E) u=0)) ⟨0,by omega,by simp[i]⟩ ⟨v,b,by simp[g]⟩;have:=D_ E id x e;rw[show E.foldl (fun p x=>dP p x.f0.toNat x.f1.toNat) id=aK E from rfl] at this;simp only[this,ne_eq,not_true_eq_false] at q
def b7 (out:List Int):Nat:=(out.filter fun x=>decide (0<=x)).length
theorem j8 (out:List Int):b7 out<=out.length:=List.length_filter_le ..
theorem kR (xs:List Int) (v:Nat):rd xs (v:Int)=xs.getD v 0:=by simp[rd]
theorem rI:∀(out:List Int) (u:Nat) (x:Int),u<out.length->out.getD u 0<0->0<=x->b7 (out.set u x)=b7 out+1
 |[],u,x,h,_,_=>by simp at h
 |y::out,0,x,_,h,a=>by
  have b:y<0:=h;simp[b7,a,Int.not_le.2 b]
 |y::out,u+1,x,hu,h,a=>by
  have:=rI out u x (by simpa using hu) (by simpa using h) a;simp only[b7,List.set_cons_succ,List.filter_cons] at this⊢;split<;>simp[this]
theorem je (xs:List Int) (u:Nat) (x:Int) (h:u<xs.length):rd (xs.set u x) (u:Int)=x:=by
 rw[kR,aX,List.getElem?_set_self h];rfl
theorem gH (xs:List Int) (u v:Nat) (x:Int) (h:u≠v):rd (xs.set u x) (v:Int)=rd xs (v:Int):=by
 rw[kR,kR,aX,aX,List.getElem?_set_ne h]
structure Bf (n q:Nat) (nb:Nat->Nat->Prop) (out:List Int) (Q:List Nat) (D:Int) (ex:Nat->Nat->Prop):Prop where
 len:out.length=n
 q0:rd out (q:Int)=0
 lo:∀v:Nat,v<n-> -1<=rd out (v:Int)
 hi:∀v:Nat,v<n->rd out (v:Int)+1<=b7 out
 qv:∀x,x∈Q->x<n/\D<=rd out (x:Int)
 nJ:Q.Pairwise fun (x y:Nat)=>rd out (x:Int)<=rd out (y:Int)
 top:∀v:Nat,v<n->rd out (v:Int)<=D+1
 d0:0<=D
 back:∀v:Nat,v<n->v≠q->0<=rd out (v:Int)->∃u:Nat,u<n/\nb u v/\0<=rd out (u:Int)/\rd out (u:Int)+1=rd out (v:Int)
 kS:∀v:Nat,v<n->0<=rd out (v:Int)->v∉Q->∀u:Nat,u<n->nb v u->¬ex v u->0<=rd out (u:Int)/\rd out (u:Int)<=rd out (v:Int)+1
theorem Bf.start {n q:Nat} {nb:Nat->Nat->Prop} (b:q<n):Bf n q nb ((List.replicate n (-1)).set q 0) [q] 0 (fun _ _=>False):=by
 have h1:∀v:Nat,v<n->rd ((List.replicate n (-1)).set q 0) (v:Int)=if q=v then 0 else -1:=fun v a=>by
  split
  ·rename_i e;subst e;exact je _ _ _ (by simpa using a)
  ·rename_i e
   rw[gH _ _ _ _ e,kR,aX,List.getElem?_replicate,if_pos a];rfl
 have g:b7 ((List.replicate n (-1)).set q 0)=b7 (List.replicate n (-1))+1:=rI _ q 0 (by simpa using b) (by rw[aX,List.getElem?_replicate,if_pos b];decide) (by decide);refine⟨by simp,by rw[h1 q b,if_pos rfl],fun v a=>?_,fun v a=>?_,fun x i=>?_,by simp,fun v a=>?_,by decide,fun v a j h=>?_,fun v a h hn=>?_⟩
 ·rw[h1 v a];split<;>omega
 ·rw[h1 v a,g];split<;>omega
 ·obtain rfl:=List.mem_singleton.1 i
  exact⟨b,by rw[h1 x b,if_pos rfl];omega⟩
 ·rw[h1 v a];split<;>omega
 ·rw[h1 v a,if_neg (fun e=>j e.symm)] at h;omega
 ·rw[h1 v a] at h
  by_cases e:q=v
  ·exact absurd (List.mem_singleton.2 e.symm) hn
  ·rw[if_neg e] at h;omega
theorem Bf.pop {n q:Nat} {nb:Nat->Nat->Prop} {out:List Int} {v:Nat} {Q:List Nat} {D:Int} (h:Bf n q nb out (v::Q) D (fun _ _=>False)):Bf n q nb out Q (rd out (v:Int)) (fun x _=>x=v):=by
 have j:=h.qv v (List.mem_cons_self ..);have b:=List.pairwise_cons.1 h.nJ;refine⟨h.len,h.q0,h.lo,h.hi,fun x a=>⟨(h.qv x (List.mem_cons_of_mem _ a)).1,b.1 x a⟩,b.2,fun u hu=>?_,by have:=h.d0;omega,h.back,fun x a g hn u hu i hex=>?_⟩
 ·have:=h.top u hu;omega
 ·exact h.kS x a g (fun hm=>by rcases List.mem_cons.1 hm with e|e;exact hex e;exact hn e) u hu i (fun f=>f)
theorem Bf.look {n q:Nat} {nb:Nat->Nat->Prop} {out:List Int} {v u:Nat} {Q:List Nat} {ex:Nat->Prop} (h:Bf n q nb out Q (rd out (v:Int)) (fun x y=>x=v/\ex y)) (hu:u<n) (z:v<n) (G:nb v u):
  (0<=rd out (u:Int)->Bf n q nb out Q (rd out (v:Int)) (fun x y=>x=v/\ex y/\y≠u))/\
  (rd out (u:Int)<0->u≠v/\rd (out.set u (rd out (v:Int)+1)) (v:Int)=rd out (v:Int)/\b7 (out.set u (rd out (v:Int)+1))=b7 out+1/\Bf n q nb (out.set u (rd out (v:Int)+1)) (Q++[u]) (rd out (v:Int)) (fun x y=>x=v/\ex y/\y≠u)):=by
 have hd:=h.d0;refine⟨fun k=>⟨h.len,h.q0,h.lo,h.hi,h.qv,h.nJ,h.top,hd,h.back,fun x g i hn y j l hex=>?_⟩,fun k=>?_⟩
 ·by_cases e:x=v/\ex y
  ·have:y=u:=Classical.byContradiction fun e2=>hex ⟨e.1,e.2,e2⟩
   subst this;have:=h.top y j;rw[e.1];exact⟨k,this⟩
  ·exact h.kS x g i hn y j l e
 ·have B:u≠v:=fun e=>by rw[e] at k;omega
  have C:u<out.length:=by rw[h.len];exact hu
  have r:rd (out.set u (rd out (v:Int)+1)) (v:Int)=rd out (v:Int):=gH _ _ _ _ B;have e2:∀x:Nat,x<n->rd (out.set u (rd out (v:Int)+1)) (x:Int)=if u=x then rd out (v:Int)+1 else rd out (x:Int):=fun x g=>by
   split
   ·rename_i e;subst e;exact je _ _ _ C
   ·rename_i e;exact gH _ _ _ _ e
  have D:=rI out u (rd out (v:Int)+1) C (by rw[<-kR];exact k) (by omega);have m:∀x:Nat,x<n->0<=rd out (x:Int)->rd (out.set u (rd out (v:Int)+1)) (x:Int)=rd out (x:Int):=fun x g i=>by
   rw[e2 x g,if_neg (fun e=>by subst e;omega)]
  have o:∀x,x∈Q->rd (out.set u (rd out (v:Int)+1)) (x:Int)=rd out (x:Int):=fun x g=>m x (h.qv x g).1 (by have:=(h.qv x g).2;omega)
  refine⟨B,r,D,by rw[List.length_set];exact h.len,?_,fun x g=>?_,fun x g=>?_,fun x g=>?_,?_,fun x g=>?_,hd,fun x g H i=>?_,fun x g i hn y j l hex=>?_⟩
  ·rw[gH _ _ _ _ (fun e=>by subst e;have:=h.q0;omega)];exact h.q0
  ·rw[e2 x g];split
   ·omega
   ·exact h.lo x g
  ·rw[e2 x g,D];split
   ·have:=h.hi v z;omega
   ·have:=h.hi x g;omega
  ·rcases List.mem_append.1 g with g|g
   ·exact⟨(h.qv x g).1,by rw[o x g];exact(h.qv x g).2⟩
   ·obtain rfl:=List.mem_singleton.1 g
    exact⟨hu,by rw[e2 x hu,if_pos rfl];omega⟩
  ·refine List.pairwise_append.2 ⟨h.nJ.imp_of_mem fun {a b} p hb I=>by rw[o a p,o b hb];exact I,by simp,fun a p b hb=>?_⟩
   obtain rfl:=List.mem_singleton.1 hb;rw[o a p,e2 b hu,if_pos rfl];have:=h.top a (h.qv a p).1;omega
  ·rw[e2 x g];split
   ·omega
   ·exact h.top x g
  ·by_cases e:u=x
   ·subst e
    exact⟨v,z,G,by rw[r];omega,by rw[r,e2 u hu,if_pos rfl]⟩
   ·rw[e2 x g,if_neg e] at i⊢
    obtain⟨y,s,J,w,K⟩:=h.back x g H i;exact⟨y,s,J,by rw[m y s w];exact w,by rw[m y s w];exact K⟩
  ·have L:u≠x:=fun e=>hn (List.mem_append.2 (.inr (List.mem_singleton.2 e.symm)))
   rw[e2 x g,if_neg L] at i⊢;by_cases E:y=u
   ·subst E
    rw[e2 y j,if_pos rfl];by_cases F:x=v
    ·rw[F];omega
    ·have:=h.kS x g i (fun hm=>hn (List.mem_append.2 (.inl hm))) y j l (fun f=>F f.1)
     omega
   ·have:=h.kS x g i (fun hm=>hn (List.mem_append.2 (.inl hm))) y j l (fun f=>hex ⟨f.1,f.2,E⟩)
    rw[m y j this.1];exact this
section
attribute [local go_sem] Oper.semAt_some
theorem Ea (g n:Nat) (A0:Option Addr) (c0:Nat) (E:List S83) (q:Int) (dv Q:Value) (R:Int) (v:Nat) (lb:Array Value) (B:Nat->Bool) (w:World) (ab:Kd.C aN w A0 E.length E) (hE:ez n E) (hn:n<=1000) (hv:v<n) (i:ik w g n (.slice A0 E.length c0) q dv Q R)
  (hB:∀(W:World) (u:Int),Below w.heap.size w W->0<=u->u<n->Calls Tryz.prog 195 (#[.int .i64 u]++lb) W fun e w'=>e= .returned (.bool (B u.toNat))/\Below W.heap.size W w'):
  Calls Tryz.prog 168 #[.pointer (some ⟨g,0,none⟩),.int .i64 v,.func (.func 195) #[] lb] w fun e w'=>e= .returned (.int .i64 (eo B (cJ E v E.length)))/\Below w.heap.size w w':=by
 have a9:=zA hB;have HE:=zA hE;have ak:=zA i;clear hB hE i;refine(callsIn_wide (n:=10)).1 ?_;refine callsIn_of_wp_marks Tryz.func168 rfl trivial ?_ rfl;simp only[Tryz.ntmps168,List.size_toArray,List.length_cons,List.length_nil,Nat.reduceAdd,Nat.reduceSub,Array.replicate_succ,Array.replicate_zero,List.push_toArray,List.append_toArray,List.nil_append,List.cons_append];gi_wp2_with (refine⟨trivial,?_⟩;gi_at_call 194;refine(callsIn_wide.2 (mE g v _)).mono ?_;rintro e w3 ⟨rfl,rfl⟩)
 obtain⟨p,am⟩:∃o:Obj,o= .cells #[.func (.func 195) #[] lb] 121:=⟨_,rfl⟩;obtain⟨on,an⟩:∃o:Obj,o= .cells #[.int .i64 0] 3:=⟨_,rfl⟩;obtain⟨r,ap⟩:∃o:Obj,o= .cells #[.pointer (some ⟨g,0,none⟩)] 135:=⟨_,rfl⟩;obtain⟨y,av⟩:∃o:Obj,o= .cells #[.int .i64 v] 3:=⟨_,rfl⟩;have Z0:=a7 w p;have S:=a7 (w.alloc p) on;have T:=a7 ((w.alloc p).alloc on) r;have U:=a7 (((w.alloc p).alloc on).alloc r) y;simp only[World.size_alloc] at S T U;have H0:=zA ((au (au (au Z0 on) r) y).trans (by rw[am]:_=some (.cells #[.func (.func 195) #[] lb] 121 (0,0))));have H1:=zA ((au (au S r) y).trans (by rw[an]:_=some (.cells #[.int .i64 0] 3 (0,0))));have H2:=zA ((au T y).trans (by rw[ap]:_=some (.cells #[.pointer (some ⟨g,0,none⟩)] 135 (0,0))));have H3:=zA (U.trans (by rw[av]:_=some (.cells #[.int .i64 v] 3 (0,0))));have z:=zA (ao (ao (ao (ao (aq w.heap.size w) p) on) r) y);have aP:Aside0 (ik ((((w.alloc p).alloc on).alloc r).alloc y) g n (.slice A0 E.length c0) q dv Q R):=⟨aD ak.out z.out⟩;have bv:g<w.heap.size:=aC ak.out;have bf:=zA (Kd.ax ab z.out);clear Z0 S T U;subst am an ap av;have bg:=z.out.size;have bi:((((w.alloc (.cells #[.func (.func 195) #[] lb] 121)).alloc (.cells #[.int .i64 0] 3)).alloc (.cells #[.pointer (some ⟨g,0,none⟩)] 135)).alloc (.cells #[.int .i64 v] 3)).heap.size=w.heap.size+4:=by simp
 generalize ((((w.alloc (.cells #[.func (.func 195) #[] lb] 121)).alloc (.cells #[.int .i64 0] 3)).alloc (.cells #[.pointer (some ⟨g,0,none⟩)] 135)).alloc (.cells #[.int .i64 v] 3))=j at H0 H1 H2 H3 z aP bf bg bi⊢;refine iU (σ:=Unit) (α:=Int×Int) (F:=Fence.wide) (n:=10) rfl (by decide) (gf:=207) (lb:=#[.pointer (some ⟨w.heap.size+1+1,0,none⟩),.pointer (some ⟨w.heap.size+1+1+1,0,none⟩)]) rfl trivial (enters_of Tryz.func207 (by kernel_rfl) rfl)
  (fun o=>pa (w.heap.size+1+1) (w.heap.size+1+1+1) g n A0 c0 E q dv Q R v w _ ab HE.out hn hv (ao (ao z.out _) _) (au (au H2.out _) _) (au (au H3.out _) _) (au (au aP.out _) _)) (fun _=>rfl)
  (fun _=>True) ?eL ?st ?ar
  (fun _ pre W=>j.heap.size<=W.heap.size/\W.heap[w.heap.size]? =some (.cells #[.func (.func 195) #[] lb] 121 (0,0))/\W.heap[w.heap.size+1]? =some (.cells #[.int .i64 (eo B pre)] 3 (0,0))/\Below w.heap.size w W) (fun _ _ _ _=>False)
  ?is (fun _ _ _ _ _ _ h _=>h) ?ib (fun _ _ _ _ _ h _=>h) ?kt ?h0 ?a1 ?assign ?body ?done (fun _ _ _ _ _ _ _ h=>h.elim)
 case assign=>
  intro l x W K hK;gi_wp2;exact hK
 case eL=>
  intro o s W1 h;exact⟨trivial,by rw[h];exact cB.refl _ _⟩
 case st=>intro s A B _ h;exact di h
 case ar=>intro s x A B _ h;exact di h.2
 case is=>
  rintro s pre A B _ ⟨H,h1,V,X⟩ i;exact⟨Nat.le_trans H i.size,aD h1 i,aD V i,aW X i⟩
 case ib=>
  rintro s pre A B ⟨H,h1,V,X⟩ hb;exact⟨by rw[hb.size];exact H,hb.cells h1,hb.cells V,X.trans (hb.below w.heap.size (by omega))⟩
 case kt=>
  intro s A B C D N aR aS;refine⟨fun aY=>((N.below w.heap.size (by omega)).trans (aR.1 (by rw[N.size];exact aY))).trans (aS.below w.heap.size (by omega)),fun k hk I=>?_⟩;have a0:k≠j.heap.size+1:=by rcases hk with rfl|rfl|rfl<;>omega
  exact(aS.heap k a0).trans ((aR.2 k hk (by rw[N.size];exact I)).trans (N.heap k a0))
 case h0=>
  rintro o s W1 rfl;exact⟨by simp;omega,au (au H0.out _) _,au (au H1.out _) _,ao (ao z.out _) _⟩
 case body=>
  rintro l s pre ⟨u,m⟩ Wb W1 W _ ⟨H,i1,i2,i3⟩ ⟨Y,J⟩ bn b;have Z:=zA (b.cells (aD i1 J));have L:=zA (b.cells (aD i2 J));have b3:=zA ((aW i3 J).trans (b.below w.heap.size (by omega)));have bx:j.heap.size<=W.heap.size:=by have:=b.size;have:=J.size;omega
  clear i1 i2 i3 J b bn;simp only at Y;have b0:W.cell? ⟨w.heap.size,0,none⟩=some (.func (.func 195) #[] lb):=(ah Z.out 0).trans rfl;have O:=zA (a9.out W u b3.out Y.1 Y.2.1);have M:=zA (ry B pre (u,m));generalize eo B pre=s0 at L M;cases P:B u.toNat with
  |true=>
   rw[P] at O M;clear P;gi_wp2_with (refine⟨trivial,?_⟩;gi_at_call 195;refine(callsIn_wide.2 O.out).mono ?_;rintro e w5 ⟨rfl,G⟩;have a:=zA G;have D2:=zA (aD L.out G);have c5:w5.cell? ⟨w.heap.size+1,0,none⟩=some (.int .i64 s0):=(ah D2.out 0).trans rfl;have f5:=bF D2.out 0;clear G)
   have aY:=a.out.size;refine⟨(di a.out).trans (fI _ _ (by show w.heap.size+1<j.heap.size;omega)),⟨fun aY=>Below.setCell (a.out.mono aY) (by show w.heap.size<=w.heap.size+1;omega) _,fun k hk I=>?_⟩,by simp;omega,?_,?_,Below.setCell (aW b3.out a.out) (by show w.heap.size<=w.heap.size+1;omega) _⟩
   ·rw[Below.heap_setCell _ _ _ _ (by rcases hk with rfl|rfl|rfl<;>(show _≠w.heap.size+1)<;>omega)]
    exact a.out.block k I
   ·rw[Below.heap_setCell _ _ _ _ (by show w.heap.size≠w.heap.size+1;omega)]
    exact aD Z.out a.out
   ·have h:=bV D2.out 0 (.int .i64 (wrap64 (s0+m)))
    rw[M.out];simpa using h
  |false=>
   rw[P] at O M;clear P;gi_wp2_with (refine⟨trivial,?_⟩;gi_at_call 195;refine(callsIn_wide.2 O.out).mono ?_;rintro e w5 ⟨rfl,G⟩;have a:=zA G;clear G)
   have aY:=a.out.size;exact⟨di a.out,⟨fun aY=>a.out.mono aY,fun k hk I=>a.out.block k I⟩,by omega,aD Z.out a.out,by rw[M.out];exact aD L.out a.out,aW b3.out a.out⟩
 case done=>
  rintro s xs W W' _ rfl ⟨H,i1,i2,i3⟩ b a3;have L:=zA (b.cells i2);have b3:=zA (i3.trans (b.below w.heap.size (by omega)));have a4:=zA a3;clear i1 i2 i3 a3;have hc:W'.cell? ⟨w.heap.size+1,0,none⟩=some (.int .i64 (eo B (cJ E v E.length))):=(ah L.out 0).trans rfl;gi_wp2_with fail
  have bo:Bk j.heap.size W' (W'.putObj j.heap.size (.deferred none)):=⟨_,_,a4.out,rfl,rfl⟩;exact jx (D:=j.heap.size) rfl a4.out (results_tmp rfl _ _ _) ⟨rfl,b3.out.trans (bo.below w.heap.size (by omega))⟩
end
theorem Eb (gb a cr n:Nat) (B:Nat->Bool) (ok:Nat->Prop) (base:Nat) (W:World) (u:Int) (hb:W.heap[gb]? =some (.cells #[.slice (some ⟨a,0,none⟩) n cr] 43 (0,0))) (g:Kd.bool.R 4 W base ok (.slice (some ⟨a,0,none⟩) n cr) ((List.range n).map B)) (h:0<=u) (hn:u<n):
  Calls Tryz.prog 195 #[.int .i64 u,.pointer (some ⟨gb,0,none⟩)] W fun e w'=>e= .returned (.bool (B u.toNat))/\Below W.heap.size W w':=by
 have i:W.cell? ⟨gb,0,none⟩=some (.slice (some ⟨a,0,none⟩) n cr):=(ah hb 0).trans rfl;have b:=(Kd.bO false g u h hn).1;have e:bM false ((List.range n).map B) u=B u.toNat:=by
  obtain⟨m,rfl⟩:=Int.eq_ofNat_of_zero_le h;have:m<n:=by omega
  simp[bM,aX,List.getElem?_map,List.getElem?_range this]
 rw[e] at b;have b:W.cell? ⟨a,u.toNat,none⟩=some (.bool (B u.toNat)):=b;clear g hb e;go_enter Tryz.func195,Tryz.ntmps195
 go_wp2;go_ret;exact⟨rfl,aq _ _⟩
theorem Ec (n:Nat) (B:Nat->Bool) (v:Nat):((List.range n).map B).set v true=(List.range n).map (ej B v):=by
 refine List.ext_getElem (by simp) fun i h1 a=>?_
 rw[List.getElem_set];simp only[List.getElem_map,List.getElem_range];unfold ej;by_cases e:v=i
 ·subst e;simp
 ·rw[if_neg e,if_neg (fun h=>e h.symm)]
theorem Ed (n q:Nat):(List.replicate n false).set q true=(List.range n).map (cI q):=by
 refine List.ext_getElem (by simp) fun i h1 a=>?_
 rw[List.getElem_set];simp only[List.getElem_map,List.getElem_range,List.getElem_replicate];unfold cI;by_cases e:q=i
 ·subst e;simp
 ·rw[if_neg e,if_neg (fun h=>e h.symm)]
theorem Ee {n:Nat} {c:(Nat->Bool)->Nat->Bool} {b F:Nat->Bool} (hm:∀(b b':Nat->Bool) v,(∀u,u<n->b u=true->b' u=true)->b' v=false->c b v=true->c b' v=true) (hF:∀v,v<n->c F v=false) (hb:∀v,v<n->b v=true->F v=true):
  ∀(f:Nat) (b:Nat->Bool),(∀v,v<n->b v=true->F v=true)->∀v,v<n->cN b (fW n c f b) v=true->F v=true:=by
 intro f;induction f with
 |zero=>intro b hb v a h;exact hb v a h
 |succ f j=>
  intro b hb v a h;cases g:jV n c b with
  |none=>simp only[fW,g] at h;exact hb v a h
  |some v0=>
   have h1:=List.find?_some g;have l:=List.mem_range.1 (List.mem_of_find?_eq_some g);simp only[fW,g,rj] at h;refine j (ej b v0) (fun u hu i=>?_) v a h;unfold ej at i;by_cases e:u=v0
   ·subst e
    cases k:F u with
    |true=>rfl
    |false=>have:=hm b F u hb k (by simpa using h1);rw[hF u hu] at this;cases this
   ·rw[if_neg e] at i;exact hb u hu i
def bC (n:Nat) (t:Nat->Nat->Int) (q:Nat) (d:List Int):Nat->Bool:=cN (cI q) (eF n (cC n t d) (cI q))
theorem vU {n:Nat} {t:Nat->Nat->Int} (e:∀i j,0<=t i j) {d:List Int} (b b':Nat->Bool) (v:Nat) (h:∀u,u<n->b u=true->b' u=true) (g:b' v=false) (a:cC n t d b v=true):cC n t d b' v=true:=by
 unfold cC at a⊢;simp only[Bool.and_eq_true,decide_eq_true_eq] at a⊢;have hf:∀m,m<=n->cM t b v m<=cM t b' v m:=by
  intro m;induction m with
  |zero=>intro _;exact Int.le_refl _
  |succ m k=>
   intro hm;have h1:=k (by omega);have o:=e v m;have l:=h m (by omega);simp only[cM];by_cases hb:b m=true
   ·rw[if_pos hb,if_pos (l hb)];omega
   ·rw[if_neg hb];split<;>omega
 exact⟨by simp[g],Int.lt_of_lt_of_le a.2 (hf n (aI _))⟩
theorem Ef {n:Nat} {t:Nat->Nat->Int} (k:∀i j,0<=t i j) {q:Nat} {d:List Int} {B:Nat->Bool} (l:B q=true) (m:∀v,v<n->B v=true->bC n t q d v=true) (o:∀v,v<n->cC n t d B v=false):∀v,v<n->bC n t q d v=B v:=by
 intro v a;cases g:B v with
 |true=>exact m v a g
 |false=>
  cases hF:bC n t q d v with
  |false=>rfl
  |true=>
   have h:∀u,u<n->cI q u=true->B u=true:=fun u _ hu=>by
    unfold cI at hu;by_cases e:u=q
    ·rw[e];exact l
    ·rw[if_neg e] at hu;cases hu
   have:=Ee (b:=cI q) (fun b b' v h1 p r=>vU k b b' v h1 p r) o h _ (cI q) h v a hF;rw[g] at this;cases this
theorem Eg {n:Nat} {t:Nat->Nat->Int} (g:∀i j,0<=t i j) {q:Nat} {d:List Int} {B:Nat->Bool} (a:∀v,v<n->B v=true->bC n t q d v=true) {v:Nat} (m:v<n) (k:cC n t d B v=true):∀u,u<n->ej B v u=true->bC n t q d u=true:=by
 intro u hu h;unfold ej at h;by_cases e:u=v
 ·subst e
  cases hF:bC n t q d u with
  |true=>rfl
  |false=>
   have h1:=rl (n:=n) (c:=cC n t d) (fun b v h=>ny b v h) (dY n (cI q)) (cI q) (aI _) u hu;have l:=vU g B (bC n t q d) u a hF k;rw[show cC n t d (cN (cI q) (fW n (cC n t d) (dY n (cI q)) (cI q))) u=cC n t d (bC n t q d) u from rfl,l] at h1;cases h1
 ·rw[if_neg e] at h;exact a u hu h
theorem Eh (g n:Nat) (A0:Option Addr) (c0:Nat) (E:List S83) (q:Nat) (Ad:Option Addr) (cd:Nat) (d:List Int) (sv:Value) (er:Int) (w:World) (cx:Kd.C aN w A0 E.length E) (hE:ez n E) (hn:n<=1000) (hq:q<n) (aO:ik w g n (.slice A0 E.length c0) q (.slice Ad d.length cd) sv er)
  (hd:Kd.C (Kd.int .i64) w Ad d.length d) (b4:d.length=n) (b6:∀(B:Nat->Bool) (v:Nat),v<n->B v=false->eo B (cJ E v E.length)=cM (ae E) B v n):
  Calls Tryz.prog 170 #[.pointer (some ⟨g,0,none⟩)] w fun e w'=>∃G cl,e= .returned (.tuple #[.slice (some ⟨G,0,none⟩) n cl,.bool ((List.range n).any fun v=> !bC n (ae E) q d v)])/\Kd.bool.R 4 w' w.heap.size (fun _=>True) (.slice (some ⟨G,0,none⟩) n cl) ((List.range n).map fun v=> !bC n (ae E) q d v)/\Below w.heap.size w w':=by
 have d7:=Tryz.underlying188;have hu:=Tryz.underlying24;have c1:=zA b6;have HE:=zA hE;have ar:=zA aO;have HD:=zA hd;have s0:w.cell? ⟨g,0,none⟩=some (.int .i64 n):=(ah aO 0).trans rfl;have cb:=b4;have c2:=zA cb;clear b6 hE aO hd b4 cb;have cc:(0:Int)<=(n:Int):=by omega
 go_enter Tryz.func170,Tryz.ntmps170
 go_wp2_with (first|((with_reducible refine aU (N:=16) rfl ?_);refine Kd.ky Kd.bool _ 4 rfl (N:=16) rfl 43 _ _ rfl (n:Int) rfl rfl Tryz.underlying43 (.bool false) 1 mu rfl (by decide) (by omega) false (ok:=fun _=>True) (okp:=fun _=>True) rfl (fun _ hk=>hk) trivial cc (by simp;omega) (aq _ _) (aI _) ?_;intro v1 w1 H hb aP aR;rw[aG] at H;obtain⟨l,cr,K,ce,aS, -⟩:=Kd.fE H (by rw[List.length_replicate];omega);rw[List.length_replicate] at K;subst K;have cf:=zA H;have a0:=zA hb;clear H hb aP aR))
 have c3:=a0.out.size;have L:=zA (a7 w1 (.cells #[.slice (some ⟨l,0,none⟩) n cr] 43));have T:=zA (Kd.aM cf.out (.cells #[.slice (some ⟨l,0,none⟩) n cr] 43));have M:=zA (ao a0.out (.cells #[.slice (some ⟨l,0,none⟩) n cr] 43));have a1:=zA (aD ar.out M.out);have cg:=zA (Kd.ax HD.out M.out);have d8:g<w.heap.size:=aC ar.out;have c4:l<w1.heap.size:=aS;clear cf a0 aS s0;generalize w1.alloc (.cells #[.slice (some ⟨l,0,none⟩) n cr] 43)=W2 at L T M a1 cg⊢;generalize w1.heap.size=gb at L c4 c3⊢;have b0:W2.cell? ⟨gb,0,none⟩=some (.slice (some ⟨l,0,none⟩) n cr):=(ah L.out 0).trans rfl;have s2:W2.cell? ⟨g,2,none⟩=some (.int .i64 q):=(ah a1.out 2).trans rfl;obtain⟨o,hf⟩:=Kd.bO false T.out (q:Int) (by omega) (by omega);rw[aG] at o hf;have ch:W2.cell? ⟨l,q,none⟩=some (.bool (bM false (List.replicate n false) q)):=o;have d9:(0:Int)<=(q:Int):=by omega
 have eb:(q:Int)<(n:Int):=by omega
 clear o;generalize bM false (List.replicate n false) q=x0 at ch;go_region
 go_wp2;have y:=Kd.dh T.out (q:Int) true;rw[aG,Ed] at y;have a2:=zA (Kd.bj y.1);have a3:=zA (eZ (dc (g:=gb) L.out y.2 (fun e=>by injection e with e;omega)));have a4:=zA (bR (Below.setCell (p:=⟨l,q,none⟩) M.out ce (.bool true)));have ht:∀i j,0<=ae E i j:=fun i j=>(HE.out.times i j).1
 have HT:=zA ht;have ck:=zA (show cI q q=true by simp[cI]);have cn:Aside0 (∀v,v<n->cI q v=true->bC n (ae E) q d v=true):=⟨fun v K h=>ri _ h⟩;have c5:gb≠l:=by omega
 clear y T L a1 M cg b0 s2 ch hf ht;generalize (W2.setCell ⟨l,q,none⟩ (.bool true)).drew=W3 at a2 a3 a4⊢;go_loopg [6] (2*n+2) (fun kq ag wr=>∃(B:Nat->Bool) (b:Bool),ag= .bool b/\Aside0 (B q=true)/\Aside0 (∀v,v<n->B v=true->bC n (ae E) q d v=true)/\Aside0 (b=false->∀v,v<n->cC n (ae E) d B v=false)/\Aside0 (wr.heap[gb]? =some (.cells #[.slice (some ⟨l,0,none⟩) n cr] 43 (0,0)))/\Aside0 (Kd.bool.R 4 wr w.heap.size (fun _=>True) (.slice (some ⟨l,0,none⟩) n cr) ((List.range n).map B))/\Aside0 (Below w.heap.size w wr)/\Aside0 (2*dY n B+(if b=true then 1 else 0)<=kq))
 case atStart=>exact⟨cI q,true,rfl,ck,cn,⟨fun h=>by cases h⟩,a3,a2,a4,⟨by have:=uy n (cI q);simp;omega⟩⟩
 case round=>
  clear ck cn a3 a2 a4;obtain⟨B,b,rfl,I,J,be,D,F,r,HK⟩:=hrel;have O:=zA (aD ar.out r.out);have s0:wr.cell? ⟨g,0,none⟩=some (.int .i64 n):=(ah O.out 0).trans rfl;cases b with
  |true=>
   go_wp2;go_loopg [6,30] (n) (fun kq ag Z wr=>∃(v:Nat) (m:Nat->Bool) (b':Bool),ag= .bool b'/\Z= .int .i64 v/\v<=n/\Aside0 (m q=true)/\Aside0 (∀v,v<n->m v=true->bC n (ae E) q d v=true)/\Aside0 (b'=false->m=B/\∀u,u<v->cC n (ae E) d B u=false)/\Aside0 (dY n m+(if b'=true then 1 else 0)<=dY n B)/\Aside0 (wr.heap[gb]? =some (.cells #[.slice (some ⟨l,0,none⟩) n cr] 43 (0,0)))/\Aside0 (Kd.bool.R 4 wr w.heap.size (fun _=>True) (.slice (some ⟨l,0,none⟩) n cr) ((List.range n).map m))/\Aside0 (Below w.heap.size w wr)/\Aside0 (kq=n-v))
   case atStart=>exact⟨0,B,false,rfl,rfl,by omega,I,J,⟨fun _=>⟨rfl,fun u hu=>by omega⟩⟩,⟨by simp⟩,D,F,r,⟨rfl⟩⟩
   case round=>
    clear O s0 I J be D F r;obtain⟨v,m,b',rfl,rfl,K,I,J,P,HU,D,F,r,bf⟩:=hrel;by_cases Q:v<n
    ·have c7:(0:Int)<=(v:Int):=by omega
     have c8:(v:Int)<(n:Int):=by omega
     have b0:wr.cell? ⟨gb,0,none⟩=some (.slice (some ⟨l,0,none⟩) n cr):=(ah D.out 0).trans rfl;obtain⟨o,hf⟩:=Kd.bO false F.out (v:Int) (by omega) (by omega);rw[aG] at o hf;have e1:bM false ((List.range n).map m) v=m v:=by simp[bM,aX,List.getElem?_map,List.getElem?_range Q]
     rw[e1] at o;replace o:wr.cell? ⟨l,v,none⟩=some (.bool (m v)):=o;clear e1;cases V:m v with
     |true=>
      rw[V] at o;have ab:=zA V;clear V;go_wp2_with fail
      go_quiet (fail)
      go_wp2;go_roundg (n- (v+1))
      case measure=>rw[bf.out];omega
      case rel=>exact⟨v+1,m,b',rfl,by go_num,by omega,I,J,⟨fun h=>⟨(P.out h).1,fun u hu=>by
       by_cases e:u=v
       ·subst e
        have:=(P.out h).1;have h3:=ab.out;rw[this] at h3;unfold cC;rw[h3];rfl
       ·exact(P.out h).2 u (by omega)⟩⟩,HU,⟨by repeat(first|exact D.out|apply iB|apply eZ)⟩,⟨by repeat(first|exact F.out|apply Kd.bs|apply Kd.bj)⟩,⟨by repeat(first|exact r.out|apply bN|apply bR)⟩,⟨rfl⟩⟩
     |false=>
      rw[V] at o;have ab:=zA V;have O:=zA (aD ar.out r.out);have s3:wr.cell? ⟨g,3,none⟩=some (.slice Ad d.length cd):=(ah O.out 3).trans rfl;have c':=c2.out;obtain⟨a,ea,hx⟩:=Kd.bJ (Kd.ax HD.out r.out) v (by omega) (by omega);subst ea;rw[aG] at hx;have ek:(v:Int)<(d.length:Int):=by omega
      have el:=aC D.out;have es:=Kd.ba F.out l rfl;have ev:=aC O.out;have ew:=bu _ _ hx;clear V c';go_wp2_with fail
      go_region_held3 (fun w'=>w'.cell? ⟨gb,0,none⟩=some (.slice (some ⟨l,0,none⟩) n cr)/\w'.cell? ⟨l,v,none⟩=some (.bool false)/\w'.cell? ⟨g,3,none⟩=some (.slice (some a) d.length cd)/\w'.cell? (a.add v)=some (.int .i64 (rd d v)))
       (first|go_keep|(go_split_ands;exact⟨(S.cell (p:=⟨gb,0,none⟩) (by simp;omega)).trans (by go_simp),(S.cell (p:=⟨l,v,none⟩) (by simp;omega)).trans (by go_simp),(S.cell (p:=⟨g,3,none⟩) (by simp;omega)).trans (by go_simp),(S.cell (p:=a.add v) (by simp;omega)).trans (by go_simp)⟩))
       (first|(go_at_call 168;refine(Ea g n A0 c0 E q _ sv er v #[.pointer (some ⟨gb,0,none⟩)] m _ (Kd.ax cx zB) HE.out hn Q (zK O) (fun W u co dk dl=>Eb gb l cr n m _ _ W u (aD (zK D) co) (Kd.cY (zR F) co) dk dl)).mono ?_;rintro e w5 ⟨rfl,S⟩))
      have U:=zb D S;have X:=bp F S;have am:=zS r S;have cp:=zA (c1.out m v Q ab.out);have cq:cC n (ae E) d m v=decide (rd d v<eo m (cJ E v E.length)):=by unfold cC;rw[ab.out,cp.out];rfl
      have bi:=zA cq;rename_i hHeld;clear hHeld cq S D F r O o hf b0 s3 hx;generalize eo m (cJ E v E.length)=x at bi cp⊢;have b5:w5.cell? ⟨gb,0,none⟩=some (.slice (some ⟨l,0,none⟩) n cr):=(ah U.out 0).trans rfl;obtain⟨o,hf⟩:=Kd.bO false X.out (v:Int) (by omega) (by omega);rw[aG] at o hf;generalize bM false ((List.range n).map m) (v:Int)=z at o;replace o:w5.cell? ⟨l,v,none⟩=some (.bool z):=o;by_cases cs:rd d v<x
      ·have an:decide (rd d v<x)=true:=ay cs
       have bn:Aside0 (cC n (ae E) d m v=true):=⟨bi.out.trans an⟩;have y:=Kd.dh X.out (v:Int) true;rw[aG,Ec] at y;have ds:=zA y.1;have dv:=zA (dc (g:=gb) U.out y.2 (fun e=>by injection e with e;exact c5 e));have dx:=zA (Below.setCell (p:=⟨l,v,none⟩) am.out ce (.bool true));clear y;simp only[an];go_wp2;go_roundg (n- (v+1))
       case measure=>rw[bf.out];omega
       case rel=>exact⟨v+1,ej m v,true,rfl,by go_num,by omega,⟨by unfold ej;split;rfl;exact I.out⟩,⟨Eg HT.out J.out Q bn.out⟩,⟨fun h=>by cases h⟩,⟨by have h1:=nt Q ab.out;have h2:=HU.out;simp;split at h2<;>omega⟩,dv,ds,dx,⟨rfl⟩⟩
      ·have an:decide (rd d v<x)=false:=aZ cs
       have bn:Aside0 (cC n (ae E) d m v=false):=⟨bi.out.trans an⟩;clear o hf b5;simp only[an];go_wp2;go_roundg (n- (v+1))
       case measure=>rw[bf.out];omega
       case rel=>exact⟨v+1,m,b',rfl,by go_num,by omega,I,J,⟨fun h=>⟨(P.out h).1,fun u hu=>by
        by_cases e:u=v
        ·subst e
         have h3:=bn.out;rw[(P.out h).1] at h3;exact h3
        ·exact(P.out h).2 u (by omega)⟩⟩,HU,U,X,am,⟨rfl⟩⟩
    ·obtain rfl:v=n:=by omega
     go_wp2;go_roundg (2*dY v m+(if b'=true then 1 else 0))
     case measure=>
      have h1:=HK.out;have h2:=HU.out;cases b'<;>simp at h1 h2⊢ <;>omega
     case rel=>exact⟨m,b',rfl,I,J,⟨fun h u hu=>by rw[(P.out h).1];exact(P.out h).2 u hu⟩,D,F,r,⟨aI _⟩⟩
  |false=>
   go_wp2_with (first|((with_reducible refine aU (N:=61) rfl ?_);refine Kd.ky Kd.bool _ 4 rfl (N:=61) rfl 43 _ _ rfl (n:Int) rfl rfl Tryz.underlying43 (.bool false) 1 mu rfl (by decide) (by omega) false (ok:=fun _=>True) (okp:=fun _=>True) rfl (fun _ hk=>hk) trivial cc (by simp;omega) (aq _ _) (aI _) ?_;intro v1 w5 H hb aP aR;rw[aG] at H;obtain⟨G,cl,K,d0,aS, -⟩:=Kd.fE H (by rw[List.length_replicate];omega);rw[List.length_replicate] at K;subst K;have ct:=zA H;have am:=zA (aW r.out hb);have U:=zA (aD D.out hb);have X:=zA (Kd.a_ (Kd.cY (Kd.ef F.out) hb) (ok':=fun k=>k≠G) (fun k hk=>by have:=hk.2.2;omega));have d1:gb≠G:=(fun e=>by have:=aC D.out;omega);have d2:w.heap.size<=G:=Nat.le_trans r.out.size d0;have b5:w5.cell? ⟨gb,0,none⟩=some (.slice (some ⟨l,0,none⟩) n cr):=(ah U.out 0).trans rfl;clear H hb aP aR))
   have bo:=zA (Ef HT.out I.out J.out (be.out (by simp)));have d3:=r.out.size;clear O s0 I J be D F r b5;have cv:Aside0 (Kd.bool.R 4 w5 w.heap.size (fun _=>True) (.slice (some ⟨G,0,none⟩) n cl) ((List.range n).map fun u=>if u<0 then !B u else false)):=⟨by
    have h:=Kd.bd ct.out (base':=w.heap.size) d3;rw[show (List.replicate n false:List Bool)=(List.range n).map fun u=>if u<0 then !B u else false from by
     refine List.ext_getElem (by simp) fun i h1 h2=>?_
     simp] at h
    exact h⟩
   clear ct;go_loopw [9,64] (fun d4 Z wr=>∃v:Nat,v<=n/\Z= .int .i64 v/\d4= .bool ((List.range v).any fun u=> !B u)/\Aside0 (wr.heap[gb]? =some (.cells #[.slice (some ⟨l,0,none⟩) n cr] 43 (0,0)))/\Aside0 (Kd.bool.R 4 wr w.heap.size (fun k=>k≠G) (.slice (some ⟨l,0,none⟩) n cr) ((List.range n).map B))/\Aside0 (Kd.bool.R 4 wr w.heap.size (fun _=>True) (.slice (some ⟨G,0,none⟩) n cl) ((List.range n).map fun u=>if u<v then !B u else false))/\Aside0 (Below w.heap.size w wr)) (fun _ Z _=>n- (intOf Z).toNat)
   case atStart=>exact⟨0,by omega,rfl,rfl,U,X,cv,am⟩
   case round=>
    clear U X cv am;obtain⟨v,K,rfl,rfl,D,F,HL,r⟩:=hrel;by_cases Q:v<n
    ·have c7:(0:Int)<=(v:Int):=by omega
     have c8:(v:Int)<(n:Int):=by omega
     have b0:wr.cell? ⟨gb,0,none⟩=some (.slice (some ⟨l,0,none⟩) n cr):=(ah D.out 0).trans rfl;obtain⟨o, -⟩:=Kd.bO false F.out (v:Int) (by omega) (by omega);obtain⟨hz,hf⟩:=Kd.bO false HL.out (v:Int) (by omega) (by omega);rw[aG] at o hz hf;have e1:bM false ((List.range n).map B) v=B v:=by simp[bM,aX,List.getElem?_map,List.getElem?_range Q]
     rw[e1] at o;replace o:wr.cell? ⟨l,v,none⟩=some (.bool (B v)):=o;generalize bM false ((List.range n).map fun u=>if u<v then !B u else false) (v:Int)=z at hz;replace hz:wr.cell? ⟨G,v,none⟩=some (.bool z):=hz;have y:=Kd.dh HL.out (v:Int) (!B v);rw[aG] at y;have em:(((List.range n).map fun u=>if u<v then !B u else false).set v (!B v))=(List.range n).map fun u=>if u<v+1 then !B u else false:=by
      refine List.ext_getElem (by simp) fun i h1 h2=>?_
      rw[List.getElem_set];simp only[List.getElem_map,List.getElem_range];by_cases e:v=i
      ·subst e;simp
      ·rw[if_neg e]
       by_cases h:i<v
       ·rw[if_pos h,if_pos (by omega)]
       ·rw[if_neg h,if_neg (by omega)]
     rw[em] at y;have bw:=zA y.1;have L:=zA (dc (g:=gb) D.out y.2 (fun e=>by injection e with e;exact d1 e));have T:=zA (Kd.l7 F.out y.2 (fun k hk e=>hk (by injection e)));have M:=zA (Below.setCell (p:=⟨G,v,none⟩) r.out d2 (.bool (!B v)));have Y:=(Kd.bO false bw.out (v:Int) (by omega) (by omega)).1;rw[aG] at Y;have e2:bM false ((List.range n).map fun u=>if u<v+1 then !B u else false) v= !B v:=by simp[bM,aX,List.getElem?_map,List.getElem?_range Q]
     rw[e2] at Y;have HA:=zA (show ((List.range (v+1)).any fun u=> !B u)=(((List.range v).any fun u=> !B u)|| !B v) by simp[List.range_succ,List.any_append]);replace Y:(wr.setCell ⟨G,v,none⟩ (.bool (!B v))).cell? ⟨G,v,none⟩=some (.bool (!B v)):=Y;have ex:=zA Y;clear y em e1 e2 Y;generalize hs:((List.range v).any fun u=> !B u)=s at HA⊢;clear hs;cases s with
     |true=>
      go_wp2;go_roundw
      case rel=>exact⟨v+1,by omega,by go_num,by rw[HA.out];rfl,L,T,bw,M⟩
      case measure=>exact(show n- ((v:Int)+1).toNat<n- ((v:Int)).toNat by omega)
     |false=>
      go_wp2;go_roundw
      case rel=>exact⟨v+1,by omega,by go_num,by rw[HA.out,Bool.false_or],L,T,bw,M⟩
      case measure=>exact(show n- ((v:Int)+1).toNat<n- ((v:Int)).toNat by omega)
    ·obtain rfl:v=n:=by omega
     go_wp2;go_ret2;refine⟨G,cl,?_,?_,r.out⟩
     ·rw[show ((List.range v).any fun u=> !bC v (ae E) q d u)=((List.range v).any fun u=> !B u) from by
       rw[Bool.eq_iff_iff,List.any_eq_true,List.any_eq_true];constructor
       ·rintro⟨u,hu,h⟩;exact⟨u,hu,by rw[<-bo.out u (List.mem_range.1 hu)];exact h⟩
       ·rintro⟨u,hu,h⟩;exact⟨u,hu,by rw[bo.out u (List.mem_range.1 hu)];exact h⟩]
      rfl
     ·have h:=HL.out
      rw[show ((List.range v).map fun u=>if u<v then !B u else false)=(List.range v).map fun u=> !bC v (ae E) q d u from List.map_congr_left fun u hu=>by
       have:=List.mem_range.1 hu;rw[if_pos this,bo.out u this]] at h
      exact h
section
structure SI (w0:World) (g gd gs cd cs n:Nat) (A0:Option Addr) (c0:Nat) (E:List S83) (q:Int) (d s:List Int) (W:World):Prop where
 hb:Below w0.heap.size w0 W
 st:ik W g n (.slice A0 E.length c0) q (.slice (some ⟨gd,0,none⟩) n cd) (.slice (some ⟨gs,0,none⟩) n cs) 0
 d:(Kd.int .i64).R 3 W w0.heap.size (fun _=>True) (.slice (some ⟨gd,0,none⟩) n cd) d
 s:(Kd.int .i64).R 3 W w0.heap.size (fun _=>True) (.slice (some ⟨gs,0,none⟩) n cs) s
 ne:gd≠gs/\g≠gd/\g≠gs/\w0.heap.size<=g
namespace SI
variable {w0 W W':World} {g gd gs cd cs n c0 l:Nat} {A0:Option Addr} {E:List S83} {q:Int} {d s:List Int}
theorem ld (h:SI w0 g gd gs cd cs n A0 c0 E q d s W):gd<W.heap.size/\gs<W.heap.size/\g<W.heap.size/\w0.heap.size<=gd/\w0.heap.size<=gs:=⟨Kd.ba h.d gd rfl,Kd.ba h.s gs rfl,aC h.st,Kd.dK h.d gd rfl,Kd.dK h.s gs rfl⟩
theorem below (h:SI w0 g gd gs cd cs n A0 c0 E q d s W) (hb:Below W.heap.size W W'):SI w0 g gd gs cd cs n A0 c0 E q d s W':=⟨aW h.hb hb,aD h.st hb,Kd.cY h.d hb,Kd.cY h.s hb,h.ne⟩
theorem alloc (h:SI w0 g gd gs cd cs n A0 c0 E q d s W) (o:Obj):SI w0 g gd gs cd cs n A0 c0 E q d s (W.alloc o):=h.below (ao (aq _ _) o)
theorem drewN (h:SI w0 g gd gs cd cs n A0 c0 E q d s W) (m:Nat):SI w0 g gd gs cd cs n A0 c0 E q d s (W.drewN m):=h.below (bN (aq _ _) m)
theorem bk (h:SI w0 g gd gs cd cs n A0 c0 E q d s W) (hb:Bk l W W') (a:w0.heap.size<=l):SI w0 g gd gs cd cs n A0 c0 E q d s W':=⟨h.hb.trans (hb.below _ a),hb.cells h.st,dD h.d hb,dD h.s hb,h.ne⟩
theorem fin (h:SI w0 g gd gs cd cs n A0 c0 E q d s W) {b:Nat} (hf:fZ b W W') (hb:w0.heap.size<=b):SI w0 g gd gs cd cs n A0 c0 E q d s W':=⟨h.hb.trans (hf.lI.mono hb),hf.cells h.st,hf.R h.d,hf.R h.s,h.ne⟩
theorem iL (h:SI w0 g gd gs cd cs n A0 c0 E q d s W) (p:Addr) (v:Value) (a:p.block≠g/\p.block≠gd/\p.block≠gs) (hb:w0.heap.size<=p.block):SI w0 g gd gs cd cs n A0 c0 E q d s (W.setCell p v):=
 ⟨Below.setCell h.hb hb v,aE h.st (fun e=>a.1 e.symm) v,
  Kd.a_ (Kd.fC (Kd.ia rfl h.d) (fun k hk=>Below.heap_setCell _ _ _ _ (fun e=>a.2.1 (by rw[<-e];injection hk)))) (fun _ _=>trivial),
  Kd.a_ (Kd.fC (Kd.ia rfl h.s) (fun k hk=>Below.heap_setCell _ _ _ _ (fun e=>a.2.2 (by rw[<-e];injection hk)))) (fun _ _=>trivial),h.ne⟩
theorem pB (h:SI w0 g gd gs cd cs n A0 c0 E q d s W) (v:Nat) (x:Int):SI w0 g gd gs cd cs n A0 c0 E q (d.set v x) s (W.setCell ⟨gd,v,none⟩ (.int .i64 x)):=by
 obtain⟨h1,i,j,b,k⟩:=h.ld;have a:=Kd.dh h.d (v:Int) x;rw[aG] at a;exact⟨Below.setCell h.hb b _,aE h.st h.ne.2.1 _,a.1,Kd.iS h.s rfl a.2 (fun e=>by cases e;exact h.ne.1 rfl),h.ne⟩
theorem pC (h:SI w0 g gd gs cd cs n A0 c0 E q d s W) (v:Nat) (x:Int):SI w0 g gd gs cd cs n A0 c0 E q d (s.set v x) (W.setCell ⟨gs,v,none⟩ (.int .i64 x)):=by
 obtain⟨h1,i,j,k,b⟩:=h.ld;have a:=Kd.dh h.s (v:Int) x;rw[aG] at a;exact⟨Below.setCell h.hb b _,aE h.st h.ne.2.2.1 _,Kd.iS h.d rfl a.2 (fun e=>by cases e;exact h.ne.1 rfl),a.1,h.ne⟩
theorem kT (h:SI w0 g gd gs cd cs n A0 c0 E q d s W) (v:Nat) (a:v<n):W.cell? ⟨gd,v,none⟩=some (.int .i64 (rd d v)):=by
 have:=(Kd.bO 0 h.d (v:Int) (by omega) (by omega)).1;rw[aG] at this;exact this
theorem cells (h:SI w0 g gd gs cd cs n A0 c0 E q d s W) (v:Nat) (a:v<n):W.cell? ⟨gs,v,none⟩=some (.int .i64 (rd s v)):=by
 have:=(Kd.bO 0 h.s (v:Int) (by omega) (by omega)).1;rw[aG] at this;exact this
theorem pD (h:SI w0 g gd gs cd cs n A0 c0 E q d s W) (v:Nat) (a:v<n):W.frozen? ⟨gd,v,none⟩=false:=by
 have:=(Kd.bO 0 h.d (v:Int) (by omega) (by omega)).2;rw[aG] at this;exact this
theorem vV (h:SI w0 g gd gs cd cs n A0 c0 E q d s W) (v:Nat) (a:v<n):W.frozen? ⟨gs,v,none⟩=false:=by
 have:=(Kd.bO 0 h.s (v:Int) (by omega) (by omega)).2;rw[aG] at this;exact this
theorem f0 (h:SI w0 g gd gs cd cs n A0 c0 E q d s W):W.cell? ⟨g,0,none⟩=some (.int .i64 n):=(ah h.st 0).trans rfl
theorem f2 (h:SI w0 g gd gs cd cs n A0 c0 E q d s W):W.cell? ⟨g,2,none⟩=some (.int .i64 q):=(ah h.st 2).trans rfl
theorem f3 (h:SI w0 g gd gs cd cs n A0 c0 E q d s W):W.cell? ⟨g,3,none⟩=some (.slice (some ⟨gd,0,none⟩) n cd):=(ah h.st 3).trans rfl
theorem f4 (h:SI w0 g gd gs cd cs n A0 c0 E q d s W):W.cell? ⟨g,4,none⟩=some (.slice (some ⟨gs,0,none⟩) n cs):=(ah h.st 4).trans rfl
theorem f5 (h:SI w0 g gd gs cd cs n A0 c0 E q d s W):W.cell? ⟨g,5,none⟩=some (.int .i64 0):=(ah h.st 5).trans rfl
end SI
end
end Go.Proofs.YtffdiakgjakngaaGreat.P
namespace Go.Proofs.YtffdiakgjakngaaGreat.P
open Go Go.RowKit
set_option linter.unusedVariables false
set_option linter.unusedSimpArgs false
set_option maxHeartbeats 8000000
set_option maxRecDepth 100000
section
section
variable {F:Fence} {n:Nat} {P:Program} {md:Region.Mode} {C:World->Prop}
def fe (o:Oper):Oper:={o with op:=.move (.const undef)}
def rJ (ops:List Oper):Bool:=ops.all fun o=>match o.op with| .defer _=>false|_=>true
theorem vW {l:List Oper} (h:rJ l=true) {o:Oper} (a:o∈l):∀c,o.op≠ .defer c:=by
 intro c e;have:=List.all_eq_true.1 h o a;rw[e] at this;cases this
theorem vX {ops:Array Oper} {i:Nat} {a:Act} {K:Act->Prop} {m:Act->World->Prop} {Q':Exit->Act->World->Prop} {w:World} (s:∀p,ops[i]? =some p->∀c,p.op≠ .defer c) (hC:C w) (h:∀a w',C w'->K a->m a w')
  (b:qOpIn F n P ops C i K a):wpOpIn F n P ops Q' i m a w:=by
 unfold qOpIn at b;unfold wpOpIn;split
 ·rename_i k;simp only[k] at b;exact h _ _ hC b
 ·rename_i o k
  simp only[k] at b;obtain⟨q,b⟩:=b;split
  ·rename_i hw
   simp only[hw,if_true] at b;obtain⟨v,h1,l⟩:=b;have g:=h1 w hC;unfold Oper.quietAtIn at g;unfold Oper.wpIn;refine⟨q w hC,?_⟩;rw[Oper.semAt_eq _ _ _ (s o k)];generalize (execOp a.eval o).run P w=r at*;cases r with
   |ok x w'=>
    cases x<;>simp only[Oper.quietUponIn] at g<;>simp only[Oper.uponIn]
    case value u=>
     obtain⟨j,e2⟩:=g;rw[j,e2];exact h _ _ hC l
    case skip=>
     obtain⟨j,e2⟩:=g;rw[j,<-e2];exact h _ _ hC l
    case enter f args=>
     obtain⟨j,hd,y⟩:=g;rw[j];exact⟨hd,y.mono fun e B ⟨he,z⟩=>by subst he;exact h _ _ z l⟩
   |halt x w'=>simp only[Oper.quietUponIn] at g
  ·rename_i hw;simp only[hw] at b;exact⟨q w hC,h _ _ hC b⟩
def Ei (md:Region.Mode) (l:List Oper):Bool:=(List.range l.length).all fun i=>((l[i]?).map fun o=>o.after.all fun e=> !Region.binds md e||decide (e.on<i)).getD true
def Ej (md:Region.Mode) (m:Nat) (o:Oper):Bool:=(List.range m).all fun j=>o.after.any fun e=>Region.binds md e&&e.on==j
theorem vY {ops:Array Oper} (k:∀i p,ops[i]? =some p->∀e∈p.after,Region.binds md e=true->e.on<i) (a:Array Bool) (u:a.size=ops.size):∀j,j<ops.size->a.getD j true=false->Region.ready md ops a≠[]:=by
 intro j;induction j using Nat.strongRecOn with
 |ind j l=>
  intro m n he;obtain⟨o,g⟩:∃o,ops[j]? =some o:=⟨_,Array.getElem?_eq_getElem m⟩;by_cases b:∀e∈o.after,Region.binds md e=true->a.getD e.on false=true
  ·have:=mem_ready.2 ⟨n,o,g,b⟩
   rw[he] at this;cases this
  ·simp only[Classical.not_forall] at b
   obtain⟨e,h1,q,h⟩:=b;have r:=k j o g e h1 q;refine l e.on r (by omega) ?_ he;have s:e.on<a.size:=by omega
   simp[Array.getD_eq_getD_getElem?,Array.getElem?_eq_getElem s] at h⊢;exact h
theorem Ek {l1:List Oper} {o:Oper} {Qa:Act->Prop} {Q':Exit->Act->World->Prop} (E:o.dst=none) (G:∀i p,(l1++[o]).toArray[i]? =some p->i≠l1.length->∀c,p.op≠ .defer c) (B:∀i p,(l1++[o]).toArray[i]? =some p->∀e∈p.after,Region.binds md e=true->e.on<i)
  (H:∀j,j<l1.length->∃e∈o.after,Region.binds md e=true/\e.on=j) (I:∀a w,C w->Qa a->wpListIn F n P (l1++[o]).toArray Q' [o] a w):
  ∀(fuel:Nat) (b:Array Bool) (a:Act) (w:World),b.size=l1.length+1->b.getD l1.length true=false->C w->wpAnyQIn F n P md (l1++[fe o]).toArray C Qa fuel b a->wpAnyIn F n P md (l1++[o]).toArray Q' fuel b a w:=by
 have u:∀i,i≠l1.length->(l1++[fe o]).toArray[i]? =(l1++[o]).toArray[i]? :=fun i hi=>by
  rw[List.getElem?_toArray,List.getElem?_toArray];by_cases h:i<l1.length
  ·rw[List.getElem?_append_left h,List.getElem?_append_left h]
  ·rw[List.getElem?_eq_none (by simp;omega),List.getElem?_eq_none (by simp;omega)]
 have hm:(l1++[o]).toArray[l1.length]? =some o:=by simp
 have x:(l1++[fe o]).toArray[l1.length]? =some (fe o):=by simp
 have y:∀b,Region.ready md (l1++[fe o]).toArray b=Region.ready md (l1++[o]).toArray b:=fun b=>by
  unfold Region.ready;have aY:(l1++[fe o]).toArray.size=(l1++[o]).toArray.size:=by simp
  rw[aY];refine List.filter_congr fun i hi=>?_
  by_cases h:i=l1.length
  ·rw[h,hm,x];rfl
  ·rw[u i h]
 have J:∀tmps,yielded (l1++[fe o]).toArray tmps=yielded (l1++[o]).toArray tmps:=fun tmps=>by
  funext j
  unfold yielded;by_cases h:j=l1.length
  ·rw[h,hm,x];rfl
  ·rw[u j h]
 have aY:(l1++[o]).toArray.size=l1.length+1:=by simp
 have K:∀b:Array Bool,b.size=l1.length+1->l1.length∈Region.ready md (l1++[o]).toArray b->Region.ready md (l1++[o]).toArray (b.setIfInBounds l1.length true)=[]:=fun b k L=>by
  obtain⟨U,p,hp,M⟩:=mem_ready.1 L;rw[hm] at hp;obtain rfl:=aQ hp;refine List.eq_nil_iff_forall_not_mem.2 fun i hi=>?_
  obtain⟨l,p,hp, -⟩:=mem_ready.1 hi;have V:i<l1.length+1:=by have:=(Array.getElem?_eq_some_iff.1 hp).1;rw[aY] at this;exact this
  by_cases he:i=l1.length
  ·subst he
   rw[Array.getD_eq_getD_getElem?,Array.getElem?_setIfInBounds_self_of_lt (by omega)] at l;cases l
  ·rw[getD_set_ne true (Ne.symm he)] at l
   obtain⟨e,h1,m,r⟩:=H i (by omega);have:=M e h1 m;rw[r] at this;have N:i<b.size:=by omega
   simp[Array.getD_eq_getD_getElem?,Array.getElem?_eq_getElem N] at this l;rw[this] at l;cases l
 intro fuel;induction fuel with
 |zero=>
  intro b a w k s hw h;have h1:Region.ready md (l1++[o]).toArray b=[]:=by rw[<-y];exact h.1
  exact absurd h1 (vY B b (by rw[aY];exact k) l1.length (by rw[aY];omega) s)
 |succ fuel O=>
  intro b a w k s hw h;refine⟨fun h1=>absurd h1 (vY B b (by rw[aY];exact k) l1.length (by rw[aY];omega) s),fun i hi=>?_⟩;have g:=h.2 i (by rw[y];exact hi);by_cases he:i=l1.length
  ·subst he
   have z:=K b k hi;unfold qOpIn at g;simp only[x] at g;have D:wpAnyQIn F n P md (l1++[fe o]).toArray C Qa fuel (b.setIfInBounds l1.length true) a:=by
    have hd:(fe o).dst=none:=E;have m:=g.2;split at m
    ·obtain⟨v, -,r⟩:=m
     rw[hd] at r;exact r
    ·rw[hd] at m;exact m
   have Q:Qa a:=by
    cases fuel with
    |zero=>exact D.2
    |succ f=>exact D.1 (by rw[y];exact z)
   have:=I a w hw Q;have R:wpOpIn F n P (l1++[o]).toArray Q' l1.length (fun a w=>Q' .normal a w) a w:=by
    unfold wpOpIn;simp only[hm];exact this
   refine wpOpIn_mono (fun a w q=>?_) R;cases fuel with
   |zero=>exact⟨z,q⟩
   |succ f=>exact⟨fun _=>q,fun i hi=>by rw[z] at hi;cases hi⟩
  ·have S:qOpIn F n P (l1++[o]).toArray C i (wpAnyQIn F n P md (l1++[fe o]).toArray C Qa fuel (b.setIfInBounds i true)) a:=by
    unfold qOpIn at g⊢;rw[u i he] at g;simp only[J] at g;exact g
   refine vX (fun p hp=>G i p hp he) hw (fun a' w' T hk=>O _ a' w' (by simpa using k) ?_ T hk) S;rw[getD_set_ne true he];exact s
theorem pE {id:Nat} {Q:Exit->Act->World->Prop} {a:Act} {w:World} {l:List Oper} (l1:List Oper) (o:Oper) (u:l=l1++[o]) (hm:P.follows .mixedOrders=true) (q:o.dst=none) (v:rJ l1=true) (x:Ei .any (l1++[o])=true) (y:Ej .any l1.length o=true) (k:Region.lexB .any (l1++[fe o]).toArray=true)
  (h:wpQuietIn F n P l.toArray (fun w'=>∃n,w'=w.drewN n) (fun a'=>∀w',(∃n,w'=w.drewN n)->wpListIn F n P l.toArray Q [o] a' w') l1 a):(Code.region id l.toArray true).wpIn F n P Q a w:=by
 subst u;refine wpIn_region_any hm ?_;have aY:(l1++[o]).toArray.size=l1.length+1:=by simp
 rw[aY];simp only[Region.lexB,Bool.and_eq_true] at k;refine Ek (C:=fun w'=>∃n,w'=w.drewN n) (Qa:=fun a'=>∀w',(∃n,w'=w.drewN n)->wpListIn F n P (l1++[o]).toArray Q [o] a' w') q (fun i p hp hi=>vW v ?_) ?_ ?_ (fun a w hw m=>m w hw) _ _ a _ (by simp) (by simp[Array.getD_eq_getD_getElem?]) ⟨1,rfl⟩ ?_
 ·rw[List.getElem?_toArray] at hp
  have g:=(List.getElem?_eq_some_iff.1 hp).1;rw[List.length_append] at g;simp at g;rw[List.getElem?_append_left (by omega)] at hp;exact List.mem_of_getElem? hp
 ·intro i p hp e he hb
  rw[List.getElem?_toArray] at hp;have g:=(List.getElem?_eq_some_iff.1 hp).1;have:=List.all_eq_true.1 x i (List.mem_range.2 g);rw[hp] at this;simp only[Option.map_some,Option.getD_some] at this;have:=Array.all_eq_true_iff_forall_mem.1 this e he;simpa [hb] using this
 ·intro j r
  have:=List.all_eq_true.1 y j (List.mem_range.2 r);rw[<-Array.any_toList,List.any_eq_true] at this;obtain⟨e,he,b⟩:=this;simp only[Bool.and_eq_true,beq_iff_eq] at b;exact⟨e,Array.mem_def.2 he,b.1,b.2⟩
 ·have m:wpQuietIn F n P (l1++[fe o]).toArray (fun w'=>∃n,w'=w.drewN n) (fun a'=>∀w',(∃n,w'=w.drewN n)->wpListIn F n P (l1++[o]).toArray Q [o] a' w') (l1++[fe o]) a:=by
   have z:∀tmps,yielded (l1++[fe o]).toArray tmps=yielded (l1++[o]).toArray tmps:=fun tmps=>by
    funext j
    unfold yielded;rw[List.getElem?_toArray,List.getElem?_toArray];by_cases h:j<l1.length
    ·rw[List.getElem?_append_left h,List.getElem?_append_left h]
    ·rw[List.getElem?_append_right (by omega),List.getElem?_append_right (by omega)]
     cases r:j-l1.length<;>rfl
   have key:∀(l2:List Oper) (a:Act),wpQuietIn F n P (l1++[o]).toArray (fun w'=>∃n,w'=w.drewN n) (fun a'=>∀w',(∃n,w'=w.drewN n)->wpListIn F n P (l1++[o]).toArray Q [o] a' w') l2 a->wpQuietIn F n P (l1++[fe o]).toArray (fun w'=>∃n,w'=w.drewN n) (fun a'=>∀w',(∃n,w'=w.drewN n)->wpListIn F n P (l1++[o]).toArray Q [o] a' w') (l2++[fe o]) a:=by
    intro l2;induction l2 with
    |nil=>
     intro a h;refine⟨fun w _ f hf=>by simp[Oper.about,fe] at hf,?_⟩;have hd:(fe o).dst=none:=q;split
     ·refine BigFrame.quietIn_move (.const undef) rfl ?_
      rw[hd];exact h
     ·rw[hd];exact h
    |cons p l2 s=>
     intro a h;refine⟨h.1,?_⟩;have b:=h.2;rw[z];split at b
     ·rename_i hw
      rw[if_pos hw];exact Oper.quietIn_mono s b
     ·rename_i hw
      rw[if_neg hw];exact s _ b
   exact key l1 a h
  have:=wpAnyQIn_lex (F:=F) (n:=n) (C:=fun w'=>∃n,w'=w.drewN n) (md:=.any) k.1 (l1++[fe o]) 0 (Array.replicate (l1.length+1) false) a (by simp) (by simpa using k.2) m;simpa using this
theorem El {l:List Oper} {Qa:Act->Prop} {Q':Exit->Act->World->Prop} (g:∀(i:Nat) (p:Oper),l.toArray[i]? =some p->∀c,p.op≠ .defer c) (e:∀a w,C w->Qa a->Q' .normal a w):
  ∀(fuel:Nat) (b:Array Bool) (a:Act) (w:World),C w->wpAnyQIn F n P md l.toArray C Qa fuel b a->wpAnyIn F n P md l.toArray Q' fuel b a w:=by
 intro fuel;induction fuel with
 |zero=>intro b a w hw h;exact⟨h.1,e _ _ hw h.2⟩
 |succ fuel j=>
  intro b a w hw h;exact⟨fun h1=>e _ _ hw (h.1 h1),fun i hi=>vX (g i) hw (fun a' w' k hk=>j _ a' w' k hk) (h.2 i hi)⟩
theorem Em {id:Nat} {Q:Exit->Act->World->Prop} {a:Act} {w:World} {l:List Oper} (hm:P.follows .mixedOrders=true) (e:rJ l=true) (b:Region.lexB .any l.toArray=true)
  (h:wpQuietIn F n P l.toArray (fun w'=>∃n,w'=w.drewN n) (fun a'=>∀w',(∃n,w'=w.drewN n)->Q .normal a' w') l a):(Code.region id l.toArray true).wpIn F n P Q a w:=by
 refine wpIn_region_any hm ?_;simp only[Region.lexB,Bool.and_eq_true] at b;refine El (C:=fun w'=>∃n,w'=w.drewN n) (Qa:=fun a'=>∀w',(∃n,w'=w.drewN n)->Q .normal a' w') (fun i p hp=>vW e ?_) (fun a w hw g=>g w hw) _ _ a _ ⟨1,rfl⟩ ?_
 ·rw[List.getElem?_toArray] at hp
  exact List.mem_of_getElem? hp
 ·have:=wpAnyQIn_lex (F:=F) (n:=n) (C:=fun w'=>∃n,w'=w.drewN n) (md:=.any) b.1 l 0 (Array.replicate l.length false) a (by simp) (by simpa using b.2) h
  simpa using this
end
end
end Go.Proofs.YtffdiakgjakngaaGreat.P


namespace Go.Proofs.YtffdiakgjakngaaGreat.P
open Go.RowKit Go.Proofs.YtffdiakgjakngaaGreatW.PrintWords Go.Proofs.YtffdiakgjakngaaGreatW.PrintLast Go.Proofs.YtffdiakgjakngaaGreatW.PrintMore
set_option linter.unusedVariables false
set_option linter.unusedSimpArgs false
set_option maxHeartbeats 8000000
set_option maxRecDepth 100000
section
attribute [local go_sem] Oper.semAt_some jQ jR jS jT ng nh ni nj
def jf (t:Int) (v:Nat) (d:List Int) (x:Int×Int):List Int:=
 (d.set v (wrap64 (rd d v-wrap64 (x.2*t)))).set x.1.toNat (wrap64 (rd (d.set v (wrap64 (rd d v-wrap64 (x.2*t)))) x.1+wrap64 (x.2*t)))
def gI (t:Int) (v:Nat) (d:List Int) (L:List (Int×Int)):List Int:=L.foldl (jf t v) d
theorem En (t:Int) (v:Nat) (d:List Int) (L:List (Int×Int)) (x:Int×Int):gI t v d (L++[x])=jf t v (gI t v d L) x:=by simp[gI,List.foldl_append]
theorem vZ (t:Int) (v:Nat) (d:List Int) (x:Int×Int):(jf t v d x).length=d.length:=by simp[jf]
theorem rK (t:Int) (v:Nat):∀(L:List (Int×Int)) (d:List Int),(gI t v d L).length=d.length
 |[],_=>rfl
 |x::L,d=>(rK t v L _).trans (vZ t v d x)
def bA (E:List S83) (In:Nat->Bool) (t:Int):Nat->List Int×List Int->List Int×List Int
 |0,p=>p
 |k+1,p=>if In k=true then(gI t k (bA E In t k p).1 (cJ E k E.length),(bA E In t k p).2.set k (wrap64 (rd (bA E In t k p).2 k+t))) else bA E In t k p
theorem nK (E:List S83) (In:Nat->Bool) (t:Int) (p:List Int×List Int):∀k,(bA E In t k p).1.length=p.1.length/\(bA E In t k p).2.length=p.2.length
 |0=>⟨rfl,rfl⟩
 |k+1=>by
  have h:=nK E In t p k;unfold bA;split
  ·exact⟨(rK ..).trans h.1,by rw[List.length_set];exact h.2⟩
  ·exact h
structure FI (w0 w:World) (g gd gs gi cd cs ci n:Nat) (A0:Option Addr) (c0:Nat) (E:List S83) (q:Int) (In:Nat->Bool) (t:Int) (d s:List Int) (W:World):Prop where
 si:SI w0 g gd gs cd cs n A0 c0 E q d s W
 x1:W.heap[w.heap.size]? =some (.cells #[.pointer (some ⟨g,0,none⟩)] 135 (0,0))
 x2:W.heap[w.heap.size+1]? =some (.cells #[.int .i64 t] 3 (0,0))
 hi:Kd.bool.R 4 W w0.heap.size (fun _=>True) (.slice (some ⟨gi,0,none⟩) n ci) ((List.range n).map In)
 hf:∀k,k<w.heap.size->k≠gd->k≠gs->W.heap[k]? =w.heap[k]?
 aY:w.heap.size+2<=W.heap.size
 hw:w0.heap.size<=w.heap.size/\gd<w.heap.size/\gs<w.heap.size/\g<w.heap.size/\gd≠gi/\gs≠gi
namespace FI
variable {w0 w W W':World} {g gd gs gi cd cs ci n c0 l:Nat} {A0:Option Addr} {E:List S83} {q t:Int} {In:Nat->Bool} {d s:List Int}
theorem below (h:FI w0 w g gd gs gi cd cs ci n A0 c0 E q In t d s W) (hb:Below W.heap.size W W'):FI w0 w g gd gs gi cd cs ci n A0 c0 E q In t d s W':=⟨h.si.below hb,aD h.x1 hb,aD h.x2 hb,Kd.cY h.hi hb,fun k h1 a b=>(hb.block k (by have:=h.aY;omega)).trans (h.hf k h1 a b),Nat.le_trans h.aY hb.size,h.hw⟩
theorem alloc (h:FI w0 w g gd gs gi cd cs ci n A0 c0 E q In t d s W) (o:Obj):FI w0 w g gd gs gi cd cs ci n A0 c0 E q In t d s (W.alloc o):=h.below (ao (aq _ _) o)
theorem drewN (h:FI w0 w g gd gs gi cd cs ci n A0 c0 E q In t d s W) (m:Nat):FI w0 w g gd gs gi cd cs ci n A0 c0 E q In t d s (W.drewN m):=h.below (bN (aq _ _) m)
theorem drew (h:FI w0 w g gd gs gi cd cs ci n A0 c0 E q In t d s W):FI w0 w g gd gs gi cd cs ci n A0 c0 E q In t d s W.drew:=h.drewN 1
theorem bk (h:FI w0 w g gd gs gi cd cs ci n A0 c0 E q In t d s W) (hb:Bk l W W') (a:w.heap.size<=l):FI w0 w g gd gs gi cd cs ci n A0 c0 E q In t d s W':=⟨h.si.bk hb (Nat.le_trans h.hw.1 a),hb.cells h.x1,hb.cells h.x2,dD h.hi hb,fun k h1 b e=>(hb.heap k (by omega)).trans (h.hf k h1 b e),by rw[hb.size];exact h.aY,h.hw⟩
theorem pB (h:FI w0 w g gd gs gi cd cs ci n A0 c0 E q In t d s W) (v:Nat) (x:Int):FI w0 w g gd gs gi cd cs ci n A0 c0 E q In t (d.set v x) s (W.setCell ⟨gd,v,none⟩ (.int .i64 x)):=
 ⟨h.si.pB v x,aE h.x1 (by show w.heap.size≠gd;have:=h.hw;omega) _,aE h.x2 (by show w.heap.size+1≠gd;have:=h.hw;omega) _,by
  have a:=Kd.dh h.si.d (v:Int) x;rw[aG] at a;exact Kd.iS h.hi rfl a.2 (fun e=>by cases e;exact h.hw.2.2.2.2.1 rfl),fun k h1 b i=>(Below.heap_setCell _ _ _ _ b).trans (h.hf k h1 b i),by simpa using h.aY,h.hw⟩
theorem pC (h:FI w0 w g gd gs gi cd cs ci n A0 c0 E q In t d s W) (v:Nat) (x:Int):FI w0 w g gd gs gi cd cs ci n A0 c0 E q In t d (s.set v x) (W.setCell ⟨gs,v,none⟩ (.int .i64 x)):=
 ⟨h.si.pC v x,aE h.x1 (by show w.heap.size≠gs;have:=h.hw;omega) _,aE h.x2 (by show w.heap.size+1≠gs;have:=h.hw;omega) _,by
  have a:=Kd.dh h.si.s (v:Int) x;rw[aG] at a;exact Kd.iS h.hi rfl a.2 (fun e=>by cases e;exact h.hw.2.2.2.2.2 rfl),fun k h1 i b=>(Below.heap_setCell _ _ _ _ b).trans (h.hf k h1 i b),by simpa using h.aY,h.hw⟩
theorem c1 (h:FI w0 w g gd gs gi cd cs ci n A0 c0 E q In t d s W):W.cell? ⟨w.heap.size,0,none⟩=some (.pointer (some ⟨g,0,none⟩)):=(ah h.x1 0).trans rfl
theorem c2 (h:FI w0 w g gd gs gi cd cs ci n A0 c0 E q In t d s W):W.cell? ⟨w.heap.size+1,0,none⟩=some (.int .i64 t):=(ah h.x2 0).trans rfl
theorem Eo (h:FI w0 w g gd gs gi cd cs ci n A0 c0 E q In t d s W) (v:Nat) (b:v<n):W.cell? ⟨gi,v,none⟩=some (.bool (In v)):=by
 have a:=(Kd.bO false h.hi (v:Int) (by omega) (by omega)).1;rw[aG,show bM false ((List.range n).map In) (v:Int)=In v from by simp[bM,aX,List.getElem?_map,List.getElem?_range b]] at a;exact a
end FI
theorem v_ (g gd gs gi cd cs ci n:Nat) (A0:Option Addr) (c0:Nat) (E:List S83) (q:Int) (d s:List Int) (In:Nat->Bool) (t:Int) (w0 w:World) (d0:Kd.C aN w0 A0 E.length E) (hE:ez n E) (hn:n<=1000) (e2:0<n)
  (h:SI w0 g gd gs cd cs n A0 c0 E q d s w) (hi:Kd.bool.R 4 w w0.heap.size (fun _=>True) (.slice (some ⟨gi,0,none⟩) n ci) ((List.range n).map In)) (cb:gd≠gi/\gs≠gi) (d1:d.length=n) (d2:s.length=n)
  (cc:∀v,v<n-> -2097152<=rd (bA E In t n (d,s)).1 v/\rd (bA E In t n (d,s)).1 v<=2097152/\ -2097152<=rd (bA E In t n (d,s)).2 v/\rd (bA E In t n (d,s)).2 v<=2097152):
  Calls Tryz.prog 166 #[.pointer (some ⟨g,0,none⟩),.slice (some ⟨gi,0,none⟩) n ci,.int .i64 t] w fun e w'=>e= .returned (.tuple #[])/\SI w0 g gd gs cd cs n A0 c0 E q (bA E In t n (d,s)).1 (bA E In t n (d,s)).2 w'/\(∀k,k<w.heap.size->k≠gd->k≠gs->w'.heap[k]? =w.heap[k]?)/\w.heap.size<=w'.heap.size:=by
 have e3:=Tryz.underlying188;have hu:=Tryz.underlying24;have HE:=zA hE;have cf:=zA cc;clear hE cc;refine(callsIn_wide (n:=10)).1 ?_;refine callsIn_of_wp_marks Tryz.func166 rfl trivial ?_ rfl;simp only[Tryz.ntmps166,List.size_toArray,List.length_cons,List.length_nil,Nat.reduceAdd,Nat.reduceSub,Array.replicate_succ,Array.replicate_zero,List.push_toArray,List.append_toArray,List.nil_append,List.cons_append];obtain⟨q1,q2,q3,q4,q5⟩:=h.ld;have ch:=h.hb.size;have e5:g≠gd:=h.ne.2.1;have r:Aside0 (FI w0 w g gd gs gi cd cs ci n A0 c0 E q In t d s ((w.alloc (.cells #[.pointer (some ⟨g,0,none⟩)] 135)).alloc (.cells #[.int .i64 t] 3))):=⟨(h.alloc _).alloc _,au (a7 w (.cells #[.pointer (some ⟨g,0,none⟩)] 135)) (.cells #[.int .i64 t] 3),heap_alloc2_new w (.cells #[.pointer (some ⟨g,0,none⟩)] 135) (.cells #[.int .i64 t] 3),Kd.aM (Kd.aM hi (.cells #[.pointer (some ⟨g,0,none⟩)] 135)) (.cells #[.int .i64 t] 3),fun k hk _ _=>by rw[Below.heap_alloc _ _ _ (by simp;omega),Below.heap_alloc _ _ _ hk],by simp,ch,q1,q2,q3,cb.1,cb.2⟩;gi_wp2;clear h hi;generalize ((w.alloc (.cells #[.pointer (some ⟨g,0,none⟩)] 135)).alloc (.cells #[.int .i64 t] 3))=W2 at r⊢;have d6:=r.out.aY;refine uV w.heap.size (fun kq tm wr=>∃(u6 u7 u14 u15 u16 u17 u18 u19 u20 u21 u22 u23 u24 u25 u26 u27 u28 u29 u30 u31 u32 u59:Value) (v:Nat),v<=n/\Aside0 (FI w0 w g gd gs gi cd cs ci n A0 c0 E q In t (bA E In t v (d,s)).1 (bA E In t v (d,s)).2 wr)/\Aside0 (kq=n-v)/\tm=#[.pointer (some ⟨g,0,none⟩),.slice (some ⟨gi,0,none⟩) n ci,.int .i64 t,.pointer (some ⟨w.heap.size,0,none⟩),undef,.pointer (some ⟨w.heap.size+1,0,none⟩),u6,u7,undef,undef,undef,.slice (some ⟨gi,0,none⟩) n ci,.int .i64 n,.int .i64 v,u14,u15,u16,u17,u18,u19,u20,u21,u22,u23,u24,u25,u26,u27,u28,u29,u30,u31,u32,undef,undef,undef,undef,undef,undef,undef,undef,undef,undef,undef,undef,undef,undef,undef,undef,undef,undef,undef,undef,undef,undef,undef,undef,undef,undef,u59,undef,undef,undef,undef,undef,undef,undef,undef,undef,undef,undef,undef,undef,undef,undef,undef,undef,undef,undef,undef,undef,undef,undef,undef,undef,undef,undef,undef,undef,undef,undef,undef,undef,undef,undef,undef,undef,undef,undef,undef,undef,undef,undef,undef,undef,undef,undef,undef,undef,undef,undef]) n ⟨_,_,_,_,_,_,_,_,_,_,_,_,_,_,_,_,_,_,_,_,_,_,0,by omega,r,⟨rfl⟩,rfl⟩ (w.heap.size) (by omega) (cO.nil _ _ _) ?_;clear r d6;rintro gk tm wr ⟨u6,u7,u14,u15,u16,u17,u18,u19,u20,u21,u22,u23,u24,u25,u26,u27,u28,u29,u30,u31,u32,u59,v,hv,y,HK,rfl⟩ ds b hb ck J K hJ hK;have a3:=zA ck;have HJ:=zA hJ;have aY:=y.out.aY;clear ck hJ;obtain⟨l1,l2⟩:=nK E In t (d,s) v;have L1:=zA (show (bA E In t v (d,s)).1.length=n from l1.trans d1);have L2:=zA (show (bA E In t v (d,s)).2.length=n from l2.trans d2);clear l1 l2;by_cases M:v<n
 ·have e_:(0:Int)<=(v:Int):=by omega
  have e':(v:Int)<(n:Int):=by omega
  have Q:=zA (show bA E In t (v+1) (d,s)=if In v=true then(gI t v (bA E In t v (d,s)).1 (cJ E v E.length),(bA E In t v (d,s)).2.set v (wrap64 (rd (bA E In t v (d,s)).2 v+t))) else bA E In t v (d,s) from rfl);have a9:=y.out.Eo v M;cases hIn:In v with
  |false=>
   rw[hIn] at a9;rw[hIn,if_neg (by decide)] at Q;have z:=zA (y.out.alloc (.cells #[.int .i64 v] 3));gi_wp2;exact lJ.intro (n- (v+1)) (by rw[HK.out];omega) (HJ.out _ _ _ ⟨_,_,_,_,_,_,_,_,_,_,_,_,_,_,_,_,_,_,_,_,_,_,v+1,by omega,by rw[Q.out];exact z,⟨rfl⟩,rfl⟩) b (by simp;omega) (a3.out.below (ao (aq _ _) _))
  |true=>
   rw[hIn] at a9;rw[hIn,if_pos rfl] at Q;generalize bA E In t v (d,s)=i at y Q L1 L2;clear hIn;gi_wp2;have BV:=zA (a7 wr (.cells #[.int .i64 v] 3));have z:=zA (y.out.alloc (.cells #[.int .i64 v] 3));have be:=zA (a3.out.below (ao (aq _ _) (.cells #[.int .i64 v] 3)));have co:=zA (show (wr.alloc (.cells #[.int .i64 v] 3)).heap.size=wr.heap.size+1 from by simp);generalize wr.alloc (.cells #[.int .i64 v] 3)=W1 at BV z be co⊢;have y0:=z.out.c1;have y1:=z.out.c2;have y2:=(ah BV.out 0).trans rfl;have y4:=z.out.si.f4;have y5:=z.out.si.cells v M;have y6:=z.out.si.vV v M;gi_region
   gi_wp2_with (refine⟨trivial,?_⟩;gi_at_call 194;refine(callsIn_wide.2 (mE g v _)).mono ?_;rintro e w3 ⟨rfl,rfl⟩)
   have fb:W1.heap.size=wr.heap.size+1:=co.out;have aa:=zA ((((z.out.pC v (wrap64 (rd i.2 v+t))).alloc (.cells #[.pointer (some ⟨g,0,none⟩)] 135)).alloc (.cells #[.int .i64 v] 3)).drew);obtain⟨fd,fn,fo,fq,fr⟩:=z.out.si.ld;have d9:wr.heap.size≠gs:=by omega
   have bn:=zA (eZ (au (au (aE (p:=⟨gs,v,none⟩) BV.out d9 (.int .i64 (wrap64 (rd i.2 v+t)))) (.cells #[.pointer (some ⟨g,0,none⟩)] 135)) (.cells #[.int .i64 v] 3)));have aL:=zA (eZ (au (a7 (W1.setCell ⟨gs,v,none⟩ (.int .i64 (wrap64 (rd i.2 v+t)))) (.cells #[.pointer (some ⟨g,0,none⟩)] 135)) (.cells #[.int .i64 v] 3)));have aO:=zA (eZ (heap_alloc2_new (W1.setCell ⟨gs,v,none⟩ (.int .i64 (wrap64 (rd i.2 v+t)))) (.cells #[.pointer (some ⟨g,0,none⟩)] 135) (.cells #[.int .i64 v] 3)));have bv:Aside0 (cO w.heap.size b ds (((W1.setCell ⟨gs,v,none⟩ (.int .i64 (wrap64 (rd i.2 v+t)))).alloc (.cells #[.pointer (some ⟨g,0,none⟩)] 135)).alloc (.cells #[.int .i64 v] 3)).drew):=⟨by
    obtain⟨inner,ho⟩:=Kd.js z.out.si.s;obtain⟨cells,hc⟩:=jr ho gs rfl;exact(((be.out.set (p:=⟨gs,v,none⟩) hc _).below (ao (aq _ _) _)).below (ao (aq _ _) _)).below (bR (aq _ _))⟩
   have ea:((((W1.setCell ⟨gs,v,none⟩ (.int .i64 (wrap64 (rd i.2 v+t)))).alloc (.cells #[.pointer (some ⟨g,0,none⟩)] 135)).alloc (.cells #[.int .i64 v] 3)).drew).heap.size=W1.heap.size+2:=by simp
   simp only[World.size_setCell] at aL aO;clear z be BV y0 y1 y2 y4 y5 y6;generalize (((W1.setCell ⟨gs,v,none⟩ (.int .i64 (wrap64 (rd i.2 v+t)))).alloc (.cells #[.pointer (some ⟨g,0,none⟩)] 135)).alloc (.cells #[.int .i64 v] 3)).drew=H at aa bn aL aO bv ea⊢;generalize i.2.set v (wrap64 (rd i.2 v+t))=s2 at aa Q;have bw:=aa.out.si;refine iU (σ:=Unit) (α:=Int×Int) (F:=Fence.wide) (n:=10) rfl (by decide) (gf:=207) (lb:=#[.pointer (some ⟨W1.heap.size,0,none⟩),.pointer (some ⟨W1.heap.size+1,0,none⟩)]) rfl trivial (enters_of Tryz.func207 (by kernel_rfl) rfl)
    (fun o=>pa (W1.heap.size) (W1.heap.size+1) g n A0 c0 E q (.slice (some ⟨gd,0,none⟩) n cd) (.slice (some ⟨gs,0,none⟩) n cs) 0 v w0 _ d0 HE.out hn M (ao (ao bw.hb _) _) (au (au aL.out _) _) (au (au aO.out _) _) (au (au bw.st _) _)) (fun _=>rfl)
    (fun _=>True) ?eL ?st ?ar
    (fun _ pre W=>H.heap.size<=W.heap.size/\FI w0 w g gd gs gi cd cs ci n A0 c0 E q In t (gI t v i.1 pre) s2 W/\W.heap[wr.heap.size]? =some (.cells #[.int .i64 v] 3 (0,0))/\cO w.heap.size b ds W) (fun _ _ _ _=>False)
    ?is (fun _ _ _ _ _ _ h _=>h) ?ib (fun _ _ _ _ _ h _=>h) ?kt ?h0 ?a1 ?assign ?body ?done (fun _ _ _ _ _ _ _ h=>h.elim)
   case assign=>
    intro l x W K hK;gi_wp2;exact hK
   case eL=>
    intro o s W1 h;exact⟨trivial,by rw[h];exact cB.refl _ _⟩
   case st=>intro s A B _ h;exact di h
   case ar=>intro s x A B _ h;exact di h.2
   case is=>
    rintro s pre A B _ ⟨hs,h1,h2,h3⟩ aP;exact⟨Nat.le_trans hs aP.size,h1.below aP,aD h2 aP,h3.below aP⟩
   case ib=>
    rintro s pre A B ⟨hs,h1,h2,h3⟩ hb;exact⟨by rw[hb.size];exact hs,h1.bk hb (by omega),hb.cells h2,h3.bk hb (by omega)⟩
   case kt=>
    intro s A B C D aR cp cq;refine⟨fun aY=>((aR.below w0.heap.size (by omega)).trans (cp.1 (by rw[aR.size];exact aY))).trans (cq.below w0.heap.size (by omega)),fun k hk eb=>?_⟩;have cr:k≠H.heap.size+1:=by rcases hk with rfl|rfl|rfl<;>omega
    exact(cq.heap k cr).trans ((cp.2 k hk (by rw[aR.size];exact eb)).trans (aR.heap k cr))
   case h0=>
    rintro o s W1 rfl;exact⟨by simp;omega,(aa.out.alloc _).alloc _,au (au bn.out _) _,(bv.out.below (ao (aq _ _) _)).below (ao (aq _ _) _)⟩
   case body=>
    rintro l s' pre ⟨u,m⟩ Wb Wc W _ ⟨hs,i1,i2,i3⟩ ⟨cv,an⟩ ed N;have L:=zA ((i1.below an).bk N (by omega));have I2:=zA (N.cells (aD i2 an));have I3:=zA ((i3.below an).bk N (by omega));have c3:H.heap.size<=W.heap.size:=by have:=N.size;have:=an.size;omega
    clear i1 i2 i3 an N ed;simp only at cv;obtain⟨u0,u1,m0,m1⟩:=cv;obtain⟨u,rfl⟩:=Int.eq_ofNat_of_zero_le u0;have aS:u<n:=by omega
    have c4:=zA (En t v i.1 pre (u,m));have eg:=zA ((rK t v pre i.1).trans L1.out);generalize gI t v i.1 pre=I at L c4 eg;have z0:=L.out.c1;have z1:=L.out.c2;have z2:W.cell? ⟨wr.heap.size,0,none⟩=some (.int .i64 v):=(ah I2.out 0).trans rfl;have z3:=L.out.si.f3;have z4:=L.out.si.kT v M;have z5:=L.out.si.pD v M;clear aa bn aL aO bv bw a9;gi_wp2;refine pE [_,_,_,_,_,_,_,_,_,_,_,_] _ rfl (by kernel_rfl) rfl (by kernel_rfl) (by kernel_rfl) (by kernel_rfl) (by kernel_rfl) ?_;repeat(gi_big_quiet_step (fail))
    refine wpQuietIn_nil ?_;rintro _ ⟨nq,rfl⟩;have G:=zA (L.out.drewN nq);have S:=zA (iB I2.out nq);have T:=zA (I3.out.below (bN (aq _ _) nq));have U:H.heap.size<=(W.drewN nq).heap.size:=by simpa using c3
    have V:=zA (di (nw:=H.heap.size) (bN (aq W.heap.size W) nq));have X:=zA (bN (aq w0.heap.size W) nq);have Y:Aside0 (∀k,k≠gd->(W.drewN nq).heap[k]? =W.heap[k]?):=⟨fun k _=>by simp⟩;clear z0 z1 z2 z3 z4 z5;have z4:=G.out.si.kT v M;have z5:=G.out.si.pD v M;generalize W.drewN nq=Wq at G S T U V X Y z4 z5⊢;gi_wp2;have c5:gd<H.heap.size:=by omega
    have c6:wr.heap.size≠gd:=by omega
    have O:=zA (G.out.pB v (wrap64 (rd I v-wrap64 (m*t))));have b0:=zA (aE (p:=⟨gd,v,none⟩) S.out c6 (.int .i64 (wrap64 (rd I v-wrap64 (m*t)))));have b1:Aside0 (cO w.heap.size b ds (Wq.setCell ⟨gd,v,none⟩ (.int .i64 (wrap64 (rd I v-wrap64 (m*t)))))):=⟨by
     obtain⟨inner,ho⟩:=Kd.js G.out.si.d;obtain⟨cells,hc⟩:=jr ho gd rfl;exact T.out.set (p:=⟨gd,v,none⟩) hc _⟩
    have b2:H.heap.size<=(Wq.setCell ⟨gd,v,none⟩ (.int .i64 (wrap64 (rd I v-wrap64 (m*t))))).heap.size:=by simpa using U
    have b3:=zA (V.out.trans (fI (bo:=gd) (j:=v) Wq (.int .i64 (wrap64 (rd I v-wrap64 (m*t)))) c5));have b4:=zA (Below.setCell (p:=⟨gd,v,none⟩) X.out q4 (.int .i64 (wrap64 (rd I v-wrap64 (m*t)))));have b5:Aside0 (∀k,k≠gd->(Wq.setCell ⟨gd,v,none⟩ (.int .i64 (wrap64 (rd I v-wrap64 (m*t))))).heap[k]? =W.heap[k]?):=⟨fun k hk=>(Below.heap_setCell _ _ _ _ hk).trans (Y.out k hk)⟩;clear z4 z5 G S T U V X Y;generalize Wq.setCell ⟨gd,v,none⟩ (.int .i64 (wrap64 (rd I v-wrap64 (m*t))))=Wa at O b0 b1 b2 b3 b4 b5⊢;have z0:=O.out.c1;have z1:=O.out.c2;have z3:=O.out.si.f3;have z4:=O.out.si.kT u aS;have z5:=O.out.si.pD u aS;have ek:(u:Int)<(n:Int):=by omega
    refine pE [_,_,_,_,_,_,_,_,_,_,_,_] _ rfl (by kernel_rfl) rfl (by kernel_rfl) (by kernel_rfl) (by kernel_rfl) (by kernel_rfl) ?_;repeat(gi_big_quiet_step (fail))
    refine wpQuietIn_nil ?_;rintro _ ⟨P,rfl⟩;have G:=zA (O.out.drewN P);have S:=zA (iB b0.out P);have T:=zA (b1.out.below (bN (aq _ _) P));have U:H.heap.size<=(Wa.drewN P).heap.size:=by simpa using b2
    have V:=zA (b3.out.trans (di (nw:=H.heap.size) (bN (aq Wa.heap.size Wa) P)));have X:=zA (bN b4.out P);have Y:Aside0 (∀k,k≠gd->(Wa.drewN P).heap[k]? =W.heap[k]?):=⟨fun k hk=>by simpa using b5.out k hk⟩;clear z0 z1 z3 z4 z5 O b0 b1 b2 b3 b4 b5;have z4:=G.out.si.kT u aS;have z5:=G.out.si.pD u aS;generalize Wa.drewN P=Wb at G S T U V X Y z4 z5⊢;gi_wp2;have el:cO w.heap.size b ds (Wb.setCell ⟨gd,u,none⟩ (.int .i64 (wrap64 (rd (I.set v (wrap64 (rd I v-wrap64 (m*t)))) u+wrap64 (m*t))))):=by
     obtain⟨inner,ho⟩:=Kd.js G.out.si.d;obtain⟨cells,hc⟩:=jr ho gd rfl;exact T.out.set (p:=⟨gd,u,none⟩) hc _
    refine⟨V.out.trans (fI _ _ c5),⟨fun _=>Below.setCell (p:=⟨gd,u,none⟩) X.out q4 _,fun k hk _=>(Below.heap_setCell _ _ _ _ ?_).trans (Y.out k ?_)⟩,by simpa using U,?_,aE S.out c6 _,el⟩
    ·show k≠gd
     rcases hk with rfl|rfl|rfl<;>omega
    ·rcases hk with rfl|rfl|rfl<;>omega
    ·rw[c4.out];exact G.out.pB u _
   case done=>
    rintro s' xs W W' _ rfl ⟨hs,i1,i2,i3⟩ N b6;have L:=zA (i1.bk N (by omega));have I3:=zA (i3.bk N (by omega));have em:=zA b6;have c3:H.heap.size<W'.heap.size:=(Array.getElem?_eq_some_iff.1 b6).1;clear i1 i2 i3 b6;gi_wp2;exact lJ.intro (n- (v+1)) (by rw[HK.out];omega) (HJ.out _ _ _ ⟨_,_,_,_,_,_,_,_,_,_,_,_,_,_,_,_,_,_,_,_,_,_,v+1,by omega,by rw[Q.out];exact L,⟨rfl⟩,rfl⟩) (H.heap.size+1) (by omega) (I3.out.push (by omega) (by omega) em.out)
 ·obtain rfl:v=n:=by omega
  have x0:=y.out.c1;have s3:=y.out.si.f3;have s4:=y.out.si.f4;have s5:=y.out.si.f5;clear HJ hK;gi_wp2;gi_loopg [65] (v) (fun kq uv wq=>∃u:Nat,u<=v/\uv= .int .i64 u/\Aside0 (∃m,wq=wr.drewN m)/\Aside0 (kq=v-u))
  case atStart=>exact⟨0,by omega,rfl,⟨0,rfl⟩,⟨rfl⟩⟩
  case round=>
   obtain⟨u,hu,rfl,⟨⟨m,hm⟩⟩,es⟩:=hrel;subst hm;by_cases b_:u<v
   ·have f0:(0:Int)<=(u:Int):=by omega
    have ek:(u:Int)<(v:Int):=by omega
    have r:=zA (y.out.drewN m);have y6:=r.out.si.kT u b_;have y7:=r.out.si.cells u b_;obtain⟨o1,o2,o3,o4⟩:=cf.out u b_;have y0:=r.out.c1;have y3:=r.out.si.f3;have y4:=r.out.si.f4;have y5:=r.out.si.f5;have HM:Aside0 (∃m',wr.drewN m=wr.drewN m'):=⟨m,rfl⟩;clear x0 s3 s4 s5 r;generalize rd (bA E In t v (d,s)).1 u=a at y6 o1 o2;generalize rd (bA E In t v (d,s)).2 u=Z at y7 o3 o4;generalize wr.drewN m=wq at y0 y3 y4 y5 y6 y7 HM⊢;have f1:decide (2097152<(if(if(if a< -a then -a else a)<Z then Z else if a< -a then -a else a)< -Z then -Z else if(if a< -a then -a else a)<Z then Z else if a< -a then -a else a))=false:=by
     rw[decide_eq_false_iff_not];repeat' split
     all_goals omega
    gi_wp2;gi_quiet (fail)
    gi_wp2
    all_goals
     gi_roundg (v- (u+1))
     case measure=>rw[es.out];omega
     case rel=>exact⟨u+1,by omega,by go_num,⟨by obtain⟨m',e1⟩:=HM.out;rw[e1];simp only[World.drewN_drewN];exact⟨_,rfl⟩⟩,⟨rfl⟩⟩
   ·obtain rfl:u=v:=by omega
    clear L1 L2 HE cf x0 s3 s4 s5;gi_wp2;refine(uU (a3.out.below (bN (aq _ _) m)) fun w' b'=>?_).1;exact⟨_,results_none rfl _ _ _,rfl,(y.out.si.drewN m).fin b' ch,fun k h1 h2 h3=>(b'.lI.block k h1).trans (y.out.hf k h1 h2 h3),by have:=b'.size;simp at this;omega⟩
end
theorem br.lR {N:Int} {E:List S83} (h:br N E) {x:S83} (a:x∈E):0<=x.f0/\x.f0<=x.f1/\x.f1<N/\1<=x.f2/\x.f2<=50:=by
 have h1:=h.ok x a;have b:=h.le x a;simp[cu] at h1;omega
theorem br.j9 {n:Nat} {E:List S83} (h:br n E):ez n E:=fun x a=>by
 have:=h.lR a;omega
theorem br.take {N:Int} {E:List S83} (h:br N E) (k:Nat):br N (E.take k):=⟨fun x a=>h.ok x (List.mem_of_mem_take a),fun x a=>h.le x (List.mem_of_mem_take a),h.order.sublist (List.take_sublist _ _)⟩
theorem wa {E:List S83} (v:Nat):∀(E:List S83) (f:Nat->Nat->Int),(∀x∈E,0<=x.f0/\0<=x.f1)->f v v=0->E.foldl dn f v v=0
 |[],f,_,hf=>hf
 |x::E,f,h,hf=>by
  rw[List.foldl_cons];refine wa (E:=E) v E _ (fun y a=>h y (List.mem_cons_of_mem _ a)) ?_;have b:=h x (List.mem_cons_self ..);unfold dn;split
  ·exact hf
  ·dsimp only
   rw[if_neg (by omega),if_neg (by omega)];exact hf
theorem br.wt {n:Nat} {E:List S83} (h:br n E):T.Wt n (ae E):=by
 have a:∀v,ae E v v=0:=fun v=>wa (E:=E) v E _ (fun x b=>by have:=h.lR b;omega) rfl
 refine⟨fun u v=>?_,fun u v=>?_,a⟩
 ·by_cases e:u=v
  ·subst e;rw[a];omega
  ·rw[iJ h u v e];exact(nD h _ _).1
 ·by_cases e:u=v
  ·subst e;rfl
  ·rw[iJ h u v e,iJ h v u (fun k=>e k.symm),pk]
theorem br.Ep {N:Int} {E:List S83} (h:br N E) {x:S83} (a:x∈E):0<df E x.f0 x.f1:=by
 unfold df;have he:=h.lR a;have e:(E.find? (gU x.f0 x.f1)).isSome=true:=List.find?_isSome.2 ⟨x,a,by simp[gU];omega⟩;obtain⟨y,b⟩:=Option.isSome_iff_exists.1 e;rw[b];have:=h.lR (List.mem_of_find?_eq_some b);show 0<y.f2
 omega
theorem br.conn {n:Nat} {E:List S83} (h:br n E) (j:fc n E):T.dB n (ae E):=by
 intro S h1 k;obtain⟨x,i,b⟩:=j S h1 k;have he:=h.lR i;have hb:=h.Ep i;have l:df E x.f0 x.f1=ae E x.f0.toNat x.f1.toNat:=by
  rw[iJ h _ _ (fun e=>b (by rw[e]))];congr 1<;>omega
 rw[l] at hb;cases g:S x.f0.toNat with
 |true=>
  have a:S x.f1.toNat=false:=by cases a:S x.f1.toNat with|false=>rfl|true=>rw[g,a] at b;exact absurd rfl b
  exact⟨_,_,by omega,by omega,g,a,hb⟩
 |false=>
  have a:S x.f1.toNat=true:=by cases a:S x.f1.toNat with|true=>rfl|false=>rw[g,a] at b;exact absurd rfl b
  exact⟨_,_,by omega,by omega,a,g,by rw[h.wt.sym];exact hb⟩
def dS (φ:Nat->Int):List (Int×Int)->Int
 |[]=>0
 |x::L=>x.2*φ x.1.toNat+dS φ L
theorem we (φ:Nat->Int):∀A B,dS φ (A++B)=dS φ A+dS φ B
 |[],B=>by simp[dS]
 |x::A,B=>by
  simp only[List.cons_append,dS,we φ A B];omega
theorem rL {E:List S83} {k:Nat} (hk:k<E.length):af E k=E[k]:=by simp[af,aX,bB hk]
theorem Er {N:Int} {E:List S83} (h:br N E) {k:Nat} (hk:k<E.length):∀y∈E.take k,jB y (af E k):=by
 intro y a;have h1:=h.order;rw[<-List.take_append_drop k E,List.pairwise_append] at h1;refine h1.2.2 y a _ ?_;rw[rL hk,List.drop_eq_getElem_cons hk];exact List.mem_cons_self ..
theorem wg {n:Nat} {E:List S83} (h:br n E) (φ:Nat->Int) {v:Nat} (p:v<n):∀k,k<=E.length->dS φ (cJ E v k)=T.sN (fun u=>ae (E.take k) v u*φ u) n
 |0,_=>by
  rw[T.iu (fun u _=>by simp[ae])];rfl
 |k+1,hk=>by
  have g:k<E.length:=by omega
  have q:=wg h φ p k (by omega);have l:=h.lR (show af E k∈E by rw[rL g];exact List.getElem_mem g);have o:=Er h g;have C:=(h.take k).wt.self v;rw[uq E k g];simp only[cJ,we,q];generalize af E k=x at l o;obtain⟨a,b,m⟩:=x;simp only at l;by_cases i:a≠b/\(a=v\/b=v)
  ·rw[if_pos i]
   obtain⟨u0,r⟩:∃u0:Nat,(u0:Int)=a+b-v:=⟨(a+b-v).toNat,by omega⟩;have s:u0<n:=by omega
   have w:v≠u0:=by omega
   have z:ae (E.take k) v u0=0:=by
    rw[iJ (h.take k) v u0 w];unfold df;rw[vJ (fun y B D=>by have:=o y B;unfold jB at this;simp only at this;omega)]
   have j:∀u:Nat,u<n->dn (ae (E.take k)) ⟨a,b,m⟩ v u*φ u=ae (E.take k) v u*φ u+(if u=u0 then m*φ u else 0):=fun u hu=>by
    unfold dn;simp only[if_neg i.1];by_cases e:u=u0
    ·subst e
     rw[z,if_pos rfl];by_cases e2:v=b.toNat/\u=a.toNat
     ·rw[if_pos e2];omega
     ·rw[if_neg e2,if_pos (by omega)];omega
    ·rw[if_neg e,if_neg (by omega),if_neg (by omega)];omega
   rw[T.bL j,T.dE,T.j6 s (fun u _ hu=>if_neg hu),if_pos rfl];simp only[dS,<-r,aG];omega
  ·rw[if_neg i]
   have j:∀u:Nat,u<n->dn (ae (E.take k)) ⟨a,b,m⟩ v u*φ u=ae (E.take k) v u*φ u:=fun u hu=>by
    unfold dn;by_cases e:a=b
    ·simp only[if_pos e]
    ·simp only[if_neg e]
     rw[if_neg (by omega),if_neg (by omega)]
   rw[T.bL j];simp[dS]
theorem pF {n:Nat} {E:List S83} (h:br n E) (φ:Nat->Int) {v:Nat} (a:v<n):dS φ (cJ E v E.length)=T.sN (fun u=>ae E v u*φ u) n:=by
 rw[wg h φ a E.length (aI _),List.take_length]
theorem pG {n:Nat} {E:List S83} (h:br n E) {v:Nat}:∀k,k<=E.length->∀x∈cJ E v k,0<=x.1/\x.1<n/\x.1≠v/\1<=x.2/\x.2<=50
 |0,_=>fun x a=>by cases a
 |k+1,hk=>fun x a=>by
  have b:k<E.length:=by omega
  have he:=h.lR (show af E k∈E by rw[rL b];exact List.getElem_mem b);rcases List.mem_append.1 a with a|a
  ·exact pG h k (by omega) x a
  ·split at a
   ·rename_i e
    obtain rfl:=List.mem_singleton.1 a;simp only;omega
   ·cases a
theorem wh (E:List S83) (v:Int):∀k,(cJ E v k).length<=k
 |0=>aI _
 |k+1=>by
  have:=wh E v k;simp only[cJ,List.length_append];split<;>simp<;>omega
theorem rM (B:Nat->Bool):∀(L:List (Int×Int)) (s:Int),(∀x∈L,1<=x.2/\x.2<=50)->0<=s->s+50*L.length<=1000000000->L.foldl (fun s x=>if B x.1.toNat=true then wrap64 (s+x.2) else s) s=s+dS (T.ind B) L
 |[],s,_,_,_=>by simp[dS]
 |x::L,s,h,g,b=>by
  have i:=h x (List.mem_cons_self ..);simp only[List.length_cons] at b;rw[List.foldl_cons];simp only[dS,T.ind];by_cases e:B x.1.toNat=true
  ·rw[if_pos e,if_pos e,iq (by omega),rM B L _ (fun y a=>h y (List.mem_cons_of_mem _ a)) (by omega) (by omega)]
   unfold T.ind;omega
  ·rw[if_neg e,if_neg e,rM B L _ (fun y a=>h y (List.mem_cons_of_mem _ a)) (by omega) (by omega)]
   unfold T.ind;omega
theorem Es (t:Nat->Int) (B:Nat->Bool) (n:Nat):T.sN (fun u=>t u*T.ind B u) n=T.sN (fun u=>if B u=true then t u else 0) n:=T.bL fun u _=>by
 unfold T.ind;split<;>simp
theorem rN {n:Nat} {E:List S83} (h:br n E) (e:E.length<=1000) (B:Nat->Bool) {v:Nat} (a:v<n):eo B (cJ E v E.length)=T.sN (fun u=>if B u=true then ae E v u else 0) n:=by
 have h1:=wh E v E.length;unfold eo;rw[rM B _ 0 (fun x b=>(pG h _ (aI _) x b).2.2.2) (by omega) (by omega),pF h _ a,Es,Int.zero_add]
theorem kU (t:Nat->Nat->Int) (B:Nat->Bool) (v:Nat):∀n,cM t B v n=T.sN (fun u=>if B u=true then t v u else 0) n
 |0=>rfl
 |n+1=>by
  show cM t B v n+_=T.sN _ n+_
  rw[kU t B v n]
theorem Et {n:Nat} {E:List S83} (h:br n E) (a:E.length<=1000) (B:Nat->Bool) {v:Nat} (b:v<n):eo B (cJ E v E.length)=cM (ae E) B v n:=by rw[rN h a B b,kU]
def Md (a b:Int):Prop:=(a-b)%18446744073709551616=0
def dy (a:Int):Prop:= -9223372036854775808<=a/\a<=9223372036854775807
theorem Md.refl (a:Int):Md a a:=by unfold Md;omega
theorem Md.wrap {a b:Int} (h:Md a b):Md (wrap64 a) b:=by unfold Md wrap64 at*;omega
theorem Md.add {a b c d:Int} (h:Md a b) (e:Md c d):Md (a+c) (b+d):=by unfold Md at*;omega
theorem Md.sub {a b c d:Int} (h:Md a b) (e:Md c d):Md (a-c) (b-d):=by unfold Md at*;omega
theorem Md.eq {a b:Int} (h:Md a b) (e:dy a) (hb:dy b):a=b:=by unfold Md dy at*;omega
theorem rO (a:Int):dy (wrap64 a):=by unfold dy wrap64;omega
theorem wj {d:List Int} (h:∀w:Nat,w<d.length->dy (rd d w)) (v:Nat) (a:Int) (b:dy a):∀w:Nat,w<d.length->dy (rd (d.set v a) w):=fun w hw=>by
 by_cases e:v=w
 ·subst e;rw[je _ _ _ hw];exact b
 ·rw[gH _ _ _ _ e];exact h w hw
theorem wm (t:Int) {v n:Nat} (j:v<n):∀(L:List (Int×Int)) (d:List Int),d.length=n->(∀x∈L,0<=x.1/\x.1<n/\x.1≠v)->(∀w:Nat,w<n->dy (rd d w))->∀w:Nat,w<n->
  dy (rd (gI t v d L) w)/\Md (rd (gI t v d L) w) (rd d w-t*(if w=v then dS (fun _=>1) L else 0)+t*dS (fun u=>if u=w then 1 else 0) L)
 |[],d,hd,_,b=>fun w hw=>by
  refine⟨b w hw,?_⟩;simp[gI,dS];exact Md.refl _
 |x::L,d,hd,g,b=>fun w hw=>by
  have s:=g x (List.mem_cons_self ..);obtain⟨u,hu⟩:∃u:Nat,(u:Int)=x.1:=⟨x.1.toNat,by omega⟩;have k:u<n:=by omega
  have h:u≠v:=by omega
  have l:(jf t v d x).length=n:=by rw[vZ];exact hd
  have m:∀w:Nat,w<n->dy (rd (jf t v d x) w):=by
   unfold jf;rw[<-hd] at b⊢;have h1:=wj b v (wrap64 (rd d v-wrap64 (x.2*t))) (rO _);have o:=wj (d:=d.set v (wrap64 (rd d v-wrap64 (x.2*t)))) (by simpa using h1) x.1.toNat (wrap64 (rd (d.set v (wrap64 (rd d v-wrap64 (x.2*t)))) x.1+wrap64 (x.2*t))) (rO _);simpa using o
  obtain⟨i1,i2⟩:=wm t j L (jf t v d x) l (fun y p=>g y (List.mem_cons_of_mem _ p)) m w hw;refine⟨i1,?_⟩;show Md (rd (gI t v (jf t v d x) L) w) _
  have z:Md (rd (jf t v d x) w) (rd d w-t*(if w=v then x.2 else 0)+t*(if u=w then x.2 else 0)):=by
   unfold jf;rw[<-hu,aG];have q:rd (d.set v (wrap64 (rd d v-wrap64 (x.2*t)))) (u:Int)=rd d u:=gH _ _ _ _ (fun e=>h e.symm);have i:Md (wrap64 (x.2*t)) (t*x.2):=by rw[Int.mul_comm];exact(Md.refl _).wrap
   rw[q];by_cases a:u=w
   ·subst a
    rw[je _ _ _ (by simpa [hd] using k),if_neg h,if_pos rfl,Int.mul_zero,Int.sub_zero];exact((Md.refl _).add i).wrap
   ·rw[gH _ _ _ _ a,if_neg a,Int.mul_zero,Int.add_zero]
    by_cases ev:w=v
    ·subst ev
     rw[je _ _ _ (by simpa [hd] using hw),if_pos rfl];exact((Md.refl _).sub i).wrap
    ·rw[gH _ _ _ _ (fun e=>ev e.symm),if_neg ev,Int.mul_zero,Int.sub_zero]
     exact Md.refl _
  have r:rd d w-t*(if w=v then dS (fun _=>1) (x::L) else 0)+t*dS (fun u=>if u=w then 1 else 0) (x::L)=(rd d w-t*(if w=v then x.2 else 0)+t*(if u=w then x.2 else 0))-t*(if w=v then dS (fun _=>1) L else 0)+t*dS (fun u=>if u=w then 1 else 0) L:=by
   simp only[dS,<-hu,aG];by_cases ev:w=v
   ·simp only[if_pos ev]
    by_cases a:u=w
    ·simp only[if_pos a,Int.mul_one,Int.mul_add];omega
    ·simp only[if_neg a,Int.mul_one,Int.mul_zero,Int.mul_add];omega
   ·simp only[if_neg ev]
    by_cases a:u=w
    ·simp only[if_pos a,Int.mul_one,Int.mul_add,Int.mul_zero];omega
    ·simp only[if_neg a,Int.mul_zero,Int.mul_add];omega
  rw[r];unfold Md at*;omega
theorem Eu {n:Nat} {E:List S83} (h:br n E) (t:Int) {v:Nat} (b:v<n) (d:List Int) (hd:d.length=n) (g:∀w:Nat,w<n->dy (rd d w)):∀w:Nat,w<n->
  dy (rd (gI t v d (cJ E v E.length)) w)/\Md (rd (gI t v d (cJ E v E.length)) w) (rd d w-t*T.aV n (ae E) (T.one v) w):=by
 intro w hw;obtain⟨h1,a⟩:=wm t b (cJ E v E.length) d hd (fun x i=>by have:=pG h _ (aI _) x i;omega) g w hw;refine⟨h1,?_⟩;rw[pF h _ b,pF h _ b] at a;have j:T.sN (fun u=>ae E v u*1) n=T.val n (ae E) v:=T.bL fun u _=>Int.mul_one _
 have e2:T.sN (fun u=>ae E v u*(if u=w then 1 else 0)) n=ae E v w:=by
  rw[T.j6 hw (fun u _ hu=>by rw[if_neg hu,Int.mul_zero]),if_pos rfl,Int.mul_one]
 rw[j,e2] at a;by_cases e:w=v
 ·subst e
  rw[T.pr h.wt hw];rw[if_pos rfl,h.wt.self,Int.mul_zero,Int.add_zero] at a;exact a
 ·rw[T.pv b e,h.wt.sym w v,Int.mul_neg]
  rw[if_neg e,Int.mul_zero,Int.sub_zero] at a;rw[show rd d w- -(t*ae E v w)=rd d w+t*ae E v w by omega];exact a
theorem wu {n:Nat} {E:List S83} (h:br n E) (In:Nat->Bool) (t:Int) (d s:List Int) (hd:d.length=n) (g:s.length=n) (i:∀w:Nat,w<n->dy (rd d w)) (j:∀w:Nat,w<n->dy (rd s w)):∀k,k<=n->∀w:Nat,w<n->
  (dy (rd (bA E In t k (d,s)).1 w)/\Md (rd (bA E In t k (d,s)).1 w) (rd d w-t*T.aV n (ae E) (T.ind fun v=>In v&&decide (v<k)) w))/\(dy (rd (bA E In t k (d,s)).2 w)/\Md (rd (bA E In t k (d,s)).2 w) (rd s w+t*T.ind (fun v=>In v&&decide (v<k)) w))
 |0,_=>fun w hw=>by
  have e:T.ind (fun v=>In v&&decide (v<0))=fun _=>0:=by funext v;simp[T.ind]
  rw[e,T.jD,Int.mul_zero,Int.sub_zero,Int.add_zero];exact⟨⟨i w hw,Md.refl _⟩,j w hw,Md.refl _⟩
 |k+1,hk=>fun w hw=>by
  have l:k<n:=by omega
  have a:=wu h In t d s hd g i j k (by omega);obtain⟨m,o⟩:=nK E In t (d,s) k;simp only at m o;unfold bA;cases hIn:In k with
  |false=>
   rw[if_neg (by decide)];have e:∀u,(In u&&decide (u<k+1))=(In u&&decide (u<k)):=fun u=>by
    by_cases e:u=k
    ·subst e;rw[hIn];rfl
    ·rw[show decide (u<k+1)=decide (u<k) by congr 1;exact propext (by omega)]
   rw[show (fun v=>In v&&decide (v<k+1))=(fun v=>In v&&decide (v<k)) from funext e];exact a w hw
  |true=>
   rw[if_pos rfl];have e:∀u,T.ind (fun v=>In v&&decide (v<k+1)) u=T.ind (fun v=>In v&&decide (v<k)) u+T.one k u:=fun u=>by
    unfold T.ind T.one;show (if(In u&&decide (u<k+1))=true then(1:Int) else 0)=(if(In u&&decide (u<k))=true then 1 else 0)+if u=k then 1 else 0
    by_cases e:u=k
    ·subst e;simp[hIn]
    ·rw[show decide (u<k+1)=decide (u<k) by congr 1;exact propext (by omega),if_neg e];omega
   have e2:T.aV n (ae E) (T.ind fun v=>In v&&decide (v<k+1)) w=T.aV n (ae E) (T.ind fun v=>In v&&decide (v<k)) w+T.aV n (ae E) (T.one k) w:=by
    rw[<-T.j7];exact T.mG (fun u _=>e u) hw
   rw[e2,e w];obtain⟨p,j2⟩:=Eu h t l (bA E In t k (d,s)).1 (by rw[m];exact hd) (fun w hw=>(a w hw).1.1) w hw;refine⟨⟨p,?_⟩,?_⟩
   ·have r:=(a w hw).1.2
    rw[Int.mul_add];show Md (rd (gI t k (bA E In t k (d,s)).1 (cJ E k E.length)) w) _
    unfold Md at*;omega
   ·have q:k<(bA E In t k (d,s)).2.length:=by rw[o,g];exact l
    by_cases b:k=w
    ·subst b
     rw[je _ _ _ q];refine⟨rO _,?_⟩;have:=(a k hw).2.2;rw[Int.mul_add,show T.one k k=1 by simp[T.one],Int.mul_one];refine Md.wrap ?_;unfold Md at*;omega
    ·rw[gH _ _ _ _ b,show T.one k w=0 by unfold T.one;rw[if_neg (fun e=>b e.symm)],Int.add_zero]
     exact(a w hw).2
theorem wv {n:Nat} {E:List S83} (h:br n E) (In:Nat->Bool) (t:Int) (d s:List Int) (hd:d.length=n) (g:s.length=n) (i:∀w:Nat,w<n->dy (rd d w)) (j:∀w:Nat,w<n->dy (rd s w)) {w:Nat} (hw:w<n):
  (dy (rd d w-t*T.aV n (ae E) (T.ind In) w)->rd (bA E In t n (d,s)).1 w=rd d w-t*T.aV n (ae E) (T.ind In) w)/\(dy (rd s w+t*T.ind In w)->rd (bA E In t n (d,s)).2 w=rd s w+t*T.ind In w):=by
 have e:∀u,u<n->T.ind (fun v=>In v&&decide (v<n)) u=T.ind In u:=fun u hu=>by
  unfold T.ind;simp[hu]
 obtain⟨⟨h1,a⟩,k,b⟩:=wu h In t d s hd g i j n (aI _) w hw;rw[T.mG e hw] at a;rw[e w hw] at b;exact⟨fun hi=>a.eq h1 hi,fun hi=>b.eq k hi⟩
theorem rP {f:Nat->Int} {n v:Nat} (b:v<n) {a:Int} (e:a<=0) (h:∀u,u<n->a<=f u):f v<=T.sN f n-n*a:=by
 have h1:=T.fL (f:=fun u=>f u-a) b (fun u hu=>by have:=h u hu;show 0<=f u-a;omega);rw[T.dA f (fun _=>a) n,T.jd] at h1;have g:f v-a<=T.sN f n-n*a:=h1;omega
theorem nL {n:Nat} {t:Nat->Nat->Int} (e:T.Wt n t) (hn:n<=12) (l:T.sN (T.val n t) n<=19) {D dist d s:Nat->Int} (m:∀v,v<n-> -200<=D v/\D v<=200) {k:Int} (hk:0<=k) (o:k<=n) (h:T.fs n t D dist 200 k d s):∀v,v<n-> -102400<=d v/\d v<=1231200/\0<=s v/\s v<=1228800:=by
 have p:T.sN d n=T.sN D n:=by
  rw[T.bL (f:=d) (g:=fun v=>D v-T.aV n t s v) h.eq,T.dA,T.nG e];omega
 have q:=(T.px (f:=D) (n:=n) (B:=200) m).2;have i:∀v,v<n-> -102400<=d v:=fun v b=>by
  have h1:=h.low v b;have j:=T.rH e dist (B:=200) (by omega) l k;omega
 intro v b;have h1:=rP (f:=d) b (a:= -102400) (by omega) i;have j:=h.s0 v b;have r:((n:Int)-k)*(200*512)<=12*(200*512):=Int.mul_le_mul_of_nonneg_right (by omega) (by omega);exact⟨i v b,by omega,j.1,by omega⟩
theorem Ew {a x:Int} (b:1<=x):a<=(a+x-1)/x*x:=by
 have e:=Int.emod_lt_of_pos (a+x-1) (show 0<x by omega);have g:=Int.mul_ediv_add_emod (a+x-1) x;rw[Int.mul_comm];omega
theorem Ex {a x:Int} (b:1<=a) (e:1<=x):(a+x-1)/x<=a:=by
 refine Int.ediv_le_of_le_mul (by omega) ?_;have:=Int.mul_le_mul_of_nonneg_right (show (1:Int)<=a by omega) (show (0:Int)<=x-1 by omega);rw[show a*x=a*(x-1)+a by rw[Int.mul_sub];omega];omega
theorem Ey {n:Nat} {E:List S83} (a:br n E) (hn:n<=12) (b:T.sN (T.val n (ae E)) n<=19) {D dist:Nat->Int} (e:∀v,v<n-> -200<=D v/\D v<=200) (g:∀u v:Nat,u<n->v<n->0<ae E u v->dist v<=dist u+1) {k:Int} (hk:1<=k) (q:k<=n) {d s:List Int} (r:d.length=n) (y:s.length=n)
  (h:T.fs n (ae E) D dist 200 k (fun v=>rd d (v:Nat)) (fun v=>rd s (v:Nat))) {x:Int} (i:0<=x) (j:x<=T.fM n (ae E) dist 200 k) (l:∀v:Nat,v<n->dist v=k->rd d v<0-> -rd d v<=x*T.sN (fun u=>if T.bG dist k u=true then ae E v u else 0) n):
  T.fs n (ae E) D dist 200 (k-1) (fun v=>rd (bA E (T.bG dist k) x n (d,s)).1 (v:Nat)) (fun v=>rd (bA E (T.bG dist k) x n (d,s)).2 (v:Nat))/\
  ∀v:Nat,v<n-> -2097152<=rd (bA E (T.bG dist k) x n (d,s)).1 v/\rd (bA E (T.bG dist k) x n (d,s)).1 v<=2097152/\ -2097152<=rd (bA E (T.bG dist k) x n (d,s)).2 v/\rd (bA E (T.bG dist k) x n (d,s)).2 v<=2097152:=by
 have hb:=nL a.wt hn b e (by omega) q h;have h1:=T.fs.step a.wt (by omega) b g h i j l (d':=fun v=>rd d (v:Nat)-x*T.aV n (ae E) (T.ind (T.bG dist k)) v) (s':=fun v=>rd s (v:Nat)+x*T.ind (T.bG dist k) v) (fun _ _=>rfl) (fun _ _=>rfl);have m:=nL a.wt hn b e (show 0<=k-1 by omega) (by omega) h1;have o:=fun (w:Nat) (hw:w<n)=>wv a (T.bG dist k) x d s r y (fun w hw=>by have:=hb w hw;unfold dy;omega) (fun w hw=>by have:=hb w hw;unfold dy;omega) hw
 have z:∀w:Nat,w<n->rd (bA E (T.bG dist k) x n (d,s)).1 w=rd d w-x*T.aV n (ae E) (T.ind (T.bG dist k)) w:=fun w hw=>(o w hw).1 (by have:=m w hw;unfold dy;omega)
 have e2:∀w:Nat,w<n->rd (bA E (T.bG dist k) x n (d,s)).2 w=rd s w+x*T.ind (T.bG dist k) w:=fun w hw=>(o w hw).2 (by have:=m w hw;unfold dy;omega)
 have p:=T.fs.step a.wt (by omega) b g h i j l (d':=fun v=>rd (bA E (T.bG dist k) x n (d,s)).1 (v:Nat)) (s':=fun v=>rd (bA E (T.bG dist k) x n (d,s)).2 (v:Nat)) z e2;refine⟨p,fun v B=>?_⟩;have:=nL a.wt hn b e (show 0<=k-1 by omega) (by omega) p v B;omega
theorem Ez {n:Nat} {E:List S83} (a:br n E) (b:T.sN (T.val n (ae E)) n<=19) {D dist:Nat->Int} (e:∀u v:Nat,u<n->v<n->0<ae E u v->dist v<=dist u+1) {k:Int} {d s:List Int}
  (h:T.fs n (ae E) D dist 200 k (fun v=>rd d (v:Nat)) (fun v=>rd s (v:Nat))) (g:∀v:Nat,v<n->dist v=k->rd d v<0-> -rd d v<=0*T.sN (fun u=>if T.bG dist k u=true then ae E v u else 0) n):
  T.fs n (ae E) D dist 200 (k-1) (fun v=>rd d (v:Nat)) (fun v=>rd s (v:Nat)):=by
 refine T.fs.step a.wt (by omega) b e h (T:=0) (by omega) ?_ g (fun v _=>by rw[Int.zero_mul,Int.sub_zero]) (fun v _=>by rw[Int.zero_mul,Int.add_zero]);have:=T.py (n:=n) (t:=ae E) dist (show (0:Int)<=200 by omega) k;omega
theorem EA {n:Nat} {t:Nat->Nat->Int} (a:T.Wt n t) {out:List Int} {k:Int} {v u:Nat} (hu:u<n) (h1:0<t v u) (g:rd out (u:Int)+1=rd out (v:Int)) (hk:rd out (v:Int)=k):1<=T.sN (fun u=>if T.bG (fun v=>rd out (v:Nat)) k u=true then t v u else 0) n:=by
 have b:=T.fL (f:=fun u=>if T.bG (fun v=>rd out (v:Nat)) k u=true then t v u else 0) hu (fun w _=>by
  show 0<=(if T.bG (fun v=>rd out (v:Nat)) k w=true then t v w else 0)
  have:=a.pos v w;split<;>omega)
 have e:T.bG (fun v=>rd out (v:Nat)) k u=true:=by exact ay (show rd out (u:Int)<k by omega)
 simp only[e,if_true] at b;omega
theorem wx (n:Nat) (t:Nat->Nat->Int) (q:Nat) (d:List Int):bC n t q d q=true:=ri _ (by simp[cI])
theorem EB (n:Nat) (t:Nat->Nat->Int) (q:Nat) (d:List Int) {v:Nat} (a:v<n):cC n t d (bC n t q d) v=false:=
 rl (n:=n) (c:=cC n t d) (fun b v h=>ny b v h) (dY n (cI q)) (cI q) (aI _) v a
theorem wy {n:Nat} {t:Nat->Nat->Int} {q:Nat} {d:List Int} {v:Nat} (a:v<n) (h:bC n t q d v=false):T.sN (fun u=>if bC n t q d u=true then t v u else 0) n<=rd d v:=by
 have h1:=EB n t q d a;unfold cC at h1;rw[h,kU] at h1;simp at h1;exact h1
theorem EC {n:Nat} {t:Nat->Nat->Int} (e:T.Wt n t) {q:Nat} {d:List Int} (h:((List.range n).any fun v=> !bC n t q d v)=false):T.iK n t q (fun v=>rd d (v:Nat)):=by
 have h1:bZ n t q d=true:=by
  unfold bZ;rw[List.all_eq_true];intro v a;rw[List.any_eq_false] at h;have:=h v a;show bC n t q d v=true
  simpa using this
 have g:=(jY (fun i j=>e.pos i j) q d).1 h1;intro S hS k;obtain⟨v,a,l,b⟩:=g S hS k;refine⟨v,a,l,?_⟩;rw[kU] at b;refine Int.lt_of_lt_of_le b (T.cW fun u _=>?_);show (if(!S u)=true then t v u else 0)<=(if S u=false then t v u else 0)
 cases S u<;>simp
theorem ED {n:Nat} {t:Nat->Nat->Int} (g:T.dB n t) (e:T.Wt n t) {q:Nat} (i:q<n) {d:List Int} (h:((List.range n).any fun v=> !bC n t q d v)=true):∃v,v<n/\bC n t q d v=false/\0<T.sN (fun u=>if bC n t q d u=true then t v u else 0) n:=by
 obtain⟨v,j,hb⟩:=List.any_eq_true.1 h;obtain⟨a,b,k,l,h1,m,p⟩:=g (bC n t q d) ⟨q,i,wx n t q d⟩ ⟨v,List.mem_range.1 j,by simpa using hb⟩;refine⟨b,l,m,?_⟩;have o:=T.fL (f:=fun u=>if bC n t q d u=true then t b u else 0) k (fun w _=>by
  show 0<=(if bC n t q d w=true then t b w else 0)
  have:=e.pos b w;split<;>omega)
 have r:=e.sym a b;simp only[h1,if_true] at o;omega
structure jE (n q:Nat) (t:Nat->Nat->Int) (D:Nat->Int) (d s:List Int):Prop where
 dl:d.length=n
 sl:s.length=n
 eq:∀v:Nat,v<n->rd d v=D v-T.aV n t (fun u=>rd s (u:Nat)) v
 kQ:∀v:Nat,v<n->v≠q->0<=rd d v
 low: -102400<=rd d q
 s0:∀v:Nat,v<n->0<=rd s v
 sq:rd s q<=1228800
structure eT (n q:Nat) (t:Nat->Nat->Int) (D c σ:Nat->Int):Prop where
 red:T.kP n t q c
 eq:∀v,v<n->c v=D v-T.aV n t σ v
 q0:σ q=0
theorem EE {n q:Nat} {t:Nat->Nat->Int} (a:T.Wt n t) (b:T.dB n t) (e:q<n) (D:Nat->Int):∃c σ,eT n q t D c σ:=by
 obtain⟨c,⟨s,g⟩,i⟩:=T.vP a b e D;refine⟨c,fun u=>s u-s q,i,fun v j=>?_,by show s q-s q=0;omega⟩;have h:=T.lP n t s (fun _=>s q) v;rw[T.jD] at h;rw[h,g v j];omega
theorem eT.unique {n q:Nat} {t:Nat->Nat->Int} (l:T.Wt n t) (m:T.dB n t) (o:q<n) {D c σ k i:Nat->Int} (h:eT n q t D c σ) (j:eT n q t D k i):∀v,v<n->c v=k v/\σ v=i v:=by
 have e:T.bX n t c k:=⟨fun u=>i u-σ u,fun v g=>by rw[T.lP,h.eq v g,j.eq v g];omega⟩;have h1:=T.DU l m o h.red j.red e;have p:=T.DW l m o (s:=σ) (s':=i) (by rw[h.q0,j.q0]) (fun v g=>by
  have a:=h.eq v g;have b:=j.eq v g;have c:=h1 v g;omega)
 exact fun v g=>⟨(h1 v g).symm,p v g⟩
theorem rQ {n:Nat} {t:Nat->Nat->Int} (a:T.Wt n t) {v:Nat} (b:v<n):T.val n t v<=T.sN (T.val n t) n:=T.fL b (fun u _=>T.dw fun w _=>a.pos u w)
theorem eT.bound {n q:Nat} {t:Nat->Nat->Int} (j:T.Wt n t) (r:T.dB n t) (o:q<n) (hn:n<=12) (l:T.sN (T.val n t) n<=19) {D c σ:Nat->Int} (p:∀v,v<n-> -200<=D v/\D v<=200) (h:eT n q t D c σ):∀v,v<n-> -31536<=σ v/\σ v<=31536/\ -3000<=c v/\c v<=3000/\(v≠q->0<=c v/\c v<19):=by
 have h1:=T.DX j r o h.red h.eq h.q0 (B:=200) (V:=19) (by omega) (by omega) p (fun v i=>Int.le_trans (rQ j i) l);have m:∀v,v<n->v≠q->0<=c v/\c v<=19:=fun v i k=>by
  have a:=h.red.1 v i k;have b:=T.pw j h.red.2 i k;have:=Int.le_trans (rQ j i) l;omega
 have s:∀v,v<n->v≠q->0<=c v/\c v<19:=fun v i k=>by
  have a:=h.red.1 v i k;have b:=T.pw j h.red.2 i k;have:=Int.le_trans (rQ j i) l;omega
 have u:=T.DZ (f:=c) o (a:=0) (b:=19) (by omega) (by omega) m;have w:T.sN c n=T.sN D n:=by
  rw[T.bL (f:=c) (g:=fun v=>D v-T.aV n t σ v) h.eq,T.dA,T.nG j];omega
 have x:=T.px (f:=D) (n:=n) (B:=200) p;have y:(n:Int)*(n*(200+19))<=31536:=by
  have a:(n:Int)*(200+19)<=12*(200+19):=Int.mul_le_mul_of_nonneg_right (by omega) (by omega);have b:=Int.mul_le_mul_of_nonneg_left a (show (0:Int)<=n by omega);have c:(n:Int)*(12*(200+19))<=12*(12*(200+19)):=Int.mul_le_mul_of_nonneg_right (by omega) (by omega);omega
 intro v i;have a:=h1 v i;refine⟨by omega,by omega,?_,?_,fun k=>s v i k⟩
 ·by_cases e:v=q
  ·subst e;omega
  ·have:=m v i e;omega
 ·by_cases e:v=q
  ·subst e;omega
  ·have:=m v i e;omega
theorem jE.bounds {n q:Nat} {t:Nat->Nat->Int} (j:T.Wt n t) (k:T.dB n t) (l:q<n) (hn:n<=12) (p:T.sN (T.val n t) n<=19) {D c σ:Nat->Int} (m:∀v,v<n-> -200<=D v/\D v<=200) (i:eT n q t D c σ) {d s:List Int} (h:jE n q t D d s):
  ∀v:Nat,v<n-> -102400<=rd d v/\rd d v<=1231200/\0<=rd s v/\rd s v<=σ v+rd s q/\rd s v<=1260336:=by
 have o:∀v:Nat,v<n-> -102400<=rd d v:=fun v b=>by
  by_cases e:v=q
  ·subst e;exact h.low
  ·have:=h.kQ v b e;omega
 have r:T.sN (fun v=>rd d (v:Nat)) n=T.sN D n:=by
  rw[T.bL (f:=fun v=>rd d (v:Nat)) (g:=fun v=>D v-T.aV n t (fun u=>rd s (u:Nat)) v) h.eq,T.dA,T.nG j];omega
 have w:=(T.px (f:=D) (n:=n) (B:=200) m).2;have hle:=T.rG j k l i.red i.eq i.q0 (d:=fun v=>rd d (v:Nat)) h.eq h.kQ;intro v b;have h1:rd d v<=T.sN (fun v=>rd d (v:Nat)) n-n* -102400:=rP (f:=fun v=>rd d (v:Nat)) b (a:= -102400) (by omega) o;have x:rd s v<=σ v+rd s q:=hle v b;have y:=i.bound j k l hn p m v b;have z:=h.s0 v b;have C:=h.sq;have E:=o v b;omega
def ka (n q:Nat) (σ:Nat->Int) (s:List Int):Int:=T.sN (fun v=>σ v+rd s q-rd s v) n
theorem jE.step {n q:Nat} {E:List S83} (j:br n E) (C:T.dB n (ae E)) (i:q<n) (hn:n<=12) (K:T.sN (T.val n (ae E)) n<=19) {D c σ:Nat->Int} (F:∀v,v<n-> -200<=D v/\D v<=200) (k:eT n q (ae E) D c σ) {d s:List Int} (h:jE n q (ae E) D d s)
  (U:((List.range n).any fun v=> !bC n (ae E) q d v)=true) {x:Int} (Z:1<=x) (V:∀v:Nat,v<n->bC n (ae E) q d v=false->x*T.sN (fun u=>if bC n (ae E) q d u=true then ae E v u else 0) n<=rd d v):
  jE n q (ae E) D (bA E (fun v=> !bC n (ae E) q d v) x n (d,s)).1 (bA E (fun v=> !bC n (ae E) q d v) x n (d,s)).2/\
  (∀v:Nat,v<n-> -2097152<=rd (bA E (fun v=> !bC n (ae E) q d v) x n (d,s)).1 v/\rd (bA E (fun v=> !bC n (ae E) q d v) x n (d,s)).1 v<=2097152/\ -2097152<=rd (bA E (fun v=> !bC n (ae E) q d v) x n (d,s)).2 v/\rd (bA E (fun v=> !bC n (ae E) q d v) x n (d,s)).2 v<=2097152)/\
  0<=ka n q σ (bA E (fun v=> !bC n (ae E) q d v) x n (d,s)).2/\ka n q σ (bA E (fun v=> !bC n (ae E) q d v) x n (d,s)).2<ka n q σ s:=by
 obtain⟨L,l⟩:∃L:Nat->Bool,L=fun v=> !bC n (ae E) q d v:=⟨_,rfl⟩
 have M:L q=false:=by rw[l];simp[wx]
 have G:=T.D0 j.wt (L:=L) (d:=fun v=>rd d (v:Nat)) (T:=x) (by omega) (fun v b N=>by
  have h1:=V v b (by rw[l] at N;simpa using N);rw[T.bL (f:=fun u=>if L u=false then ae E v u else 0) (g:=fun u=>if bC n (ae E) q d u=true then ae E v u else 0) (fun u _=>by
   have e:L u= !bC n (ae E) q d u:=by rw[l]
   rw[e];cases bC n (ae E) q d u<;>simp)]
  exact h1)
 rw[<-l];have hb:=h.bounds j.wt C i hn K F k;have H:∀v:Nat,v<n->v≠q->0<=rd d v-x*T.aV n (ae E) (T.ind L) v:=fun v b I=>by
  cases m:L v with
  |true=>exact(G v b).1 m
  |false=>have h1:=(G v b).2 m;have o:=h.kQ v b I;omega
 have O: -102400<=rd d q-x*T.aV n (ae E) (T.ind L) q:=by
  have h1:=(G q i).2 M;have o:=h.low;omega
 have J:∀v:Nat,v<n-> -102400<=rd d v-x*T.aV n (ae E) (T.ind L) v:=fun v b=>by
  by_cases e:v=q
  ·subst e;exact O
  ·have:=H v b e;omega
 have heq:∀v:Nat,v<n->rd d v-x*T.aV n (ae E) (T.ind L) v=D v-T.aV n (ae E) (fun u=>rd s (u:Nat)+x*T.ind L u) v:=fun v b=>by
  rw[T.j7,T.vL,h.eq v b];omega
 have W:T.sN (fun v=>rd d (v:Nat)-x*T.aV n (ae E) (T.ind L) v) n=T.sN D n:=by
  rw[T.bL heq,T.dA,T.nG j.wt];omega
 have aa:=(T.px (f:=D) (n:=n) (B:=200) F).2;have P:∀v:Nat,v<n->rd d v-x*T.aV n (ae E) (T.ind L) v<=1231200:=fun v b=>by
  have h1:rd d v-x*T.aV n (ae E) (T.ind L) v<=T.sN (fun v=>rd d (v:Nat)-x*T.aV n (ae E) (T.ind L) v) n-n* -102400:=rP (f:=fun v=>rd d (v:Nat)-x*T.aV n (ae E) (T.ind L) v) b (a:= -102400) (by omega) J;rw[W] at h1;omega
 have hle:=T.rG j.wt C i k.red k.eq k.q0 (d:=fun v=>rd d (v:Nat)-x*T.aV n (ae E) (T.ind L) v) (s:=fun u=>rd s (u:Nat)+x*T.ind L u) heq H;have p:T.ind L q=0:=by unfold T.ind;rw[M];rfl
 have X:∀v,0<=T.ind L v/\T.ind L v<=1:=fun v=>by unfold T.ind;split<;>omega
 have Q:∀v,0<=x*T.ind L v:=fun v=>Int.mul_nonneg (by omega) (X v).1
 have y:∀v:Nat,v<n->0<=rd s v+x*T.ind L v/\rd s v+x*T.ind L v<=σ v+rd s q/\rd s v+x*T.ind L v<=1260336:=fun v b=>by
  have h1:rd s (v:Nat)+x*T.ind L v<=σ v+(rd s (q:Nat)+x*T.ind L q):=hle v b;rw[p,Int.mul_zero,Int.add_zero] at h1;have o:=h.s0 v b;have R:=Q v;have h4:=k.bound j.wt C i hn K F v b;have h5:=h.sq;omega
 have S:=fun (w:Nat) (hw:w<n)=>wv j L x d s h.dl h.sl (fun w hw=>by have:=hb w hw;unfold dy;omega) (fun w hw=>by have:=hb w hw;unfold dy;omega) hw
 have z:∀w:Nat,w<n->rd (bA E L x n (d,s)).1 w=rd d w-x*T.aV n (ae E) (T.ind L) w:=fun w hw=>(S w hw).1 (by have:=J w hw;have:=P w hw;unfold dy;omega)
 have e2:∀w:Nat,w<n->rd (bA E L x n (d,s)).2 w=rd s w+x*T.ind L w:=fun w hw=>(S w hw).2 (by have:=y w hw;unfold dy;omega)
 obtain⟨l1,l2⟩:=nK E L x (d,s) n;refine⟨⟨l1.trans h.dl,l2.trans h.sl,fun v b=>?_,fun v b I=>by rw[z v b];exact H v b I,by rw[z q i];exact O,fun v b=>by rw[e2 v b];exact(y v b).1,by rw[e2 q i,p,Int.mul_zero,Int.add_zero];exact h.sq⟩,fun v b=>?_,?_,?_⟩
 ·rw[z v b,heq v b,T.mG (s:=fun u=>rd (bA E L x n (d,s)).2 (u:Nat)) (r:=fun u=>rd s (u:Nat)+x*T.ind L u) (fun u hu=>e2 u hu) b]
 ·rw[z v b,e2 v b]
  have:=J v b;have:=P v b;have:=y v b;omega
 ·refine T.dw fun v b=>?_
  show 0<=σ v+rd (bA E L x n (d,s)).2 q-rd (bA E L x n (d,s)).2 v
  rw[e2 v b,e2 q i,p,Int.mul_zero,Int.add_zero];have:=(y v b).2.1;omega
 ·obtain⟨v,b,hb⟩:=List.any_eq_true.1 U
  have Y:=List.mem_range.1 b;have m:L v=true:=by rw[l];exact hb
  have h1:ka n q σ (bA E L x n (d,s)).2=T.sN (fun v=>(σ v+rd s q-rd s v)-x*T.ind L v) n:=by
   refine T.bL fun v b=>?_
   show σ v+rd (bA E L x n (d,s)).2 q-rd (bA E L x n (d,s)).2 v=_
   rw[e2 v b,e2 q i,p,Int.mul_zero,Int.add_zero];omega
  rw[h1,T.dA];have o:=T.fL (f:=fun v=>x*T.ind L v) Y (fun u _=>Q u);have R:T.ind L v=1:=by unfold T.ind;rw[m];rfl
  simp only[R,Int.mul_one] at o;show T.sN (fun v=>σ v+rd s q-rd s v) n-T.sN (fun v=>x*T.ind L v) n<T.sN (fun v=>σ v+rd s q-rd s v) n
  omega
section
attribute [local go_sem] Oper.semAt_some
theorem EF (gb a cr n:Nat) (B:Nat->Bool) (ok:Nat->Prop) (base:Nat) (W:World) (u:Int) (hb:W.heap[gb]? =some (.cells #[.slice (some ⟨a,0,none⟩) n cr] 43 (0,0))) (g:Kd.bool.R 4 W base ok (.slice (some ⟨a,0,none⟩) n cr) ((List.range n).map fun v=> !B v)) (h:0<=u) (hn:u<n):
  Calls Tryz.prog 171 #[.int .i64 u,.pointer (some ⟨gb,0,none⟩)] W fun e w'=>e= .returned (.bool (B u.toNat))/\Below W.heap.size W w':=by
 have i:W.cell? ⟨gb,0,none⟩=some (.slice (some ⟨a,0,none⟩) n cr):=(ah hb 0).trans rfl;have b:=(Kd.bO false g u h hn).1;have e:bM false ((List.range n).map fun v=> !B v) u= !B u.toNat:=by
  obtain⟨m,rfl⟩:=Int.eq_ofNat_of_zero_le h;have:m<n:=by omega
  simp[bM,aX,List.getElem?_map,List.getElem?_range this]
 rw[e] at b;have b:W.cell? ⟨a,u.toNat,none⟩=some (.bool (!B u.toNat)):=b;clear g hb e;go_enter Tryz.func171,Tryz.ntmps171
 go_wp2;go_ret;exact⟨by simp[go_sem],aq _ _⟩
theorem wz (g n:Nat) (A0:Option Addr) (c0:Nat) (E:List S83) (q:Nat) (a:Option Addr) (cd:Nat) (d:List Int) (b:Value) (h:Int) (w:World) (k:Kd.C aN w A0 E.length E) (i:br n E) (l:E.length<=1000) (hn:n<=1000) (m:q<n) (o:d.length=n) (p:ik w g n (.slice A0 E.length c0) q (.slice a n cd) b h)
  (hd:Kd.C (Kd.int .i64) w a d.length d):
  Calls Tryz.prog 170 #[.pointer (some ⟨g,0,none⟩)] w fun e w'=>∃j cl,e= .returned (.tuple #[.slice (some ⟨j,0,none⟩) n cl,.bool ((List.range n).any fun v=> !bC n (ae E) q d v)])/\Kd.bool.R 4 w' w.heap.size (fun _=>True) (.slice (some ⟨j,0,none⟩) n cl) ((List.range n).map fun v=> !bC n (ae E) q d v)/\Below w.heap.size w w':=by
 subst o;exact Eh g d.length A0 c0 E q a cd d b h w k i.j9 hn m p hd rfl (fun B v r _=>Et i l B r)
def iM (n:Nat) (t:Nat->Nat->Int) (q:Nat) (d:List Int) (v:Nat):Int:=T.sN (fun u=>if bC n t q d u=true then t v u else 0) n
theorem rR {n:Nat} {E:List S83} (a:br n E) (hn:n<=12) (q:Nat) (d:List Int) (v:Nat):0<=iM n (ae E) q d v/\iM n (ae E) q d v<=600:=by
 have h:=T.cW (f:=fun w=>if bC n (ae E) q d w=true then ae E v w else 0) (g:=fun _=>50) (n:=n) (fun w _=>by
  have:=a.j9.times v w;show (if bC n (ae E) q d w=true then ae E v w else 0)<=50
  split<;>omega)
 rw[T.jd] at h;have b:0<=iM n (ae E) q d v:=T.dw fun w _=>by
  have:=a.j9.times v w;show 0<=(if bC n (ae E) q d w=true then ae E v w else 0)
  split<;>omega
 exact⟨b,by show T.sN _ n<=600;omega⟩
theorem EG {n q:Nat} {t:Nat->Nat->Int} (b:T.Wt n t) (e:T.dB n t) (g:q<n) {D c σ:Nat->Int} (a:eT n q t D c σ) {d s:List Int} (h:jE n q t D d s):0<=ka n q σ s:=T.dw fun v i=>by
 have h1:=T.rG b e g a.red a.eq a.q0 (d:=fun v=>rd d (v:Nat)) h.eq h.kQ v i;have j:rd s v<=σ v+rd s q:=h1;show 0<=σ v+rd s q-rd s v
 omega
theorem EH (g gd gs cd cs n:Nat) (A0:Option Addr) (c0:Nat) (E:List S83) (q:Nat) (D c σ:Nat->Int) (d s:List Int) (w0 w:World) (N:Kd.C aN w0 A0 E.length E) (F:br n E) (hl:E.length<=1000) (hC:fc n E) (hn:n<=12) (p:q<n) (aP:T.sN (T.val n (ae E)) n<=19)
  (hD:∀v:Nat,v<n-> -200<=D v/\D v<=200) (hr:eT n q (ae E) D c σ) (ad:jE n q (ae E) D d s) (h:SI w0 g gd gs cd cs n A0 c0 E q d s w):
  Calls Tryz.prog 111 #[.pointer (some ⟨g,0,none⟩)] w fun e w'=>e= .returned (.tuple #[])/\∃(d' s':List Int),SI w0 g gd gs cd cs n A0 c0 E q d' s' w'/\jE n q (ae E) D d' s'/\T.iK n (ae E) q (fun v=>rd d' (v:Nat)):=by
 have cq:=Tryz.underlying188;have hu:=Tryz.underlying24;have j:=zA F;have ag:=zA (F.conn hC);have HD:=zA hD;have a0:=zA hr;have k:=zA ad;have a:=zA h;have a1:=zA (EG F.wt (F.conn hC) p hr ad);have cr:1<=n:=by omega
 clear F hC hD hr ad h;go_enter Tryz.func111,Tryz.ntmps111
 go_wp2;go_loopg [] ((ka n q σ s).toNat) (fun kq wr=>∃(d s:List Int),Aside0 (SI w0 g gd gs cd cs n A0 c0 E q d s wr)/\Aside0 (jE n q (ae E) D d s)/\Aside0 (0<=ka n q σ s/\kq=(ka n q σ s).toNat))
 case atStart=>exact⟨d,s,a,k,⟨a1.out,rfl⟩⟩
 case round=>
  clear a k a1;obtain⟨d,s,a,k,HK⟩:=hrel;have s5:=a.out.f5;have a3:=k.out.dl;have am:=zA a3;have b2:=a.out.hb.size;obtain⟨r1,r2,r3,r4,r5⟩:=a.out.ld;clear a3;cases O:(List.range n).any fun v=> !bC n (ae E) q d v with
  |false=>
   have r:=zA O;clear O;go_wp2_with (go_at_call 170;refine(wz g n A0 c0 E q _ cd d _ 0 _ (Kd.ax N a.out.hb) j.out hl (by omega) p am.out a.out.st (Kd.aH a.out.d).2.2).mono ?_;rintro e P ⟨b,cl,rfl,G,H⟩;rw[r.out];have I:=zA (a.out.below H);clear G H)
   refine bodyPost_ret (results_none rfl _ _ _) rfl ?_;exact⟨rfl,d,s,I.out.alloc _,k.out,EC j.out.wt r.out⟩
  |true=>
   have r:=zA O;clear O;go_wp2_with (go_at_call 170;refine(wz g n A0 c0 E q _ cd d _ 0 _ (Kd.ax N a.out.hb) j.out hl (by omega) p am.out a.out.st (Kd.aH a.out.d).2.2).mono ?_;rintro e P ⟨b,cl,rfl,G,H⟩;rw[r.out];have I:=zA (a.out.below H);have an:=zA G;have c5:=Kd.dK G b rfl;clear G H)
   have b3:=I.out.ld;have b4:=Kd.ba an.out b rfl;have b5:gd≠b:=by omega
   have b6:gs≠b:=by omega
   have Q:=zA (a7 P (.cells #[.slice (some ⟨b,0,none⟩) n cl] 43));have ap:=zA (Kd.bd (Kd.aM an.out (.cells #[.slice (some ⟨b,0,none⟩) n cl] 43)) (base':=w0.heap.size) b2);have ar:=zA (I.out.alloc (.cells #[.slice (some ⟨b,0,none⟩) n cl] 43));clear I an a s5 b3;generalize P.alloc (.cells #[.slice (some ⟨b,0,none⟩) n cl] 43)=W6 at Q ap ar⊢;generalize P.heap.size=gb at Q b4⊢;go_loopg [23,4] (n) (fun kq vv tv wr=>∃(v:Nat) (x:Int),v<=n/\vv= .int .i64 v/\tv= .int .i64 x/\0<=x/\Aside0 (x=0->∀u:Nat,u<v->bC n (ae E) q d u=false->iM n (ae E) q d u<=0)/\Aside0 (∀u:Nat,u<v->bC n (ae E) q d u=false->x*iM n (ae E) q d u<=rd d u)/\Aside0 (SI w0 g gd gs cd cs n A0 c0 E q d s wr)/\Aside0 (wr.heap[gb]? =some (.cells #[.slice (some ⟨b,0,none⟩) n cl] 43 (0,0)))/\Aside0 (Kd.bool.R 4 wr w0.heap.size (fun _=>True) (.slice (some ⟨b,0,none⟩) n cl) ((List.range n).map fun v=> !bC n (ae E) q d v))/\Aside0 (kq=n-v))
   case atStart=>exact⟨0,0,by omega,rfl,rfl,by omega,⟨fun _ u hu=>by omega⟩,⟨fun u hu=>by omega⟩,ar,Q,ap,⟨rfl⟩⟩
   case round=>
    clear ar Q ap;obtain⟨v,x,S,rfl,rfl,av,U,J,a,z,m,K⟩:=hrel;by_cases B:v<n
    ·have c7:(0:Int)<=(v:Int):=by omega
     have c8:(v:Int)<(n:Int):=by omega
     have i:=(Kd.bO false m.out (v:Int) (by omega) (by omega)).1;rw[aG] at i;have e1:bM false ((List.range n).map fun v=> !bC n (ae E) q d v) v= !bC n (ae E) q d v:=by simp[bM,aX,List.getElem?_map,List.getElem?_range B]
     rw[e1] at i;replace i:wr.cell? ⟨b,v,none⟩=some (.bool (!bC n (ae E) q d v)):=i;clear e1;cases hF:bC n (ae E) q d v with
     |true=>
      rw[hF] at i;replace i:wr.cell? ⟨b,v,none⟩=some (.bool false):=i;have HF:=zA hF;clear hF;go_wp2;go_roundg (n- (v+1))
      case measure=>rw[K.out];omega
      case rel=>exact⟨v+1,x,by omega,by go_num,rfl,av,⟨fun hx u hu h1=>by
       by_cases e:u=v
       ·subst e;rw[HF.out] at h1;cases h1
       ·exact U.out hx u (by omega) h1⟩,⟨fun u hu h1=>by
       by_cases e:u=v
       ·subst e;rw[HF.out] at h1;cases h1
       ·exact J.out u (by omega) h1⟩,a,z,m,⟨rfl⟩⟩
     |false=>
      rw[hF] at i;replace i:wr.cell? ⟨b,v,none⟩=some (.bool true):=i;have HF:=zA hF;have a5:=zA (show iM n (ae E) q d v<=rd d v from wy B hF);have a9:=zA (rR j.out hn q d v);have be:=zA (show eo (bC n (ae E) q d) (cJ E v E.length)=iM n (ae E) q d v from rN j.out hl (bC n (ae E) q d) B);have c9:=(k.out.bounds j.out.wt ag.out p hn aP HD.out a0.out v B).2.1;clear hF;go_wp2_with (go_at_call 168;refine(Dz g n A0 c0 E q _ _ 0 v #[.pointer (some ⟨gb,0,none⟩)] (bC n (ae E) q d) _ (Kd.ax N a.out.hb) j.out.j9 (by omega) B a.out.st (fun W u bf ca cb=>EF gb b cl n _ _ _ W u (aD z.out bf) (Kd.cY m.out bf) ca cb)).mono ?_;rintro e w8 ⟨rfl,V⟩;rw[be.out];have l:=zA (a.out.below V);have X:=zA (aD z.out V);have Y:=zA (Kd.cY m.out V);have c2:=l.out.kT v B;have c3:=l.out.f3;clear V i a z m;obtain⟨y,i⟩:∃y,y=iM n (ae E) q d v:=⟨_,rfl⟩;rw[<-i];have Z:=a9.out;have ce:=a5.out;rw[<-i] at Z ce;obtain⟨Z,c'⟩:=Z;have L:=zA i;clear i a9 a5 be)
      ·have cf:1<=rd d v/y:=Int.le_ediv_of_mul_le (by omega) (by omega)
       have hx:=zA ‹x=0›;go_roundg (n- (v+1))
       case measure=>rw[K.out];omega
       case rel=>exact⟨v+1,rd d v/y,by omega,by go_num,rfl,by omega,⟨fun M=>by omega⟩,⟨fun u hu h1=>by
        by_cases e:u=v
        ·subst e;rw[<-L.out];exact Int.ediv_mul_le _ (by omega)
        ·have h2:=U.out hx.out u (by omega) h1
         have h3:=(rR j.out hn q d u).1;rw[show iM n (ae E) q d u=0 by omega,Int.mul_zero];have h4:iM n (ae E) q d u<=rd d u:=wy (by omega) h1;omega⟩,l,X,Y,⟨rfl⟩⟩
      ·have cf:1<=rd d v/y:=Int.le_ediv_of_mul_le (by omega) (by omega)
       have dd:rd d v/y<x:=by
        rename_i o;rcases o with o|o
        ·exact absurd (by simpa using o) ‹¬x=0›
        ·exact o
       go_roundg (n- (v+1))
       case measure=>rw[K.out];omega
       case rel=>exact⟨v+1,rd d v/y,by omega,by go_num,rfl,by omega,⟨fun M=>by omega⟩,⟨fun u hu h1=>by
        by_cases e:u=v
        ·subst e;rw[<-L.out];exact Int.ediv_mul_le _ (by omega)
        ·exact Int.le_trans (Int.mul_le_mul_of_nonneg_right (by omega) (rR j.out hn q d u).1) (J.out u (by omega) h1)⟩,l,X,Y,⟨rfl⟩⟩
      ·have hle:x<=rd d v/y:=by
        rename_i o;exact o.2
       have cg:¬x=0:=‹¬x=0›;go_roundg (n- (v+1))
       case measure=>rw[K.out];omega
       case rel=>exact⟨v+1,x,by omega,by go_num,rfl,av,⟨fun M=>absurd M cg⟩,⟨fun u hu h1=>by
        by_cases e:u=v
        ·subst e;rw[<-L.out];exact Int.le_trans (Int.mul_le_mul_of_nonneg_right hle Z) (Int.ediv_mul_le _ (by omega))
        ·exact J.out u (by omega) h1⟩,l,X,Y,⟨rfl⟩⟩
      ·have ch:y<=0:=by assumption
       go_roundg (n- (v+1))
       case measure=>rw[K.out];omega
       case rel=>exact⟨v+1,x,by omega,by go_num,rfl,av,⟨fun M u hu h1=>by
        by_cases e:u=v
        ·subst e;rw[<-L.out];exact ch
        ·exact U.out M u (by omega) h1⟩,⟨fun u hu h1=>by
        by_cases e:u=v
        ·subst e;rw[<-L.out,show y=0 by omega,Int.mul_zero];omega
        ·exact J.out u (by omega) h1⟩,l,X,Y,⟨rfl⟩⟩
    ·obtain rfl:n=v:=by omega
     have b0:=dM z.out;have bi:1<=x:=by
      refine Classical.byContradiction fun bi=>?_
      obtain⟨v,S,h1,h2⟩:=ED ag.out j.out.wt p r.out;have h3:iM n (ae E) q d v<=0:=U.out (by omega) v S h1;have h4:0<iM n (ae E) q d v:=h2;omega
     obtain⟨k1,k2,k3,k4⟩:=k.out.step j.out ag.out p hn aP HD.out a0.out r.out bi (fun v S h1=>J.out v S h1);have K1:=zA k1;have K2:=zA k2;have K3:=zA k3;have K4:=zA k4;have co:=zA k.out.sl;clear k1 k2 k3 k4;go_wp2_with (go_at_call 166;refine(v_ g gd gs b cd cs cl n A0 c0 E q d s (fun v=> !bC n (ae E) q d v) x w0 _ N j.out.j9 (by omega) (by omega) a.out m.out ⟨b5,b6⟩ am.out co.out K2.out).mono ?_;rintro e w8 ⟨rfl,bx,cp,aY⟩;have l:=zA bx;clear bx cp a z m b0)
     go_roundg ((ka n q σ (bA E (fun v=> !bC n (ae E) q d v) x n (d,s)).2).toNat)
     case measure=>have h1:=K3.out;have h2:=K4.out;have h3:=HK.out.2;have h4:=HK.out.1;rw[h3];omega
     case rel=>exact⟨_,_,l,K1,⟨K3.out,rfl⟩⟩
end
def nM.f (a0:Int) (a:Int):Option (Int×Int):=some (IntKind.u64.wrap ((IntKind.u64.wrap ((IntKind.u64.wrap ((a0/4294967296)*(a/4294967296)))+((IntKind.u64.wrap ((IntKind.u64.wrap ((a0/4294967296)*(Go.bits .and .u64 a 4294967295)))+((IntKind.u64.wrap ((Go.bits .and .u64 a0 4294967295)*(Go.bits .and .u64 a 4294967295)))/4294967296)))/4294967296)))+((IntKind.u64.wrap ((Go.bits .and .u64 (IntKind.u64.wrap ((IntKind.u64.wrap ((a0/4294967296)*(Go.bits .and .u64 a 4294967295)))+((IntKind.u64.wrap ((Go.bits .and .u64 a0 4294967295)*(Go.bits .and .u64 a 4294967295)))/4294967296))) 4294967295)+(IntKind.u64.wrap ((Go.bits .and .u64 a0 4294967295)*(a/4294967296)))))/4294967296)),IntKind.u64.wrap (a0*a))
theorem nM.calls (a0:Int) (a:Int) (b:Int) (g:Int) (w:World) (h:nM.f a0 a=some (b,g)):
  Calls Tryz.prog 216 #[.int .u64 a0,.int .u64 a] w fun e w'=>e= .returned (.tuple #[.int .u64 b,.int .u64 g])/\az w w':=by
 have H:(some (IntKind.u64.wrap ((IntKind.u64.wrap ((IntKind.u64.wrap ((a0/4294967296)*(a/4294967296)))+((IntKind.u64.wrap ((IntKind.u64.wrap ((a0/4294967296)*(Go.bits .and .u64 a 4294967295)))+((IntKind.u64.wrap ((Go.bits .and .u64 a0 4294967295)*(Go.bits .and .u64 a 4294967295)))/4294967296)))/4294967296)))+((IntKind.u64.wrap ((Go.bits .and .u64 (IntKind.u64.wrap ((IntKind.u64.wrap ((a0/4294967296)*(Go.bits .and .u64 a 4294967295)))+((IntKind.u64.wrap ((Go.bits .and .u64 a0 4294967295)*(Go.bits .and .u64 a 4294967295)))/4294967296))) 4294967295)+(IntKind.u64.wrap ((Go.bits .and .u64 a0 4294967295)*(a/4294967296)))))/4294967296)),IntKind.u64.wrap (a0*a)))=some (b,g):=h;clear h;simp only[Option.some.injEq,Prod.mk.injEq] at H;obtain⟨rfl,rfl⟩:=H;go_enter Tryz.func216,Tryz.ntmps216
 go_wp2;go_ret2;exact⟨by first|rfl|(simp;done)|(simp[*];done),by repeat(first|exact az.refl _|apply az.step)⟩
def nN.f (a0:Int) (b:Int):Option (Int×Int):=(nM.f a0 b).bind fun a=>(some (a.1,a.2))
theorem nN.calls (a0:Int) (a:Int) (b:Int) (g:Int) (w:World) (h:nN.f a0 a=some (b,g)):
  Calls Tryz.prog 206 #[.int .u64 a0,.int .u64 a] w fun e w'=>e= .returned (.tuple #[.int .u64 b,.int .u64 g])/\az w w':=by
 have H:((nM.f a0 a).bind fun i=>(some (i.1,i.2)))=some (b,g):=h;clear h;replace H:=Option.bind_eq_some_iff.mp H;obtain⟨⟨t238,t239⟩,j,H⟩:=H;replace H:(some (t238,t239))=some (b,g):=H;have k:=zA j;clear j;simp only[Option.some.injEq,Prod.mk.injEq] at H;obtain⟨rfl,rfl⟩:=H;go_enter Tryz.func206,Tryz.ntmps206
 go_wp2_with (first|((with_reducible refine aJ (f:=216) rfl ?_);refine tJ (some 25) rfl rfl Tryz.func216 (by kernel_rfl) rfl #[.int .u64 a0,.int .u64 a] rfl (by(try simp only[List.map_toArray,List.map_cons,List.map_nil]);first|done|rfl|(simp only[List.length_drop,List.length_take];rfl)) ?_;(with_reducible refine(nM.calls a0 a t238 t239 _ k.out).mono ?_);rintro e w' ⟨rfl,⟨l,rfl⟩⟩;refine⟨_,rfl,?_⟩))
 go_ret2;exact⟨by first|rfl|(simp;done)|(simp[*];done),by repeat(first|exact az.refl _|apply az.step)⟩
theorem EI:∀n:Fin 1001,nN.f 1 ((n:Nat):Int)=some (0,((n:Nat):Int)):=by decide+kernel
theorem EJ (n:Nat) (h:n<=1000):nN.f 1 n=some (0,(n:Int)):=EI ⟨n,by omega⟩
theorem EK (k m r:Nat) (a b:Value) (rest:List Value):Go.splice (List.replicate k a++List.replicate (m+r) b++rest) k (List.replicate m a)=List.replicate (k+m) a++List.replicate r b++rest:=by
 unfold Go.splice;have e:(List.replicate k a++List.replicate (m+r) b++rest).take k=List.replicate k a:=by
  rw[List.append_assoc,List.take_left' (by simp)]
 have e2:(List.replicate k a++List.replicate (m+r) b++rest).drop (k+(List.replicate m a).length)=List.replicate r b++rest:=by
  rw[<-List.replicate_append_replicate,<-List.append_assoc,List.append_assoc,List.length_replicate,List.drop_left' (by simp)]
 rw[e,e2,<-List.append_assoc,List.replicate_append_replicate,<-List.append_assoc]
theorem EL (gx s H n:Nat) (z:Int) (w:World) (I:w.cell? ⟨gx,s,none⟩=some (.int .i64 z)) (T:1<=n) (hn:n<=1000):
  Calls Tryz.prog 193 #[.slice (some ⟨gx,s,none⟩) 1 H,.int .i64 n] w fun e w'=>∃g c,e= .returned (.slice (some ⟨g,0,none⟩) n c)/\(Kd.int .i64).R 3 w' w.heap.size (fun _=>True) (.slice (some ⟨g,0,none⟩) n c) (List.replicate n z)/\Below w.heap.size w w':=by
 have hmul:=EJ n hn;have U:(0:Int)<=(n:Int):=by omega
 go_enter Tryz.func193,Tryz.ntmps193
 go_wp2_with (first|(go_at_call 206;refine(nN.calls 1 n 0 n _ hmul).mono ?_;rintro e w1 ⟨rfl,⟨V,rfl⟩⟩)|((with_reducible refine aU (N:=30) rfl ?_);refine Kd.ky (Kd.int .i64) _ 3 rfl (N:=30) rfl 25 _ _ rfl (n:Int) rfl rfl Tryz.underlying25 (.int .i64 0) 8 gz rfl (by decide) (by omega) 0 (ok:=fun _=>True) (okp:=fun _=>True) rfl (fun _ hk=>hk) trivial U (by simp;omega) (aq _ _) (aI _) ?_;intro v1 u x hb W X;rw[aG] at x;obtain⟨a,cr,b,p,Y, -⟩:=Kd.fE x (by rw[List.length_replicate];omega);rw[List.length_replicate] at b;subst b;have l:=zA x;have q:=zA ((bN (aq w.heap.size w) V).trans (hb.mono (by simp)));have J:u.cell? ⟨gx,s,none⟩=some (.int .i64 z):=fU hb (by simpa using I);clear x hb W X))
 have Z:=Kd.ow l.out;obtain⟨aa,h|⟨g',cap,cur,b,ab,B,ad,K,C,y⟩⟩:=Z
 ·cases h.1
 ·injection b with i e2 e3
  injection i with i
  injection i with i _
  subst i e3;rw[List.length_replicate] at ad y;simp only[Nat.mul_one] at C y;obtain⟨rest,ak⟩:∃rest,cur=(List.replicate n (Value.int .i64 0)++rest).toArray:=⟨cur.toList.drop n,by
   rw[<-Array.toList_inj];show cur.toList=List.replicate n (Value.int .i64 0)++cur.toList.drop n
   rw[show List.replicate n (Value.int .i64 0)=cur.toList.take n from by rw[y];simp[bW],List.take_append_drop]⟩
  subst ak;have L:rest.length=cr-n:=by simp at C;omega
  rw[run_copy_row _ u 25 25 3 3 a 0 n cr ⟨gx,s,none⟩ 1 H _ 3 [.int .i64 z] Tryz.underlying25 (by kernel_rfl) B (by show 1=min 1 n;omega) (fun j v o=>by
   cases j with
   |zero=>injection o with o;subst o;simpa [Addr.add] using J
   |succ j=>simp at o) (by simp;omega) (fun v b=>by simp at b;subst b;rfl)]
  simp only[Result.andThen_ok,List.cons_append,List.nil_append,List.take_zero,Nat.zero_add];rw[show ([Value.int .i64 z]:List Value).length=1 from rfl];have i:Value.int .i64 z::(List.replicate n (Value.int .i64 0)++rest).drop 1=List.replicate 1 (Value.int .i64 z)++List.replicate (n-1) (Value.int .i64 0)++rest:=by
   obtain⟨n',rfl⟩:∃n',n=n'+1:=⟨n-1,by omega⟩;simp[List.replicate_succ]
  rw[i];have D:=zA (below_setRow (g:=a) q.out (by simp at p;exact p) ((List.replicate 1 (Value.int .i64 z)++List.replicate (n-1) (Value.int .i64 0)++rest).toArray));have E:=zA (setRow_heap u a _ ((List.replicate 1 (Value.int .i64 z)++List.replicate (n-1) (Value.int .i64 0)++rest).toArray) _ _ B);have M:w.heap.size<=a:=by simp at p;exact p
  clear l q J aa ab B C y i e2 I hmul;generalize u.setRow a (List.replicate 1 (Value.int .i64 z)++List.replicate (n-1) (Value.int .i64 0)++rest).toArray=W6 at D E⊢;have O:=zA L;have am:=zA K;clear L K Y p;rw[show goInt ((1:Nat):Int)=Value.int .i64 1 from rfl];rw[Oper.upon_value];go_wp2;go_loopg [8] (n-1) (fun kq nv wr=>∃k:Nat,nv= .int .i64 k/\1<=k/\k<=n/\Aside0 (wr.heap[a]? =some (.cells (List.replicate k (Value.int .i64 z)++List.replicate (n-k) (Value.int .i64 0)++rest).toArray 3 (0,0)))/\Aside0 (Below w.heap.size w wr)/\Aside0 (kq=n-k))
  case atStart=>exact⟨1,rfl,by omega,T,E,D,⟨rfl⟩⟩
  case round=>
   clear D E;obtain⟨k,rfl,aS,a0,F,q,HK⟩:=hrel;by_cases a1:k<n
   ·have a2:(0:Int)<=(k:Int):=by omega
    have a3:(k:Int)<(n:Int):=by omega
    have a4:(k:Int)<=(cr:Int):=by omega
    have a5:(n:Int)<=(cr:Int):=by omega
    obtain⟨m,hm⟩:∃m,m=min k (n-k):=⟨_,rfl⟩;obtain⟨r,P⟩:∃r,n-k=m+r:=⟨n-k-m,by omega⟩;have a9:¬cr=k:=by omega
    have av:Aside0 (∀(j:Nat) (v:Value),(List.replicate m (Value.int .i64 z))[j]? =some v->wr.drew.cell? ((⟨a,0,none⟩:Addr).add j)=some v):=⟨fun j v o=>by
     obtain⟨aB,b⟩:=List.getElem?_eq_some_iff.1 o;rw[List.length_replicate] at aB;rw[List.getElem_replicate] at b;subst b;have h:=cell_of_row wr a j _ _ _ F.out;rw[List.getElem?_toArray,List.append_assoc,List.getElem?_append_left (by rw[List.length_replicate];omega),List.getElem?_replicate,if_pos (by omega)] at h;by_cases e:j=0
     ·subst e;simpa [Addr.add] using h
     ·simpa [Addr.add,e] using h⟩
    have be:(m:Int)<=1000:=by omega
    have bf:(0:Int)<=(m:Int):=by omega
    have bg:(k:Int)<=1000:=by omega
    have G:=zA hm;have l:=zA P;clear hm P;go_wp2;go_region_law (refine step_copy_splice rfl (.tmp 41) (.tmp 44) 25 25 rfl 3 Tryz.underlying25 (by kernel_rfl) (some ⟨a,k,none⟩) (some ⟨a,0,none⟩) (n-k) (cr-k) k cr (by go_simp) (by go_simp) a k (List.replicate k (Value.int .i64 z)++List.replicate (n-k) (Value.int .i64 0)++rest) 3 F.out (List.replicate m (Value.int .i64 z)) (by have:=G.out;rw[List.length_replicate];show m=min k (n-k);omega) (fun _=>⟨rfl,_,rfl,av.out⟩) (by have:=O.out;have:=G.out;simp;omega) (fun v b=>by rw[List.eq_of_mem_replicate b];rfl) w.heap.size w (bR q.out) M ?_;intro w4 Q S)
    have aL:Aside0 (w4.heap[a]? =some (.cells (List.replicate (k+m) (Value.int .i64 z)++List.replicate (n- (k+m)) (Value.int .i64 0)++rest).toArray 3 (0,0))):=⟨by
     have h:=Q;rw[l.out] at h;rw[show n- (k+m)=r from by have:=l.out;omega,<-EK k m r (.int .i64 z) (.int .i64 0) rest];first|exact h|(rw[List.append_assoc];exact h)⟩
    have aO:=zA S;clear Q S;have bi:=G.out;have bk:=l.out;go_wp2;go_roundg (n- (k+m))
    case measure=>rw[HK.out];omega
    case rel=>exact⟨k+m,(by rw[IntWalk.i64_in ((k:Int)+(m:Int)) (by omega)];go_num),by omega,by omega,aL,aO,⟨rfl⟩⟩
   ·obtain rfl:k=n:=by omega
    go_wp2;go_ret;exact⟨a,cr,rfl,Kd.mU ⟨by simp[bW],.inr ⟨a,cr,_,by simp,M,F.out,by simp;omega,am.out,by have:=O.out;simp;omega,by simp[bW]⟩⟩ (fun _ _=>trivial),q.out⟩
end Go.Proofs.YtffdiakgjakngaaGreat.P


namespace Go.Proofs.YtffdiakgjakngaaGreat.P
open Go.RowKit Go.Proofs.YtffdiakgjakngaaGreatW.PrintWords Go.Proofs.YtffdiakgjakngaaGreatW.PrintLast Go.Proofs.YtffdiakgjakngaaGreatW.PrintMore
set_option linter.unusedVariables false
set_option linter.unusedSimpArgs false
set_option maxHeartbeats 8000000
set_option maxRecDepth 100000
section
attribute [local go_sem] Oper.semAt_some
theorem cO.wA {α:Type} {d:Kd α} {e base a b:Nat} {ok:Nat->Prop} {ds:List Deferred} {v:Value} {xs:List α} {W w1:World} (h:cO a b ds W) (i:d.Q e W base ok v xs) (j:W.grownBy w1 v.ownBlock):cO a b ds w1:=
 h.iY fun D _ hd=>(j.block D (Array.getElem?_eq_some_iff.1 hd).1 (fun e=>by
  obtain⟨cells,g⟩:=Kd.tw i D e.symm;rw[hd] at g;cases g)).trans hd
structure DI (w:World) (b3 b4 go co n lo hi:Nat) (out:List Int) (qv:Value) (Q:List Nat) (W:World):Prop where
 hb:Below w.heap.size w W
 x3:W.heap[b3]? =some (.cells #[.slice (some ⟨go,0,none⟩) n co] 25 (0,0))
 x4:W.heap[b4]? =some (.cells #[qv] 25 (0,0))
 ro:(Kd.int .i64).R 3 W w.heap.size (fun _=>True) (.slice (some ⟨go,0,none⟩) n co) out
 rq:(Kd.int .i64).Q 3 W w.heap.size (fun k=>k≠go/\(k<lo\/hi<=k)) qv (Q.map fun x:Nat=>(x:Int))
 ne:b3≠b4/\go≠b3/\go≠b4/\w.heap.size<=b3/\w.heap.size<=b4
theorem EM {α:Type} {d:Kd α} {e base l:Nat} {ok:Nat->Prop} {v:Value} {xs:List α} {A B:World} (h:d.Q e A base ok v xs) (hb:Bk l A B):d.Q e B base ok v xs:=
 Kd.l_ (Kd.tn (Kd.oB h) (fun k hk=>by obtain⟨_,_,_,q,_,cells,a⟩:=hk;exact(hb.cells a).trans a.symm)) (fun k hk=>hk.1)
section
variable {F:Fence} {n:Nat} {P:Program} {ops:Array Oper} {rest:List Oper} {o:Oper} {a:Act} {Q':Exit->Act->World->Prop} {α:Type}
theorem wB (d:Kd α) {w0 W:World} (base:Nat) (j:o.guard=none) (s x:Operand) (t e:TypeId) (z:Value) (bytes:Nat)
  (g:o.op= .call {callee:=.builtin .append,args:=#[s,x],argTypes:=#[t,t]})
  (l:P.underlying t=some (.slice e)) (m:(P.info? e).map (fun i=>(i.zero,i.size,i.bytes))=some (some z,d.sz,bytes)) (q:z.cells.size=d.sz) (r:0<d.sz) (u:0<bytes)
  (v:Value) (xs:List α) (p:α) (cs:List Value) (ok okp:Nat->Prop) (w:a.eval s=v) (y:a.eval x= .slice (some ⟨W.heap.size,0,none⟩) 1 1) (hp:d.M W base okp p cs) (B:∀k,okp k->ok k/\some k≠v.ownBlock) (C:∀k,W.heap.size<=k->ok k)
  (D:d.Q e W base ok v xs) (E:Below base w0 W) (G:base<=W.heap.size) (H:(xs.length+1)*bytes<=140737488355328)
  (h:∀v1 w1,d.Q e w1 base ok v1 (xs++[p])->Below base w0 w1->W.grownBy w1 v.ownBlock->(v1.ownBlock=v.ownBlock\/∃b,v1.ownBlock=some b/\W.heap.size<=b)->wpListIn F n P ops Q' rest (a.put o.dst v1) w1):
  wpListIn F n P ops Q' (o::rest) a (W.alloc (.cells cs.toArray e)):=by
 obtain⟨v1,w1,I,h1,J,L,N⟩:=Kd.zV (P:=P) d base t o.type e z bytes l m q r u v xs p cs ok okp hp B C D E G H;refine wpListIn_plain j fun K O=>?_
 unfold Oper.wpIn;refine⟨?_,?_⟩
 ·simp[Oper.about,g,resolve,Target.leads,Sem.run_pure]
 ·rw[Oper.semAt_plain F _ _ (by rw[g];intro c R;cases R)]
  simp[execOp,g,resolve,invoke,builtin,w,y,I,Result.andThen];exact O _ _ (h v1 w1 h1 J L N)
end
theorem wC {α:Type} {d:Kd α} {e base nw:Nat} {ok:Nat->Prop} {v:Value} {xs:List α} {W w1:World} (g:d.Q e W base ok v xs) (h:W.grownBy w1 v.ownBlock):cB nw W w1:=fun k o h1 j b i=>by
 refine(h.block k (Array.getElem?_eq_some_iff.1 b).1 (fun e=>?_)).trans b;obtain⟨cells,a⟩:=Kd.tw g k e.symm;rw[b] at a;injection a with a;subst a;simp[Obj.isCells] at i
theorem Bf.mK {n q:Nat} {nb:Nat->Nat->Prop} {out:List Int} {Q:List Nat} {D:Int} {ex a:Nat->Nat->Prop} (h:Bf n q nb out Q D ex) (hex:∀x y,ex x y->a x y):Bf n q nb out Q D a:=
 ⟨h.len,h.q0,h.lo,h.hi,h.qv,h.nJ,h.top,h.d0,h.back,fun v b e hn u hu g he=>h.kS v b e hn u hu g (fun k=>he (hex v u k))⟩
def pH (v:Nat) (pre:List (Int×Int)) (x y:Nat):Prop:=x=v/\¬∃m,((y:Int),m)∈pre
theorem Bf.done {n q:Nat} {nb:Nat->Nat->Prop} {out:List Int} {Q:List Nat} {D:Int} {ex:Nat->Nat->Prop} (h:Bf n q nb out Q D ex) (hex:∀x y,nb x y->¬ex x y):Bf n q nb out Q D (fun _ _=>False):=
 ⟨h.len,h.q0,h.lo,h.hi,h.qv,h.nJ,h.top,h.d0,h.back,fun v b e hn u hu a _=>h.kS v b e hn u hu a (hex v u a)⟩
namespace DI
variable {w W W':World} {b3 b4 go co n lo hi lo' hi' l:Nat} {out:List Int} {qv:Value} {Q:List Nat}
theorem below (h:DI w b3 b4 go co n lo hi out qv Q W) (hb:Below W.heap.size W W'):DI w b3 b4 go co n lo hi out qv Q W':=⟨aW h.hb hb,aD h.x3 hb,aD h.x4 hb,Kd.cY h.ro hb,Kd.tp h.rq hb,h.ne⟩
theorem alloc (h:DI w b3 b4 go co n lo hi out qv Q W) (o:Obj):DI w b3 b4 go co n lo hi out qv Q (W.alloc o):=h.below (ao (aq _ _) o)
theorem drewN (h:DI w b3 b4 go co n lo hi out qv Q W) (m:Nat):DI w b3 b4 go co n lo hi out qv Q (W.drewN m):=h.below (bN (aq _ _) m)
theorem bk (h:DI w b3 b4 go co n lo hi out qv Q W) (hb:Bk l W W') (a:w.heap.size<=l):DI w b3 b4 go co n lo hi out qv Q W':=⟨h.hb.trans (hb.below _ a),hb.cells h.x3,hb.cells h.x4,dD h.ro hb,EM h.rq hb,h.ne⟩
theorem ld (h:DI w b3 b4 go co n lo hi out qv Q W):go<W.heap.size/\b3<W.heap.size/\b4<W.heap.size/\w.heap.size<=go:=⟨Kd.ba h.ro go rfl,aC h.x3,aC h.x4,Kd.dK h.ro go rfl⟩
theorem wD (h:DI w b3 b4 go co n lo hi out qv Q W) (v:Nat) (x:Int):DI w b3 b4 go co n lo hi (out.set v x) qv Q (W.setCell ⟨go,v,none⟩ (.int .i64 x)):=by
 obtain⟨h1,g,i,b⟩:=h.ld;have a:=Kd.dh h.ro (v:Int) x;rw[aG] at a;exact⟨Below.setCell h.hb b _,aE h.x3 (fun e=>h.ne.2.1 e.symm) _,aE h.x4 (fun e=>h.ne.2.2.1 e.symm) _,a.1,Kd.zJ h.rq a.2 (fun k hk e=>by injection e with e;exact hk.1 e),h.ne⟩
theorem wE (h:DI w b3 b4 go co n lo hi out qv Q W) {qv':Value} {Q':List Nat} (a:(Kd.int .i64).Q 3 W w.heap.size (fun k=>k≠go/\(k<lo'\/hi'<=k)) qv' (Q'.map fun x:Nat=>(x:Int))):DI w b3 b4 go co n lo' hi' out qv' Q' (W.setCell ⟨b4,0,none⟩ qv'):=by
 obtain⟨h1,b,g,i⟩:=h.ld;refine⟨Below.setCell h.hb h.ne.2.2.2.2 _,aE h.x3 h.ne.1 _,by simpa using bV h.x4 0 qv',?_,?_,h.ne⟩
 ·exact Kd.a_ (Kd.fC (Kd.ia rfl h.ro) (fun k hk=>Below.heap_setCell _ _ _ _ (fun e=>by injection hk with hk;exact h.ne.2.2.1 (hk.symm.trans e)))) (fun _ _=>trivial)
 ·exact Kd.tq a h.x4 (fun q a=>by rcases List.mem_cons.1 a with rfl|h;decide;cases h) 0 qv'
theorem c3 (h:DI w b3 b4 go co n lo hi out qv Q W):W.cell? ⟨b3,0,none⟩=some (.slice (some ⟨go,0,none⟩) n co):=(ah h.x3 0).trans rfl
theorem c4 (h:DI w b3 b4 go co n lo hi out qv Q W):W.cell? ⟨b4,0,none⟩=some qv:=(ah h.x4 0).trans rfl
theorem kb (h:DI w b3 b4 go co n lo hi out qv Q W) (v:Nat) (a:v<n):W.cell? ⟨go,v,none⟩=some (.int .i64 (rd out v)):=by
 have:=(Kd.bO 0 h.ro (v:Int) (by omega) (by omega)).1;rw[aG] at this;exact this
theorem wF (h:DI w b3 b4 go co n lo hi out qv Q W) (v:Nat) (a:v<n):W.frozen? ⟨go,v,none⟩=false:=by
 have:=(Kd.bO 0 h.ro (v:Int) (by omega) (by omega)).2;rw[aG] at this;exact this
theorem free (h:DI w b3 b4 go co n lo hi out qv Q W):DI w b3 b4 go co n 0 0 out qv Q W:=⟨h.hb,h.x3,h.x4,h.ro,Kd.l_ h.rq (fun k hk=>⟨hk.1,.inr (Nat.zero_le _)⟩),h.ne⟩
theorem own (h:DI w b3 b4 go co n lo hi out qv Q W):∀k,qv.ownBlock=some k->k≠go/\(k<lo\/hi<=k)/\w.heap.size<=k/\k≠b3/\k≠b4:=fun k hk=>⟨(h.rq.1 k hk).1,(h.rq.1 k hk).2,Kd.zP h.rq k hk,fun e=>Kd.tr h.rq h.x3 (by decide) (by rw[hk,e]),fun e=>Kd.tr h.rq h.x4 (by decide) (by rw[hk,e])⟩
theorem push (h:DI w b3 b4 go co n lo hi out qv Q W) {v1:Value} {w1:World} {u:Nat} (a:(Kd.int .i64).Q 3 w1 w.heap.size (fun k=>k≠go/\(k<lo\/hi<=k)) v1 (Q.map (fun x:Nat=>(x:Int))++[(u:Int)])) (b:W.grownBy w1 qv.ownBlock) (hb:Below w.heap.size w w1):DI w b3 b4 go co n lo hi out v1 (Q++[u]) (w1.setCell ⟨b4,0,none⟩ v1):=by
 have i:=dc h.x3 b (fun e=>(h.own b3 e.symm).2.2.2.1 rfl);have g:=dc h.x4 b (fun e=>(h.own b4 e.symm).2.2.2.2 rfl);have ro:=Kd.iS h.ro rfl b (fun e=>(h.own go e).1 rfl);refine⟨Below.setCell hb h.ne.2.2.2.2 _,aE i h.ne.1 _,by simpa using bV g 0 v1,?_,?_,h.ne⟩
 ·exact Kd.a_ (Kd.fC (Kd.ia rfl ro) (fun k hk=>Below.heap_setCell _ _ _ _ (fun e=>by injection hk with hk;exact h.ne.2.2.1 (hk.symm.trans e)))) (fun _ _=>trivial)
 ·rw[List.map_append]
  exact Kd.tq a g (fun q a=>by rcases List.mem_cons.1 a with rfl|h;decide;cases h) 0 v1
end DI
def lS (E:List S83) (v u:Nat):Prop:=∃m,(((u:Nat):Int),m)∈cJ E v E.length
theorem EN (g n:Nat) (A0:Option Addr) (c0:Nat) (E:List S83) (q:Nat) (dv sv:Value) (er:Int) (w:World) (f':Kd.C aN w A0 E.length E) (hE:ez n E) (hn:n<=1000) (hq:q<n)
  (N:ik w g n (.slice A0 E.length c0) q dv sv er):
  Calls Tryz.prog 165 #[.pointer (some ⟨g,0,none⟩)] w fun e w'=>∃(go co:Nat) (out:List Int) (D:Int),e= .returned (.slice (some ⟨go,0,none⟩) n co)/\(Kd.int .i64).R 3 w' w.heap.size (fun _=>True) (.slice (some ⟨go,0,none⟩) n co) out/\Below w.heap.size w w'/\Bf n q (lS E) out [] D (fun _ _=>False):=by
 have hX:=Tryz.underlying188;have hu:=Tryz.underlying24;have HE:=zA hE;have c7:=zA N;have hY:=aC N;have he:1<=n:=by omega
 have h0:(0:Int)<=(q:Int):=by omega
 have h7:(q:Int)<(n:Int):=by omega
 have hx:=(ah (a7 w (.cells #[.int .i64 (-1)] 3)) 0).trans rfl;have s0:(w.alloc (.cells #[.int .i64 (-1)] 3)).cell? ⟨g,0,none⟩=some (.int .i64 n):=(ah (au N _) 0).trans rfl;clear hE N;refine(callsIn_wide (n:=10)).1 ?_;refine callsIn_of_wp_marks Tryz.func165 rfl trivial ?_ rfl;simp only[Tryz.ntmps165,List.size_toArray,List.length_cons,List.length_nil,Nat.reduceAdd,Nat.reduceSub,Array.replicate_succ,Array.replicate_zero,List.push_toArray,List.append_toArray,List.nil_append,List.cons_append];gi_wp2_with (first|(refine⟨trivial,?_⟩;gi_at_call 193;refine(callsIn_wide.2 (EL w.heap.size 0 1 n (-1) _ hx he hn)).mono ?_;rintro e w3 ⟨go,co,rfl,hR,hB⟩))
 have ea:=aW (ao (aq w.heap.size w) _) hB;have hf:w.heap.size<=go:=by have:=Kd.dK hR go rfl;simp at this;omega
 have hg:=Kd.ba hR go rfl;have c9:Aside0 ((Kd.int .i64).R 3 (w3.alloc (.cells #[.slice (some ⟨go,0,none⟩) n co] 25)) w.heap.size (fun _=>True) (.slice (some ⟨go,0,none⟩) n co) (List.replicate n (-1))):=⟨Kd.aM (Kd.bd hR (by simp)) _⟩;have dd:=zA (ao ea (.cells #[.slice (some ⟨go,0,none⟩) n co] 25));have b_:=zA (a7 w3 (.cells #[.slice (some ⟨go,0,none⟩) n co] 25));have hh:w.heap.size<=w3.heap.size:=ea.size;have dk:(w3.alloc (.cells #[.slice (some ⟨go,0,none⟩) n co] 25)).heap.size=w3.heap.size+1:=by simp
 clear hR hB ea hx s0;obtain⟨b3,ge⟩:∃b,b=w3.heap.size:=⟨_,rfl⟩;rw[<-ge] at b_ hh dk hg⊢;clear ge;generalize w3.alloc (.cells #[.slice (some ⟨go,0,none⟩) n co] 25)=W1 at c9 dd b_ dk⊢;have y0:=(ah b_.out 0).trans rfl;have y1:W1.cell? ⟨g,2,none⟩=some (.int .i64 q):=(ah (aD c7.out dd.out) 2).trans rfl;obtain⟨y2,y3⟩:=Kd.bO 0 c9.out (q:Int) (by omega) (by omega);rw[aG] at y2 y3;generalize bM 0 (List.replicate n (-1)) (q:Int)=xq at y2;replace y2:W1.cell? ⟨go,q,none⟩=some (.int .i64 xq):=y2;have HP:=Kd.dh c9.out (q:Int) (0:Int);rw[aG] at HP;have ca:=zA (Kd.bj HP.1);have ed:=zA (eZ (dc (g:=b3) b_.out HP.2 (fun e=>by injection e with e;omega)));have dx:=zA (bR (Below.setCell (p:=⟨go,q,none⟩) dd.out hf (.int .i64 0)));have cb:(W1.setCell ⟨go,q,none⟩ (.int .i64 0)).drew.heap.size=b3+1:=by simp[dk]
 clear HP;gi_region
 replace ca:Aside0 ((Kd.int .i64).R 3 (W1.setCell ⟨go,q,none⟩ (.int .i64 0)).drew w.heap.size (fun _=>True) (.slice (some ⟨go,0,none⟩) n co) ((List.replicate n (-1)).set q 0)):=ca;clear y0 y1 y2 y3 c9 b_ dd dk;generalize (W1.setCell ⟨go,q,none⟩ (.int .i64 0)).drew=W2 at ca ed dx cb⊢;have y1:W2.cell? ⟨g,2,none⟩=some (.int .i64 q):=(ah (aD c7.out dx.out) 2).trans rfl;gi_wp2;have eg:Aside0 (DI w b3 (b3+1+1) go co n 0 0 ((List.replicate n (-1)).set q 0) (.slice (some ⟨b3+1,0,none⟩) 1 1) [q] ((W2.alloc (.cells #[.int .i64 q] 3)).alloc (.cells #[.slice (some ⟨b3+1,0,none⟩) 1 1] 25))):=⟨by
  have Z1:=a7 W2 (.cells #[.int .i64 q] 3);have Z2:=a7 (W2.alloc (.cells #[.int .i64 q] 3)) (.cells #[.slice (some ⟨b3+1,0,none⟩) 1 1] 25);rw[World.size_alloc,cb] at Z2;rw[cb] at Z1;refine⟨ao (ao dx.out _) _,au (au ed.out _) _,Z2,Kd.aM (Kd.aM ca.out _) _,Kd.zH (Kd.mU ⟨by simp[bW],.inr ⟨b3+1,1,_,rfl,by omega,au Z1 _,by simp,by decide,by simp,by simp[bW]⟩⟩ (fun k hk=>by cases hk;exact⟨by show b3+1≠go;omega,.inr (Nat.zero_le _)⟩)),by omega,by omega,by omega,by omega,by omega⟩⟩
 have gi:=zA (Bf.start (nb:=lS E) hq);have gl:((W2.alloc (.cells #[.int .i64 q] 3)).alloc (.cells #[.slice (some ⟨b3+1,0,none⟩) 1 1] 25)).heap.size=b3+3:=by simp[cb]
 clear ca ed dx cb y1;generalize (W2.alloc (.cells #[.int .i64 q] 3)).alloc (.cells #[.slice (some ⟨b3+1,0,none⟩) 1 1] 25)=W4 at eg gl⊢;refine uV (b3+3) (fun kq tm wr=>∃(u5 u25 u26 u27 u28 u29 u30 u31 u32 u33 u34 u35:Value) (out:List Int) (qv:Value) (Q:List Nat) (D:Int),Aside0 (DI w b3 (b3+1+1) go co n 0 0 out qv Q wr)/\Aside0 (Bf n q (lS E) out Q D (fun _ _=>False))/\b3+3<=wr.heap.size/\Aside0 (kq=2*(n-b7 out)+Q.length/\kq<=2*n+1)/\tm=#[.pointer (some ⟨g,0,none⟩),undef,.slice none 0 0,.pointer (some ⟨b3,0,none⟩),.pointer (some ⟨b3+1+1,0,none⟩),u5,undef,.slice (some ⟨w.heap.size,0,none⟩) 1 1,.pointer (some ⟨g,0,none⟩),.pointer (some ⟨g,0,none⟩),.pointer (some ⟨g,0,none⟩),.pointer (some ⟨g,0,none⟩),.int .i64 n,.slice (some ⟨go,0,none⟩) n co,.slice (some ⟨go,0,none⟩) n co,.pointer (some ⟨g,0,none⟩),.pointer (some ⟨g,0,none⟩),.pointer (some ⟨g,2,none⟩),.int .i64 q,.pointer (some ⟨go,q,none⟩),.pointer (some ⟨g,0,none⟩),.pointer (some ⟨g,0,none⟩),.pointer (some ⟨g,2,none⟩),.int .i64 q,.slice (some ⟨b3+1,0,none⟩) 1 1,u25,u26,u27,u28,u29,u30,u31,u32,u33,u34,u35,undef,undef,undef,undef,undef,undef,undef,undef,undef,undef,undef,undef,undef,undef,undef,undef,undef,undef,undef,undef]) (2*(n-b7 ((List.replicate n (-1)).set q 0))+1) ⟨_,_,_,_,_,_,_,_,_,_,_,_,_,_,_,_,eg,gi,by omega,⟨rfl,by omega⟩,rfl⟩ (b3+3) (by omega) (cO.nil _ _ _) ?_;clear eg gi gl;rintro gk tm wr ⟨u5,u25,u26,u27,u28,u29,u30,u31,u32,u33,u34,u35,out,qv,Q,D,V,HF,aY,HK,rfl⟩ ds b hb gn J K hJ Y;have gr:=zA gn;have HJ:=zA hJ;clear gn hJ;have x4:=V.out.c4;have x3:=V.out.c3;cases Q with
 |nil=>
  obtain⟨A,c,rfl, -⟩:=Kd.oC V.out.rq;have hp:((([]:List Nat).map fun x:Nat=>(x:Int)).length:Int)=0:=rfl;simp only[List.map_nil,List.length_nil] at x4;clear hp Y;gi_wp2;refine(uU gr.out fun w' gt=>?_).1;exact⟨_,results_tmp rfl _ _ _,go,co,rfl,out,gt.R V.out.ro,V.out.hb.trans (gt.lI.mono (by omega)),D,HF.out⟩
 |cons v rest=>
  obtain⟨gq,oq,cq,rfl,h9,h_, -⟩:=Kd.Aw V.out.rq (by simp);have hr:=HF.out.qv v (List.mem_cons_self ..);have a0:=hr.1;have cc:=(Kd.Az 0 V.out.rq 0 (by omega) (by simp)).1;have gx:=Kd.l_ (Kd.oB (Kd.zQ (k:=1) V.out.rq (by simp))) (ok':=fun k=>k≠go/\(k<wr.heap.size\/wr.heap.size+3<=k)) (fun k hk=>⟨hk.1.1,.inl hk.2.2.1⟩);obtain⟨A',c',ha,hl⟩:=Kd.oC V.out.rq;injection ha with hv hw hy
  subst hy;have d3:=zA (a7 wr (.cells #[.int .i64 v] 3));have a1:=zA (V.out.alloc (.cells #[.int .i64 v] 3));have d4:=zA (gr.out.below (ao (aq _ _) (.cells #[.int .i64 v] 3)));have cd:=zA (Kd.zI gx (.cells #[.int .i64 v] 3));simp only[List.map_cons,List.length_cons,List.length_map,List.drop_succ_cons,List.drop_zero,Nat.add_sub_cancel] at x4 cc cd hl;replace cc:wr.cell? ⟨gq,oq,none⟩=some (.int .i64 v):=cc;obtain⟨L,hL⟩:∃L,L=rest.length+1:=⟨_,rfl⟩;rw[<-hL] at x4 hl;have g0:(1:Int)<=(L:Int):=by omega
  have g5:(L:Int)<=(cq:Int):=by omega
  have g6:(0:Int)<(L:Int):=by omega
  have d6:=a1.out.c4;simp only[List.map_cons,List.length_cons,List.length_map] at d6;rw[<-hL] at d6;have g7:=zA hL;clear hv hw hL gx;have g8:=bF a1.out.x4 0;have g9:=zA (Bf.pop HF.out);have ib:=HF.out.len;by_cases d7:cq=1
  ·subst d7
   obtain rfl:L=1:=by omega
   obtain⟨Z,a2⟩:∃Z,Z=Value.slice (some ⟨gq,oq,none⟩) 0 0:=⟨_,rfl⟩;have a3:=zA (a1.out.wE (lo':=wr.heap.size) (hi':=wr.heap.size+3) (qv':=Z) (Q':=rest) (by have h:=cd.out;rw[if_pos rfl,show rest.length=0 by have:=g7.out;omega] at h;rw[a2];exact h));gi_wp2_with (first|(refine⟨trivial,?_⟩;gi_at_call 194;refine(callsIn_wide.2 (mE g v _)).mono ?_;rintro e w3 ⟨rfl,rfl⟩))
   rw[<-a2];obtain⟨M,aa⟩:∃X,X=(wr.alloc (.cells #[.int .i64 v] 3)).setCell ⟨b3+1+1,0,none⟩ Z:=⟨_,rfl⟩;have ce:Aside0 (M.heap[wr.heap.size]? =some (.cells #[.int .i64 v] 3 (0,0))):=⟨by rw[aa];exact aE d3.out (show wr.heap.size≠b3+1+1 by omega) _⟩;have cf:M.heap.size=wr.heap.size+1:=by rw[aa];simp
   have cg:Aside0 (cO (b3+3) b ds M):=⟨by rw[aa];exact d4.out.set a1.out.x4 _⟩;rw[<-aa] at a3⊢;have Z1:=a7 M (.cells #[.pointer (some ⟨g,0,none⟩)] 135);have Z2:=heap_alloc2_new M (.cells #[.pointer (some ⟨g,0,none⟩)] 135) (.cells #[.int .i64 v] 3);rw[cf] at Z1 Z2;have O:=zA ((a3.out.alloc (.cells #[.pointer (some ⟨g,0,none⟩)] 135)).alloc (.cells #[.int .i64 v] 3));have ar:=zA (au (au ce.out (.cells #[.pointer (some ⟨g,0,none⟩)] 135)) (.cells #[.int .i64 v] 3));have av:=zA ((cg.out.below (ao (aq _ _) (.cells #[.pointer (some ⟨g,0,none⟩)] 135))).below (ao (aq _ _) (.cells #[.int .i64 v] 3)));have a4:=zA (au Z1 (.cells #[.int .i64 v] 3));have a5:=zA Z2;have aB:=zA (aD c7.out O.out.hb);have a9:((M.alloc (.cells #[.pointer (some ⟨g,0,none⟩)] 135)).alloc (.cells #[.int .i64 v] 3)).heap.size=wr.heap.size+3:=by simp[cf]
   have es:=Nat.le_of_eq a9;have ev:=Nat.le_of_eq a9.symm;clear a9;clear d3 d4 a1 cd a3 ce cg Z1 Z2 aa a2 V x4 d6 x3 cc g8 g0 g5 g6 hl;generalize (M.alloc (.cells #[.pointer (some ⟨g,0,none⟩)] 135)).alloc (.cells #[.int .i64 v] 3)=r at O ar av a4 a5 aB es ev⊢;refine iU (σ:=Unit) (α:=Int×Int) (F:=Fence.wide) (n:=10) rfl (by decide) (gf:=207) (lb:=#[.pointer (some ⟨wr.heap.size+1,0,none⟩),.pointer (some ⟨wr.heap.size+1+1,0,none⟩)]) rfl trivial (enters_of Tryz.func207 (by kernel_rfl) rfl)
    (fun o=>q_ (wr.heap.size+1) (wr.heap.size+1+1) g n A0 c0 E q dv sv er v w _ f' HE.out hn a0 (ao (ao O.out.hb _) _) (au (au a4.out _) _) (au (au a5.out _) _) (au (au aB.out _) _)) (fun _=>rfl)
    (fun _=>True) ?Ki ?st1 ?J7
    (fun _ pre W=>r.heap.size<=W.heap.size/\∃(a:List Int) (qv':Value) (Q':List Nat),DI w b3 (b3+1+1) go co n wr.heap.size (wr.heap.size+3) a qv' Q' W/\Bf n q (lS E) a Q' (rd a v) (pH v pre)/\2*(n-b7 a)+Q'.length<=2*(n-b7 out)+rest.length/\W.heap[wr.heap.size]? =some (.cells #[.int .i64 v] 3 (0,0))/\cO (b3+3) b ds W) (fun _ _ _ _=>False)
    ?Kk (fun _ _ _ _ _ _ h _=>h) ?Kg (fun _ _ _ _ _ h _=>h) ?Ka ?J9 ?L7 ?Kh ?JZ ?J_ (fun _ _ _ _ _ _ _ h=>h.elim)
   case Kh=>
    intro l x W K Y;gi_wp2;exact Y
   case Ki=>
    intro o s W1 h;exact⟨trivial,by rw[h];exact cB.refl _ _⟩
   case st1=>intro s A B _ h;exact di h
   case J7=>intro s x A B _ h;exact di h.2
   case Kk=>
    rintro s pre A B _ ⟨P,a,qv',Q',h1,z,h4,h5,h6⟩ N;exact⟨Nat.le_trans P N.size,a,qv',Q',h1.below N,z,h4,aD h5 N,h6.below N⟩
   case Kg=>
    rintro s pre A B ⟨P,a,qv',Q',h1,z,h4,h5,h6⟩ aF;exact⟨by rw[aF.size];exact P,a,qv',Q',h1.bk aF (by omega),z,h4,aF.cells h5,h6.bk aF (by omega)⟩
   case Ka=>
    intro s A B C D aL ch ci;refine⟨fun aY=>((aL.below w.heap.size (by omega)).trans (ch.1 (by rw[aL.size];exact aY))).trans (ci.below w.heap.size (by omega)),fun k hk cj=>?_⟩;have ck:k≠r.heap.size+1:=by rcases hk with rfl|rfl|rfl<;>omega
    exact(ci.heap k ck).trans ((ch.2 k hk (by rw[aL.size];exact cj)).trans (aL.heap k ck))
   case J9=>
    rintro o s W1 rfl;exact⟨by simp;omega,out,Z,rest,(O.out.alloc _).alloc _,g9.out.mK (fun x y h=>⟨h,by simp⟩),aI _,au (au ar.out _) _,(av.out.below (ao (aq _ _) _)).below (ao (aq _ _) _)⟩
   case JZ=>
    rintro l s' pre ⟨u,m⟩ Wb Wc W _ ⟨P,a,qv',Q',i1,i2,i4,i5,i6⟩ ⟨⟨cl,ew⟩,ab⟩ ey H;have G:=zA ((i1.below ab).bk H (by omega));have S:=zA i4;have I5:=zA (H.cells (aD i5 ab));have I6:=zA ((i6.below ab).bk H (by omega));have aP:r.heap.size<=W.heap.size:=by have:=H.size;have:=ab.size;omega
    clear i1 i4 i5 i6 ab H ey P;simp only at cl;obtain⟨u0,u1,m0,m1⟩:=cl;obtain⟨u,rfl⟩:=Int.eq_ofNat_of_zero_le u0;have aR:u<n:=by omega
    obtain⟨l1,l2⟩:=Bf.look (ex:=fun y=>¬∃m,((y:Int),m)∈pre) i2 aR a0 ⟨m,ew⟩;have hC:=i2.d0;have hD:rd a v<=1000:=by have h1:=i2.hi v a0;have z:=j8 a;have h3:=i2.len;omega
    have e0:=zA i2.len;have z3:=G.out.c3;have z4:=G.out.kb u aR;have cp:∀(ex:Nat->Prop) (x y:Nat),(x=v/\(¬∃m,((y:Int),m)∈pre)/\y≠u)->pH v (pre++[((u:Int),m)]) x y:=fun ex x y h=>⟨h.1,fun⟨m',ag⟩=>by
     rcases List.mem_append.1 ag with ag|ag
     ·exact h.2.1 ⟨m',ag⟩
     ·have:=List.mem_singleton.1 ag
      injection this with e1 e2
      exact h.2.2 (by omega)⟩
    have cr:=zA cp;clear cp i2;by_cases bi:rd a u<0
    ·obtain⟨k1,k2,k3,k4⟩:=l2 bi
     have K2:=zA k2;have K3:=zA k3;have K4:=zA (k4.mK (cr.out (fun _=>True)));have e6:decide (rd a u<0)=true:=ay bi;clear l1 l2 k1 k2 k3 k4;gi_wp2;have z3:=G.out.c3;have z4:=G.out.kb v a0;have z5:=(ah I5.out 0).trans rfl;have e_:wrap64 (rd a v+1)=rd a v+1:=by unfold wrap64;omega
     have hI:(0:Int)<=(u:Int):=by omega
     have hM:(0:Int)<=(v:Int):=by omega
     have bv:(v:Int)<(n:Int):=by omega
     refine pE [_,_,_,_,_,_,_,_] _ rfl (by kernel_rfl) rfl (by kernel_rfl) (by kernel_rfl) (by kernel_rfl) (by kernel_rfl) ?_;repeat(gi_big_quiet_step (fail))
     refine wpQuietIn_nil ?_;rintro _ ⟨nq,rfl⟩;have I:=zA (G.out.drewN nq);have J5:=zA (iB I5.out nq);have J6:=zA (I6.out.below (bN (aq _ _) nq));have b0:r.heap.size<=(W.drewN nq).heap.size:=by simpa using aP
     have b1:=zA (di (nw:=r.heap.size) (bN (aq W.heap.size W) nq));have b2:=zA (bN (aq w.heap.size W) nq);have b4:Aside0 (∀k,k≠go->(W.drewN nq).heap[k]? =W.heap[k]?):=⟨fun k _=>by simp⟩;clear z3 z4 z5 e_;have z5:=I.out.wF u aR;have z6:=I.out.kb u aR;generalize W.drewN nq=Wq at I J5 J6 b0 b1 b2 b4 z5 z6⊢;obtain⟨g1,g2,g3,g4⟩:=I.out.ld;obtain⟨n1,n2,n3,n4,n5⟩:=I.out.ne;have i:=zA (I.out.wD u (rd a v+1));have fd:wr.heap.size≠go:=by omega
     have fn:=zA (aE (p:=⟨go,u,none⟩) J5.out fd (.int .i64 (rd a v+1)));have fo:Aside0 (cO (b3+3) b ds (Wq.setCell ⟨go,u,none⟩ (.int .i64 (rd a v+1)))):=⟨by
      obtain⟨inner,ho⟩:=Kd.js I.out.ro;obtain⟨cells,hc⟩:=jr ho go rfl;exact J6.out.set (p:=⟨go,u,none⟩) hc _⟩
     have ft:r.heap.size<=(Wq.setCell ⟨go,u,none⟩ (.int .i64 (rd a v+1))).heap.size:=by simpa using b0
     have fv:=zA (b1.out.trans (fI (bo:=go) (j:=u) Wq (.int .i64 (rd a v+1)) (show go<r.heap.size by omega)));have f0:Aside0 (∀k,k≠go->(Wq.setCell ⟨go,u,none⟩ (.int .i64 (rd a v+1))).heap[k]? =W.heap[k]?):=⟨fun k hk=>(Below.heap_setCell _ _ _ _ hk).trans (b4.out k hk)⟩;have f1:Aside0 (∀k,(Wq.setCell ⟨go,u,none⟩ (.int .i64 (rd a v+1))).heap.size<=k->k≠go/\(k<wr.heap.size\/wr.heap.size+3<=k)):=⟨fun k hk=>by
      simp only[World.size_setCell] at hk;omega⟩
     have f2:Aside0 (((Q'.map fun x:Nat=>(x:Int)).length+1)*8<=140737488355328):=⟨by
      have h1:=S.out;have z:=HK.out.1;have h3:=HK.out.2;rw[List.length_cons] at z;rw[List.length_map];omega⟩
     have f3:=zA (Below.setCell (p:=⟨go,u,none⟩) b2.out g4 (.int .i64 (rd a v+1)));have z4:=i.out.c4;have hP:go≠b3+1+1:=n3;clear G I5 I6 I J5 J6 b0 b1 b2 b4 aP O ar av aB;gi_wp2_with (gi_at_builtin;go_loud (refine wB (Kd.int .i64) (w0:=w) w.heap.size rfl (.tmp 51) (.tmp 53) 25 3 (.int .i64 0) 8 rfl Tryz.underlying25 gz rfl (by decide) (by omega) qv' (Q'.map fun x:Nat=>(x:Int)) (u:Int) [.int .i64 u] (fun k=>k≠go/\(k<wr.heap.size\/wr.heap.size+3<=k)) (fun _=>False) rfl (by rw[World.size_setCell];rfl) rfl (fun _ hk=>hk.elim) f1.out i.out.rq i.out.hb i.out.hb.size f2.out ?_;intro v1 hQ T c2 aS f4;obtain⟨A1,c1,bv, -⟩:=Kd.oC T;obtain⟨nx,c6⟩:∃nx,nx=((Q'.map fun x:Nat=>(x:Int))++[(u:Int)]).length:=⟨_,rfl⟩;rw[<-c6] at bv;clear c6;subst bv;have f5:=zA (i.out.push T aS c2);have X4:=zA (dc i.out.x4 aS (fun e=>(i.out.own _ e.symm).2.2.2.2 rfl));have d7:=dM X4.out;have hV:=bF X4.out 0;have f6:=zA aS;clear T aS f4 c2))
     have U:=f6.out;have T:=i.out.own;have Y:∀k,(k=wr.heap.size\/k=wr.heap.size+1\/k=wr.heap.size+1+1\/k=g)->some k≠qv'.ownBlock:=fun k hk e=>by
      have:=T k e.symm;rcases hk with rfl|rfl|rfl|rfl<;>omega
     have hW:=U.size;refine⟨(fv.out.trans (wC i.out.rq U)).trans (fI _ _ (show b3+1+1<r.heap.size by omega)),⟨fun _=>Below.setCell (p:=⟨b3+1+1,0,none⟩) (f3.out.grown U i.out.hb.size (fun k e=>(T k e).2.2.1)) n5 _,fun k hk cj=>?_⟩,?_,_,_,Q'++[u],f5.out,?_,?_,aE (dc fn.out U (Y _ (.inl rfl))) (show wr.heap.size≠b3+1+1 by omega) _,(fo.out.wA i.out.rq U).set X4.out _⟩
     ·refine(Below.heap_setCell _ _ _ _ (show k≠b3+1+1 by rcases hk with rfl|rfl|rfl<;>omega)).trans ((U.block k ?_ (Y k (hk.elim (fun h=>.inr (.inl h)) (fun h=>.inr (.inr h))))).trans (f0.out k (by rcases hk with rfl|rfl|rfl<;>omega)))
      have h1:=ft;rcases hk with rfl|rfl|rfl<;>omega
     ·simp only[World.size_setCell];omega
     ·rw[K2.out];exact K4.out
     ·rw[K3.out,List.length_append]
      have h1:=S.out;have z:=j8 (a.set u (rd a v+1));rw[K3.out,List.length_set,e0.out] at z;simp only[List.length_cons,List.length_nil];omega
    ·have K4:=zA ((l1 (by omega)).mK (cr.out (fun _=>True)))
     have e6:decide (rd a u<0)=false:=aZ bi;clear l1 l2 O ar av a4 a5 aB;gi_wp2;exact⟨cB.refl _ _,⟨fun _=>aq _ _,fun _ _ _=>rfl⟩,aP,a,qv',Q',G.out,K4.out,S.out,I5.out,I6.out⟩
   case J_=>
    rintro s' xs W W' _ rfl ⟨P,a,qv',Q',i1,i2,i4,i5,i6⟩ H b6;have G:=zA (i1.bk H (by omega)).free;have I2:=zA (Bf.done i2 (fun x y f8 hex=>hex.2 (by rw[<-hex.1];exact f8)));have S:=zA i4;have I6:=zA (i6.bk H (by omega));have f9:=zA b6;have aP:r.heap.size<W'.heap.size:=(Array.getElem?_eq_some_iff.1 b6).1;clear i1 i2 i4 i5 i6 b6;gi_wp2;exact lJ.intro (2*(n-b7 a)+Q'.length) (by rw[HK.out.1];have:=S.out;simp only[List.length_cons];omega) (HJ.out _ _ _ ⟨_,_,_,_,_,_,_,_,_,_,_,_,a,qv',Q',_,G,I2,by omega,⟨rfl,by have h1:=S.out;have z:=HK.out.1;have h3:=HK.out.2;rw[List.length_cons] at z;omega⟩,rfl⟩) (r.heap.size+1) (by omega) (I6.out.push (by omega) (by omega) f9.out)
  ·obtain⟨Z,a2⟩:∃Z,Z=Value.slice (some ⟨gq,oq+1,none⟩) (L-1) (cq-1):=⟨_,rfl⟩
   have a3:=zA (a1.out.wE (lo':=wr.heap.size) (hi':=wr.heap.size+3) (qv':=Z) (Q':=rest) (by have h:=cd.out;rw[if_neg d7,show rest.length=L-1 by have:=g7.out;omega] at h;rw[a2];exact h));gi_wp2_with (first|(refine⟨trivial,?_⟩;gi_at_call 194;refine(callsIn_wide.2 (mE g v _)).mono ?_;rintro e w3 ⟨rfl,rfl⟩))
   rw[<-a2];obtain⟨M,aa⟩:∃X,X=(wr.alloc (.cells #[.int .i64 v] 3)).setCell ⟨b3+1+1,0,none⟩ Z:=⟨_,rfl⟩;have ce:Aside0 (M.heap[wr.heap.size]? =some (.cells #[.int .i64 v] 3 (0,0))):=⟨by rw[aa];exact aE d3.out (show wr.heap.size≠b3+1+1 by omega) _⟩;have cf:M.heap.size=wr.heap.size+1:=by rw[aa];simp
   have cg:Aside0 (cO (b3+3) b ds M):=⟨by rw[aa];exact d4.out.set a1.out.x4 _⟩;rw[<-aa] at a3⊢;have Z1:=a7 M (.cells #[.pointer (some ⟨g,0,none⟩)] 135);have Z2:=heap_alloc2_new M (.cells #[.pointer (some ⟨g,0,none⟩)] 135) (.cells #[.int .i64 v] 3);rw[cf] at Z1 Z2;have O:=zA ((a3.out.alloc (.cells #[.pointer (some ⟨g,0,none⟩)] 135)).alloc (.cells #[.int .i64 v] 3));have ar:=zA (au (au ce.out (.cells #[.pointer (some ⟨g,0,none⟩)] 135)) (.cells #[.int .i64 v] 3));have av:=zA ((cg.out.below (ao (aq _ _) (.cells #[.pointer (some ⟨g,0,none⟩)] 135))).below (ao (aq _ _) (.cells #[.int .i64 v] 3)));have a4:=zA (au Z1 (.cells #[.int .i64 v] 3));have a5:=zA Z2;have aB:=zA (aD c7.out O.out.hb);have a9:((M.alloc (.cells #[.pointer (some ⟨g,0,none⟩)] 135)).alloc (.cells #[.int .i64 v] 3)).heap.size=wr.heap.size+3:=by simp[cf]
   have es:=Nat.le_of_eq a9;have ev:=Nat.le_of_eq a9.symm;clear a9;clear d3 d4 a1 cd a3 ce cg Z1 Z2 aa a2 V x4 d6 x3 cc g8 g0 g5 g6 hl;generalize (M.alloc (.cells #[.pointer (some ⟨g,0,none⟩)] 135)).alloc (.cells #[.int .i64 v] 3)=r at O ar av a4 a5 aB es ev⊢;refine iU (σ:=Unit) (α:=Int×Int) (F:=Fence.wide) (n:=10) rfl (by decide) (gf:=207) (lb:=#[.pointer (some ⟨wr.heap.size+1,0,none⟩),.pointer (some ⟨wr.heap.size+1+1,0,none⟩)]) rfl trivial (enters_of Tryz.func207 (by kernel_rfl) rfl)
    (fun o=>q_ (wr.heap.size+1) (wr.heap.size+1+1) g n A0 c0 E q dv sv er v w _ f' HE.out hn a0 (ao (ao O.out.hb _) _) (au (au a4.out _) _) (au (au a5.out _) _) (au (au aB.out _) _)) (fun _=>rfl)
    (fun _=>True) ?Kb ?st2 ?JY
    (fun _ pre W=>r.heap.size<=W.heap.size/\∃(a:List Int) (qv':Value) (Q':List Nat),DI w b3 (b3+1+1) go co n wr.heap.size (wr.heap.size+3) a qv' Q' W/\Bf n q (lS E) a Q' (rd a v) (pH v pre)/\2*(n-b7 a)+Q'.length<=2*(n-b7 out)+rest.length/\W.heap[wr.heap.size]? =some (.cells #[.int .i64 v] 3 (0,0))/\cO (b3+3) b ds W) (fun _ _ _ _=>False)
    ?Kj (fun _ _ _ _ _ _ h _=>h) ?J0 (fun _ _ _ _ _ h _=>h) ?J' ?JX ?a12 ?Ke ?J8 ?Kf (fun _ _ _ _ _ _ _ h=>h.elim)
   case Ke=>
    intro l x W K Y;gi_wp2;exact Y
   case Kb=>
    intro o s W1 h;exact⟨trivial,by rw[h];exact cB.refl _ _⟩
   case st2=>intro s A B _ h;exact di h
   case JY=>intro s x A B _ h;exact di h.2
   case Kj=>
    rintro s pre A B _ ⟨P,a,qv',Q',h1,z,h4,h5,h6⟩ N;exact⟨Nat.le_trans P N.size,a,qv',Q',h1.below N,z,h4,aD h5 N,h6.below N⟩
   case J0=>
    rintro s pre A B ⟨P,a,qv',Q',h1,z,h4,h5,h6⟩ aF;exact⟨by rw[aF.size];exact P,a,qv',Q',h1.bk aF (by omega),z,h4,aF.cells h5,h6.bk aF (by omega)⟩
   case J'=>
    intro s A B C D aL ch ci;refine⟨fun aY=>((aL.below w.heap.size (by omega)).trans (ch.1 (by rw[aL.size];exact aY))).trans (ci.below w.heap.size (by omega)),fun k hk cj=>?_⟩;have ck:k≠r.heap.size+1:=by rcases hk with rfl|rfl|rfl<;>omega
    exact(ci.heap k ck).trans ((ch.2 k hk (by rw[aL.size];exact cj)).trans (aL.heap k ck))
   case JX=>
    rintro o s W1 rfl;exact⟨by simp;omega,out,Z,rest,(O.out.alloc _).alloc _,g9.out.mK (fun x y h=>⟨h,by simp⟩),aI _,au (au ar.out _) _,(av.out.below (ao (aq _ _) _)).below (ao (aq _ _) _)⟩
   case J8=>
    rintro l s' pre ⟨u,m⟩ Wb Wc W _ ⟨P,a,qv',Q',i1,i2,i4,i5,i6⟩ ⟨⟨cl,ew⟩,ab⟩ ey H;have G:=zA ((i1.below ab).bk H (by omega));have S:=zA i4;have I5:=zA (H.cells (aD i5 ab));have I6:=zA ((i6.below ab).bk H (by omega));have aP:r.heap.size<=W.heap.size:=by have:=H.size;have:=ab.size;omega
    clear i1 i4 i5 i6 ab H ey P;simp only at cl;obtain⟨u0,u1,m0,m1⟩:=cl;obtain⟨u,rfl⟩:=Int.eq_ofNat_of_zero_le u0;have aR:u<n:=by omega
    obtain⟨l1,l2⟩:=Bf.look (ex:=fun y=>¬∃m,((y:Int),m)∈pre) i2 aR a0 ⟨m,ew⟩;have hC:=i2.d0;have hD:rd a v<=1000:=by have h1:=i2.hi v a0;have z:=j8 a;have h3:=i2.len;omega
    have e0:=zA i2.len;have z3:=G.out.c3;have z4:=G.out.kb u aR;have cp:∀(ex:Nat->Prop) (x y:Nat),(x=v/\(¬∃m,((y:Int),m)∈pre)/\y≠u)->pH v (pre++[((u:Int),m)]) x y:=fun ex x y h=>⟨h.1,fun⟨m',ag⟩=>by
     rcases List.mem_append.1 ag with ag|ag
     ·exact h.2.1 ⟨m',ag⟩
     ·have:=List.mem_singleton.1 ag
      injection this with e1 e2
      exact h.2.2 (by omega)⟩
    have cr:=zA cp;clear cp i2;by_cases bi:rd a u<0
    ·obtain⟨k1,k2,k3,k4⟩:=l2 bi
     have K2:=zA k2;have K3:=zA k3;have K4:=zA (k4.mK (cr.out (fun _=>True)));have e6:decide (rd a u<0)=true:=ay bi;clear l1 l2 k1 k2 k3 k4;gi_wp2;have z3:=G.out.c3;have z4:=G.out.kb v a0;have z5:=(ah I5.out 0).trans rfl;have e_:wrap64 (rd a v+1)=rd a v+1:=by unfold wrap64;omega
     have hI:(0:Int)<=(u:Int):=by omega
     have hM:(0:Int)<=(v:Int):=by omega
     have bv:(v:Int)<(n:Int):=by omega
     refine pE [_,_,_,_,_,_,_,_] _ rfl (by kernel_rfl) rfl (by kernel_rfl) (by kernel_rfl) (by kernel_rfl) (by kernel_rfl) ?_;repeat(gi_big_quiet_step (fail))
     refine wpQuietIn_nil ?_;rintro _ ⟨nq,rfl⟩;have I:=zA (G.out.drewN nq);have J5:=zA (iB I5.out nq);have J6:=zA (I6.out.below (bN (aq _ _) nq));have b0:r.heap.size<=(W.drewN nq).heap.size:=by simpa using aP
     have b1:=zA (di (nw:=r.heap.size) (bN (aq W.heap.size W) nq));have b2:=zA (bN (aq w.heap.size W) nq);have b4:Aside0 (∀k,k≠go->(W.drewN nq).heap[k]? =W.heap[k]?):=⟨fun k _=>by simp⟩;clear z3 z4 z5 e_;have z5:=I.out.wF u aR;have z6:=I.out.kb u aR;generalize W.drewN nq=Wq at I J5 J6 b0 b1 b2 b4 z5 z6⊢;obtain⟨g1,g2,g3,g4⟩:=I.out.ld;obtain⟨n1,n2,n3,n4,n5⟩:=I.out.ne;have i:=zA (I.out.wD u (rd a v+1));have fd:wr.heap.size≠go:=by omega
     have fn:=zA (aE (p:=⟨go,u,none⟩) J5.out fd (.int .i64 (rd a v+1)));have fo:Aside0 (cO (b3+3) b ds (Wq.setCell ⟨go,u,none⟩ (.int .i64 (rd a v+1)))):=⟨by
      obtain⟨inner,ho⟩:=Kd.js I.out.ro;obtain⟨cells,hc⟩:=jr ho go rfl;exact J6.out.set (p:=⟨go,u,none⟩) hc _⟩
     have ft:r.heap.size<=(Wq.setCell ⟨go,u,none⟩ (.int .i64 (rd a v+1))).heap.size:=by simpa using b0
     have fv:=zA (b1.out.trans (fI (bo:=go) (j:=u) Wq (.int .i64 (rd a v+1)) (show go<r.heap.size by omega)));have f0:Aside0 (∀k,k≠go->(Wq.setCell ⟨go,u,none⟩ (.int .i64 (rd a v+1))).heap[k]? =W.heap[k]?):=⟨fun k hk=>(Below.heap_setCell _ _ _ _ hk).trans (b4.out k hk)⟩;have f1:Aside0 (∀k,(Wq.setCell ⟨go,u,none⟩ (.int .i64 (rd a v+1))).heap.size<=k->k≠go/\(k<wr.heap.size\/wr.heap.size+3<=k)):=⟨fun k hk=>by
      simp only[World.size_setCell] at hk;omega⟩
     have f2:Aside0 (((Q'.map fun x:Nat=>(x:Int)).length+1)*8<=140737488355328):=⟨by
      have h1:=S.out;have z:=HK.out.1;have h3:=HK.out.2;rw[List.length_cons] at z;rw[List.length_map];omega⟩
     have f3:=zA (Below.setCell (p:=⟨go,u,none⟩) b2.out g4 (.int .i64 (rd a v+1)));have z4:=i.out.c4;have hP:go≠b3+1+1:=n3;clear G I5 I6 I J5 J6 b0 b1 b2 b4 aP O ar av aB;gi_wp2_with (gi_at_builtin;go_loud (refine wB (Kd.int .i64) (w0:=w) w.heap.size rfl (.tmp 51) (.tmp 53) 25 3 (.int .i64 0) 8 rfl Tryz.underlying25 gz rfl (by decide) (by omega) qv' (Q'.map fun x:Nat=>(x:Int)) (u:Int) [.int .i64 u] (fun k=>k≠go/\(k<wr.heap.size\/wr.heap.size+3<=k)) (fun _=>False) rfl (by rw[World.size_setCell];rfl) rfl (fun _ hk=>hk.elim) f1.out i.out.rq i.out.hb i.out.hb.size f2.out ?_;intro v1 hQ T c2 aS f4;obtain⟨A1,c1,bv, -⟩:=Kd.oC T;obtain⟨nx,c6⟩:∃nx,nx=((Q'.map fun x:Nat=>(x:Int))++[(u:Int)]).length:=⟨_,rfl⟩;rw[<-c6] at bv;clear c6;subst bv;have f5:=zA (i.out.push T aS c2);have X4:=zA (dc i.out.x4 aS (fun e=>(i.out.own _ e.symm).2.2.2.2 rfl));have d7:=dM X4.out;have hV:=bF X4.out 0;have f6:=zA aS;clear T aS f4 c2))
     have U:=f6.out;have T:=i.out.own;have Y:∀k,(k=wr.heap.size\/k=wr.heap.size+1\/k=wr.heap.size+1+1\/k=g)->some k≠qv'.ownBlock:=fun k hk e=>by
      have:=T k e.symm;rcases hk with rfl|rfl|rfl|rfl<;>omega
     have hW:=U.size;refine⟨(fv.out.trans (wC i.out.rq U)).trans (fI _ _ (show b3+1+1<r.heap.size by omega)),⟨fun _=>Below.setCell (p:=⟨b3+1+1,0,none⟩) (f3.out.grown U i.out.hb.size (fun k e=>(T k e).2.2.1)) n5 _,fun k hk cj=>?_⟩,?_,_,_,Q'++[u],f5.out,?_,?_,aE (dc fn.out U (Y _ (.inl rfl))) (show wr.heap.size≠b3+1+1 by omega) _,(fo.out.wA i.out.rq U).set X4.out _⟩
     ·refine(Below.heap_setCell _ _ _ _ (show k≠b3+1+1 by rcases hk with rfl|rfl|rfl<;>omega)).trans ((U.block k ?_ (Y k (hk.elim (fun h=>.inr (.inl h)) (fun h=>.inr (.inr h))))).trans (f0.out k (by rcases hk with rfl|rfl|rfl<;>omega)))
      have h1:=ft;rcases hk with rfl|rfl|rfl<;>omega
     ·simp only[World.size_setCell];omega
     ·rw[K2.out];exact K4.out
     ·rw[K3.out,List.length_append]
      have h1:=S.out;have z:=j8 (a.set u (rd a v+1));rw[K3.out,List.length_set,e0.out] at z;simp only[List.length_cons,List.length_nil];omega
    ·have K4:=zA ((l1 (by omega)).mK (cr.out (fun _=>True)))
     have e6:decide (rd a u<0)=false:=aZ bi;clear l1 l2 O ar av a4 a5 aB;gi_wp2;exact⟨cB.refl _ _,⟨fun _=>aq _ _,fun _ _ _=>rfl⟩,aP,a,qv',Q',G.out,K4.out,S.out,I5.out,I6.out⟩
   case Kf=>
    rintro s' xs W W' _ rfl ⟨P,a,qv',Q',i1,i2,i4,i5,i6⟩ H b6;have G:=zA (i1.bk H (by omega)).free;have I2:=zA (Bf.done i2 (fun x y f8 hex=>hex.2 (by rw[<-hex.1];exact f8)));have S:=zA i4;have I6:=zA (i6.bk H (by omega));have f9:=zA b6;have aP:r.heap.size<W'.heap.size:=(Array.getElem?_eq_some_iff.1 b6).1;clear i1 i2 i4 i5 i6 b6;gi_wp2;exact lJ.intro (2*(n-b7 a)+Q'.length) (by rw[HK.out.1];have:=S.out;simp only[List.length_cons];omega) (HJ.out _ _ _ ⟨_,_,_,_,_,_,_,_,_,_,_,_,a,qv',Q',_,G,I2,by omega,⟨rfl,by have h1:=S.out;have z:=HK.out.1;have h3:=HK.out.2;rw[List.length_cons] at z;omega⟩,rfl⟩) (r.heap.size+1) (by omega) (I6.out.push (by omega) (by omega) f9.out)
end
section
attribute [local go_sem] jQ jR jS jT ng nh ni nj
def gJ (xs:List Int):Nat->Int
 |0=>rd xs 0
 |k+1=>if gJ xs k<rd xs ((k+1:Nat):Int) then rd xs ((k+1:Nat):Int) else gJ xs k
theorem EO (A:Option Addr) (c:Nat) (xs:List Int) (w:World) (h:Kd.C (Kd.int .i64) w A xs.length xs) (h1:1<=xs.length):
  Calls Tryz.prog 167 #[.slice A xs.length c] w fun e w'=>e= .returned (.int .i64 (gJ xs (xs.length-1)))/\Below w.heap.size w w':=by
 have v:xs.length<=9223372036854775807:=Kd.mV h;have b:=zA (aq w.heap.size w);have m:=zA h;obtain⟨a,n,g⟩:=Kd.bJ h 0 (by omega) (by omega);subst n;have g:w.cell? a=some (.int .i64 (rd xs 0)):=by simpa [Addr.add] using g
 have x:(1:Int)<=(xs.length:Int):=by omega
 have B:((xs.length:Nat):Int)<=9223372036854775807:=by omega
 clear h;go_enter Tryz.func167,Tryz.ntmps167
 go_wp2;clear g;go_loopg [3,4] (xs.length-1) (fun o p q wr=>∃i:Nat,p= .int .i64 (gJ xs (i-1))/\q= .int .i64 i/\1<=i/\i<=xs.length/\Aside0 (Below w.heap.size w wr)/\Aside0 (o=xs.length-i))
 case atStart=>exact⟨1,rfl,rfl,aI _,h1,b,⟨rfl⟩⟩
 case round=>
  clear b;obtain⟨i,rfl,rfl,D,E,b,r⟩:=hrel;by_cases F:i<xs.length
  ·have s:(0:Int)<=(i:Int):=by omega
   have u:(i:Int)<(xs.length:Int):=by omega
   obtain⟨a',k,g⟩:=Kd.bJ (Kd.ax m.out b.out) (i:Int) s u;injection k with k
   subst k;rw[aG] at g;have l:Aside0 (gJ xs (i+1-1)=if gJ xs (i-1)<rd xs (i:Int) then rd xs (i:Int) else gJ xs (i-1)):=⟨by
    obtain⟨j,rfl⟩:∃j,i=j+1:=⟨i-1,by omega⟩;rfl⟩
   generalize gJ xs (i-1)=y at l⊢;generalize rd xs (i:Int)=z at g l;go_wp2
   all_goals
    go_roundg (xs.length- (i+1))
    case measure=>rw[r.out];omega
    case rel=>exact⟨i+1,(by rw[l.out];first|rw[if_pos (by assumption)]|rw[if_neg (by assumption)]|rw[if_neg (by omega)]),by go_num,by omega,by omega,b,⟨rfl⟩⟩
  ·obtain rfl:i=xs.length:=by omega
   go_wp2;go_ret;exact⟨rfl,b.out⟩
end
section
attribute [local go_sem] Oper.semAt_some
theorem EP (g n:Nat) (A0:Option Addr) (c0:Nat) (E:List S83) (q:Int) (dv Q:Value) (R:Int) (v:Nat) (lb:Array Value) (B:Nat->Bool) (w:World) (ab:Kd.C aN w A0 E.length E) (hE:ez n E) (hn:n<=1000) (hv:v<n) (i:ik w g n (.slice A0 E.length c0) q dv Q R)
  (hB:∀(W:World) (u:Int),Below w.heap.size w W->0<=u->u<n->Calls Tryz.prog 169 (#[.int .i64 u]++lb) W fun e w'=>e= .returned (.bool (B u.toNat))/\Below W.heap.size W w'):
  Calls Tryz.prog 168 #[.pointer (some ⟨g,0,none⟩),.int .i64 v,.func (.func 169) #[] lb] w fun e w'=>e= .returned (.int .i64 (eo B (cJ E v E.length)))/\Below w.heap.size w w':=by
 have a9:=zA hB;have HE:=zA hE;have ak:=zA i;clear hB hE i;refine(callsIn_wide (n:=10)).1 ?_;refine callsIn_of_wp_marks Tryz.func168 rfl trivial ?_ rfl;simp only[Tryz.ntmps168,List.size_toArray,List.length_cons,List.length_nil,Nat.reduceAdd,Nat.reduceSub,Array.replicate_succ,Array.replicate_zero,List.push_toArray,List.append_toArray,List.nil_append,List.cons_append];gi_wp2_with (refine⟨trivial,?_⟩;gi_at_call 194;refine(callsIn_wide.2 (mE g v _)).mono ?_;rintro e w3 ⟨rfl,rfl⟩)
 obtain⟨p,am⟩:∃o:Obj,o= .cells #[.func (.func 169) #[] lb] 121:=⟨_,rfl⟩;obtain⟨on,an⟩:∃o:Obj,o= .cells #[.int .i64 0] 3:=⟨_,rfl⟩;obtain⟨r,ap⟩:∃o:Obj,o= .cells #[.pointer (some ⟨g,0,none⟩)] 135:=⟨_,rfl⟩;obtain⟨y,av⟩:∃o:Obj,o= .cells #[.int .i64 v] 3:=⟨_,rfl⟩;have Z0:=a7 w p;have S:=a7 (w.alloc p) on;have T:=a7 ((w.alloc p).alloc on) r;have U:=a7 (((w.alloc p).alloc on).alloc r) y;simp only[World.size_alloc] at S T U;have H0:=zA ((au (au (au Z0 on) r) y).trans (by rw[am]:_=some (.cells #[.func (.func 169) #[] lb] 121 (0,0))));have H1:=zA ((au (au S r) y).trans (by rw[an]:_=some (.cells #[.int .i64 0] 3 (0,0))));have H2:=zA ((au T y).trans (by rw[ap]:_=some (.cells #[.pointer (some ⟨g,0,none⟩)] 135 (0,0))));have H3:=zA (U.trans (by rw[av]:_=some (.cells #[.int .i64 v] 3 (0,0))));have z:=zA (ao (ao (ao (ao (aq w.heap.size w) p) on) r) y);have aP:Aside0 (ik ((((w.alloc p).alloc on).alloc r).alloc y) g n (.slice A0 E.length c0) q dv Q R):=⟨aD ak.out z.out⟩;have bv:g<w.heap.size:=aC ak.out;have bf:=zA (Kd.ax ab z.out);clear Z0 S T U;subst am an ap av;have bg:=z.out.size;have bi:((((w.alloc (.cells #[.func (.func 169) #[] lb] 121)).alloc (.cells #[.int .i64 0] 3)).alloc (.cells #[.pointer (some ⟨g,0,none⟩)] 135)).alloc (.cells #[.int .i64 v] 3)).heap.size=w.heap.size+4:=by simp
 generalize ((((w.alloc (.cells #[.func (.func 169) #[] lb] 121)).alloc (.cells #[.int .i64 0] 3)).alloc (.cells #[.pointer (some ⟨g,0,none⟩)] 135)).alloc (.cells #[.int .i64 v] 3))=j at H0 H1 H2 H3 z aP bf bg bi⊢;refine iU (σ:=Unit) (α:=Int×Int) (F:=Fence.wide) (n:=10) rfl (by decide) (gf:=207) (lb:=#[.pointer (some ⟨w.heap.size+1+1,0,none⟩),.pointer (some ⟨w.heap.size+1+1+1,0,none⟩)]) rfl trivial (enters_of Tryz.func207 (by kernel_rfl) rfl)
  (fun o=>pa (w.heap.size+1+1) (w.heap.size+1+1+1) g n A0 c0 E q dv Q R v w _ ab HE.out hn hv (ao (ao z.out _) _) (au (au H2.out _) _) (au (au H3.out _) _) (au (au aP.out _) _)) (fun _=>rfl)
  (fun _=>True) ?eL ?st ?ar
  (fun _ pre W=>j.heap.size<=W.heap.size/\W.heap[w.heap.size]? =some (.cells #[.func (.func 169) #[] lb] 121 (0,0))/\W.heap[w.heap.size+1]? =some (.cells #[.int .i64 (eo B pre)] 3 (0,0))/\Below w.heap.size w W) (fun _ _ _ _=>False)
  ?is (fun _ _ _ _ _ _ h _=>h) ?ib (fun _ _ _ _ _ h _=>h) ?kt ?h0 ?a1 ?assign ?body ?done (fun _ _ _ _ _ _ _ h=>h.elim)
 case assign=>
  intro l x W K hK;gi_wp2;exact hK
 case eL=>
  intro o s W1 h;exact⟨trivial,by rw[h];exact cB.refl _ _⟩
 case st=>intro s A B _ h;exact di h
 case ar=>intro s x A B _ h;exact di h.2
 case is=>
  rintro s pre A B _ ⟨H,h1,V,X⟩ i;exact⟨Nat.le_trans H i.size,aD h1 i,aD V i,aW X i⟩
 case ib=>
  rintro s pre A B ⟨H,h1,V,X⟩ hb;exact⟨by rw[hb.size];exact H,hb.cells h1,hb.cells V,X.trans (hb.below w.heap.size (by omega))⟩
 case kt=>
  intro s A B C D N aR aS;refine⟨fun aY=>((N.below w.heap.size (by omega)).trans (aR.1 (by rw[N.size];exact aY))).trans (aS.below w.heap.size (by omega)),fun k hk I=>?_⟩;have a0:k≠j.heap.size+1:=by rcases hk with rfl|rfl|rfl<;>omega
  exact(aS.heap k a0).trans ((aR.2 k hk (by rw[N.size];exact I)).trans (N.heap k a0))
 case h0=>
  rintro o s W1 rfl;exact⟨by simp;omega,au (au H0.out _) _,au (au H1.out _) _,ao (ao z.out _) _⟩
 case body=>
  rintro l s pre ⟨u,m⟩ Wb W1 W _ ⟨H,i1,i2,i3⟩ ⟨Y,J⟩ bn b;have Z:=zA (b.cells (aD i1 J));have L:=zA (b.cells (aD i2 J));have b3:=zA ((aW i3 J).trans (b.below w.heap.size (by omega)));have bx:j.heap.size<=W.heap.size:=by have:=b.size;have:=J.size;omega
  clear i1 i2 i3 J b bn;simp only at Y;have b0:W.cell? ⟨w.heap.size,0,none⟩=some (.func (.func 169) #[] lb):=(ah Z.out 0).trans rfl;have O:=zA (a9.out W u b3.out Y.1 Y.2.1);have M:=zA (ry B pre (u,m));generalize eo B pre=s0 at L M;cases P:B u.toNat with
  |true=>
   rw[P] at O M;clear P;gi_wp2_with (refine⟨trivial,?_⟩;gi_at_call 169;refine(callsIn_wide.2 O.out).mono ?_;rintro e w5 ⟨rfl,G⟩;have a:=zA G;have D2:=zA (aD L.out G);have c5:w5.cell? ⟨w.heap.size+1,0,none⟩=some (.int .i64 s0):=(ah D2.out 0).trans rfl;have f5:=bF D2.out 0;clear G)
   have aY:=a.out.size;refine⟨(di a.out).trans (fI _ _ (by show w.heap.size+1<j.heap.size;omega)),⟨fun aY=>Below.setCell (a.out.mono aY) (by show w.heap.size<=w.heap.size+1;omega) _,fun k hk I=>?_⟩,by simp;omega,?_,?_,Below.setCell (aW b3.out a.out) (by show w.heap.size<=w.heap.size+1;omega) _⟩
   ·rw[Below.heap_setCell _ _ _ _ (by rcases hk with rfl|rfl|rfl<;>(show _≠w.heap.size+1)<;>omega)]
    exact a.out.block k I
   ·rw[Below.heap_setCell _ _ _ _ (by show w.heap.size≠w.heap.size+1;omega)]
    exact aD Z.out a.out
   ·have h:=bV D2.out 0 (.int .i64 (wrap64 (s0+m)))
    rw[M.out];simpa using h
  |false=>
   rw[P] at O M;clear P;gi_wp2_with (refine⟨trivial,?_⟩;gi_at_call 169;refine(callsIn_wide.2 O.out).mono ?_;rintro e w5 ⟨rfl,G⟩;have a:=zA G;clear G)
   have aY:=a.out.size;exact⟨di a.out,⟨fun aY=>a.out.mono aY,fun k hk I=>a.out.block k I⟩,by omega,aD Z.out a.out,by rw[M.out];exact aD L.out a.out,aW b3.out a.out⟩
 case done=>
  rintro s xs W W' _ rfl ⟨H,i1,i2,i3⟩ b a3;have L:=zA (b.cells i2);have b3:=zA (i3.trans (b.below w.heap.size (by omega)));have a4:=zA a3;clear i1 i2 i3 a3;have hc:W'.cell? ⟨w.heap.size+1,0,none⟩=some (.int .i64 (eo B (cJ E v E.length))):=(ah L.out 0).trans rfl;gi_wp2_with fail
  have bo:Bk j.heap.size W' (W'.putObj j.heap.size (.deferred none)):=⟨_,_,a4.out,rfl,rfl⟩;exact jx (D:=j.heap.size) rfl a4.out (results_tmp rfl _ _ _) ⟨rfl,b3.out.trans (bo.below w.heap.size (by omega))⟩
end
section
attribute [local go_sem] Oper.semAt_some jQ jR jS jT
theorem ER (gb a cr n:Nat) (B:Nat->Bool) (ok:Nat->Prop) (base:Nat) (W:World) (u:Int) (hb:W.heap[gb]? =some (.cells #[.slice (some ⟨a,0,none⟩) n cr] 43 (0,0))) (g:Kd.bool.R 4 W base ok (.slice (some ⟨a,0,none⟩) n cr) ((List.range n).map B)) (h:0<=u) (hn:u<n):
  Calls Tryz.prog 169 #[.int .i64 u,.pointer (some ⟨gb,0,none⟩)] W fun e w'=>e= .returned (.bool (B u.toNat))/\Below W.heap.size W w':=by
 have i:W.cell? ⟨gb,0,none⟩=some (.slice (some ⟨a,0,none⟩) n cr):=(ah hb 0).trans rfl;have b:=(Kd.bO false g u h hn).1;have e:bM false ((List.range n).map B) u=B u.toNat:=by
  obtain⟨m,rfl⟩:=Int.eq_ofNat_of_zero_le h;have:m<n:=by omega
  simp[bM,aX,List.getElem?_map,List.getElem?_range this]
 rw[e] at b;have b:W.cell? ⟨a,u.toNat,none⟩=some (.bool (B u.toNat)):=b;clear g hb e;go_enter Tryz.func169,Tryz.ntmps169
 go_wp2;go_ret;exact⟨rfl,aq _ _⟩
theorem ES (A:Option Addr) (c n:Nat) (xs:List Int) (w:World) (a:xs.length=n) (b:Kd.C (Kd.int .i64) w A xs.length xs) (h1:1<=n):
  Calls Tryz.prog 167 #[.slice A n c] w fun e w'=>e= .returned (.int .i64 (gJ xs (n-1)))/\Below w.heap.size w w':=by
 subst a;exact EO A c xs w b h1
theorem wG (xs:List Int):∀k i:Nat,i<=k->rd xs (i:Int)<=gJ xs k
 |0,i,h=>by
  obtain rfl:i=0:=by omega
  exact Int.le_refl _
 |k+1,i,h=>by
  unfold gJ;by_cases e:i=k+1
  ·subst e;split<;>omega
  ·have:=wG xs k i (by omega)
   split<;>omega
theorem wH (xs:List Int):∀k:Nat,∃i,i<=k/\gJ xs k=rd xs (i:Int)
 |0=>⟨0,aI _,rfl⟩
 |k+1=>by
  unfold gJ;split
  ·exact⟨k+1,aI _,rfl⟩
  ·obtain⟨i,h1,a⟩:=wH xs k
   exact⟨i,by omega,a⟩
structure ET (n q:Nat) (t:Nat->Nat->Int) (out:List Int):Prop where
 len:out.length=n
 q0:rd out (q:Int)=0
 pos:∀v:Nat,v<n->0<=rd out (v:Int)/\rd out (v:Int)<n
 wI:∀u v:Nat,u<n->v<n->0<t u v->rd out (v:Int)<=rd out (u:Int)+1
 back:∀v:Nat,v<n->v≠q->∃u:Nat,u<n/\0<t v u/\rd out (u:Int)+1=rd out (v:Int)
theorem rS {n:Nat} {E:List S83} (h:br n E) {u v:Nat} (hu:u<n) (g:v<n):lS E v u↔0<ae E v u:=by
 have h1:∀L:List (Int×Int),(∀x∈L,0<=x.1/\x.1<n/\x.1≠v/\1<=x.2/\x.2<=50)->0<=dS (fun w=>if w=u then 1 else 0) L/\(0<dS (fun w=>if w=u then 1 else 0) L↔∃m,((u:Int),m)∈L):=by
  intro L;induction L with
  |nil=>intro _;simp[dS]
  |cons x L i=>
   intro a;obtain⟨i1,i2⟩:=i (fun y j=>a y (List.mem_cons_of_mem _ j));have k:=a x (List.mem_cons_self ..);simp only[dS];by_cases e:x.1.toNat=u
   ·rw[if_pos e,Int.mul_one]
    refine⟨by omega,fun _=>⟨x.2,?_⟩,fun _=>by omega⟩;have:x=((u:Int),x.2):=by rw[<-e];ext<;>simp;omega
    rw[<-this];exact List.mem_cons_self ..
   ·rw[if_neg e,Int.mul_zero,Int.zero_add]
    refine⟨i1,fun h=>?_,fun⟨m,hm⟩=>?_⟩
    ·obtain⟨m,hm⟩:=i2.1 h
     exact⟨m,List.mem_cons_of_mem _ hm⟩
    ·rcases List.mem_cons.1 hm with rfl|hm
     ·exact absurd (show ((u:Int)).toNat=u by simp) e
     ·exact i2.2 ⟨m,hm⟩
 have b:=h1 _ (pG h E.length (aI _) (v:=v));rw[pF h _ g,T.j6 hu (fun w _ hw=>by rw[if_neg hw,Int.mul_zero]),if_pos rfl,Int.mul_one] at b;exact b.2.symm
theorem Bf.dst {n q:Nat} {E:List S83} (h:br n E) (m:T.dB n (ae E)) (o:q<n) {out:List Int} {D:Int} (hb:Bf n q (lS E) out [] D (fun _ _=>False)):ET n q (ae E) out:=by
 have i:∀v:Nat,v<n->0<=rd out (v:Int):=by
  intro v e;refine Classical.byContradiction fun p=>?_
  obtain⟨a,b,k,l,h1,g,j⟩:=m (fun v=>decide (0<=rd out (v:Int))) ⟨q,o,by simp[hb.q0]⟩ ⟨v,e,by simpa using p⟩;have:=hb.kS a k (aw h1) (by simp) b l ((rS h l k).2 j) (fun f=>f);exact(of_decide_eq_false g) this.1
 refine⟨hb.len,hb.q0,fun v e=>⟨i v e,?_⟩,fun u v hu e r=>(hb.kS u hu (i u hu) (by simp) v e ((rS h e hu).2 r) (fun f=>f)).2,fun v e s=>?_⟩
 ·have h1:=hb.hi v e
  have g:=j8 out;rw[hb.len] at g;omega
 ·obtain⟨u,hu,h1,g,j⟩:=hb.back v e s (i v e)
  exact⟨u,hu,by rw[h.wt.sym];exact(rS h e hu).1 h1,j⟩
structure LI (w0 w:World) (g gd gs go cd cs co n:Nat) (A0:Option Addr) (c0:Nat) (E:List S83) (q:Int) (out d s:List Int) (W:World):Prop where
 si:SI w0 g gd gs cd cs n A0 c0 E q d s W
 fo:(Kd.int .i64).R 3 W w.heap.size (fun _=>True) (.slice (some ⟨go,0,none⟩) n co) out
 hw:w0.heap.size<=w.heap.size/\gd<w.heap.size/\gs<w.heap.size/\g<w.heap.size/\w.heap.size<=go
namespace LI
variable {w0 w W W':World} {g gd gs go cd cs co n c0 l:Nat} {A0:Option Addr} {E:List S83} {q:Int} {out d s:List Int}
theorem below (h:LI w0 w g gd gs go cd cs co n A0 c0 E q out d s W) (hb:Below W.heap.size W W'):LI w0 w g gd gs go cd cs co n A0 c0 E q out d s W':=⟨h.si.below hb,Kd.cY h.fo hb,h.hw⟩
theorem alloc (h:LI w0 w g gd gs go cd cs co n A0 c0 E q out d s W) (o:Obj):LI w0 w g gd gs go cd cs co n A0 c0 E q out d s (W.alloc o):=h.below (ao (aq _ _) o)
theorem drewN (h:LI w0 w g gd gs go cd cs co n A0 c0 E q out d s W) (m:Nat):LI w0 w g gd gs go cd cs co n A0 c0 E q out d s (W.drewN m):=h.below (bN (aq _ _) m)
theorem drew (h:LI w0 w g gd gs go cd cs co n A0 c0 E q out d s W):LI w0 w g gd gs go cd cs co n A0 c0 E q out d s W.drew:=h.drewN 1
theorem iL (h:LI w0 w g gd gs go cd cs co n A0 c0 E q out d s W) (p:Addr) (v:Value) (a:w.heap.size<=p.block) (h1:p.block≠go):LI w0 w g gd gs go cd cs co n A0 c0 E q out d s (W.setCell p v):=
 ⟨h.si.iL p v (by have:=h.hw;omega) (by have:=h.hw;omega),Kd.a_ (Kd.fC (Kd.ia rfl h.fo) (fun k hk=>Below.heap_setCell _ _ _ _ (fun e=>h1 (by rw[<-e];injection hk)))) (fun _ _=>trivial),h.hw⟩
theorem kb (h:LI w0 w g gd gs go cd cs co n A0 c0 E q out d s W) (v:Nat) (a:v<n):W.cell? ⟨go,v,none⟩=some (.int .i64 (rd out v)):=by
 have:=(Kd.bO 0 h.fo (v:Int) (by omega) (by omega)).1;rw[aG] at this;exact this
theorem EU (h:LI w0 w g gd gs go cd cs co n A0 c0 E q out d s W) {d' s':List Int} (a:SI w0 g gd gs cd cs n A0 c0 E q d' s' W') (hk:∀k,k<W.heap.size->k≠gd->k≠gs->W'.heap[k]? =W.heap[k]?):LI w0 w g gd gs go cd cs co n A0 c0 E q out d' s' W':=
 ⟨a,Kd.a_ (Kd.fC (Kd.ia rfl h.fo) (fun k e=>by
  injection e with e
  subst e;have h1:=h.hw;exact hk _ (Kd.ba h.fo _ rfl) (by omega) (by omega))) (fun _ _=>trivial),h.hw⟩
end LI
theorem EV (g gd gs cd cs n:Nat) (A0:Option Addr) (c0:Nat) (E:List S83) (q:Nat) (d:List Int) (w0 w:World) (an:Kd.C aN w0 A0 E.length E) (hE:br n E) (hl:E.length<=1000) (hC:fc n E) (hn:n<=12) (hq:q<n) (aa:T.sN (T.val n (ae E)) n<=19)
  (hd:∀v:Nat,v<n-> -200<=rd d v/\rd d v<=200) (bg:d.length=n) (h:SI w0 g gd gs cd cs n A0 c0 E q d (List.replicate n 0) w):
  Calls Tryz.prog 110 #[.pointer (some ⟨g,0,none⟩)] w fun e w'=>e= .returned (.tuple #[])/\∃(d' s':List Int),d'.length=n/\s'.length=n/\SI w0 g gd gs cd cs n A0 c0 E q d' s' w'/\(∀v:Nat,v<n->v≠q->0<=rd d' v)/\∃dist:Nat->Int,T.fs n (ae E) (fun v=>rd d (v:Nat)) dist 200 0 (fun v=>rd d' (v:Nat)) (fun v=>rd s' (v:Nat)):=by
 have e3:=Tryz.underlying188;have hu:=Tryz.underlying24;have o:=zA hE;have HC:=zA hC;have HD:=zA hd;have bi:=h.hb.size;obtain⟨q1,q2,q3,q4,q5⟩:=h.ld;have HS:=zA h;have c5:1<=n:=by omega
 clear hE hC hd h;go_enter Tryz.func110,Tryz.ntmps110
 go_wp2_with (first|(go_at_call 165;refine(EN g n A0 c0 E q _ _ 0 _ (Kd.ax an HS.out.hb) o.out.j9 (by omega) hq HS.out.st).mono ?_;rintro e w1 ⟨go,co,out,D,rfl,hO,K,bk⟩;have s:=zA (Bf.dst o.out (o.out.conn HC.out) hq bk);have ar:Aside0 (LI w0 w g gd gs go cd cs co n A0 c0 E q out d (List.replicate n 0) w1):=⟨HS.out.below K,hO,bi,q1,q2,q3,Kd.dK hO go rfl⟩;clear hO K bk)|(go_at_call 167;refine(ES _ _ n out _ s.out.len (Kd.aH ar.out.fo).2.2 c5).mono ?_;rintro e w2 ⟨rfl,K⟩;have L:=zA (ar.out.below K);clear K ar))
 obtain⟨im,c6,c7⟩:=wH out (n-1);obtain⟨G,av⟩:∃G:Nat,gJ out (n-1)=G:=⟨(gJ out (n-1)).toNat,by have:=s.out.pos im (by omega);omega⟩;have aB:G<=n:=by have:=s.out.pos im (by omega);omega
 have HM:Aside0 (∀v:Nat,v<n->rd out (v:Int)<=G):=⟨fun v l=>by rw[<-av];exact wG out (n-1) v (by omega)⟩;have bv:Aside0 (T.fs n (ae E) (fun v=>rd d (v:Nat)) (fun v=>rd out (v:Nat)) 200 G (fun v=>rd d (v:Nat)) (fun v=>rd (List.replicate n 0) (v:Nat))):=⟨by
  have h:=T.fs.start (n:=n) (t:=ae E) (D:=fun v=>rd d (v:Nat)) (dist:=fun v=>rd out (v:Nat)) (B:=200) (k:=G) (by omega) (fun v l=>(HD.out v l).1) HM.out (by omega);rw[show (fun v:Nat=>rd (List.replicate n 0) (v:Int))=fun _=>0 from by
   funext v
   simp[rd,aX,List.getElem?_replicate];split<;>rfl]
  exact h⟩
 rw[av];clear av c7 c6;have c8:=zA bg;have c9:=zA (List.length_replicate (n:=n) (a:=(0:Int)));clear bg;go_loopg [4] (G) (fun M kv wr=>∃(k:Nat) (d' s':List Int),kv= .int .i64 k/\k<=n/\Aside0 (LI w0 w g gd gs go cd cs co n A0 c0 E q out d' s' wr)/\Aside0 (d'.length=n)/\Aside0 (s'.length=n)/\Aside0 (T.fs n (ae E) (fun v=>rd d (v:Nat)) (fun v=>rd out (v:Nat)) 200 k (fun v=>rd d' (v:Nat)) (fun v=>rd s' (v:Nat)))/\Aside0 (M=k))
 case atStart=>exact⟨G,d,List.replicate n 0,rfl,aB,L,c8,c9,bv,⟨rfl⟩⟩
 case round=>
  clear L bv HM aB HS;obtain⟨k,d',s',rfl,aB,b,O,P,I,HK⟩:=hrel;by_cases hk:0<k
  ·have e6:(0:Int)<(k:Int):=by omega
   have dd:(0:Int)<=(n:Int):=by omega
   have s5:=b.out.si.f5;have s0:=b.out.si.f0;go_wp2_with (first|((with_reducible refine aU (N:=33) rfl ?_);refine Kd.ky Kd.bool _ 4 rfl (N:=33) rfl 43 _ _ rfl (n:Int) rfl rfl Tryz.underlying43 (.bool false) 1 mu rfl (by decide) (by omega) false (ok:=fun _=>True) (okp:=fun _=>True) rfl (fun _ hk=>hk) trivial dd (by simp;omega) (aq _ _) (aI _) ?_;intro v1 w5 ho hb dl ds;rw[aG] at ho;obtain⟨j,cr,l,e_,dv, -⟩:=Kd.fE ho (by rw[List.length_replicate];omega);rw[List.length_replicate] at l;subst l;have bx:=zA ho;have b4:=zA (b.out.below hb);clear ho hb dl ds))
   have e':=Kd.ba b.out.fo go rfl;have fb:=b.out.si.hb.size;have fd:=b.out.hw;have dx:w.heap.size<=wr.heap.size:=by omega
   have d0:j≠go:=by omega
   have d1:w.heap.size<=j:=by omega
   have ag:=zA (a7 w5 (.cells #[.slice (some ⟨j,0,none⟩) n cr] 43));have aL:=zA (Kd.bd (Kd.aM bx.out (.cells #[.slice (some ⟨j,0,none⟩) n cr] 43)) (base':=w.heap.size) dx);have aO:=zA (b4.out.alloc (.cells #[.slice (some ⟨j,0,none⟩) n cr] 43));clear bx b4 s5 s0 b;generalize w5.alloc (.cells #[.slice (some ⟨j,0,none⟩) n cr] 43)=W6 at ag aL aO⊢;generalize w5.heap.size=gb at ag dv⊢;have b5:Aside0 (Kd.bool.R 4 W6 w.heap.size (fun _=>True) (.slice (some ⟨j,0,none⟩) n cr) ((List.range n).map fun u:Nat=>if u<0 then decide (rd out (u:Int)<k) else false)):=⟨by
    have h:=aL.out;rw[show (List.replicate n false:List Bool)=(List.range n).map fun u:Nat=>if u<0 then decide (rd out (u:Int)<k) else false from by
     refine List.ext_getElem (by simp) fun i h1 H=>?_
     simp] at h
    exact h⟩
   clear aL;go_loopg [36] (n) (fun M vv aR=>∃v:Nat,v<=n/\vv= .int .i64 v/\Aside0 (LI w0 w g gd gs go cd cs co n A0 c0 E q out d' s' aR)/\Aside0 (aR.heap[gb]? =some (.cells #[.slice (some ⟨j,0,none⟩) n cr] 43 (0,0)))/\Aside0 (Kd.bool.R 4 aR w.heap.size (fun _=>True) (.slice (some ⟨j,0,none⟩) n cr) ((List.range n).map fun u:Nat=>if u<v then decide (rd out (u:Int)<k) else false))/\Aside0 (M=n-v))
   case atStart=>exact⟨0,by omega,rfl,aO,ag,b5,⟨rfl⟩⟩
   case round=>
    clear aO ag b5;obtain⟨v,l,rfl,b,m,Q,J⟩:=hrel;by_cases p:v<n
    ·have d3:(0:Int)<=(v:Int):=by omega
     have d4:(v:Int)<(n:Int):=by omega
     have S:=dM m.out;have b1:=b.out.kb v p;obtain⟨U,hf⟩:=Kd.bO false Q.out (v:Int) (by omega) (by omega);rw[aG] at U hf;generalize bM false ((List.range n).map fun u:Nat=>if u<v then decide (rd out (u:Int)<k) else false) (v:Int)=z at U;replace U:wr.cell? ⟨j,v,none⟩=some (.bool z):=U;have V:=Kd.dh Q.out (v:Int) (decide (rd out (v:Int)<k));rw[aG] at V;have em:(((List.range n).map fun u:Nat=>if u<v then decide (rd out (u:Int)<k) else false).set v (decide (rd out (v:Int)<k)))=(List.range n).map fun u:Nat=>if u<v+1 then decide (rd out (u:Int)<k) else false:=by
      refine List.ext_getElem (by simp) fun i h1 H=>?_
      rw[List.getElem_set];simp only[List.getElem_map,List.getElem_range];by_cases e:v=i
      ·subst e;simp
      ·rw[if_neg e]
       by_cases h:i<v
       ·rw[if_pos h,if_pos (by omega)]
       ·rw[if_neg h,if_neg (by omega)]
     rw[em] at V;have b6:=zA (Kd.bj V.1);have b_:=zA (eZ (dc (g:=gb) m.out V.2 (fun e=>by injection e with e;omega)));have L:=zA ((b.out.iL ⟨j,v,none⟩ (.bool (decide (rd out (v:Int)<k))) d1 d0).drew);clear V em b m Q;go_wp2;go_region
     clear S b1 U hf;generalize (wr.setCell ⟨j,v,none⟩ (.bool (decide (rd out (v:Int)<k)))).drew=W7 at L b_ b6⊢;go_wp2;go_roundg (n- (v+1))
     case measure=>rw[J.out];omega
     case rel=>exact⟨v+1,by omega,by go_num,L,b_,b6,⟨rfl⟩⟩
    ·obtain rfl:n=v:=by omega
     go_wp2;have r:Aside0 (Kd.bool.R 4 wr w.heap.size (fun _=>True) (.slice (some ⟨j,0,none⟩) n cr) ((List.range n).map (T.bG (fun v=>rd out (v:Nat)) k))):=⟨by
      have h:=Q.out;rw[show ((List.range n).map fun u:Nat=>if u<n then decide (rd out (u:Int)<k) else false)=(List.range n).map (T.bG (fun v=>rd out (v:Nat)) k) from List.map_congr_left fun u hu=>by
       rw[if_pos (List.mem_range.1 hu)];rfl] at h
      exact h⟩
     have d5:0<=T.fM n (ae E) (fun v=>rd out (v:Nat)) 200 k:=by have:=T.py (n:=n) (t:=ae E) (fun v=>rd out (v:Nat)) (show (0:Int)<=200 by omega) k;omega
     have d6:=T.rH o.out.wt (fun v=>rd out (v:Nat)) (B:=200) (by omega) aa k;have b':Aside0 (∀v:Nat,v<n-> -T.fM n (ae E) (fun v=>rd out (v:Nat)) 200 k<=rd d' v):=⟨fun v l=>I.out.low v l⟩;clear Q J;obtain⟨Y,a0⟩:∃Y,Y=T.fM n (ae E) (fun v=>rd out (v:Nat)) 200 k:=⟨_,rfl⟩;rw[<-a0] at d5 d6 b';have d7:=zA a0;clear a0;go_loopg [51,7] (n) (fun M vv tv wr=>∃(v:Nat) (x:Int),v<=n/\vv= .int .i64 v/\tv= .int .i64 x/\0<=x/\x<=Y/\Aside0 (∀u:Nat,u<v->rd out u=k->rd d' u<0-> -rd d' u<=x*T.sN (fun w=>if T.bG (fun v=>rd out (v:Nat)) k w=true then ae E u w else 0) n)/\Aside0 (LI w0 w g gd gs go cd cs co n A0 c0 E q out d' s' wr)/\Aside0 (wr.heap[gb]? =some (.cells #[.slice (some ⟨j,0,none⟩) n cr] 43 (0,0)))/\Aside0 (Kd.bool.R 4 wr w.heap.size (fun _=>True) (.slice (some ⟨j,0,none⟩) n cr) ((List.range n).map (T.bG (fun v=>rd out (v:Nat)) k)))/\Aside0 (M=n-v))
     case atStart=>exact⟨0,0,by omega,rfl,rfl,by omega,by omega,⟨fun u hu=>by omega⟩,b,m,r,⟨rfl⟩⟩
     case round=>
      clear b m r;obtain⟨v,x,l,rfl,rfl,a1,a2,X,b,m,r,J⟩:=hrel;by_cases p:v<n
      ·have d3:(0:Int)<=(v:Int):=by omega
       have d4:(v:Int)<(n:Int):=by omega
       have S:=dM m.out;have b1:=b.out.kb v p;have b2:=b.out.si.kT v p;have b3:=b.out.si.f3;by_cases F:rd out v=k
       ·have ea:(rd out v==(k:Int))=true:=by simpa using F
        by_cases ca:rd d' v<0
        ·have eb:decide (rd d' v<0)=true:=ay ca
         obtain⟨u,hu,cb,cc⟩:=s.out.back v p (fun e=>by have:=s.out.q0;rw[<-e] at this;omega);have ce:=zA (EA o.out.wt hu cb cc F);have cf:Aside0 (T.sN (fun w=>if T.bG (fun v=>rd out (v:Nat)) k w=true then ae E v w else 0) n<=600):=⟨by
          have h:=T.cW (f:=fun w=>if T.bG (fun v=>rd out (v:Nat)) k w=true then ae E v w else 0) (g:=fun _=>50) (n:=n) (fun w _=>by
           have:=o.out.j9.times v w;show (if T.bG (fun v=>rd out (v:Nat)) k w=true then ae E v w else 0)<=50
           split<;>omega)
          rw[T.jd] at h;omega⟩
         have cg:=zA (rN o.out hl (T.bG (fun v=>rd out (v:Nat)) k) p);have fq:=(nL o.out.wt hn aa (fun v l=>HD.out v l) (by omega) (by omega) I.out v p).1;have fr:=b'.out v p;have a3:=zA F;clear F cb cc;go_wp2_with (go_at_call 168;refine(EP g n A0 c0 E q _ _ 0 v #[.pointer (some ⟨gb,0,none⟩)] (T.bG (fun v=>rd out (v:Nat)) k) _ (Kd.ax an b.out.si.hb) o.out.j9 (by omega) p b.out.si.st (fun W u ch ed eg=>ER gb j cr n _ _ _ W u (aD m.out ch) (Kd.cY r.out ch) ed eg)).mono ?_;rintro e w8 ⟨rfl,ak⟩;have Z:=zA (b.out.below ak);have el:=zA (aD m.out ak);have er:=zA (Kd.cY r.out ak);have c2:=Z.out.si.kT v p;have c3:=Z.out.si.f3;rw[cg.out];clear ak S b1 b2 b3 b m r;obtain⟨y,hy⟩:∃y,y=T.sN (fun w=>if T.bG (fun v=>rd out (v:Nat)) k w=true then ae E v w else 0) n:=⟨_,rfl⟩;rw[<-hy];have a4:=ce.out;have es:=cf.out;rw[<-hy] at a4 es;have HY:=zA hy;clear hy ce cf cg)
         all_goals
          have ew:=zA (Ew (a:= -rd d' v) (x:=y) a4);have ci:=zA (Ex (a:= -rd d' v) (x:=y) (by omega) a4);go_roundg (n- (v+1))
          case measure=>rw[J.out];omega
          case rel=>exact⟨v+1,_,by omega,by go_num,rfl,by have:=ci.out;omega,by have:=ci.out;omega,⟨fun u hu h1 H=>by
           have hc:=ew.out;by_cases e:u=v
           ·subst e
            rw[<-HY.out];first|exact hc|exact Int.le_trans hc (Int.mul_le_mul_of_nonneg_right (by assumption) (by omega))
           ·have hT:=X.out u (by omega) h1 H
            first|exact hT|exact Int.le_trans hT (Int.mul_le_mul_of_nonneg_right (by omega) (T.dw fun w _=>by
             show 0<=(if T.bG (fun v=>rd out (v:Nat)) k w=true then ae E u w else 0)
             have:=o.out.wt.pos u w;split<;>omega))⟩,Z,el,er,⟨rfl⟩⟩
        ·have eb:decide (rd d' v<0)=false:=aZ ca
         have a3:=zA F;clear F;go_wp2;go_roundg (n- (v+1))
         case measure=>rw[J.out];omega
         case rel=>exact⟨v+1,x,by omega,by go_num,rfl,a1,a2,⟨fun u hu h1 H=>by
          by_cases e:u=v
          ·subst e;omega
          ·exact X.out u (by omega) h1 H⟩,b,m,r,⟨rfl⟩⟩
       ·have ea:(rd out v==(k:Int))=false:=by simpa using F
        have a3:=zA F;clear F;go_wp2;go_roundg (n- (v+1))
        case measure=>rw[J.out];omega
        case rel=>exact⟨v+1,x,by omega,by go_num,rfl,a1,a2,⟨fun u hu h1 H=>by
         by_cases e:u=v
         ·subst e;exact absurd h1 a3.out
         ·exact X.out u (by omega) h1 H⟩,b,m,r,⟨rfl⟩⟩
      ·obtain rfl:n=v:=by omega
       by_cases ft:0<x
       ·have S:=dM m.out
        obtain⟨cl,cn⟩:=Ey o.out hn aa (fun v l=>HD.out v l) s.out.wI (show (1:Int)<=(k:Int) by omega) (by omega) O.out P.out I.out a1 (by rw[<-d7.out];exact a2) X.out;have ex:=zA cl;have ey:=zA cn;obtain⟨a5,a9⟩:=nK E (T.bG (fun v=>rd out (v:Nat)) k) x (d',s') n;have a5:=zA a5;have a9:=zA a9;clear cl cn;rename_i e0 e1;clear e0 e1;go_wp2_with (go_at_call 166;refine(v_ g gd gs j cd cs cr n A0 c0 E q d' s' (T.bG (fun v=>rd out (v:Nat)) k) x w0 _ an o.out.j9 (by omega) (by omega) b.out.si (Kd.bd r.out bi) ⟨by omega,by omega⟩ O.out P.out ey.out).mono ?_;rintro e w8 ⟨rfl,cp,cq,aY⟩;have Z:=zA (b.out.EU cp cq);clear cp cq b m r S)
        go_roundg (k-1)
        case measure=>rw[HK.out];omega
        case rel=>exact⟨k-1,_,_,by go_num,by omega,Z,⟨a5.out.trans O.out⟩,⟨a9.out.trans P.out⟩,⟨by
         have h:=ex.out;rw[show ((k:Int)-1)=((k-1:Nat):Int) by omega] at h;exact h⟩,⟨rfl⟩⟩
       ·obtain rfl:x=0:=by omega
        go_wp2;go_roundg (k-1)
        case measure=>rw[HK.out];omega
        case rel=>exact⟨k-1,d',s',by go_num,by omega,b,O,P,⟨by
         have h:=Ez o.out aa s.out.wI I.out X.out;rw[show ((k:Int)-1)=((k-1:Nat):Int) by omega] at h;exact h⟩,⟨rfl⟩⟩
  ·obtain rfl:k=0:=by omega
   go_wp2;go_end0;exact⟨rfl,d',s',O.out,P.out,b.out.si,fun v l e2=>I.out.kQ v l (by obtain⟨u,hu,h1,H⟩:=s.out.back v l e2;have:=s.out.pos u hu;show ((0:Nat):Int)<rd out (v:Int);omega),_,I.out⟩
end
section
attribute [local go_sem] Oper.semAt_some
theorem EW (A0:Option Addr) (c0 n:Nat) (l0:List Int) (w:World) (h:l0.length=n) (h1:1<=n) (hn:n<=1000) (i:Kd.C (Kd.int .i64) w A0 l0.length l0) (j:l0.length<=c0):
  Calls Tryz.prog 57 #[.slice A0 n c0] w fun e w'=>∃gd a,e= .returned (.slice (some ⟨gd,0,none⟩) n a)/\(Kd.int .i64).R 3 w' w.heap.size (fun _=>True) (.slice (some ⟨gd,0,none⟩) n a) l0/\Below w.heap.size w w':=by
 subst h;refine(fJ.calls A0 c0 l0 l0 w i j (by unfold fJ.f clone.f;rw[if_pos (by omega)])).mono ?_;rintro e w1 ⟨v0,rfl,b,k⟩;obtain⟨g,cap,rfl, -⟩:=Kd.fE b (by omega);exact⟨g,cap,rfl,b,k⟩
abbrev Hg (w:World) (N:Int) (A0:Option Addr) (k c0:Nat) (w':World):Prop:=w'.heap[w.heap.size]? =some (.cells #[.int .i64 N,.slice A0 k c0] 24 (0,0))/\w'.cell? ⟨w.heap.size,0,none⟩=some (.int .i64 N)/\w'.cell? ⟨w.heap.size,1,none⟩=some (.slice A0 k c0)/\Below w.heap.size w w'
theorem Hg.of {w w':World} {N:Int} {A0:Option Addr} {k c0:Nat} (h:w'.heap[w.heap.size]? =some (.cells #[.int .i64 N,.slice A0 k c0] 24 (0,0))) (hb:Below w.heap.size w w'):Hg w N A0 k c0 w':=⟨h,(ah h 0).trans rfl,(ah h 1).trans rfl,hb⟩
theorem Hg.start (w:World) (N:Int) (A0:Option Addr) (k c0:Nat):Hg w N A0 k c0 (w.alloc (.cells #[.int .i64 N,.slice A0 k c0] 24)).drew:=Hg.of (eZ (a7 w _)) (bR (ao (aq _ _) _))
theorem Hg.alloc {w w':World} {N:Int} {A0:Option Addr} {k c0:Nat} (h:w'.heap[w.heap.size]? =some (.cells #[.int .i64 N,.slice A0 k c0] 24 (0,0))) (hb:Below w.heap.size w w') (o:Obj):Hg w N A0 k c0 (w'.alloc o):=Hg.of (au h o) (ao hb o)
theorem Hg.below {w w' a:World} {N:Int} {A0:Option Addr} {k c0:Nat} (h:w'.heap[w.heap.size]? =some (.cells #[.int .i64 N,.slice A0 k c0] 24 (0,0))) (hb:Below w.heap.size w w') (b:Below w'.heap.size w' a):Hg w N A0 k c0 a:=Hg.of (aD h b) (aW hb b)
theorem EX (n:Nat) (q:Int) (A0:Option Addr) (c0:Nat) (E:List S83) (m:Option Addr) (cd:Nat) (d:List Int) (w:World) (hd:Kd.C (Kd.int .i64) w m d.length d) (r:d.length<=cd) (s:d.length=n) (h1:1<=n) (hn:n<=1000):
  Calls Tryz.prog 109 #[.agg #[.int .i64 n,.slice A0 E.length c0],.int .i64 q,.slice m n cd] w fun e w'=>∃g gd gs b x,e= .returned (.pointer (some ⟨g,0,none⟩))/\SI w g gd gs b x n A0 c0 E q d (List.replicate n 0) w':=by
 have hu:=Tryz.underlying24;have G:=Tryz.underlying188;have y:=zA s;have z:=zA r;have B:=zA hd;have H:(0:Int)<=(n:Int):=by omega
 have I:(n:Int)<=1000:=by omega
 obtain⟨zs,u,v⟩:=lH 29 Tryz.underlying29 n hn;have l:=zA v;clear s r hd v;go_enter Tryz.func109,Tryz.ntmps109
 go_wp2_with fail
 go_region_held3 (fun w'=>w'.heap[w.heap.size]? =some (.cells #[.int .i64 n,.slice A0 E.length c0] 24 (0,0))/\w'.cell? ⟨w.heap.size,0,none⟩=some (.int .i64 n)/\w'.cell? ⟨w.heap.size,1,none⟩=some (.slice A0 E.length c0)/\Below w.heap.size w w')
  (first
   |exact Hg.start w n A0 E.length c0
   |((try go_split_ands);refine⟨by assumption,by assumption,by assumption,by assumption⟩)
   |((try go_split_ands);exact Hg.alloc (by assumption) (by assumption) _)
   |((try go_split_ands);exact Hg.below (by assumption) (by assumption) (by assumption))
   |fail)
  ((go_at_call 57;refine(EW m cd n d _ y.out h1 hn (Kd.ax B.out (by go_split_ands;assumption)) z.out).mono ?_;rintro e w1 ⟨gd,b,rfl,a,i⟩))
 ·rename_i hHeld
  obtain⟨-, -, -,j⟩:=hHeld;have D:=Kd.ba a gd rfl;have o:=Kd.dK a gd rfl;have p:=i.size;simp only[World.drew,World.size_alloc] at o p;have hS:=l.out w1 (fun _=>True) trivial;have k:=zA (SI.mk (g:=w1.heap.size+1) j (by have h:=a7 (w1.alloc (.cells zs 3)) (.cells #[.int .i64 n,.slice A0 E.length c0,.int .i64 q,.slice (some ⟨gd,0,none⟩) n b,.slice (some ⟨w1.heap.size,0,none⟩) n n,.int .i64 0] 188);rw[World.size_alloc] at h;exact h)
   (Kd.aM (Kd.aM (Kd.bd a (by simp[World.drew])) _) _) (Kd.bd (Kd.aM hS _) (by omega)) ⟨by omega,by omega,by omega,by omega⟩)
  clear a i j hS l u;generalize (w1.alloc (.cells zs 3)).alloc (.cells #[.int .i64 n,.slice A0 E.length c0,.int .i64 q,.slice (some ⟨gd,0,none⟩) n b,.slice (some ⟨w1.heap.size,0,none⟩) n n,.int .i64 0] 188)=F at k⊢;go_wp2;go_ret;exact⟨_,_,_,_,_,rfl,k.out⟩
 ·rename_i hHeld
  obtain⟨-, -, -,j⟩:=hHeld;have D:=Kd.ba a gd rfl;have o:=Kd.dK a gd rfl;have p:=i.size;simp only[World.drew,World.size_alloc] at o p;have hS:=Kd.cY (Kd.bj (l.out (w.alloc (.cells #[.int .i64 n,.slice A0 E.length c0] 24)) (fun _=>True) trivial)) i;rw[World.size_alloc] at hS;have k:=zA (SI.mk (g:=w1.heap.size) j (a7 w1 (.cells #[.int .i64 n,.slice A0 E.length c0,.int .i64 q,.slice (some ⟨gd,0,none⟩) n b,.slice (some ⟨w.heap.size+1,0,none⟩) n n,.int .i64 0] 188))
   (Kd.aM (Kd.bd a (by simp[World.drew];omega)) _) (Kd.bd (Kd.aM hS _) (by omega)) ⟨by omega,by omega,by omega,by omega⟩)
  clear a i j hS l u;generalize w1.alloc (.cells #[.int .i64 n,.slice A0 E.length c0,.int .i64 q,.slice (some ⟨gd,0,none⟩) n b,.slice (some ⟨w.heap.size+1,0,none⟩) n n,.int .i64 0] 188)=F at k⊢;go_wp2;go_ret;exact⟨_,_,_,_,_,rfl,k.out⟩
end
section
attribute [local go_sem] jQ jR jS jT ng nh ni nj
def cT.l0:Nat->Int->Int->Int->Int->List (S83)->Option (Int)
 |0,_,_,_,_,_=>none
 |k+1,x1,x2,a,e,b=>if a<(b.length:Int) then(if 0<=a then(if((af b a).f0)=(mn x1 x2) then(if((af b a).f1)=(mx x1 x2) then(some ((af b a).f2)) else(cT.l0 k x1 x2 (wrap64 (a+1)) e b)) else(cT.l0 k x1 x2 (wrap64 (a+1)) e b)) else(none)) else(some 0)
def cT.f (k:Nat) (a:Int) (b:List (S83)) (e:Int) (a2:Int):Option (Int):=cT.l0 k e a2 0 a b
theorem cT.calls (k:Nat) (m:Int) (P:Option Addr) (B:Nat) (a:List (S83)) (n:Int) (a2:Int) (r:Int) (w:World) (Z:Kd.C aN w P a.length a) (aa:a.length<=B) (h:cT.f k m a n a2=some r):
  Calls Tryz.prog 147 #[.agg #[.int .i64 m,.slice P a.length B],.int .i64 n,.int .i64 a2] w fun e w'=>e= .returned (.int .i64 r)/\Below w.heap.size w w':=by
 have aB:=Tryz.underlying24;have aF:=Tryz.underlying83;have U:=zA Z;have aL:=zA aa;clear Z aa;have b:=zA (aq w.heap.size w);have H:(cT.l0 k n a2 0 m a)=some r:=h;clear h;have F:=zA H;clear H;go_enter Tryz.func147,Tryz.ntmps147
 go_wp2_with (first|((with_reducible refine aU (N:=3) rfl ?_);(try(refine ei (by rfl) ?_;dsimp only));refine zX 3 #[.int .i64 m,.slice P a.length B] 24 ?_;intro p j w4 q hb;have l:=zA (q);have aP:=zG b j;have aR:=zG b j;replace b:=zS b hb;clear hb q j))
 go_loopg [7] k (fun kq v7 w'=>∃(i:Int),v7= .int .i64 i/\Aside0 (cT.l0 kq n a2 i m a=some r)/\Aside0 (kq<=k)/\Aside0 (w'.heap[p]? =some (.cells #[.int .i64 m,(.slice P a.length B)] 24 (0,0)))/\Aside0 (Below w.heap.size w w'))
 case atStart=>exact⟨(0),zT,F,⟨aI _⟩,⟨zK l⟩,⟨zB⟩⟩
 case round=>
  clear F;obtain⟨i,rfl,V,Q,l,b⟩:=hrel;cases gk with
  |zero=>exact absurd V.out (by simp[cT.l0])
  |succ I=>
   have H:=V.out;clear V;simp only[cT.l0] at H;by_cases G:i<(a.length:Int)
   ·rw[if_pos G] at H
    have am:=ay G;clear G;by_cases R:0<=i
    ·rw[if_pos R] at H
     have aS:=ay R;clear R;obtain⟨W,S⟩:∃X:Int,(mn n a2)=X:=⟨_,rfl⟩;replace H:(if((af a i).f0)=(W) then(if((af a i).f1)=(mx n a2) then(some ((af a i).f2)) else(cT.l0 I n a2 (wrap64 (i+1)) m a)) else(cT.l0 I n a2 (wrap64 (i+1)) m a))=some r:=by first|(rw[S] at H;exact H)|(simp only[S] at H⊢;exact H)
     have a0:(if a2<n then a2 else n)=W:=S;by_cases J:((af a i).f0)=(W)
     ·rw[if_pos J] at H
      obtain⟨an,ap⟩:=bT J;clear J;obtain⟨Y,T⟩:∃X:Int,(mx n a2)=X:=⟨_,rfl⟩;replace H:(if((af a i).f1)=(Y) then(some ((af a i).f2)) else(cT.l0 I n a2 (wrap64 (i+1)) m a))=some r:=by first|(rw[T] at H;exact H)|(simp only[T] at H⊢;exact H)
      have a3:(if n<a2 then a2 else n)=Y:=T;by_cases K:((af a i).f1)=(Y)
      ·rw[if_pos K] at H
       obtain⟨ar,av⟩:=bT K;clear K;obtain rfl:=aQ H;obtain⟨a4,a5,a9,be⟩:=aA l;have s:0<=(i:Int):=aw ‹_›;have u:i<(a.length:Int):=aw ‹_›;obtain⟨D,L,v,x,y⟩:=eN U.out i s u;cases L;replace v:=(b.out.cell (bu w _ v)).trans v;replace x:=(b.out.cell (bu w _ x)).trans x;replace y:=(b.out.cell (bu w _ y)).trans y;replace s:=eq_true s;replace u:=eq_true u;go_wp2_with (first|((with_reducible refine aU (N:=8) rfl ?_);(try(refine ei (by rfl) ?_;dsimp only));refine zX 8 #[.int .i64 0,.int .i64 0,.int .i64 0] 83 ?_;intro E j bf q hb;have M:=zA (q);have ad:=zG b j;have ag:=zG b j;replace b:=zS b hb;have z:=zA ((by rw[j];exact Nat.ne_of_lt (aC (g:=p) (o:=.cells #[.int .i64 m,.slice (some D) a.length B] 24 (0,0)) (zK l)):p≠E));have O:=zA ((by rw[j];exact Nat.ne_of_gt (aC (g:=p) (o:=.cells #[.int .i64 m,.slice (some D) a.length B] 24 (0,0)) (zK l)):E≠p));replace l:=zb l hb;clear hb q j;have bg:=O.out;have bi:=z.out;obtain⟨bk,bn,bo,bv,bw,bx⟩:=cA M))
       go_ret;exact⟨by first|rfl|(simp[fG,fH]<;>rfl)|(simp only[<-S,<-T];first|rfl|(simp[fG,fH]<;>rfl))|(simp[*,fG,fH]<;>rfl),zB⟩
      ·rw[if_neg K] at H
       obtain⟨ar,av⟩:=bU K;have F:=zA H;clear H;obtain⟨b0,b1,b2,b3⟩:=aA l;have s:0<=(i:Int):=aw ‹_›;have u:i<(a.length:Int):=aw ‹_›;obtain⟨D,L,v,x,y⟩:=eN U.out i s u;cases L;replace v:=(b.out.cell (bu w _ v)).trans v;replace x:=(b.out.cell (bu w _ x)).trans x;replace y:=(b.out.cell (bu w _ y)).trans y;replace s:=eq_true s;replace u:=eq_true u;go_wp2_with (first|((with_reducible refine aU (N:=8) rfl ?_);(try(refine ei (by rfl) ?_;dsimp only));refine zX 8 #[.int .i64 0,.int .i64 0,.int .i64 0] 83 ?_;intro E j b4 q hb;have M:=zA (q);have ad:=zG b j;have ag:=zG b j;replace b:=zS b hb;have z:=zA ((by rw[j];exact Nat.ne_of_lt (aC (g:=p) (o:=.cells #[.int .i64 m,.slice (some D) a.length B] 24 (0,0)) (zK l)):p≠E));have O:=zA ((by rw[j];exact Nat.ne_of_gt (aC (g:=p) (o:=.cells #[.int .i64 m,.slice (some D) a.length B] 24 (0,0)) (zK l)):E≠p));replace l:=zb l hb;clear hb q j;have b5:=O.out;have b6:=z.out;obtain⟨b_,b',ca,cb,cc,cd⟩:=cA M))
       go_roundg I
       case measure=>have:=Q.out;omega
       case rel=>exact⟨(wrap64 (i+1)),zT,F,⟨by have:=Q.out;omega⟩,⟨by refine zk ?_;refine aE ?_ z.out _;refine zk ?_;refine aE ?_ z.out _;refine zk ?_;refine aE ?_ z.out _;exact zK l⟩,⟨zB⟩⟩
     ·rw[if_neg J] at H
      obtain⟨an,ap⟩:=bU J;have F:=zA H;clear H;obtain⟨ce,cf,cg,ch⟩:=aA l;have s:0<=(i:Int):=aw ‹_›;have u:i<(a.length:Int):=aw ‹_›;obtain⟨D,L,v,x,y⟩:=eN U.out i s u;cases L;replace v:=(b.out.cell (bu w _ v)).trans v;replace x:=(b.out.cell (bu w _ x)).trans x;replace y:=(b.out.cell (bu w _ y)).trans y;replace s:=eq_true s;replace u:=eq_true u;go_wp2_with (first|((with_reducible refine aU (N:=8) rfl ?_);(try(refine ei (by rfl) ?_;dsimp only));refine zX 8 #[.int .i64 0,.int .i64 0,.int .i64 0] 83 ?_;intro E j ci q hb;have M:=zA (q);have ad:=zG b j;have ag:=zG b j;replace b:=zS b hb;have z:=zA ((by rw[j];exact Nat.ne_of_lt (aC (g:=p) (o:=.cells #[.int .i64 m,.slice (some D) a.length B] 24 (0,0)) (zK l)):p≠E));have O:=zA ((by rw[j];exact Nat.ne_of_gt (aC (g:=p) (o:=.cells #[.int .i64 m,.slice (some D) a.length B] 24 (0,0)) (zK l)):E≠p));replace l:=zb l hb;clear hb q j;have cj:=O.out;have ck:=z.out;obtain⟨cl,cn,co,cp,cq,cr⟩:=cA M))
      go_roundg I
      case measure=>have:=Q.out;omega
      case rel=>exact⟨(wrap64 (i+1)),zT,F,⟨by have:=Q.out;omega⟩,⟨by refine zk ?_;refine aE ?_ z.out _;refine zk ?_;refine aE ?_ z.out _;refine zk ?_;refine aE ?_ z.out _;exact zK l⟩,⟨zB⟩⟩
    ·rw[if_neg R] at H
     exact absurd H (by simp)
   ·rw[if_neg G] at H
    have am:=aZ G;clear G;obtain rfl:=aQ H;obtain⟨cs,ct,cv,cx⟩:=aA l;go_wp2;go_ret;exact⟨zE,zB⟩
end
end Go.Proofs.YtffdiakgjakngaaGreat.P


