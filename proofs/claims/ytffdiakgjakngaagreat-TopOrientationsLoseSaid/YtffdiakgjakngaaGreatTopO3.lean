/- TopO answers true whatever the input (text 3 of 6): own walks and plain laws; no conditions. -/
import Derived.Laws.EntriesVeiled
import Derived.Lib.SliceRun
import Derived.Test.YtffdiakgjakngaaGreatTopO2
namespace Go.Proofs.YtffdiakgjakngaaGreat.T
set_option linter.unusedVariables false
set_option linter.unusedSimpArgs false
set_option maxHeartbeats 8000000
set_option maxRecDepth 100000
def dP (n:Nat) (t:Nat->Nat->Int):Prop:=∀S:Nat->Bool,(∃v,v<n/\S v=true)->(∃v,v<n/\S v=false)->∃u v,u<n/\v<n/\S u=true/\S v=false/\0<t u v
theorem A8 {f:Nat->Nat->Int} (h:∀u v,f u v= -f v u) (n:Nat):sN (fun v=>sN (fun u=>f v u) n) n=0:=by
 have h1:=lU f n n;have a:sN (fun u=>sN (fun v=>f v u) n) n=sN (fun u=> -sN (fun v=>f u v) n) n:=bm fun u _=>by
  rw[<-lT];exact bm fun v _=>h v u
 rw[a,lT] at h1;omega
theorem A_ {n:Nat} {t:Nat->Nat->Int} (a:Wt n t) (S:Nat->Bool) (s:Nat->Int):sN (fun v=>if S v=true then aI n t s v else 0) n=sN (fun v=>sN (fun u=>if S v=true/\S u=false then t v u*(s v-s u) else 0) n) n:=by
 have h1:=A8 (f:=fun v u=>if S v=true/\S u=true then t v u*(s v-s u) else 0) (fun u v=>by
  by_cases e:S u=true/\S v=true
  ·rw[if_pos e,if_pos ⟨e.2,e.1⟩,a.sym v u,<-Int.mul_neg];congr 1;omega
  ·rw[if_neg e,if_neg (fun h=>e ⟨h.2,h.1⟩)];rfl) n
 have b:sN (fun v=>if S v=true then aI n t s v else 0) n=sN (fun v=>sN (fun u=>if S v=true/\S u=true then t v u*(s v-s u) else 0) n+sN (fun u=>if S v=true/\S u=false then t v u*(s v-s u) else 0) n) n:=by
  refine bm fun v _=>?_
  show (if S v=true then aI n t s v else 0)=_
  by_cases e:S v=true
  ·rw[if_pos e,<-de]
   unfold aI;refine bm fun u _=>?_
   cases hu:S u<;>simp[e]
  ·rw[if_neg e,fs fun u _=>if_neg (fun h=>e h.1),fs fun u _=>if_neg (fun h=>e h.1)];rfl
 rw[b,de,h1];omega
theorem Ba {n:Nat} {t:Nat->Nat->Int} (g:Wt n t) (S:Nat->Bool) (s:Nat->Int) (M:Int) (m:0<=M) (j:∀u v,u<n->v<n->S u=true->S v=false->M<=s u-s v) {a b:Nat} (h:a<n) (hb:b<n) (k:S a=true) (l:S b=false) (q:0<t a b):
  M<=sN (fun v=>if S v=true then aI n t s v else 0) n:=by
 rw[A_ g];have hp:∀v,v<n->∀u,u<n->0<=(if S v=true/\S u=false then t v u*(s v-s u) else 0):=fun v i u hu=>by
  by_cases e:S v=true/\S u=false
  ·rw[if_pos e]
   have:=j v u i hu e.1 e.2;exact Int.mul_nonneg (g.pos _ _) (by omega)
  ·rw[if_neg e];exact Int.le_refl _
 have h1:=gZ (f:=fun v=>sN (fun u=>if S v=true/\S u=false then t v u*(s v-s u) else 0) n) h (fun v i=>dE (hp v i));have o:=gZ (f:=fun u=>if S a=true/\S u=false then t a u*(s a-s u) else 0) hb (hp a h);refine Int.le_trans ?_ (Int.le_trans o h1);show M<=(if S a=true/\S b=false then t a b*(s a-s b) else 0)
 rw[if_pos ⟨k,l⟩];have p:=j a b h hb k l;have r:=Int.mul_le_mul (show (1:Int)<=t a b by omega) p m (g.pos _ _);omega
def bK (S:Nat->Bool):Nat->Nat
 |0=>0
 |n+1=>bK S n+if S n=true then 1 else 0
theorem iG (S:Nat->Bool):∀n,bK S n<=n
 |0=>Nat.le_refl _
 |n+1=>by have:=iG S n;unfold bK;split<;>omega
theorem lX {S T:Nat->Bool}:∀{n:Nat},(∀v,v<n->S v=true->T v=true)->bK S n<=bK T n
 |0,_=>Nat.le_refl _
 |n+1,h=>by
  have h1:=lX (n:=n) (fun v b=>h v (by omega));have a:=h n (by omega);unfold bK;cases hS:S n with
  |true=>rw[a hS];simp;exact h1
  |false=>simp only[Bool.false_eq_true,if_false];split<;>omega
theorem nh {S T:Nat->Bool} {w:Nat}:∀{n:Nat},(∀v,v<n->S v=true->T v=true)->w<n->S w=false->T w=true->bK S n<bK T n
 |0,_,h,_,_=>by omega
 |n+1,h,hw,hS,a=>by
  by_cases e:w=n
  ·subst e
   have h1:=lX (n:=w) (fun v b=>h v (by omega));unfold bK;rw[hS,a];simp;omega
  ·have h1:=nh (n:=n) (fun v b=>h v (by omega)) (by omega) hS a
   have g:=h n (by omega);unfold bK;cases i:S n with
   |true=>rw[g i];simp;omega
   |false=>simp only[Bool.false_eq_true,if_false];split<;>omega
theorem pH {S:Nat->Bool}:∀{n:Nat},n<=bK S n->∀v,v<n->S v=true
 |0,_,v,a=>by omega
 |n+1,h,v,a=>by
  have h1:=iG S n;unfold bK at h;by_cases e:S n=true
  ·rw[if_pos e] at h
   by_cases e2:v=n
   ·subst e2;exact e
   ·exact pH (n:=n) (by omega) v (by omega)
  ·rw[if_neg e] at h;omega
theorem Bb {S:Nat->Bool} {w n:Nat} (hw:w<n) (hS:S w=true):1<=bK S n:=by
 have:=nh (S:=fun _=>false) (T:=S) (n:=n) (fun v _ h=>by cases h) hw rfl hS;omega
theorem pI:∀n:Nat,bK (fun _=>true) n=n
 |0=>rfl
 |n+1=>by unfold bK;rw[pI n];simp
theorem jb {n:Nat} {t:Nat->Nat->Int} (r:Wt n t) (s:dP n t) {b:Nat->Int} {v0:Nat} (l:v0<n) (y:b v0<=0) {M:Int} (z:0<=M)
  (h:∀x:Int,0<=x->sN (fun v=>if decide (x<b v)=true then aI n t b v else 0) n<=M):∀v,v<n->b v<=n*M:=by
 have step:∀j:Nat,j+1<=bK (fun v=>decide (b v<=j*M)) n\/n<=bK (fun v=>decide (b v<=j*M)) n:=by
  intro j;induction j with
  |zero=>
   left
   exact Bb l (by simp;exact y)
  |succ j i=>
   have k:(((j+1:Nat):Int))*M=j*M+M:=by rw[Int.natCast_add,Int.add_mul];simp
   have m:∀v,v<n->decide (b v<=(j:Int)*M)=true->decide (b v<=((j+1:Nat):Int)*M)=true:=fun v _ g=>by
    have:=of_decide_eq_true g;exact decide_eq_true (by rw[k];omega)
   by_cases hn:n<=bK (fun v=>decide (b v<=j*M)) n
   ·right;exact Nat.le_trans hn (lX m)
   ·rcases i with i|i
    ·left
     by_cases o:∃w,w<n/\(j:Int)*M<b w/\b w<=j*M+M
     ·obtain⟨w,hw,L,N⟩:=o
      have:=nh (S:=fun v=>decide (b v<=j*M)) (T:=fun v=>decide (b v<=((j+1:Nat):Int)*M)) m hw (decide_eq_false (by omega)) (decide_eq_true (by rw[k];omega));omega
     ·exfalso
      have B:0<=(j:Int)*M:=Int.mul_nonneg (by omega) z;have hex:∃v,v<n/\decide ((j:Int)*M<b v)=true:=by
       refine Classical.byContradiction fun C=>hn ?_
       have D:∀v,v<n->decide (b v<=(j:Int)*M)=true:=fun v g=>by
        by_cases e:b v<=(j:Int)*M
        ·exact decide_eq_true e
        ·exact absurd ⟨v,g,decide_eq_true (by omega)⟩ C
       have p:=pI n;have q:=lX (S:=fun _=>true) (T:=fun v=>decide (b v<=(j:Int)*M)) (n:=n) (fun v g _=>D v g);omega
      obtain⟨a,c,E,F,G,H,I⟩:=s (fun v=>decide ((j:Int)*M<b v)) hex ⟨v0,l,decide_eq_false (by omega)⟩;have h1:=Ba r (fun v=>decide ((j:Int)*M<b v)) b (M+1) (by omega) (fun u v hu g J K=>by
       have k:=of_decide_eq_true J;have e2:=of_decide_eq_false K;have O:¬(b u<=j*M+M):=fun h=>o ⟨u,hu,k,h⟩
       omega) E F G H I
      have p:=h _ B;omega
    ·exact absurd i hn
 intro v g;have h1:=step n;have p:=iG (fun v=>decide (b v<=(n:Int)*M)) n;have q:n<=bK (fun v=>decide (b v<=(n:Int)*M)) n:=by omega
 exact of_decide_eq_true (pH q v g)
theorem tD {α:Type} {P:α->Prop} (f:α->Nat) (B:Nat) (h:∃a,P a) (i:∀a,P a->f a<=B):∃a,P a/\∀c,P c->f c<=f a:=by
 obtain⟨a,b⟩:=h;have key:∀(k:Nat) (a:α),B-f a<=k->P a->∃a,P a/\∀c,P c->f c<=f a:=by
  intro k;induction k with
  |zero=>intro a hk b;exact⟨a,b,fun c g=>by have:=i c g;have:=i a b;omega⟩
  |succ k l=>
   intro a hk b;by_cases j:∃c,P c/\f a<f c
   ·obtain⟨c,g,m⟩:=j
    have:=i c g;exact l c (by omega) g
   ·exact⟨a,b,fun c g=>by
     by_cases e:f a<f c
     ·exact absurd ⟨c,g,e⟩ j
     ·omega⟩
 exact key _ a (Nat.le_refl _) b
def one (w:Nat) (v:Nat):Int:=if v=w then 1 else 0
theorem tE {n:Nat} {t:Nat->Nat->Int} (a:Wt n t) {w:Nat} (hw:w<n):aI n t (one w) w=val n t w:=by
 unfold aI val;refine bm fun u _=>?_
 unfold one;by_cases e:u=w
 ·subst e;rw[a.self];simp
 ·rw[if_pos rfl,if_neg e];simp
theorem tF {n:Nat} {t:Nat->Nat->Int} {w v:Nat} (hw:w<n) (a:v≠w):aI n t (one w) v= -t v w:=by
 unfold aI;rw[gY (v:=w) hw]
 ·unfold one;rw[if_neg a,if_pos rfl];omega
 ·intro u _ hu
  unfold one;rw[if_neg a,if_neg hu];simp
theorem gI {n w:Nat} (hw:w<n):sN (one w) n=1:=by
 rw[gY (f:=one w) hw (fun u _ hu=>if_neg hu)];exact if_pos rfl
theorem Bc {n:Nat} {t:Nat->Nat->Int} (g:Wt n t) (o:dP n t) {q:Nat} (p:q<n) (D:Nat->Int):∃j,bY n t D j/\∀v,v<n->v≠q->0<=j v:=by
 let P:(Nat->Int)->Prop:=fun b=>b q=0/\(∀v,v<n->0<=b v)/\∀v,v<n->0<b v->D v+aI n t b v<=val n t v-1
 have k:∀v,0<=val n t v:=fun v=>dE fun u _=>g.pos v u
 have r:∀b,P b->∀v,v<n->b v<=n*(sN (val n t) n+sN (fun v=>((D v).natAbs:Int)) n):=by
  rintro b ⟨h1,l,m⟩;refine jb g o p (by omega) ?_ ?_
  ·have i:0<=sN (val n t) n:=dE fun v _=>k v
   have B:0<=sN (fun v=>((D v).natAbs:Int)) n:=dE fun v _=>by omega
   omega
  ·intro x C
   have i:sN (fun v=>if decide (x<b v)=true then aI n t b v else 0) n<=sN (fun v=>val n t v+((D v).natAbs:Int)) n:=cK fun v a=>by
    show (if decide (x<b v)=true then aI n t b v else 0)<=_
    by_cases e:x<b v
    ·rw[if_pos (decide_eq_true e)]
     have:=m v a (by omega);omega
    ·rw[if_neg (by simpa using e)]
     have:=k v;omega
   rw[de] at i;exact i
 obtain⟨b,hb,s⟩:=tD (P:=P) (fun b=>(sN b n).toNat) (sN (fun _=>n*(sN (val n t) n+sN (fun v=>((D v).natAbs:Int)) n)) n).toNat ⟨fun _=>0,rfl,fun _ _=>Int.le_refl _,fun v _ (h:(0:Int)<0)=>by omega⟩ (fun b hb=>by
  have h1:=cK (n:=n) (fun v a=>r b hb v a);have l:=dE (f:=b) (n:=n) hb.2.1;show (sN b n).toNat<=_
  omega)
 refine⟨fun v=>D v+aI n t b v,⟨fun u=> -b u,fun v _=>by show D v+aI n t b v=_;rw[lV];omega⟩,fun v a w=>?_⟩;show 0<=D v+aI n t b v
 refine Classical.byContradiction fun E=>?_
 have y:P (fun u=>b u+one v u):=by
  refine⟨by show b q+one v q=0;rw[hb.1];unfold one;rw[if_neg (fun h=>w h.symm)];rfl,fun u hu=>by have:=hb.2.1 u hu;show 0<=b u+one v u;unfold one;split<;>omega,fun u hu z=>?_⟩;rw[jX];by_cases e:u=v
  ·subst e;rw[tE g a];omega
  ·rw[tF a e]
   have F:b u+one v u=b u:=by unfold one;rw[if_neg e];omega
   have:=hb.2.2 u hu (by have:0<b u+one v u:=z;omega);have:=g.pos u v;omega
 have h1:=s (fun u=>b u+one v u) y;have l:sN (fun u=>b u+one v u) n=sN b n+1:=by rw[de,gI a]
 have m:=dE (f:=b) (n:=n) hb.2.1;have i:(sN (fun u=>b u+one v u) n).toNat<=(sN b n).toNat:=h1;omega
def gJ (n:Nat) (t:Nat->Nat->Int) (q:Nat) (c:Nat->Int):Prop:=∀S:Nat->Bool,(∃v,v<n/\S v=true)->S q=false->∃v,v<n/\S v=true/\c v<sN (fun u=>if S u=false then t v u else 0) n
def fG (n:Nat) (t:Nat->Nat->Int) (q:Nat) (c:Nat->Int):Prop:=(∀v,v<n->v≠q->0<=c v)/\gJ n t q c
def ind (S:Nat->Bool) (v:Nat):Int:=if S v=true then 1 else 0
theorem pJ {n:Nat} {t:Nat->Nat->Int} (S:Nat->Bool) (v:Nat):aI n t (ind S) v=if S v=true then sN (fun u=>if S u=false then t v u else 0) n else -sN (fun u=>if S u=true then t v u else 0) n:=by
 unfold aI;by_cases e:S v=true
 ·rw[if_pos e]
  refine bm fun u _=>?_
  unfold ind;cases hu:S u<;>simp[e]
 ·rw[if_neg e,<-lT]
  refine bm fun u _=>?_
  unfold ind;cases hu:S u<;>simp[e]
theorem tG {n:Nat} {t:Nat->Nat->Int} (i:Wt n t) (j:dP n t) {q:Nat} (k:q<n) (D:Nat->Int):∃c,bY n t D c/\fG n t q c:=by
 obtain⟨a,o,p⟩:=Bc i j k D;let P:(Nat->Int)->Prop:=fun b=>b q=0/\(∀v,v<n->0<=b v)/\∀v,v<n->v≠q->0<=a v-aI n t b v
 have r:∀b,P b->∀v,v<n->b v<=n*sN (fun v=>((a v).natAbs:Int)) n:=by
  rintro b ⟨h1,l,m⟩;refine jb i j k (by omega) (dE fun v _=>by omega) ?_;intro x I;refine cK fun v g=>?_
  show (if decide (x<b v)=true then aI n t b v else 0)<=((a v).natAbs:Int)
  by_cases e:x<b v
  ·rw[if_pos (decide_eq_true e)]
   have:=m v g (fun s=>by subst s;omega);omega
  ·rw[if_neg (by simpa using e)];omega
 obtain⟨b,hb,y⟩:=tD (P:=P) (fun b=>(sN b n).toNat) (sN (fun _=>n*sN (fun v=>((a v).natAbs:Int)) n) n).toNat ⟨fun _=>0,rfl,fun _ _=>Int.le_refl _,fun v g h=>by rw[jl];have:=p v g h;omega⟩ (fun b hb=>by
  have h1:=cK (n:=n) (fun v g=>r b hb v g);have l:=dE (f:=b) (n:=n) hb.2.1;show (sN b n).toNat<=_
  omega)
 refine⟨fun v=>a v-aI n t b v,o.trans ⟨b,fun v _=>rfl⟩,hb.2.2,fun S hS z=>?_⟩;refine Classical.byContradiction fun B=>?_
 have C:∀v,v<n->S v=true->sN (fun u=>if S u=false then t v u else 0) n<=a v-aI n t b v:=fun v g E=>by
  refine Classical.byContradiction fun h=>B ⟨v,g,E,?_⟩
  show a v-aI n t b v<_
  omega
 have F:P (fun u=>b u+ind S u):=by
  refine⟨by show b q+ind S q=0;rw[hb.1];unfold ind;rw[z];simp,fun u hu=>by have:=hb.2.1 u hu;show 0<=b u+ind S u;unfold ind;split<;>omega,fun u hu G=>?_⟩;rw[jX,pJ];by_cases e:S u=true
  ·rw[if_pos e];have:=C u hu e;omega
  ·rw[if_neg e]
   have:=hb.2.2 u hu G;have:0<=sN (fun w=>if S w=true then t u w else 0) n:=dE fun w _=>by
    show 0<=(if S w=true then t u w else 0)
    have:=i.pos u w;split<;>omega
   omega
 obtain⟨w,hw,H⟩:=hS;have h1:=y (fun u=>b u+ind S u) F;have l:sN (fun u=>b u+ind S u) n=sN b n+sN (ind S) n:=de _ _ _;have m:=dE (f:=b) (n:=n) hb.2.1;have J:=gZ (f:=ind S) hw (fun u _=>by unfold ind;split<;>omega);have K:ind S w=1:=by unfold ind;rw[if_pos H]
 have L:(sN (fun u=>b u+ind S u) n).toNat<=(sN b n).toNat:=h1;omega
theorem pK {n:Nat} {t:Nat->Nat->Int} (i:Wt n t) (w:dP n t) {q:Nat} (j:q<n) {c g:Nat->Int} (h:fG n t q c) (k:∀v,v<n->v≠q->0<=g v) {s:Nat->Int} (l:∀v,v<n->g v=c v-aI n t s v):∀v,v<n->s v<=s q:=by
 obtain⟨m,hm,b⟩:=pE s (show 0<n by omega);by_cases e:s q=s m
 ·intro v a;rw[e];exact b v a
 ·exfalso
  have x:=b q j;obtain⟨v,a,o,y⟩:=h.2 (fun v=>decide (s v=s m)) ⟨m,hm,by simp⟩ (by simpa using e);have p:s v=s m:=of_decide_eq_true o;have r:v≠q:=fun h=>by subst h;exact e p
  have h1:=k v a r;rw[l v a] at h1;have z:sN (fun u=>if decide (s u=s m)=false then t v u else 0) n<=aI n t s v:=by
   unfold aI;refine cK fun u hu=>?_
   show (if decide (s u=s m)=false then t v u else 0)<=t v u*(s v-s u)
   have hp:=i.pos v u;have hle:=b u hu;by_cases e2:s u=s m
   ·rw[if_neg (by simp[e2])]
    exact Int.mul_nonneg hp (by omega)
   ·rw[if_pos (by simpa using e2)]
    have:=Int.mul_le_mul_of_nonneg_left (show (1:Int)<=s v-s u by omega) hp;omega
  omega
theorem tH {n:Nat} {t:Nat->Nat->Int} (j:Wt n t) (k:dP n t) {q:Nat} (l:q<n) {c g:Nat->Int} (h:fG n t q c) (m:fG n t q g) (he:bY n t c g):∀v,v<n->g v=c v:=by
 obtain⟨s,i⟩:=he;have h1:=pK j k l h m.1 i;have o:=pK j k l m h.1 (s:=fun u=> -s u) (fun v e=>by rw[lV,i v e];omega);intro v e;have:aI n t s v=0:=by
  unfold aI;refine fs fun u hu=>?_
  have a:=h1 u hu;have b:=o u hu;have c:=h1 v e;have d:=o v e;rw[show s v-s u=0 by omega,Int.mul_zero]
 rw[i v e,this];omega
theorem Be (B:Nat->Bool) (n:Nat) {v:Nat} (a:v<n) (b:B v=false):bK B n<bK (fun u=>decide (u=v)||B u) n:=
 nh (fun u _ h=>by simp[h]) a b (by simp)
theorem pL {n:Nat} {t:Nat->Nat->Int} (H:Wt n t) {q:Nat} (Y:q<n) {c:Nat->Int} (P:gJ n t q c):
  ∃pos:Nat->Nat,eM n pos/\pos q=0/\∀v,v<n->v≠q->0<pos v/\c v<=nu n t pos v:=by
 have key:∀(m:Nat) (B:Nat->Bool) (pos:Nat->Nat) (k:Nat),n<=bK B n+m->B q=true->pos q=0->0<k->(∀v,v<n->B v=true->pos v<k)->(∀u v,u<n->v<n->B u=true->B v=true->pos u=pos v->u=v)->
   (∀v,v<n->B v=true->v≠q->0<pos v/\c v<sN (fun u=>if B u=true/\pos u<pos v then t v u else 0) n)->
   ∃pos:Nat->Nat,eM n pos/\pos q=0/\∀v,v<n->v≠q->0<pos v/\c v<=nu n t pos v:=by
  intro m;induction m with
  |zero=>
   intro B pos k hm r C hk l D E;have o:=pH (S:=B) (n:=n) (by omega);refine⟨pos,fun u v hu g=>D u v hu g (o u hu) (o v g),C,fun v g s=>?_⟩;obtain⟨h1,i⟩:=E v g (o v g) s;refine⟨h1,?_⟩;unfold nu dF;have:sN (fun u=>if B u=true/\pos u<pos v then t v u else 0) n=sN (fun u=>if pos u<pos v then t v u else 0) n:=bm fun u hu=>by
    show (if B u=true/\pos u<pos v then t v u else 0)=(if pos u<pos v then t v u else 0)
    by_cases e:pos u<pos v
    ·rw[if_pos e,if_pos ⟨o u hu,e⟩]
    ·rw[if_neg e,if_neg (fun h=>e h.2)]
   omega
  |succ m I=>
   intro B pos k hm r C hk l D E;by_cases J:∃v,v<n/\B v=false
   ·obtain⟨w,hw,Q⟩:=J
    obtain⟨v,g,j,R⟩:=P (fun u=> !B u) ⟨w,hw,by simp[Q]⟩ (by simp[r]);have j:B v=false:=by simpa using j
    have s:v≠q:=fun h=>by subst h;rw[r] at j;cases j
    refine I (fun u=>decide (u=v)||B u) (fun u=>if u=v then k else pos u) (k+1) (by have:=Be B n g j;omega) (by simp[r]) (by show (if q=v then k else pos q)=0;rw[if_neg (fun h=>s h.symm)];exact C) (by omega) ?_ ?_ ?_
    ·intro u hu F
     show (if u=v then k else pos u)<k+1
     by_cases e:u=v
     ·rw[if_pos e];omega
     ·rw[if_neg e]
      have:=l u hu (by simpa [e] using F);omega
    ·intro a b K hb L M G
     by_cases p:a=v
     ·by_cases e2:b=v
      ·rw[p,e2]
      ·exfalso
       have h1:=l b hb (by simpa [e2] using M);have i:(if a=v then k else pos a)=(if b=v then k else pos b):=G;rw[if_pos p,if_neg e2] at i;omega
     ·by_cases e2:b=v
      ·exfalso
       have h1:=l a K (by simpa [p] using L);have i:(if a=v then k else pos a)=(if b=v then k else pos b):=G;rw[if_neg p,if_pos e2] at i;omega
      ·have i:(if a=v then k else pos a)=(if b=v then k else pos b):=G
       rw[if_neg p,if_neg e2] at i;exact D a b K hb (by simpa [p] using L) (by simpa [e2] using M) i
    ·intro u hu F U
     by_cases e:u=v
     ·subst e
      show 0<(if u=u then k else pos u)/\_
      rw[if_pos rfl];refine⟨hk,Int.lt_of_lt_of_le R (cK fun x N=>?_)⟩;show (if(!B x)=false then t u x else 0)<=(if(decide (x=u)||B x)=true/\(if x=u then k else pos x)<k then t u x else 0)
      cases O:B x with
      |false=>
       rw[if_neg (by simp)];have:=H.pos u x;by_cases y:(decide (x=u)||false)=true/\(if x=u then k else pos x)<k
       ·rw[if_pos y];exact this
       ·rw[if_neg y];exact Int.le_refl _
      |true=>
       have V:x≠u:=fun h=>by subst h;rw[O] at j;cases j
       rw[if_pos (by simp),if_pos (by simp[V];exact l x N O)];exact Int.le_refl _
     ·have W:B u=true:=by simpa [e] using F
      obtain⟨h1,i⟩:=E u hu W U;show 0<(if u=v then k else pos u)/\_
      rw[if_neg e];refine⟨h1,Int.lt_of_lt_of_le i (cK fun x N=>?_)⟩;show (if B x=true/\pos x<pos u then t u x else 0)<=(if(decide (x=v)||B x)=true/\(if x=v then k else pos x)<pos u then t u x else 0)
      by_cases z:B x=true/\pos x<pos u
      ·have X:x≠v:=fun h=>by subst h;rw[j] at z;cases z.1
       rw[if_pos z,if_pos (by simp[X,z])];exact Int.le_refl _
      ·rw[if_neg z]
       have:=H.pos u x;by_cases y:(decide (x=v)||B x)=true/\(if x=v then k else pos x)<pos u
       ·rw[if_pos y];exact this
       ·rw[if_neg y];exact Int.le_refl _
   ·have o:∀v,v<n->B v=true:=fun v g=>by
     cases h:B v with
     |true=>rfl
     |false=>exact absurd ⟨v,g,h⟩ J
    have Z:n<=bK B n:=by
     have i:=pI n;have:=lX (S:=fun _=>true) (T:=B) (n:=n) (fun v g _=>o v g);omega
    exact I B pos k (by omega) r C hk l D E
 refine key n (fun v=>decide (v=q)) (fun _=>0) 1 (by omega) (by simp) rfl (by omega) (fun _ _ _=>by omega) (fun u v _ _ hu g _=>?_) (fun v _ g s=>absurd (of_decide_eq_true g) s);have h1:u=q:=of_decide_eq_true hu;have i:v=q:=of_decide_eq_true g;rw[h1,i]
theorem pM {n:Nat} {t:Nat->Nat->Int} {pos:Nat->Nat} {q:Nat} (h:pos q=0):nu n t pos q= -1:=by
 unfold nu dF;rw[fs fun u _=>by rw[if_neg (by omega)]];rfl
theorem tI {n:Nat} {t:Nat->Nat->Int} (h:Wt n t) {q:Nat} (i:q<n) {c:Nat->Int} (j:gJ n t q c) (hd:c q<0):∃pos:Nat->Nat,eM n pos/\pos q=0/\(∀v,v<n->v≠q->0<pos v)/\∀v,v<n->c v<=nu n t pos v:=by
 obtain⟨pos,h1,b,g⟩:=pL h i j;refine⟨pos,h1,b,fun v a k=>(g v a k).1,fun v a=>?_⟩;by_cases e:v=q
 ·subst e;rw[pM b];omega
 ·exact(g v a e).2
theorem ni {n:Nat} {t:Nat->Nat->Int} (a:Wt n t) {q:Nat} (g:q<n) {c:Nat->Int} (b:fG n t q c):bV n t c↔0<=c q:=by
 constructor
 ·intro hw
  refine Classical.byContradiction fun hd=>?_
  obtain⟨pos, -, -, -,h⟩:=tI a g b.2 (by omega);exact pG a (by omega) pos (hw.mono h)
 ·intro h
  exact bV.tC fun v i=>by
   by_cases e:v=q
   ·subst e;exact h
   ·exact b.1 v i e
theorem Bg {n:Nat} {t:Nat->Nat->Int} (a:Wt n t) (e:dP n t) (hn:0<n) (D:Nat->Int):¬bV n t D↔∃pos:Nat->Nat,eM n pos/\bV n t (fun v=>nu n t pos v-D v):=by
 constructor
 ·intro h
  obtain⟨c,h1,b⟩:=tG a e hn D;have g:c 0<0:=by
   refine Classical.byContradiction fun o=>h ?_
   rw[pF h1];exact(ni a hn b).2 (by omega)
  obtain⟨pos,i, -, -,j⟩:=tI a hn b.2 g;refine⟨pos,i,?_⟩;have k:bY n t (fun v=>nu n t pos v+ -c v) (fun v=>nu n t pos v+ -D v):=(bY.refl _ _ _).add h1.symm.neg;exact bV.jY k (bV.tC fun v l=>by have:=j v l;show 0<=nu n t pos v+ -c v;omega)
 ·rintro⟨pos, -,hw⟩ m
  refine pG a hn pos ((hw.add m).mono fun v _=>?_);show nu n t pos v-D v+D v<=_
  omega
def can (n:Nat) (t:Nat->Nat->Int) (v:Nat):Int:=val n t v-2
def g_ (n:Nat) (t:Nat->Nat->Int) (g:Int):Prop:=sN (can n t) n=2*g-2
theorem lY {n:Nat} {t:Nat->Nat->Int} (a:Wt n t) {g:Int} (b:g_ n t g) {pos:Nat->Nat} (hi:eM n pos):sN (nu n t pos) n=g-1:=by
 have h1:=AY a hi;have e:=AZ (n:=n) (t:=t) pos;have h:sN (can n t) n=sN (val n t) n-n*2:=by
  have:sN (can n t) n=sN (fun v=>val n t v- (fun _=>(2:Int)) v) n:=rfl;rw[this,ef,fT]
 unfold g_ at b;omega
theorem Bh {n:Nat} {t:Nat->Nat->Int} (a:Wt n t) (b:dP n t) (hn:0<n) {g:Int} (e:g_ n t g) {D:Nat->Int} (hd:g<=sN D n):bV n t D:=by
 refine Classical.byContradiction fun h=>?_
 obtain⟨pos,hi,hw⟩:=(Bg a b hn D).1 h;have h1:=hw.ng a;rw[ef,lY a e hi] at h1;omega
theorem fG.more {n:Nat} {t:Nat->Nat->Int} {q:Nat} {c:Nat->Int} (h:fG n t q c):fG n t q (fun u=>c u+one q u):=by
 have e:∀v,v≠q->c v+one q v=c v:=fun v a=>by unfold one;rw[if_neg a];omega
 refine⟨fun v a g=>by show 0<=c v+one q v;rw[e v g];exact h.1 v a g,fun S hS b=>?_⟩;obtain⟨v,a,i,j⟩:=h.2 S hS b;exact⟨v,a,i,by show c v+one q v<_;rw[e v (fun e=>by subst e;rw[i] at b;cases b)];exact j⟩
theorem Bi {n:Nat} {t:Nat->Nat->Int} (a:Wt n t) {q:Nat} (b:q<n) {D c:Nat->Int} (he:bY n t D c) (e:fG n t q c):c q= -1↔¬bV n t D/\bV n t (fun u=>D u+one q u):=by
 have h1:=ni a b e;have g:=ni a b e.more;have h:=pF he;have i:bV n t (fun u=>D u+one q u)↔bV n t (fun u=>c u+one q u):=pF (he.add (bY.refl n t (one q)));rw[h,i,h1,g];have:one q q=1:=if_pos rfl;show _↔¬0<=c q/\0<=c q+one q q
 omega
theorem pN {n:Nat} {t:Nat->Nat->Int} (a:Wt n t) (q:Nat) (pos:Nat->Nat):gJ n t q (nu n t pos):=fun S hS j=>by
 obtain⟨v,⟨b,g⟩,i⟩:=exists_least (P:=fun v=>v<n/\S v=true) pos hS;refine⟨v,b,g,?_⟩;unfold nu dF;have:sN (fun u=>if pos u<pos v then t v u else 0) n<=sN (fun u=>if S u=false then t v u else 0) n:=cK fun u hu=>by
  show (if pos u<pos v then t v u else 0)<=(if S u=false then t v u else 0)
  have hp:=a.pos v u;by_cases e:pos u<pos v
  ·have hf:S u=false:=by
    cases h:S u with
    |false=>rfl
    |true=>have:=i u ⟨hu,h⟩;omega
   rw[if_pos e,if_pos hf];omega
  ·rw[if_neg e];split<;>omega
 omega
theorem gJ.down {n:Nat} {t:Nat->Nat->Int} {q:Nat} {c b:Nat->Int} (h:gJ n t q c) (hle:∀v,v<n->v≠q->b v<=c v):gJ n t q b:=fun S hS a=>by
 obtain⟨v,g,i,j⟩:=h S hS a;have:=hle v g (fun e=>by subst e;rw[i] at a;cases a);exact⟨v,g,i,by omega⟩
theorem Bj {n:Nat} {t:Nat->Nat->Int} (a:Wt n t) (e:dP n t) (hn:0<n) {g:Int} (b:g_ n t g) {pos:Nat->Nat} (hi:eM n pos) {v:Nat} (h:v<n):bV n t (fun u=>nu n t pos u+one v u):=by
 refine Bh a e hn b ?_;rw[de,gI h,lY a b hi];omega
def hd (x:Nat×Nat) (b:Bool):Nat:=if b=true then x.2 else x.1
def tl (x:Nat×Nat) (b:Bool):Nat:=if b=true then x.1 else x.2
def eB:List (Nat×Nat)->List Bool->Nat->Int
 |x::L,b::o,v=>(if hd x b=v then 1 else 0)+eB L o v
 |_,_,_=>0
def mult:List (Nat×Nat)->Nat->Nat->Int
 |[],_,_=>0
 |x::L,u,v=>(if x.1=u/\x.2=v\/x.1=v/\x.2=u then 1 else 0)+mult L u v
def fU:List (Nat×Nat)->List Bool->(Nat->Nat)->Prop
 |x::L,b::o,pos=>pos (tl x b)<pos (hd x b)/\fU L o pos
 |_,_,_=>True
def jm (n:Nat) (L:List (Nat×Nat)):Prop:=∀x∈L,x.1<n/\x.2<n/\x.1≠x.2
theorem jm.tail {n:Nat} {x:Nat×Nat} {L:List (Nat×Nat)} (h:jm n (x::L)):jm n L:=fun y a=>h y (List.mem_cons_of_mem _ a)
theorem Bl {n:Nat} {t a:Nat->Nat->Int} {pos:Nat->Nat} {v:Nat} (h:∀u,u<n->t v u=a v u):dF n t pos v=dF n a pos v:=bm fun u hu=>by
 show (if pos u<pos v then t v u else 0)=(if pos u<pos v then a v u else 0)
 rw[h u hu]
theorem nj {n:Nat} {pos:Nat->Nat}:∀{L:List (Nat×Nat)} {o:List Bool},o.length=L.length->jm n L->fU L o pos->∀v,v<n->eB L o v=dF n (mult L) pos v
 |[],[],_,_,_,v,h=>by
  unfold dF;rw[fs]
  ·rfl
  ·intro u _;show (if pos u<pos v then mult [] v u else 0)=0;split<;>rfl
 |x::L,b::o,j,he,i,v,h=>by
  have k:=nj (L:=L) (o:=o) (by simpa using j) he.tail i.2 v h;obtain⟨h1,m,p⟩:=he x (List.mem_cons_self ..);have hp:=i.1;show (if hd x b=v then 1 else 0)+eB L o v=sN (fun u=>if pos u<pos v then(if x.1=v/\x.2=u\/x.1=u/\x.2=v then 1 else 0)+mult L v u else 0) n
  rw[k];unfold dF;have e:sN (fun u=>if pos u<pos v then(if x.1=v/\x.2=u\/x.1=u/\x.2=v then(1:Int) else 0)+mult L v u else 0) n=sN (fun u=>(if pos u<pos v/\(x.1=v/\x.2=u\/x.1=u/\x.2=v) then(1:Int) else 0)+(if pos u<pos v then mult L v u else 0)) n:=bm fun u _=>by
   show (if pos u<pos v then(if x.1=v/\x.2=u\/x.1=u/\x.2=v then(1:Int) else 0)+mult L v u else 0)=_
   by_cases c1:pos u<pos v
   ·by_cases c2:x.1=v/\x.2=u\/x.1=u/\x.2=v
    ·simp[c1,c2]
    ·simp[c1,c2]
   ·simp[c1]
  rw[e,de];congr 1
  by_cases c:hd x b=v
  ·rw[if_pos c]
   have l:tl x b<n:=by unfold tl;split<;>omega
   rw[gY (f:=fun u=>if pos u<pos v/\(x.1=v/\x.2=u\/x.1=u/\x.2=v) then(1:Int) else 0) l]
   ·show (1:Int)=if pos (tl x b)<pos v/\(x.1=v/\x.2=tl x b\/x.1=tl x b/\x.2=v) then 1 else 0
    rw[if_pos];refine⟨by rw[<-c];exact hp,?_⟩;unfold hd at c;unfold tl;cases b with
    |true=>right;simp at c⊢;exact c
    |false=>left;simp at c⊢;exact c
   ·intro u _ hu
    show (if pos u<pos v/\(x.1=v/\x.2=u\/x.1=u/\x.2=v) then(1:Int) else 0)=0
    rw[if_neg];rintro⟨-,a⟩;unfold hd at c;unfold tl at hu;cases b with
    |true=>simp at c hu;rcases a with a|a<;>omega
    |false=>simp at c hu;rcases a with a|a<;>omega
  ·rw[if_neg c,fs]
   intro u _;show (if pos u<pos v/\(x.1=v/\x.2=u\/x.1=u/\x.2=v) then(1:Int) else 0)=0
   rw[if_neg];rintro⟨q,a⟩;unfold hd at c hp;unfold tl at hp;cases b with
   |true=>
    simp at c hp;rcases a with⟨g,a2⟩|⟨g,a2⟩
    ·subst g a2;omega
    ·exact c a2
   |false=>
    simp at c hp;rcases a with⟨g,a2⟩|⟨g,a2⟩
    ·exact c g
    ·subst g a2;omega
def jn (pos:Nat->Nat) (L:List (Nat×Nat)):List Bool:=L.map fun x=>decide (pos x.1<pos x.2)
theorem tJ {n:Nat} {pos:Nat->Nat} (hi:eM n pos):∀{L:List (Nat×Nat)},jm n L->fU L (jn pos L) pos
 |[],_=>trivial
 |x::L,he=>by
  obtain⟨h1,a,b⟩:=he x (List.mem_cons_self ..);refine⟨?_,tJ hi he.tail⟩;show pos (tl x (decide (pos x.1<pos x.2)))<pos (hd x (decide (pos x.1<pos x.2)))
  unfold tl hd;by_cases c:pos x.1<pos x.2
  ·rw[decide_eq_true c];exact c
  ·rw[decide_eq_false c]
   have:pos x.1≠pos x.2:=fun e=>b (hi _ _ h1 a e)
   show pos x.2<pos x.1
   omega
theorem pO {pos:Nat->Nat}:∀{L:List (Nat×Nat)} {o:List Bool},o.length=L.length->fU L o pos->o=jn pos L
 |[],[],_,_=>rfl
 |x::L,b::o,e,a=>by
  have g:=pO (L:=L) (o:=o) (by simpa using e) a.2;show b::o=decide (pos x.1<pos x.2)::jn pos L
  rw[<-g];congr 1
  have hp:=a.1;unfold tl hd at hp;cases b with
  |true=>exact(decide_eq_true (by simpa using hp)).symm
  |false=>exact(decide_eq_false (by simp at hp;omega)).symm
theorem Bm {n:Nat} {t:Nat->Nat->Int} (i:Wt n t) {pos pos':Nat->Nat} (hi:eM n pos) (hi':eM n pos') (h:∀v,v<n->dF n t pos v=dF n t pos' v):∀(m v:Nat),v<n->pos' v<=m->∀u,u<n->0<t v u->(pos u<pos v↔pos' u<pos' v):=by
 intro m;induction m using Nat.strongRecOn with
 |_ m o=>
  intro v a hm;have j:∀u,u<n->0<t v u->pos' u<pos' v->pos u<pos v:=fun u hu b k=>by
   have h1:=o (pos' u) (by omega) u hu (Nat.le_refl _) v a (by rw[i.sym];exact b);have p:u≠v:=fun e=>by subst e;omega
   have hp:pos u≠pos v:=fun e=>p (hi u v hu a e)
   refine Classical.byContradiction fun l=>?_
   have:=h1.1 (by omega);omega
  have hle:∀u,u<n->(if pos' u<pos' v then t v u else 0)<=(if pos u<pos v then t v u else 0):=fun u hu=>by
   have hp:=i.pos v u;by_cases c:pos' u<pos' v
   ·rw[if_pos c]
    by_cases c0:0<t v u
    ·rw[if_pos (j u hu c0 c)];omega
    ·split<;>omega
   ·rw[if_neg c];split<;>omega
  have heq:=tz (f:=fun u=>if pos' u<pos' v then t v u else 0) (g:=fun u=>if pos u<pos v then t v u else 0) (n:=n) hle (h v a).symm;intro u hu b;have h1:(if pos' u<pos' v then t v u else 0)=(if pos u<pos v then t v u else 0):=heq u hu;constructor
  ·intro k
   rw[if_pos k] at h1;refine Classical.byContradiction fun l=>?_
   rw[if_neg l] at h1;omega
  ·exact j u hu b
theorem Bn {L:List (Nat×Nat)}:∀{x:Nat×Nat},x∈L->0<mult L x.1 x.2:=by
 have e:∀(L:List (Nat×Nat)) (u v:Nat),0<=mult L u v:=fun L u v=>by
  induction L with
  |nil=>exact Int.le_refl _
  |cons x L b=>show 0<=(if _ then(1:Int) else 0)+mult L u v;split<;>omega
 induction L with
 |nil=>intro x a;simp at a
 |cons y L b=>
  intro x a;show 0<(if y.1=x.1/\y.2=x.2\/y.1=x.2/\y.2=x.1 then(1:Int) else 0)+mult L x.1 x.2
  rcases List.mem_cons.1 a with rfl|a
  ·rw[if_pos (.inl ⟨rfl,rfl⟩)];have:=e L x.1 x.2;omega
  ·have:=b a;split<;>omega
theorem Bo {n:Nat} {L:List (Nat×Nat)} (hw:Wt n (mult L)) (he:jm n L) {o a:List Bool} {pos pos':Nat->Nat} (g:o.length=L.length) (i:a.length=L.length) (hi:eM n pos) (hi':eM n pos') (h:fU L o pos) (j:fU L a pos') (hd:∀v,v<n->eB L o v=eB L a v):o=a:=by
 rw[pO g h,pO i j];unfold jn;refine List.map_congr_left fun x k=>?_
 obtain⟨h1,m,p⟩:=he x k;have l:=Bm hw hi hi' (fun v b=>by rw[<-nj g he h v b,<-nj i he j v b];exact hd v b) (pos' x.2) x.2 m (Nat.le_refl _) x.1 h1 (by rw[hw.sym];exact Bn k);by_cases c:pos x.1<pos x.2
 ·rw[decide_eq_true c,decide_eq_true (l.1 c)]
 ·rw[decide_eq_false c,decide_eq_false (fun e=>c (l.2 e))]
def arr (L:List (Nat×Nat)) (o:List Bool):List (Nat×Nat):=List.zipWith (fun x b=>(tl x b,hd x b)) L o
def cL (A:List (Nat×Nat)) (p:Nat->Bool) (v:Nat):Int:=((A.countP fun x=>p x.1&&decide (x.2=v):Nat):Int)
theorem pP {pos:Nat->Nat}:∀{L:List (Nat×Nat)} {o:List Bool},fU L o pos↔∀x∈arr L o,pos x.1<pos x.2
 |[],o=>by simp[fU,arr]
 |x::L,[]=>by simp[fU,arr]
 |x::L,b::o=>by
  have a:=pP (pos:=pos) (L:=L) (o:=o);unfold arr at a⊢;rw[List.zipWith_cons_cons,List.forall_mem_cons,<-a];exact Iff.rfl
theorem jo:∀{L:List (Nat×Nat)} {o:List Bool} {v:Nat},eB L o v=cL (arr L o) (fun _=>true) v
 |[],o,v=>by simp[eB,arr,cL]
 |x::L,[],v=>by simp[eB,arr,cL]
 |x::L,b::o,v=>by
  have a:=jo (L:=L) (o:=o) (v:=v);unfold arr cL at a⊢;rw[List.zipWith_cons_cons,List.countP_cons];show (if hd x b=v then 1 else 0)+eB L o v=_
  rw[a];simp only[Bool.true_and,decide_eq_true_eq];split<;>omega
theorem nk {A:List (Nat×Nat)} {p:Nat->Bool} {v:Nat}:cL A p v=0↔∀x∈A,x.2=v->p x.1=false:=by
 unfold cL;rw[Int.natCast_eq_zero,List.countP_eq_zero];constructor
 ·intro h x a b
  have:=h x a;simp only[b,decide_true,Bool.and_true] at this;simpa using this
 ·intro h x a
  by_cases e:x.2=v
  ·rw[h x a e];simp
  ·simp[e]
theorem lZ (A:List (Nat×Nat)) (p:Nat->Bool) (v:Nat):0<=cL A p v:=Int.natCast_nonneg _
theorem nm (A:List (Nat×Nat)) (p:Nat->Bool) (v:Nat):cL A p v<=A.length:=by
 unfold cL;have:=List.countP_le_length (p:=fun x:Nat×Nat=>p x.1&&decide (x.2=v)) (l:=A);omega
theorem Bp {A:List (Nat×Nat)} {p q r:Nat->Bool} {v:Nat} (h:∀t,(if p t=true then 1 else 0)=(if q t=true then 1 else 0)+(if r t=true then 1 else(0:Int))):cL A p v=cL A q v+cL A r v:=by
 unfold cL;induction A with
 |nil=>simp
 |cons x A a=>
  rw[List.countP_cons,List.countP_cons,List.countP_cons];have h1:=h x.1;by_cases e:x.2=v
  ·simp only[e,decide_true,Bool.and_true]
   revert h1
   cases p x.1<;>cases q x.1<;>cases r x.1<;>simp<;>omega
  ·simp only[e,decide_false,Bool.and_false,Bool.false_eq_true,if_false]
   omega
theorem l4 {α:Type} [DecidableEq α]:∀{l l':List α},l.Nodup->(∀x∈l,x∈l')->l.length<=l'.length
 |[],_,_,_=>Nat.zero_le _
 |x::l,l',hn,a=>by
  obtain⟨h1,h⟩:=List.nodup_cons.1 hn;have i:=l4 (l:=l) (l':=l'.erase x) h fun y b=>(List.mem_erase_of_ne (fun e=>h1 (by rw[<-e];exact b))).2 (a y (List.mem_cons_of_mem _ b))
  have g:=a x (List.mem_cons_self ..);rw[List.length_erase_of_mem g] at i;have:=List.length_pos_of_mem g;simp only[List.length_cons];omega
theorem pQ {n:Nat} {on:List Nat} (hn:on.Nodup) (a:∀u∈on,u<n) (hlen:on.length=n) {u:Nat} (hu:u<n):u∈on:=by
 refine Classical.byContradiction fun b=>?_
 have h:=l4 (l:=u::on) (l':=List.range n) (List.nodup_cons.2 ⟨b,hn⟩) fun y g=>List.mem_range.2 ((List.mem_cons.1 g).elim (fun e=>e▸hu) (a y))
 simp at h;omega
theorem Bq {n:Nat} {on:List Nat} (hlen:on.length<n):∃u,u<n/\u∉on:=by
 refine Classical.byContradiction fun a=>?_
 have h:=l4 (l:=List.range n) (l':=on) List.nodup_range fun y b=>Classical.byContradiction fun h=>a ⟨y,List.mem_range.1 b,h⟩
 simp at h;omega
structure fg (n:Nat) (A:List (Nat×Nat)) (on:List Nat) (W:Nat->Int):Prop where
 nd:on.Nodup
 lt:∀u∈on,u<n
 w:∀u,u<n->W u=if u∈on then -1 else cL A (fun t=>decide (t∉on)) u
 up:∀x∈A,x.2∈on->x.1∈on/\on.idxOf x.1<on.idxOf x.2
theorem fg.start {n:Nat} {A:List (Nat×Nat)} {W:Nat->Int} (h:∀u,u<n->W u=cL A (fun _=>true) u):fg n A [] W:=
 ⟨List.nodup_nil,fun u hu=>absurd hu (by simp),fun u hu=>by(rw[h u hu];simp),fun x _ a=>absurd a (by simp)⟩
theorem fg.step {n:Nat} {A:List (Nat×Nat)} {on:List Nat} {W:Nat->Int} (h:fg n A on W) {v:Nat} (k:v<n) (l:W v=0):fg n A (on++[v]) (fun u=>(if u=v then -1 else W u)-cL A (fun t=>decide (t=v)) u):=by
 have i:v∉on:=fun g=>by rw[h.w v k,if_pos g] at l;omega
 have o:∀x∈A,x.2=v->x.1∈on:=fun x g j=>by
  rw[h.w v k,if_neg i] at l;have:=nk.1 l x g j;simpa using this
 refine⟨?_,?_,?_,?_⟩
 ·rw[List.nodup_append]
  refine⟨h.nd,by simp,fun a s b hb e=>?_⟩;rw[List.mem_singleton] at hb;subst hb e;exact i s
 ·intro u hu
  rcases List.mem_append.1 hu with hu|hu
  ·exact h.lt u hu
  ·rw[List.mem_singleton] at hu;subst hu;exact k
 ·intro u hu
  by_cases e:u=v
  ·subst e
   have m:cL A (fun t=>decide (t=u)) u=0:=nk.2 fun x g j=>by
    have:=o x g j;exact decide_eq_false fun e=>i (by rw[<-e];exact this)
   show (if u=u then -1 else W u)-cL A (fun t=>decide (t=u)) u=_
   rw[if_pos rfl,m,if_pos (by simp)];rfl
  ·show (if u=v then -1 else W u)-cL A (fun t=>decide (t=v)) u=_
   rw[if_neg e,h.w u hu];by_cases hm:u∈on
   ·have m:cL A (fun t=>decide (t=v)) u=0:=nk.2 fun x g j=>by
     have:=(h.up x g (by rw[j];exact hm)).1;exact decide_eq_false fun e=>i (by rw[<-e];exact this)
    rw[m,if_pos hm,if_pos (by simp[hm])];rfl
   ·rw[if_neg hm,if_neg (by simp[hm,e])]
    rw[Bp (p:=fun t=>decide (t∉on)) (q:=fun t=>decide (t∉on++[v])) (r:=fun t=>decide (t=v))]
    ·omega
    ·intro t
     by_cases c1:t∈on
     ·have c2:t≠v:=fun e=>i (by rw[<-e];exact c1)
      simp[c1,c2]
     ·by_cases c2:t=v
      ·simp[c1,c2,i]
      ·simp[c1,c2]
 ·intro x g y
  have key:x.1∈on/\on.idxOf x.1<(on++[v]).idxOf x.2:=by
   rcases List.mem_append.1 y with hm|hm
   ·obtain⟨a,b⟩:=h.up x g hm
    exact⟨a,by rw[List.idxOf_append,if_pos hm];exact b⟩
   ·rw[List.mem_singleton] at hm
    have a:=o x g hm;refine⟨a,?_⟩;rw[List.idxOf_append,if_neg (by rw[hm];exact i)];have:=List.idxOf_lt_length_of_mem a;omega
  refine⟨List.mem_append.2 (.inl key.1),?_⟩;rw[List.idxOf_append (a:=x.1),if_pos key.1];exact key.2
theorem fg.next {n:Nat} {A:List (Nat×Nat)} {on:List Nat} {W:Nat->Int} (h:fg n A on W) (e:∀x∈A,x.1<n) {pos:Nat->Nat} (hp:∀x∈A,pos x.1<pos x.2) (g:on.length<n):∃v,v<n/\W v=0:=by
 obtain⟨u,i,j⟩:=Bq g;obtain⟨v,⟨a,k⟩,l⟩:=exists_least (P:=fun v=>v<n/\v∉on) pos ⟨u,i,j⟩;refine⟨v,a,?_⟩;rw[h.w v a,if_neg k];refine nk.2 fun x b m=>decide_eq_false fun o=>?_
 have h1:=l x.1 ⟨e x b,o⟩;have p:=hp x b;rw[m] at p;omega
theorem Br {on:List Nat} {u v:Nat} (hu:u∈on) (a:v∈on) (h:on.idxOf u=on.idxOf v):u=v:=by
 have h1:=List.getElem_idxOf (List.idxOf_lt_length_of_mem hu);have b:=List.getElem_idxOf (List.idxOf_lt_length_of_mem a);rw[<-h1,<-b];congr 1
theorem fg.order {n:Nat} {A:List (Nat×Nat)} {on:List Nat} {W:Nat->Int} (h:fg n A on W) (e:∀x∈A,x.2<n) (a:on.length=n):∃pos:Nat->Nat,eM n pos/\∀x∈A,pos x.1<pos x.2:=
 ⟨fun u=>on.idxOf u,fun u v hu g he=>Br (pQ h.nd h.lt a hu) (pQ h.nd h.lt a g) he,fun x b=>(h.up x b (pQ h.nd h.lt a (e x b))).2⟩
end Go.Proofs.YtffdiakgjakngaaGreat.T
namespace Go.Proofs.YtffdiakgjakngaaGreat.P
open Go.RowKit Go.Proofs.YtffdiakgjakngaaGreatW.PrintWords Go.Proofs.YtffdiakgjakngaaGreatW.PrintLast Go.Proofs.YtffdiakgjakngaaGreatW.PrintMore
set_option linter.unusedVariables false
set_option linter.unusedSimpArgs false
set_option maxHeartbeats 8000000
set_option maxRecDepth 100000
def Ev {α:Type} (f:Nat->Option α) (r:α):Prop:=∃B,∀K,B<=K->f K=some r
theorem Ev.const {α:Type} (r:α):Ev (fun _=>some r) r:=⟨0,fun _ _=>rfl⟩
theorem Ev.of_succ {α:Type} {f:Nat->Option α} {r:α} (h:Ev (fun k=>f (k+1)) r):Ev f r:=by
 obtain⟨B,h⟩:=h;refine⟨B+1,fun K a=>?_⟩;obtain⟨k,rfl⟩:∃k,K=k+1:=⟨K-1,by omega⟩;exact h k (by omega)
theorem Ev.bind {α β:Type} {f:Nat->Option α} {g:α->Nat->Option β} {a:α} {r:β} (h1:Ev f a) (b:Ev (g a) r):Ev (fun k=>(f k).bind fun t=>g t k) r:=by
 obtain⟨B,h1⟩:=h1;obtain⟨C,b⟩:=b;refine⟨max B C,fun K e=>?_⟩;show (f K).bind (fun t=>g t K)=some r
 rw[h1 K (by omega),Option.bind_some];exact b K (by omega)
theorem Ev.get {α:Type} {f:Nat->Option α} {r:α} (h:Ev f r):∃k,f k=some r:=by
 obtain⟨B,h⟩:=h;exact⟨B,h B (aM _)⟩
theorem Ev.at_ {α:Type} {f:Nat->Option α} {r:α} (hm:∀k,bl (f k) (f (k+1))) {k:Nat} (h:f k=some r):Ev f r:=
 ⟨k,fun K a=>by
  obtain⟨m,rfl⟩:∃m,K=k+m:=⟨K-k,by omega⟩;clear a;induction m with
  |zero=>exact h
  |succ m b=>exact hm _ _ b⟩
theorem fh {i:Nat} (h:i<=1000000):wrap64 ((i:Int)+1)=((i+1:Nat):Int):=by
 rw[show wrap64 ((i:Int)+1)=(i:Int)+1 from by unfold wrap64;omega];omega
theorem fV {x:Int} (h: -1000000000<=x/\x<=1000000000):wrap64 x=x:=by unfold wrap64;omega
def fH.f (b:Int) (e:List (S83)) (a:Int):Option (Bool):=if a>=0 then(some (decide (a<b))) else(some false)
theorem fH.calls (i:Int) (l:Option Addr) (m:Nat) (b:List (S83)) (j:Int) (r:Bool) (w:World) (n:Kd.C aQ w l b.length b) (o:b.length<=m) (h:fH.f i b j=some r):
  Calls Tryz.prog 149 #[.agg #[.int .i64 i,.slice l b.length m],.int .i64 j] w fun e w'=>e= .returned (.bool r)/\Below w.heap.size w w':=by
 have x:=Tryz.underlying24;have y:=zA n;have z:=zA o;clear n o;have a:=zA (ai w.heap.size w);have H:(if j>=0 then(some (decide (j<i))) else(some false))=some r:=h;clear h;by_cases c3:j>=0
 ·rw[if_pos c3] at H
  have q:=aA c3;clear c3;obtain rfl:=aR H;go_enter Tryz.func149,Tryz.ntmps149
  go_wp2_with (first|((with_reducible refine aX (N:=2) rfl ?_);refine zX 2 #[.int .i64 i,.slice l b.length m] 24 ?_;intro s g B k hb;have p:=zA (k);have u:=zG a g;have v:=zG a g;replace a:=zS a hb;clear hb k g;obtain⟨D,E,F,G⟩:=aE p))
  go_ret;exact⟨zE,zB⟩
 ·rw[if_neg c3] at H
  have q:=aY c3;clear c3;obtain rfl:=aR H;go_enter Tryz.func149,Tryz.ntmps149
  go_wp2_with (first|((with_reducible refine aX (N:=2) rfl ?_);refine zX 2 #[.int .i64 i,.slice l b.length m] 24 ?_;intro s g I k hb;have p:=zA (k);have u:=zG a g;have v:=zG a g;replace a:=zS a hb;clear hb k g))
  go_ret;exact⟨zE,zB⟩
def eC.j0:Nat->Int->Bool->Int->List (S83)->Int->Int->Int->Option (Int)
 |0,_,_,_,_,_,_,_=>none
 |k+1,x1,g,h,a,b,e,i=>if g=true then(some 2) else(if b>e then(some 9) else(if x1>0 then(if 0<=(wrap64 (x1-1)) then(if(wrap64 (x1-1))<(a.length:Int) then(if b<((ab a (wrap64 (x1-1))).f0) then(some 9) else(if b=((ab a (wrap64 (x1-1))).f0) then(if e<=((ab a (wrap64 (x1-1))).f1) then(some 9) else(some 0)) else(some 0))) else(none)) else(none)) else(some 0)))
def eC.f (k:Nat) (e:Int) (a:List (S83)) (b:Int):Option (Int):=if 0<=b then(if b<(a.length:Int) then((fH.f e a ((ab a b).f0)).bind fun t112=>(if t112=true then((fH.f e a ((ab a b).f1)).bind fun t113=>(if t113=true then(if((ab a b).f2)<1 then(eC.j0 k b true e a ((ab a b).f0) ((ab a b).f1) ((ab a b).f2)) else(eC.j0 k b (decide (((ab a b).f2)>50)) e a ((ab a b).f0) ((ab a b).f1) ((ab a b).f2))) else(eC.j0 k b true e a ((ab a b).f0) ((ab a b).f1) ((ab a b).f2)))) else(eC.j0 k b true e a ((ab a b).f0) ((ab a b).f1) ((ab a b).f2)))) else(none)) else(none)
theorem eC.calls (k:Nat) (n:Int) (aS:Option Addr) (x:Nat) (a:List (S83)) (b:Int) (r:Int) (w:World) (a9:Kd.C aQ w aS a.length a) (bb:a.length<=x) (h:eC.f k n a b=some r):
  Calls Tryz.prog 153 #[.agg #[.int .i64 n,.slice aS a.length x],.int .i64 b] w fun e w'=>e= .returned (.int .i64 r)/\Below w.heap.size w w':=by
 have b':=Tryz.underlying24;have ca:=Tryz.underlying83;have I:=zA a9;have K:=zA bb;clear a9 bb;have j:=zA (ai w.heap.size w);unfold eC.f at h;have H:=h;clear h;by_cases c3:0<=b
 ·rw[if_pos c3] at H
  have bd:=aA c3;clear c3;by_cases c4:b<(a.length:Int)
  ·rw[if_pos c4] at H
   have be:=aA c4;clear c4;have a0:=zA H;clear H;go_enter Tryz.func153,Tryz.ntmps153
   go_upto_region 2 with (first|((with_reducible refine aX (N:=2) rfl ?_);refine zX 2 #[.int .i64 n,.slice aS a.length x] 24 ?_;intro p m w6 z hb;have l:=zA (z);have cc:=zG j m;have cd:=zG j m;replace j:=zS j hb;clear hb z m;obtain⟨bf,bg,bi,bk⟩:=aE l;have ag:0<=(b:Int):=aD ‹_›;have ak:b<(a.length:Int):=aD ‹_›;obtain⟨q,bn,am,an,ao⟩:=fa I.out b ag ak;cases bn;replace am:=(j.out.cell (bS w _ am)).trans am;replace an:=(j.out.cell (bS w _ an)).trans an;replace ao:=(j.out.cell (bS w _ ao)).trans ao;replace ag:=eq_true ag;replace ak:=eq_true ak)|((with_reducible refine aX (N:=5) rfl ?_);refine zX 5 #[.int .i64 0,.int .i64 0,.int .i64 0] 83 ?_;intro s m w8 z hb;have i:=zA (z);have cg:=zG j m;have ch:=zG j m;replace j:=zS j hb;have u:=zA ((by rw[m];exact Nat.ne_of_lt (ay (g:=p) (o:=.cells #[.int .i64 n,.slice (some q) a.length x] 24 (0,0)) (zK l)):p≠s));have J:=zA ((by rw[m];exact Nat.ne_of_gt (ay (g:=p) (o:=.cells #[.int .i64 n,.slice (some q) a.length x] 24 (0,0)) (zK l)):s≠p));replace l:=zb l hb;clear hb z m;have ci:=J.out;have cj:=u.out;obtain⟨bo,bq,bv,bw,bx,b0⟩:=cp i))
   (try simp only[Act.put,List.setIfInBounds_toArray,List.set_cons_zero,List.set_cons_succ])
   go_cut [33] (fun v33 wc=>∃(kq:Nat) (ar:Bool),v33= .bool ar/\Aside0 (eC.j0 kq b ar n a ((ab a b).f0) ((ab a b).f1) ((ab a b).f2)=some r)/\Aside0 (kq<=k)/\Aside0 (wc.heap[p]? =some (.cells #[.int .i64 n,(.slice (some q) a.length x)] 24 (0,0)))/\Aside0 (wc.heap[s]? =some (.cells #[.int .i64 ((ab a b).f0),.int .i64 ((ab a b).f1),.int .i64 ((ab a b).f2)] 83 (0,0)))/\Aside0 (Below w.heap.size w wc))
   case first=>
    have H:=a0.out;clear a0;obtain⟨t112,av,H⟩:=zo H;by_cases aB:t112=true
    ·subst aB
     replace H:=zi H;obtain⟨t113,a2,H⟩:=zo H;by_cases aF:t113=true
     ·subst aF
      replace H:=zi H;by_cases V:((ab a b).f2)<1
      ·rw[if_pos V] at H
       have aa:=aA V;clear V
       (first|rw[aa]|(simp only[cA,cI];rw[aa])|skip)
       have L:=zA H;clear H;have ck:=u.out;have cl:=J.out;obtain⟨cn,co,cq,cr⟩:=aE l;obtain⟨cv,cx,cy,c0,c1,c2⟩:=cp i;go_wp2_with (first|((with_reducible refine aT (f:=149) rfl ?_);refine zL (some 15) Tryz.func149 #[.agg #[.int .i64 n,.slice (some q) a.length x],.int .i64 ((ab a b).f0)] ?_;(with_reducible refine(fH.calls n _ _ a ((ab a b).f0) true _ ?aw ?ax av.out).mono ?_);(case aw=>exact Kd.al I.out zB);(case ax=>exact K.out);rintro e c5 ⟨rfl,hb⟩;refine⟨_,rfl,?_⟩;replace l:=zA (au (g:=p) (o:=.cells #[.int .i64 n,.slice (some q) a.length x] 24 (0,0)) (by refine zk ?_;refine aH ?_ u.out _;refine zk ?_;refine aH ?_ u.out _;refine zk ?_;refine aH ?_ u.out _;exact zK l) hb);replace i:=zA (au (g:=s) (o:=.cells #[.int .i64 ((ab a b).f0),.int .i64 ((ab a b).f1),.int .i64 ((ab a b).f2)] 83 (0,0)) (by refine zk ?_;refine cm (cs:=#[.int .i64 ((ab a b).f0),.int .i64 ((ab a b).f1),.int .i64 0]) ?_ 2 _ rfl;refine zk ?_;refine cm (cs:=#[.int .i64 ((ab a b).f0),.int .i64 0,.int .i64 0]) ?_ 1 _ rfl;refine zk ?_;refine cm (cs:=#[.int .i64 0,.int .i64 0,.int .i64 0]) ?_ 0 _ rfl;exact zK i) hb);replace j:=zS j hb;(try clear hb);obtain⟨c6,c7,c8,c9⟩:=aE l;obtain⟨c',dd,dl,ds,dv,dx⟩:=cp i)|(go_at_call 149;(with_reducible refine(fH.calls n _ _ a ((ab a b).f1) true _ ?aw ?ax a2.out).mono ?_);(case aw=>exact Kd.al I.out zB);(case ax=>exact K.out);rintro e d0 ⟨rfl,hb⟩;replace l:=zb l hb;replace i:=zb i hb;replace j:=zS j hb;(try clear hb);obtain⟨d1,d2,d3,d4,d5,d6⟩:=cp i))
       go_meet
       case rel=>exact⟨_,(true),zT,L,⟨by first|omega|exact aM _⟩,⟨zK l⟩,⟨zK i⟩,⟨zB⟩⟩
      ·rw[if_neg V] at H
       have aa:=aY V;clear V
       (first|rw[aa]|(simp only[cA,cI];rw[aa])|skip)
       have L:=zA H;clear H;have d7:=u.out;have d8:=J.out;obtain⟨d9,ea,eb,eg⟩:=aE l;obtain⟨ek,el,em,er,es,ev⟩:=cp i;go_wp2_with (first|((with_reducible refine aT (f:=149) rfl ?_);refine zL (some 15) Tryz.func149 #[.agg #[.int .i64 n,.slice (some q) a.length x],.int .i64 ((ab a b).f0)] ?_;(with_reducible refine(fH.calls n _ _ a ((ab a b).f0) true _ ?aw ?ax av.out).mono ?_);(case aw=>exact Kd.al I.out zB);(case ax=>exact K.out);rintro e ew ⟨rfl,hb⟩;refine⟨_,rfl,?_⟩;replace l:=zA (au (g:=p) (o:=.cells #[.int .i64 n,.slice (some q) a.length x] 24 (0,0)) (by refine zk ?_;refine aH ?_ u.out _;refine zk ?_;refine aH ?_ u.out _;refine zk ?_;refine aH ?_ u.out _;exact zK l) hb);replace i:=zA (au (g:=s) (o:=.cells #[.int .i64 ((ab a b).f0),.int .i64 ((ab a b).f1),.int .i64 ((ab a b).f2)] 83 (0,0)) (by refine zk ?_;refine cm (cs:=#[.int .i64 ((ab a b).f0),.int .i64 ((ab a b).f1),.int .i64 0]) ?_ 2 _ rfl;refine zk ?_;refine cm (cs:=#[.int .i64 ((ab a b).f0),.int .i64 0,.int .i64 0]) ?_ 1 _ rfl;refine zk ?_;refine cm (cs:=#[.int .i64 0,.int .i64 0,.int .i64 0]) ?_ 0 _ rfl;exact zK i) hb);replace j:=zS j hb;(try clear hb);obtain⟨ex,ey,e0,e1⟩:=aE l;obtain⟨e2,e3,e4,e5,e6,e_⟩:=cp i)|(go_at_call 149;(with_reducible refine(fH.calls n _ _ a ((ab a b).f1) true _ ?aw ?ax a2.out).mono ?_);(case aw=>exact Kd.al I.out zB);(case ax=>exact K.out);rintro e e' ⟨rfl,hb⟩;replace l:=zb l hb;replace i:=zb i hb;replace j:=zS j hb;(try clear hb);obtain⟨fd,fn,fo,fq,fr,ft⟩:=cp i))
       go_meet
       case rel=>exact⟨_,(decide (((ab a b).f2)>50)),zT,L,⟨by first|omega|exact aM _⟩,⟨zK l⟩,⟨zK i⟩,⟨zB⟩⟩
     ·replace aF:=Bool.eq_false_iff.mpr aF
      subst aF;replace H:=zj H;have L:=zA H;clear H;have f3:=u.out;have f4:=J.out;obtain⟨f5,f6,f7,f8⟩:=aE l;obtain⟨f9,f',ga,gb,gc,gd⟩:=cp i;go_wp2_with (first|((with_reducible refine aT (f:=149) rfl ?_);refine zL (some 15) Tryz.func149 #[.agg #[.int .i64 n,.slice (some q) a.length x],.int .i64 ((ab a b).f0)] ?_;(with_reducible refine(fH.calls n _ _ a ((ab a b).f0) true _ ?aw ?ax av.out).mono ?_);(case aw=>exact Kd.al I.out zB);(case ax=>exact K.out);rintro e ge ⟨rfl,hb⟩;refine⟨_,rfl,?_⟩;replace l:=zA (au (g:=p) (o:=.cells #[.int .i64 n,.slice (some q) a.length x] 24 (0,0)) (by refine zk ?_;refine aH ?_ u.out _;refine zk ?_;refine aH ?_ u.out _;refine zk ?_;refine aH ?_ u.out _;exact zK l) hb);replace i:=zA (au (g:=s) (o:=.cells #[.int .i64 ((ab a b).f0),.int .i64 ((ab a b).f1),.int .i64 ((ab a b).f2)] 83 (0,0)) (by refine zk ?_;refine cm (cs:=#[.int .i64 ((ab a b).f0),.int .i64 ((ab a b).f1),.int .i64 0]) ?_ 2 _ rfl;refine zk ?_;refine cm (cs:=#[.int .i64 ((ab a b).f0),.int .i64 0,.int .i64 0]) ?_ 1 _ rfl;refine zk ?_;refine cm (cs:=#[.int .i64 0,.int .i64 0,.int .i64 0]) ?_ 0 _ rfl;exact zK i) hb);replace j:=zS j hb;(try clear hb);obtain⟨gf,gg,gi,gl⟩:=aE l;obtain⟨gm,go,gp,gq,gr,gs⟩:=cp i)|(go_at_call 149;(with_reducible refine(fH.calls n _ _ a ((ab a b).f1) false _ ?aw ?ax a2.out).mono ?_);(case aw=>exact Kd.al I.out zB);(case ax=>exact K.out);rintro e gt ⟨rfl,hb⟩;replace l:=zb l hb;replace i:=zb i hb;replace j:=zS j hb;(try clear hb)))
      go_meet
      case rel=>exact⟨_,(true),zT,L,⟨by first|omega|exact aM _⟩,⟨zK l⟩,⟨zK i⟩,⟨zB⟩⟩
    ·replace aB:=Bool.eq_false_iff.mpr aB
     subst aB;replace H:=zj H;have L:=zA H;clear H;have gu:=u.out;have gv:=J.out;obtain⟨gx,g0,g1,g2⟩:=aE l;obtain⟨g3,g4,g5,g6,g7,g8⟩:=cp i;go_wp2_with (first|((with_reducible refine aT (f:=149) rfl ?_);refine zL (some 15) Tryz.func149 #[.agg #[.int .i64 n,.slice (some q) a.length x],.int .i64 ((ab a b).f0)] ?_;(with_reducible refine(fH.calls n _ _ a ((ab a b).f0) false _ ?aw ?ax av.out).mono ?_);(case aw=>exact Kd.al I.out zB);(case ax=>exact K.out);rintro e g9 ⟨rfl,hb⟩;refine⟨_,rfl,?_⟩;replace l:=zA (au (g:=p) (o:=.cells #[.int .i64 n,.slice (some q) a.length x] 24 (0,0)) (by refine zk ?_;refine aH ?_ u.out _;refine zk ?_;refine aH ?_ u.out _;refine zk ?_;refine aH ?_ u.out _;exact zK l) hb);replace i:=zA (au (g:=s) (o:=.cells #[.int .i64 ((ab a b).f0),.int .i64 ((ab a b).f1),.int .i64 ((ab a b).f2)] 83 (0,0)) (by refine zk ?_;refine cm (cs:=#[.int .i64 ((ab a b).f0),.int .i64 ((ab a b).f1),.int .i64 0]) ?_ 2 _ rfl;refine zk ?_;refine cm (cs:=#[.int .i64 ((ab a b).f0),.int .i64 0,.int .i64 0]) ?_ 1 _ rfl;refine zk ?_;refine cm (cs:=#[.int .i64 0,.int .i64 0,.int .i64 0]) ?_ 0 _ rfl;exact zK i) hb);replace j:=zS j hb;(try clear hb)))
     go_meet
     case rel=>exact⟨_,(true),zT,L,⟨by first|omega|exact aM _⟩,⟨zK l⟩,⟨zK i⟩,⟨zB⟩⟩
   case rest=>
    clear a0;clear bd be bo bq bv bf bg bw bx b0 bi bk am an ao ag ak;obtain⟨kq,ar,rfl,HA,g',l,i,j⟩:=hcut;cases kq with
    |zero=>exact absurd HA.out (by simp[eC.j0])
    |succ ha=>
     have H:=HA.out;clear HA;simp only[eC.j0] at H;by_cases aL:ar=true
     ·subst aL
      replace H:=zi H;obtain rfl:=aR H;go_wp2;go_ret;exact⟨zE,zB⟩
     ·replace aL:=Bool.eq_false_iff.mpr aL
      subst aL;replace H:=zj H;by_cases W:((ab a b).f0)>((ab a b).f1)
      ·rw[if_pos W] at H
       have b1:=aA W;clear W;obtain rfl:=aR H;have hc:=J.out;have he:=u.out;obtain⟨hf,hh,hj,hk,hl,hm⟩:=cp i;go_wp2;go_ret;exact⟨zE,zB⟩
      ·rw[if_neg W] at H
       have b1:=aY W;clear W;by_cases X:b>0
       ·rw[if_pos X] at H
        have b2:=aA X;clear X;obtain⟨v,M⟩:∃j_:Int,(wrap64 (b-1))=j_:=⟨_,rfl⟩;replace H:(if 0<=(v) then(if(v)<(a.length:Int) then(if((ab a b).f0)<((ab a (v)).f0) then(some 9) else(if((ab a b).f0)=((ab a (v)).f0) then(if((ab a b).f1)<=((ab a (v)).f1) then(some 9) else(some 0)) else(some 0))) else(none)) else(none))=some r:=by first|(rw[M] at H;exact H)|(simp only[M] at H⊢;exact H)
        have hn:(IntKind.i64.wrap (b-1))=v:=(cA _).trans M;by_cases aO:0<=(v)
        ·rw[if_pos aO] at H
         have ho:=aA aO;clear aO;by_cases aP:(v)<(a.length:Int)
         ·rw[if_pos aP] at H
          have hp:=aA aP;clear aP;by_cases Y:((ab a b).f0)<((ab a (v)).f0)
          ·rw[if_pos Y] at H
           have b4:=aA Y;clear Y;obtain rfl:=aR H;have hq:=J.out;have hr:=u.out;obtain⟨hs,ht,hv,hw,hx,hy⟩:=cp i;obtain⟨hz,hA,hB,hC⟩:=aE l;have B:0<=((v):Int):=aD ‹_›;have D:(v)<(a.length:Int):=aD ‹_›;obtain⟨O,P,E,F,G⟩:=fa I.out (v) B D;obtain rfl:q=O:=(by injection P);replace E:=(j.out.cell (bS w _ E)).trans E;replace F:=(j.out.cell (bS w _ F)).trans F;replace G:=(j.out.cell (bS w _ G)).trans G;replace B:=eq_true B;replace D:=eq_true D;go_wp2_with (first|((with_reducible refine aX (N:=6) rfl ?_);refine zX 6 #[.int .i64 0,.int .i64 0,.int .i64 0] 83 ?_;intro y m hD z hb;have Q:=zA (z);have a4:=zG j m;have a5:=zG j m;replace j:=zS j hb;have R:=zA ((by rw[m];exact Nat.ne_of_lt (ay (g:=p) (o:=.cells #[.int .i64 n,.slice (some q) a.length x] 24 (0,0)) (zK l)):p≠y));have S:=zA ((by rw[m];exact Nat.ne_of_gt (ay (g:=p) (o:=.cells #[.int .i64 n,.slice (some q) a.length x] 24 (0,0)) (zK l)):y≠p));replace l:=zb l hb;have T:=zA ((by rw[m];exact Nat.ne_of_lt (ay (g:=s) (o:=.cells #[.int .i64 ((ab a b).f0),.int .i64 ((ab a b).f1),.int .i64 ((ab a b).f2)] 83 (0,0)) (zK i)):s≠y));have U:=zA ((by rw[m];exact Nat.ne_of_gt (ay (g:=s) (o:=.cells #[.int .i64 ((ab a b).f0),.int .i64 ((ab a b).f1),.int .i64 ((ab a b).f2)] 83 (0,0)) (zK i)):y≠s));replace i:=zb i hb;clear hb z m;have hE:=S.out;have hG:=R.out;have hH:=U.out;have hI:=T.out;obtain⟨hJ,hK,hL,hM,hN,hO⟩:=cp Q;obtain⟨hP,hQ,hR,hT,hV,hW⟩:=cp i))
           go_ret;exact⟨by first|rfl|(simp[dW,dX]<;>rfl)|(simp only[<-M];first|rfl|(simp[dW,dX]<;>rfl))|(simp[*,dW,dX]<;>rfl),zB⟩
          ·rw[if_neg Y] at H
           have b4:=aY Y;clear Y;by_cases ad:((ab a b).f0)=((ab a (v)).f0)
           ·rw[if_pos ad] at H
            obtain⟨b5,b6⟩:=da ad;clear ad;by_cases Z:((ab a b).f1)<=((ab a (v)).f1)
            ·rw[if_pos Z] at H
             have b_:=aA Z;clear Z;obtain rfl:=aR H;have hX:=J.out;have hY:=u.out;obtain⟨hZ,h0,h1,h2,h3,h4⟩:=cp i;obtain⟨h5,h6,h7,h8⟩:=aE l;have B:0<=((v):Int):=aD ‹_›;have D:(v)<(a.length:Int):=aD ‹_›;obtain⟨O,P,E,F,G⟩:=fa I.out (v) B D;obtain rfl:q=O:=(by injection P);replace E:=(j.out.cell (bS w _ E)).trans E;replace F:=(j.out.cell (bS w _ F)).trans F;replace G:=(j.out.cell (bS w _ G)).trans G;replace B:=eq_true B;replace D:=eq_true D;go_wp2_with (first|((with_reducible refine aX (N:=6) rfl ?_);refine zX 6 #[.int .i64 0,.int .i64 0,.int .i64 0] 83 ?_;intro y m h9 z hb;have Q:=zA (z);have a4:=zG j m;have a5:=zG j m;replace j:=zS j hb;have R:=zA ((by rw[m];exact Nat.ne_of_lt (ay (g:=p) (o:=.cells #[.int .i64 n,.slice (some q) a.length x] 24 (0,0)) (zK l)):p≠y));have S:=zA ((by rw[m];exact Nat.ne_of_gt (ay (g:=p) (o:=.cells #[.int .i64 n,.slice (some q) a.length x] 24 (0,0)) (zK l)):y≠p));replace l:=zb l hb;have T:=zA ((by rw[m];exact Nat.ne_of_lt (ay (g:=s) (o:=.cells #[.int .i64 ((ab a b).f0),.int .i64 ((ab a b).f1),.int .i64 ((ab a b).f2)] 83 (0,0)) (zK i)):s≠y));have U:=zA ((by rw[m];exact Nat.ne_of_gt (ay (g:=s) (o:=.cells #[.int .i64 ((ab a b).f0),.int .i64 ((ab a b).f1),.int .i64 ((ab a b).f2)] 83 (0,0)) (zK i)):y≠s));replace i:=zb i hb;clear hb z m;have h_:=S.out;have h':=R.out;have ib:=U.out;have id:=T.out;obtain⟨ih,ii,im,io,ip,it⟩:=cp Q;obtain⟨iv,i0,i1,i2,i3,i4⟩:=cp i))
             go_ret;exact⟨by first|rfl|(simp[dW,dX]<;>rfl)|(simp only[<-M];first|rfl|(simp[dW,dX]<;>rfl))|(simp[*,dW,dX]<;>rfl),zB⟩
            ·rw[if_neg Z] at H
             have b_:=aY Z;clear Z;obtain rfl:=aR H;have i5:=J.out;have i6:=u.out;obtain⟨i7,i8,i9,jj,jp,j1⟩:=cp i;obtain⟨j2,j3,j',kb⟩:=aE l;have B:0<=((v):Int):=aD ‹_›;have D:(v)<(a.length:Int):=aD ‹_›;obtain⟨O,P,E,F,G⟩:=fa I.out (v) B D;obtain rfl:q=O:=(by injection P);replace E:=(j.out.cell (bS w _ E)).trans E;replace F:=(j.out.cell (bS w _ F)).trans F;replace G:=(j.out.cell (bS w _ G)).trans G;replace B:=eq_true B;replace D:=eq_true D;go_wp2_with (first|((with_reducible refine aX (N:=6) rfl ?_);refine zX 6 #[.int .i64 0,.int .i64 0,.int .i64 0] 83 ?_;intro y m kd z hb;have Q:=zA (z);have a4:=zG j m;have a5:=zG j m;replace j:=zS j hb;have R:=zA ((by rw[m];exact Nat.ne_of_lt (ay (g:=p) (o:=.cells #[.int .i64 n,.slice (some q) a.length x] 24 (0,0)) (zK l)):p≠y));have S:=zA ((by rw[m];exact Nat.ne_of_gt (ay (g:=p) (o:=.cells #[.int .i64 n,.slice (some q) a.length x] 24 (0,0)) (zK l)):y≠p));replace l:=zb l hb;have T:=zA ((by rw[m];exact Nat.ne_of_lt (ay (g:=s) (o:=.cells #[.int .i64 ((ab a b).f0),.int .i64 ((ab a b).f1),.int .i64 ((ab a b).f2)] 83 (0,0)) (zK i)):s≠y));have U:=zA ((by rw[m];exact Nat.ne_of_gt (ay (g:=s) (o:=.cells #[.int .i64 ((ab a b).f0),.int .i64 ((ab a b).f1),.int .i64 ((ab a b).f2)] 83 (0,0)) (zK i)):y≠s));replace i:=zb i hb;clear hb z m;have kk:=S.out;have km:=R.out;have ks:=U.out;have kt:=T.out;obtain⟨kv,kw,k0,k1,k2,k3⟩:=cp Q;obtain⟨k4,k5,k_,la,lb,lc⟩:=cp i))
             go_ret;exact⟨by first|rfl|(simp[dW,dX]<;>rfl)|(simp only[<-M];first|rfl|(simp[dW,dX]<;>rfl))|(simp[*,dW,dX]<;>rfl),zB⟩
           ·rw[if_neg ad] at H
            obtain⟨b5,b6⟩:=db ad;obtain rfl:=aR H;have ld:=J.out;have le:=u.out;obtain⟨lg,li,lj,lk,lm,lo⟩:=cp i;obtain⟨lp,ls,lt,lw⟩:=aE l;have B:0<=((v):Int):=aD ‹_›;have D:(v)<(a.length:Int):=aD ‹_›;obtain⟨O,P,E,F,G⟩:=fa I.out (v) B D;obtain rfl:q=O:=(by injection P);replace E:=(j.out.cell (bS w _ E)).trans E;replace F:=(j.out.cell (bS w _ F)).trans F;replace G:=(j.out.cell (bS w _ G)).trans G;replace B:=eq_true B;replace D:=eq_true D;go_wp2_with (first|((with_reducible refine aX (N:=6) rfl ?_);refine zX 6 #[.int .i64 0,.int .i64 0,.int .i64 0] 83 ?_;intro y m l0 z hb;have Q:=zA (z);have a4:=zG j m;have a5:=zG j m;replace j:=zS j hb;have R:=zA ((by rw[m];exact Nat.ne_of_lt (ay (g:=p) (o:=.cells #[.int .i64 n,.slice (some q) a.length x] 24 (0,0)) (zK l)):p≠y));have S:=zA ((by rw[m];exact Nat.ne_of_gt (ay (g:=p) (o:=.cells #[.int .i64 n,.slice (some q) a.length x] 24 (0,0)) (zK l)):y≠p));replace l:=zb l hb;have T:=zA ((by rw[m];exact Nat.ne_of_lt (ay (g:=s) (o:=.cells #[.int .i64 ((ab a b).f0),.int .i64 ((ab a b).f1),.int .i64 ((ab a b).f2)] 83 (0,0)) (zK i)):s≠y));have U:=zA ((by rw[m];exact Nat.ne_of_gt (ay (g:=s) (o:=.cells #[.int .i64 ((ab a b).f0),.int .i64 ((ab a b).f1),.int .i64 ((ab a b).f2)] 83 (0,0)) (zK i)):y≠s));replace i:=zb i hb;clear hb z m;have l1:=S.out;have l2:=R.out;have l3:=U.out;have l':=T.out;obtain⟨md,mk,mn,mp,ms,mt⟩:=cp Q;obtain⟨mv,mx,m0,m1,m2,m3⟩:=cp i))
            go_ret;exact⟨by first|rfl|(simp[dW,dX]<;>rfl)|(simp only[<-M];first|rfl|(simp[dW,dX]<;>rfl))|(simp[*,dW,dX]<;>rfl),zB⟩
         ·rw[if_neg aP] at H
          exact absurd H (by simp)
        ·rw[if_neg aO] at H
         exact absurd H (by simp)
       ·rw[if_neg X] at H
        have b2:=aY X;clear X;obtain rfl:=aR H;have m4:=J.out;have m5:=u.out;obtain⟨m6,m7,m8,m9,m',nb⟩:=cp i;go_wp2;go_ret;exact⟨zE,zB⟩
  ·rw[if_neg c4] at H
   exact absurd H (by simp)
 ·rw[if_neg c3] at H
  exact absurd H (by simp)
mutual
def cM.j0:Nat->Bool->Int->List (S83)->Option (Int)
 |0,_,_,_=>none
 |k+1,a,b,e=>if a=true then(some 2) else(cM.l0 k 0 b e)
def cM.l0:Nat->Int->Int->List (S83)->Option (Int)
 |0,_,_,_=>none
 |k+1,x3,b,a=>if x3<(a.length:Int) then((eC.f k b a x3).bind fun t117=>(if t117=0 then(cM.l0 k (wrap64 (x3+1)) b a) else(some t117))) else(some 0)
end
def cM.f (k:Nat) (a:Int) (b:List (S83)):Option (Int):=if a<1 then(cM.j0 k true a b) else(cM.j0 k (decide (a>12)) a b)
theorem cM.calls (k:Nat) (g:Int) (m:Option Addr) (n:Nat) (a:List (S83)) (r:Int) (w:World) (D:Kd.C aQ w m a.length a) (E:a.length<=n) (h:cM.f k g a=some r):
  Calls Tryz.prog 103 #[.agg #[.int .i64 g,.slice m a.length n]] w fun e w'=>e= .returned (.int .i64 r)/\Below w.heap.size w w':=by
 have S:=Tryz.underlying24;have F:=zA D;have G:=zA E;clear D E;have i:=zA (ai w.heap.size w);unfold cM.f at h;have H:=h;clear h;have y:=zA H;clear H;go_enter Tryz.func103,Tryz.ntmps103
 go_upto_region 1 with (first|((with_reducible refine aX (N:=1) rfl ?_);refine zX 1 #[.int .i64 g,.slice m a.length n] 24 ?_;intro I z w3 J hb;have b:=zA (J);have T:=zG i z;have U:=zG i z;replace i:=zS i hb;clear hb J z))
 (try simp only[Act.put,List.setIfInBounds_toArray,List.set_cons_zero,List.set_cons_succ])
 go_cut [12] (fun v12 wc=>∃(o:Nat) (v:Bool),v12= .bool v/\Aside0 (cM.j0 o v g a=some r)/\Aside0 (o<=k)/\Aside0 (wc.heap[I]? =some (.cells #[.int .i64 g,(.slice m a.length n)] 24 (0,0)))/\Aside0 (Below w.heap.size w wc))
 case first=>
  have H:=y.out;clear y;by_cases c4:g<1
  ·rw[if_pos c4] at H
   have s:=aA c4;clear c4
   (first|rw[s]|(simp only[cA,cI];rw[s])|skip)
   have l:=zA H;clear H;obtain⟨V,W,X,Y⟩:=aE b;go_wp2;go_meet
   case rel=>exact⟨_,(true),zT,l,⟨by first|omega|exact aM _⟩,⟨zK b⟩,⟨zB⟩⟩
  ·rw[if_neg c4] at H
   have s:=aY c4;clear c4
   (first|rw[s]|(simp only[cA,cI];rw[s])|skip)
   have l:=zA H;clear H;obtain⟨Z,aa,ad,ag⟩:=aE b;go_wp2;go_meet
   case rel=>exact⟨_,(decide (g>12)),zT,l,⟨by first|omega|exact aM _⟩,⟨zK b⟩,⟨zB⟩⟩
 case rest=>
  clear y;obtain⟨o,v,rfl,p,K,b,i⟩:=hcut;cases o with
  |zero=>exact absurd p.out (by simp[cM.j0])
  |succ L=>
   have H:=p.out;clear p;simp only[cM.j0] at H;by_cases x:v=true
   ·subst x
    replace H:=zi H;obtain rfl:=aR H;go_wp2;go_ret;exact⟨zE,zB⟩
   ·replace x:=Bool.eq_false_iff.mpr x
    subst x;replace H:=zj H;have l:=zA H;clear H;go_wp2;go_loopg [3] L (fun o v3 w'=>∃(j:Int),v3= .int .i64 j/\Aside0 (cM.l0 o j g a=some r)/\Aside0 (o<=L)/\Aside0 (w'.heap[I]? =some (.cells #[.int .i64 g,(.slice m a.length n)] 24 (0,0)))/\Aside0 (Below w.heap.size w w'))
    case atStart=>exact⟨(0),zT,l,⟨aM _⟩,⟨zK b⟩,⟨zB⟩⟩
    case round=>
     clear l;obtain⟨j,rfl,p,M,b,i⟩:=hrel;cases gk with
     |zero=>exact absurd p.out (by simp[cM.l0])
     |succ B=>
      have H:=p.out;clear p;simp only[cM.l0] at H;by_cases q:j<(a.length:Int)
      ·rw[if_pos q] at H
       have P:=aA q;clear q;obtain⟨t117,O,H⟩:=zo H;by_cases u:t117=0
       ·rw[if_pos u] at H
        obtain⟨Q,R⟩:=da u;clear u;have l:=zA H;clear H;obtain⟨ak,am,an,ao⟩:=aE b;go_wp2_with (first|((with_reducible refine aT (f:=153) rfl ?_);refine zL (some 22) Tryz.func153 #[.agg #[.int .i64 g,.slice m a.length n],.int .i64 j] ?_;(with_reducible refine(eC.calls B g _ _ a j t117 _ ?aw ?ax O.out).mono ?_);(case aw=>exact Kd.al F.out zB);(case ax=>exact G.out);rintro e ap ⟨rfl,hb⟩;refine⟨_,rfl,?_⟩;replace b:=zb b hb;replace i:=zS i hb;(try clear hb)))
        go_roundg B
        case measure=>have:=K.out;have:=M.out;omega
        case rel=>exact⟨(wrap64 (j+1)),zT,l,⟨by have:=K.out;have:=M.out;omega⟩,⟨zK b⟩,⟨zB⟩⟩
       ·rw[if_neg u] at H
        obtain⟨Q,R⟩:=db u;obtain rfl:=aR H;obtain⟨ar,av,aB,aF⟩:=aE b;go_wp2_with (first|((with_reducible refine aT (f:=153) rfl ?_);refine zL (some 22) Tryz.func153 #[.agg #[.int .i64 g,.slice m a.length n],.int .i64 j] ?_;(with_reducible refine(eC.calls B g _ _ a j t117 _ ?aw ?ax O.out).mono ?_);(case aw=>exact Kd.al F.out zB);(case ax=>exact G.out);rintro e aL ⟨rfl,hb⟩;refine⟨_,rfl,?_⟩;replace b:=zb b hb;replace i:=zS i hb;(try clear hb)))
        go_ret;exact⟨zE,zB⟩
      ·rw[if_neg q] at H
       have P:=aY q;clear q;obtain rfl:=aR H;obtain⟨aO,aP,aS,a0⟩:=aE b;go_wp2;go_ret;exact⟨zE,zB⟩
def bA (N:Int) (x:S83):Bool:=decide (0<=x.f0/\x.f0<N/\0<=x.f1/\x.f1<N/\1<=x.f2/\x.f2<=50)
def dt (N:Int) (a b:Int) (x:S83):Int:=if bA N x=false then 2 else if x.f0<a\/x.f0=a/\x.f1<=b\/x.f0>x.f1 then 9 else 0
def fI (N:Int):Int->Int->List S83->Int
 |_,_,[]=>0
 |a,b,x::E=>if dt N a b x=0 then fI N x.f0 x.f1 E else dt N a b x
def cE (N:Int) (E:List S83):Int:=if N<1\/N>12 then 2 else fI N (-1) (-1) E
theorem pR {E:List S83} {i:Nat} (h:i<E.length):E.drop i=ab E i::E.drop (i+1):=by
 rw[List.drop_eq_getElem_cons h];simp[ab,aN,br h]
theorem Bs (N v:Int):fD.f N v=some (decide (0<=v/\v<N)):=by
 unfold fD.f;by_cases h:v>=0
 ·rw[if_pos h];congr 1;simp[show 0<=v from h]
 ·rw[if_neg h];congr 1;simp;omega
theorem Bt (a b:Int):iC.f a b=some (if a<b then -1 else if a>b then 1 else 0):=by
 unfold iC.f cmp_isNaN_int.f;simp only[bne_self_eq_false,Option.bind_some,Bool.false_eq_true,if_false];split
 ·rfl
 ·split<;>rfl
theorem Bu (a b:Int):Ev (fun k=>cR.f k [a,b]) (if a=0 then b else a):=by
 unfold cR.f;refine Ev.of_succ ?_;simp only[cR.l0,List.length_cons,List.length_nil,rd];by_cases e:a=0
 ·subst e
  refine Ev.of_succ ?_;simp only[cR.l0,List.length_cons,List.length_nil,rd,wrap64];simp;by_cases hb:b=0
  ·subst hb
   refine Ev.of_succ ?_;simp[cR.l0,wrap64];exact Ev.const _
  ·simp[hb];exact Ev.const _
 ·simp[e];exact Ev.const _
theorem Bv (a b c d:Int):Ev (fun k=>dg.f k a b c d) (if a<c then -1 else if a>c then 1 else if b<d then -1 else if b>d then 1 else 0):=by
 unfold dg.f;simp only[Bt,Option.bind_some];refine Ev.bind (Bu _ _) ?_;have e:(if(if a<c then(-1:Int) else if a>c then 1 else 0)=0 then(if b<d then(-1:Int) else if b>d then 1 else 0) else(if a<c then(-1:Int) else if a>c then 1 else 0))=(if a<c then -1 else if a>c then 1 else if b<d then -1 else if b>d then 1 else 0):=by
  by_cases h1:a<c
  ·simp[h1]
  ·by_cases g:a>c
   ·simp[h1,g]
   ·simp[h1,g]
 rw[e];exact Ev.const _
theorem tK (N:Int) (E:List S83) (r:E.length<=1000):∀(m i:Nat) (a g:Int),i+m=E.length->Ev (fun k=>aW.l0 k E E.length i N E a g) (fI N a g (E.drop i))
 |0,i,a,g,hi=>by
  refine Ev.of_succ ?_;simp only[aW.l0,if_neg (show ¬((i:Int)<(E.length:Int)) by omega)];rw[List.drop_eq_nil_of_le (by omega)];exact Ev.const _
 |m+1,i,a,g,hi=>by
  have o:=tK N E r m (i+1) (ab E i).f0 (ab E i).f1 (by omega);refine Ev.of_succ ?_;simp only[aW.l0,if_pos (show (i:Int)<(E.length:Int) by omega),if_pos (show (0:Int)<=(i:Int) by omega),Bs,Option.bind_some];rw[pR (by omega),fI];generalize u:ab E i=x at o⊢;have key:∀b:Bool,b= !bA N x->Ev (fun k=>aW.j2 k E E.length i b N E a g x.f0 x.f1 x.f2 x.f0 x.f1) (if dt N a g x=0 then fI N x.f0 x.f1 (E.drop (i+1)) else dt N a g x):=by
   rintro b rfl;refine Ev.of_succ ?_;simp only[aW.j2];cases l:bA N x with
   |false=>simp[dt,l];exact Ev.const _
   |true=>
    simp only[Bool.not_true,Bool.false_eq_true,if_false];by_cases n:x.f0>x.f1
    ·have e:dt N a g x=9:=by simp[dt,l,n]
     rw[e];simp only[if_pos n];exact Ev.const _
    ·simp only[if_neg n]
     refine Ev.bind (Bv _ _ _ _) ?_;by_cases s:x.f0<a\/x.f0=a/\x.f1<=g
     ·have e:dt N a g x=9:=by
       unfold dt;rw[l,if_neg (by decide),if_pos (by rcases s with h|h;exact .inl h;exact .inr (.inl h))]
      rw[e];have j:(if a<x.f0 then(-1:Int) else if a>x.f0 then 1 else if g<x.f1 then -1 else if g>x.f1 then 1 else 0)>=0:=by
       rw[if_neg (by omega)];split
       ·decide
       ·rw[if_neg (by omega)];split<;>decide
      simp only[if_pos j];exact Ev.const _
     ·have e:dt N a g x=0:=by
       unfold dt;rw[l,if_neg (by decide),if_neg (by omega)]
      rw[e];have j:¬(if a<x.f0 then(-1:Int) else if a>x.f0 then 1 else if g<x.f1 then -1 else if g>x.f1 then 1 else 0)>=0:=by
       split
       ·decide
       ·rw[if_neg (by omega),if_pos (by omega)];decide
      simp only[if_neg j,fh (show i<=1000000 by omega),if_true];exact o
  by_cases p:0<=x.f0/\x.f0<N
  ·simp only[aA p,if_true]
   by_cases h1:0<=x.f1/\x.f1<N
   ·simp only[aA h1,if_true]
    by_cases q:x.f2<1
    ·simp only[if_pos q]
     exact key true (by simp[bA];omega)
    ·simp only[if_neg q]
     exact key _ (by unfold bA;by_cases j:x.f2>50<;>simp[j]<;>omega)
   ·simp only[aY h1,Bool.false_eq_true,if_false]
    exact key true (by simp[bA];omega)
  ·simp only[aY p,Bool.false_eq_true,if_false]
   exact key true (by simp[bA];omega)
theorem l5 (N:Int) (E:List S83) (a:E.length<=1000):Ev (fun k=>aW.f k N E) (cE N E):=by
 unfold aW.f cE;have key:∀b:Bool,b=decide (N<1\/N>12)->Ev (fun k=>aW.j0 k b N E) (if N<1\/N>12 then 2 else fI N (-1) (-1) E):=by
  rintro b rfl;refine Ev.of_succ ?_;simp only[aW.j0];by_cases h:N<1\/N>12
  ·simp[h];exact Ev.const _
  ·simp only[aY h,Bool.false_eq_true,if_false,if_neg h]
   have:=tK N E a E.length 0 (-1) (-1) (by omega);simpa using this
 by_cases h:N<1
 ·simp only[if_pos h];exact key true (by simp[h])
 ·simp only[if_neg h];exact key _ (by simp[h])
theorem Bw (N:Int) (E:List S83) (v:Int):fH.f N E v=some (decide (0<=v/\v<N)):=by
 unfold fH.f;by_cases h:v>=0
 ·rw[if_pos h];congr 1;simp[show 0<=v from h]
 ·rw[if_neg h];congr 1;simp;omega
def gK (E:List S83) (i:Nat):Int:=if i=0 then -1 else(ab E (i-1:Nat)).f0
def gL (E:List S83) (i:Nat):Int:=if i=0 then -1 else(ab E (i-1:Nat)).f1
def fW (x y:S83):Prop:=x.f0<y.f0\/x.f0=y.f0/\x.f1<y.f1
structure a7 (N:Int) (E:List S83):Prop where
 ok:∀x∈E,bA N x=true
 le:∀x∈E,x.f0<=x.f1
 order:E.Pairwise fW
theorem tL {N:Int}:∀{E:List S83} {a e:Int},fI N a e E=0->(∀x∈E,bA N x=true/\x.f0<=x.f1/\(a<x.f0\/a=x.f0/\e<x.f1))/\E.Pairwise fW
 |[],_,_,_=>⟨fun x b=>absurd b (by simp),List.Pairwise.nil⟩
 |y::E,a,e,h=>by
  rw[fI] at h;by_cases he:dt N a e y=0
  ·rw[if_pos he] at h
   obtain⟨h1,i⟩:=tL h;have j:bA N y=true/\y.f0<=y.f1/\(a<y.f0\/a=y.f0/\e<y.f1):=by
    unfold dt at he;cases g:bA N y with
    |false=>rw[g] at he;simp at he
    |true=>
     rw[g,if_neg (show ¬(true=false) by decide)] at he;by_cases k:y.f0<a\/y.f0=a/\y.f1<=e\/y.f0>y.f1
     ·rw[if_pos k] at he;exact absurd he (by decide)
     ·exact⟨rfl,by omega,by omega⟩
   refine⟨fun x b=>?_,List.Pairwise.cons (fun x b=>(h1 x b).2.2) i⟩;rcases List.mem_cons.1 b with rfl|b
   ·exact j
   ·have:=h1 x b
    exact⟨this.1,this.2.1,by omega⟩
  ·rw[if_neg he] at h;exact absurd h he
theorem iH {N:Int} {E:List S83} (h:cE N E=0):1<=N/\N<=12/\a7 N E:=by
 unfold cE at h;by_cases b:N<1\/N>12
 ·rw[if_pos b] at h;exact absurd h (by decide)
 ·rw[if_neg b] at h
  obtain⟨h1,e⟩:=tL h;exact⟨by omega,by omega,fun x a=>(h1 x a).1,fun x a=>(h1 x a).2.1,e⟩
theorem a7.dZ {N:Int} {E:List S83} (h:a7 N E):gC N E=true:=by
 refine List.all_eq_true.2 fun x a=>?_
 have:=h.ok x a;simpa [bA] using this
def fv (a b:Int) (x:S83):Bool:=decide (x.f0=min a b/\x.f1=max a b)
def cN (E:List S83) (a b:Int):Int:=match E.find? (fv a b) with|some x=>x.f2|none=>0
theorem tM (x:S83) (E:List S83) (a b:Int):cN (x::E) a b=if x.f0=min a b/\x.f1=max a b then x.f2 else cN E a b:=by
 unfold cN;rw[List.find?_cons];unfold fv;by_cases h:x.f0=min a b/\x.f1=max a b
 ·simp[h]
 ·rw[aY h,if_neg h]
theorem nn (E:List S83) (a b:Int):cN E a b=cN E b a:=by
 unfold cN fv;rw[show min a b=min b a by omega,show max a b=max b a by omega]
theorem tN {E:List S83} {a b:Int} (h:∀x∈E,¬(x.f0=min a b/\x.f1=max a b)):E.find? (fv a b)=none:=by
 rw[List.find?_eq_none];intro x e;simp[fv,h x e]
theorem tO (a b:Nat) (j:a≠b):∀(E:List S83) (f:Nat->Nat->Int),(∀x∈E,0<=x.f0/\x.f0<=x.f1)->E.Pairwise fW->E.foldl ct f a b=match E.find? (fv a b) with|some x=>x.f2|none=>f a b
 |[],f,_,_=>rfl
 |x::E,f,h,hp=>by
  have m:=h x (List.mem_cons_self ..);obtain⟨h1,k⟩:=List.pairwise_cons.1 hp;rw[List.foldl_cons,tO a b j E _ (fun y g=>h y (List.mem_cons_of_mem _ g)) k,List.find?_cons];by_cases l:x.f0=min (a:Int) b/\x.f1=max (a:Int) b
  ·rw[show fv a b x=true from by simp[fv,l]]
   rw[tN (fun y g n=>by have:=h1 y g;unfold fW at this;omega)];show ct f x a b=x.f2
   unfold ct;rw[if_neg (by omega)];by_cases i:a=x.f1.toNat/\b=x.f0.toNat
   ·rw[if_pos i]
   ·rw[if_neg i,if_pos (by omega)]
  ·rw[show fv a b x=false from by simp[fv];omega]
   have e:ct f x a b=f a b:=by
    unfold ct;split
    ·rfl
    ·dsimp only
     rw[if_neg (by omega),if_neg (by omega)]
   rw[e]
theorem jZ {N:Int} {E:List S83} (h:a7 N E) (a b:Nat) (g:a≠b):ae E a b=cN E a b:=by
 unfold ae cN;exact tO a b g E _ (fun x e=>⟨by have:=h.ok x e;simp[bA] at this;omega,h.le x e⟩) h.order
theorem pS {N:Int} {E:List S83} (h:a7 N E) (a b:Int):0<=cN E a b/\cN E a b<=50:=by
 unfold cN;split
 ·rename_i x e
  have:=h.ok x (List.mem_of_find?_eq_some e);simp[bA] at this;omega
 ·omega
end Go.Proofs.YtffdiakgjakngaaGreat.P


namespace Go.Proofs.YtffdiakgjakngaaGreat.P
open Go.RowKit Go.Proofs.YtffdiakgjakngaaGreatW.PrintWords Go.Proofs.YtffdiakgjakngaaGreatW.PrintLast Go.Proofs.YtffdiakgjakngaaGreatW.PrintMore
set_option linter.unusedVariables false
set_option linter.unusedSimpArgs false
set_option maxHeartbeats 8000000
set_option maxRecDepth 100000
section
attribute [local go_sem] jN jO jP jQ mK mL mM mN
def dL.l0:Nat->Int->Int->Int->Int->List (S83)->Option (Int)
 |0,_,_,_,_,_=>none
 |k+1,x1,x2,a,e,b=>if a<(b.length:Int) then(if 0<=a then(if((ab b a).f0)=(mn x1 x2) then(if((ab b a).f1)=(mx x1 x2) then(some ((ab b a).f2)) else(dL.l0 k x1 x2 (wrap64 (a+1)) e b)) else(dL.l0 k x1 x2 (wrap64 (a+1)) e b)) else(none)) else(some 0)
def dL.f (k:Nat) (a:Int) (b:List (S83)) (e:Int) (a2:Int):Option (Int):=dL.l0 k e a2 0 a b
theorem dL.calls (k:Nat) (m:Int) (P:Option Addr) (B:Nat) (a:List (S83)) (n:Int) (a2:Int) (r:Int) (w:World) (Z:Kd.C aQ w P a.length a) (aa:a.length<=B) (h:dL.f k m a n a2=some r):
  Calls Tryz.prog 147 #[.agg #[.int .i64 m,.slice P a.length B],.int .i64 n,.int .i64 a2] w fun e w'=>e= .returned (.int .i64 r)/\Below w.heap.size w w':=by
 have aB:=Tryz.underlying24;have aF:=Tryz.underlying83;have U:=zA Z;have aL:=zA aa;clear Z aa;have b:=zA (ai w.heap.size w);have H:(dL.l0 k n a2 0 m a)=some r:=h;clear h;have F:=zA H;clear H;go_enter Tryz.func147,Tryz.ntmps147
 go_wp2_with (first|((with_reducible refine aX (N:=3) rfl ?_);(try(refine kI (by rfl) ?_;dsimp only));refine zX 3 #[.int .i64 m,.slice P a.length B] 24 ?_;intro p j w4 q hb;have l:=zA (q);have aP:=zG b j;have aS:=zG b j;replace b:=zS b hb;clear hb q j))
 go_loopg [7] k (fun kq v7 w'=>∃(i:Int),v7= .int .i64 i/\Aside0 (dL.l0 kq n a2 i m a=some r)/\Aside0 (kq<=k)/\Aside0 (w'.heap[p]? =some (.cells #[.int .i64 m,(.slice P a.length B)] 24 (0,0)))/\Aside0 (Below w.heap.size w w'))
 case atStart=>exact⟨(0),zT,F,⟨aM _⟩,⟨zK l⟩,⟨zB⟩⟩
 case round=>
  clear F;obtain⟨i,rfl,V,Q,l,b⟩:=hrel;cases gk with
  |zero=>exact absurd V.out (by simp[dL.l0])
  |succ I=>
   have H:=V.out;clear V;simp only[dL.l0] at H;by_cases G:i<(a.length:Int)
   ·rw[if_pos G] at H
    have an:=aA G;clear G;by_cases R:0<=i
    ·rw[if_pos R] at H
     have a0:=aA R;clear R;obtain⟨W,S⟩:∃X:Int,(mn n a2)=X:=⟨_,rfl⟩;replace H:(if((ab a i).f0)=(W) then(if((ab a i).f1)=(mx n a2) then(some ((ab a i).f2)) else(dL.l0 I n a2 (wrap64 (i+1)) m a)) else(dL.l0 I n a2 (wrap64 (i+1)) m a))=some r:=by first|(rw[S] at H;exact H)|(simp only[S] at H⊢;exact H)
     have a3:(if a2<n then a2 else n)=W:=S;by_cases J:((ab a i).f0)=(W)
     ·rw[if_pos J] at H
      obtain⟨ao,ap⟩:=da J;clear J;obtain⟨Y,T⟩:∃X:Int,(mx n a2)=X:=⟨_,rfl⟩;replace H:(if((ab a i).f1)=(Y) then(some ((ab a i).f2)) else(dL.l0 I n a2 (wrap64 (i+1)) m a))=some r:=by first|(rw[T] at H;exact H)|(simp only[T] at H⊢;exact H)
      have a4:(if n<a2 then a2 else n)=Y:=T;by_cases K:((ab a i).f1)=(Y)
      ·rw[if_pos K] at H
       obtain⟨ar,av⟩:=da K;clear K;obtain rfl:=aR H;obtain⟨a5,a9,bb,bd⟩:=aE l;have s:0<=(i:Int):=aD ‹_›;have u:i<(a.length:Int):=aD ‹_›;obtain⟨D,L,v,x,y⟩:=fa U.out i s u;cases L;replace v:=(b.out.cell (bS w _ v)).trans v;replace x:=(b.out.cell (bS w _ x)).trans x;replace y:=(b.out.cell (bS w _ y)).trans y;replace s:=eq_true s;replace u:=eq_true u;go_wp2_with (first|((with_reducible refine aX (N:=8) rfl ?_);(try(refine kI (by rfl) ?_;dsimp only));refine zX 8 #[.int .i64 0,.int .i64 0,.int .i64 0] 83 ?_;intro E j be q hb;have M:=zA (q);have ag:=zG b j;have ak:=zG b j;replace b:=zS b hb;have z:=zA ((by rw[j];exact Nat.ne_of_lt (ay (g:=p) (o:=.cells #[.int .i64 m,.slice (some D) a.length B] 24 (0,0)) (zK l)):p≠E));have O:=zA ((by rw[j];exact Nat.ne_of_gt (ay (g:=p) (o:=.cells #[.int .i64 m,.slice (some D) a.length B] 24 (0,0)) (zK l)):E≠p));replace l:=zb l hb;clear hb q j;have bf:=O.out;have bg:=z.out;obtain⟨bi,bk,bn,bo,bq,bv⟩:=cp M))
       go_ret;exact⟨by first|rfl|(simp[dW,dX]<;>rfl)|(simp only[<-S,<-T];first|rfl|(simp[dW,dX]<;>rfl))|(simp[*,dW,dX]<;>rfl),zB⟩
      ·rw[if_neg K] at H
       obtain⟨ar,av⟩:=db K;have F:=zA H;clear H;obtain⟨bw,bx,b0,b1⟩:=aE l;have s:0<=(i:Int):=aD ‹_›;have u:i<(a.length:Int):=aD ‹_›;obtain⟨D,L,v,x,y⟩:=fa U.out i s u;cases L;replace v:=(b.out.cell (bS w _ v)).trans v;replace x:=(b.out.cell (bS w _ x)).trans x;replace y:=(b.out.cell (bS w _ y)).trans y;replace s:=eq_true s;replace u:=eq_true u;go_wp2_with (first|((with_reducible refine aX (N:=8) rfl ?_);(try(refine kI (by rfl) ?_;dsimp only));refine zX 8 #[.int .i64 0,.int .i64 0,.int .i64 0] 83 ?_;intro E j b2 q hb;have M:=zA (q);have ag:=zG b j;have ak:=zG b j;replace b:=zS b hb;have z:=zA ((by rw[j];exact Nat.ne_of_lt (ay (g:=p) (o:=.cells #[.int .i64 m,.slice (some D) a.length B] 24 (0,0)) (zK l)):p≠E));have O:=zA ((by rw[j];exact Nat.ne_of_gt (ay (g:=p) (o:=.cells #[.int .i64 m,.slice (some D) a.length B] 24 (0,0)) (zK l)):E≠p));replace l:=zb l hb;clear hb q j;have b3:=O.out;have b4:=z.out;obtain⟨b5,b6,b_,b',ca,cb⟩:=cp M))
       go_roundg I
       case measure=>have:=Q.out;omega
       case rel=>exact⟨(wrap64 (i+1)),zT,F,⟨by have:=Q.out;omega⟩,⟨by refine zk ?_;refine aH ?_ z.out _;refine zk ?_;refine aH ?_ z.out _;refine zk ?_;refine aH ?_ z.out _;exact zK l⟩,⟨zB⟩⟩
     ·rw[if_neg J] at H
      obtain⟨ao,ap⟩:=db J;have F:=zA H;clear H;obtain⟨cc,cd,ce,cg⟩:=aE l;have s:0<=(i:Int):=aD ‹_›;have u:i<(a.length:Int):=aD ‹_›;obtain⟨D,L,v,x,y⟩:=fa U.out i s u;cases L;replace v:=(b.out.cell (bS w _ v)).trans v;replace x:=(b.out.cell (bS w _ x)).trans x;replace y:=(b.out.cell (bS w _ y)).trans y;replace s:=eq_true s;replace u:=eq_true u;go_wp2_with (first|((with_reducible refine aX (N:=8) rfl ?_);(try(refine kI (by rfl) ?_;dsimp only));refine zX 8 #[.int .i64 0,.int .i64 0,.int .i64 0] 83 ?_;intro E j ch q hb;have M:=zA (q);have ag:=zG b j;have ak:=zG b j;replace b:=zS b hb;have z:=zA ((by rw[j];exact Nat.ne_of_lt (ay (g:=p) (o:=.cells #[.int .i64 m,.slice (some D) a.length B] 24 (0,0)) (zK l)):p≠E));have O:=zA ((by rw[j];exact Nat.ne_of_gt (ay (g:=p) (o:=.cells #[.int .i64 m,.slice (some D) a.length B] 24 (0,0)) (zK l)):E≠p));replace l:=zb l hb;clear hb q j;have ci:=O.out;have cj:=z.out;obtain⟨ck,cl,cn,co,cq,cr⟩:=cp M))
      go_roundg I
      case measure=>have:=Q.out;omega
      case rel=>exact⟨(wrap64 (i+1)),zT,F,⟨by have:=Q.out;omega⟩,⟨by refine zk ?_;refine aH ?_ z.out _;refine zk ?_;refine aH ?_ z.out _;refine zk ?_;refine aH ?_ z.out _;exact zK l⟩,⟨zB⟩⟩
    ·rw[if_neg R] at H
     exact absurd H (by simp)
   ·rw[if_neg G] at H
    have an:=aY G;clear G;obtain rfl:=aR H;obtain⟨cs,cv,cx,cy⟩:=aE l;go_wp2;go_ret;exact⟨zE,zB⟩
end
theorem tP (N:Int) (E:List S83) (a b:Int) (j:E.length<=1000):∀(m i:Nat),i+m=E.length->Ev (fun k=>dL.l0 k a b i N E) (cN (E.drop i) a b)
 |0,i,hi=>by
  refine Ev.of_succ ?_;simp only[dL.l0,if_neg (show ¬((i:Int)<(E.length:Int)) by omega)];rw[List.drop_eq_nil_of_le (by omega)];exact Ev.const _
 |m+1,i,hi=>by
  have g:=tP N E a b j m (i+1) (by omega);refine Ev.of_succ ?_;simp only[dL.l0,if_pos (show (i:Int)<(E.length:Int) by omega),if_pos (show (0:Int)<=(i:Int) by omega),fh (show i<=1000000 by omega)];rw[pR (by omega),tM];rw[show mn a b=min a b from by unfold mn;omega,show mx a b=max a b from by unfold mx;omega];by_cases e:(ab E i).f0=min a b
  ·simp only[if_pos e]
   by_cases h1:(ab E i).f1=max a b
   ·simp only[if_pos h1];rw[if_pos ⟨e,h1⟩];exact Ev.const _
   ·simp only[if_neg h1];rw[if_neg (fun h=>h1 h.2)];exact g
  ·simp only[if_neg e];rw[if_neg (fun h=>e h.1)];exact g
theorem Bx (N:Int) (E:List S83) (a b:Int) (e:E.length<=1000):Ev (fun k=>dL.f k N E a b) (cN E a b):=by
 unfold dL.f;have:=tP N E a b e E.length 0 (by omega);simpa using this
def eN (n:Nat) (E:List S83):Prop:=∀S:Nat->Bool,(∃v,v<n/\S v=true)->(∃v,v<n/\S v=false)->∃x,x∈E/\S x.f0.toNat≠S x.f1.toNat
theorem np {p:Nat->Nat} {v:Nat} (h:p v<v):rootOf p v=rootOf p (p v):=by rw[rootOf,dif_pos h]
theorem kV {p:Nat->Nat} {v:Nat} (h:¬p v<v):rootOf p v=v:=by rw[rootOf,dif_neg h]
theorem By {p:Nat->Nat} {v:Nat} (h:rootOf p v=v):¬p v<v:=fun a=>by
 have h1:=np a;have b:=iD p (p v);omega
theorem kW (p:Nat->Nat) (a b v:Nat):rootOf (dJ p a b) v=if rootOf p v=max (rootOf p a) (rootOf p b) then min (rootOf p a) (rootOf p b) else rootOf p v:=by
 have l:=kO p a;have hb:=kO p b;have i:rootOf p (max (rootOf p a) (rootOf p b))=max (rootOf p a) (rootOf p b):=by rw[Nat.max_def];split<;>assumption
 have hm:rootOf p (min (rootOf p a) (rootOf p b))=min (rootOf p a) (rootOf p b):=by rw[Nat.min_def];split<;>assumption
 have hle:min (rootOf p a) (rootOf p b)<=max (rootOf p a) (rootOf p b):=by omega
 have h:∀j,dJ p a b j=if j=max (rootOf p a) (rootOf p b) then min (rootOf p a) (rootOf p b) else p j:=fun j=>rfl
 generalize max (rootOf p a) (rootOf p b)=M at*;generalize min (rootOf p a) (rootOf p b)=m at*;generalize dJ p a b=q at*;induction v using Nat.strongRecOn with
 |ind v k=>
  by_cases e:v=M
  ·subst e
   rw[i,if_pos rfl];by_cases g:m<v
   ·have h1:q v=m:=by rw[h,if_pos rfl]
    rw[np (by omega),h1];refine kV ?_;rw[h,if_neg (by omega)];exact By hm
   ·rw[kV (by rw[h,if_pos rfl];exact g)]
    omega
  ·have h1:q v=p v:=by rw[h,if_neg e]
   by_cases g:p v<v
   ·rw[np (p:=q) (by omega),h1,k _ g,np (p:=p) g]
   ·rw[kV (p:=q) (by omega),kV (p:=p) g,if_neg e]
theorem Bz (S:Nat->Bool):∀(E:List S83) (p:Nat->Nat),(∀x∈E,S x.f0.toNat=S x.f1.toNat)->(∀v,S (rootOf p v)=S v)->∀v,S (rootOf (E.foldl (fun p x=>dJ p x.f0.toNat x.f1.toNat) p) v)=S v:=by
 intro E;induction E with
 |nil=>exact fun p _ h=>h
 |cons x E g=>
  intro p a h;refine g _ (fun y i=>a y (List.mem_cons_of_mem _ i)) fun v=>?_
  rw[kW];split
  ·rename_i e
   have j:=a x (List.mem_cons_self ..);have h1:=h x.f0.toNat;have k:=h x.f1.toNat;have b:=h v;rw[e] at b;rw[<-b];rw[Nat.min_def,Nat.max_def];split<;>simp_all
  ·exact h v
theorem BA:∀(E:List S83) (p:Nat->Nat) (u v:Nat),rootOf p u=rootOf p v->rootOf (E.foldl (fun p x=>dJ p x.f0.toNat x.f1.toNat) p) u=rootOf (E.foldl (fun p x=>dJ p x.f0.toNat x.f1.toNat) p) v:=by
 intro E;induction E with
 |nil=>exact fun p u v h=>h
 |cons x E a=>
  intro p u v h;refine a _ u v ?_;rw[kW,kW,h]
theorem BB:∀(E:List S83) (p:Nat->Nat),∀x∈E,rootOf (E.foldl (fun p x=>dJ p x.f0.toNat x.f1.toNat) p) x.f0.toNat=rootOf (E.foldl (fun p x=>dJ p x.f0.toNat x.f1.toNat) p) x.f1.toNat:=by
 intro E;induction E with
 |nil=>exact fun p x a=>absurd a (by simp)
 |cons y E e=>
  intro p x a;rcases List.mem_cons.1 a with rfl|a
  ·refine BA E _ _ _ ?_
   rw[kW,kW];by_cases h1:rootOf p x.f0.toNat=max (rootOf p x.f0.toNat) (rootOf p x.f1.toNat)<;>by_cases b:rootOf p x.f1.toNat=max (rootOf p x.f0.toNat) (rootOf p x.f1.toNat)
   ·rw[if_pos h1,if_pos b]
   ·rw[if_pos h1,if_neg b];omega
   ·rw[if_neg h1,if_pos b];omega
   ·omega
  ·exact e _ x a
theorem tQ (p:Nat->Nat) (a:rootOf p 0=0):∀u,1<=u->1<=bD p u
 |0,h=>by omega
 |u+1,_=>by
  by_cases e:u=0
  ·subst e;simp[bD,a]
  ·have:=tQ p a u (by omega)
   simp only[bD];omega
theorem tR (p:Nat->Nat) (a:rootOf p 0=0):∀u,bD p u=1->∀v,v<u->rootOf p v=v->v=0
 |0,h=>by simp[bD] at h
 |u+1,h=>by
  intro v g b;simp only[bD] at h;by_cases e:u=0
  ·omega
  ·have h1:=tQ p a u (by omega)
   by_cases hu:rootOf p u=u
   ·rw[if_pos hu] at h;omega
   ·rw[if_neg hu] at h
    by_cases ev:v=u
    ·subst ev;exact absurd b hu
    ·exact tR p a u (by omega) v (by omega) b
theorem tS (p:Nat->Nat):∀u,1<=u->(∀v,v<u->rootOf p v=0)->bD p u=1
 |0,h,_=>by omega
 |u+1,_,h=>by
  by_cases e:u=0
  ·subst e;simp[bD,h 0 (by omega)]
  ·have:=tS p u (by omega) (fun v a=>h v (by omega))
   simp only[bD];rw[this,h u (by omega),if_neg (fun e2=>e e2.symm)]
theorem pT {n:Nat} {E:List S83} (hn:1<=n) (r:dN n E):bD (az E) n=1↔eN n E:=by
 have i:rootOf (az E) 0=0:=Nat.le_zero.1 (iD _ 0);constructor
 ·rintro h S ⟨u,hu,l⟩ ⟨v,b,m⟩
  refine Classical.byContradiction fun e=>?_
  have hS:∀x∈E,S x.f0.toNat=S x.f1.toNat:=fun x o=>Classical.byContradiction fun g=>e ⟨x,o,g⟩
  have j:=Bz S E id hS (fun v=>by rw[kV (by simp)]);have k:∀w,w<n->rootOf (az E) w=0:=fun w hw=>tR _ i n h _ (Nat.lt_of_le_of_lt (iD _ w) hw) (kO _ w)
  have h1:=j u;have a:=j v;rw[show E.foldl (fun p x=>dJ p x.f0.toNat x.f1.toNat) id=az E from rfl] at h1 a;rw[k u hu] at h1;rw[k v b] at a;rw[h1,l] at a;rw[m] at a;cases a
 ·intro h
  refine tS _ n hn fun v b=>?_
  refine Classical.byContradiction fun g=>?_
  obtain⟨x,e,q⟩:=h (fun u=>decide (rootOf (az E) u=0)) ⟨0,by omega,by simp[i]⟩ ⟨v,b,by simp[g]⟩;have:=BB E id x e;rw[show E.foldl (fun p x=>dJ p x.f0.toNat x.f1.toNat) id=az E from rfl] at this;simp only[this,ne_eq,not_true_eq_false] at q
mutual
def bF.l0:Nat->List Bool->Int->Int->List (S83)->Option (List Bool)
 |0,_,_,_,_=>none
 |k+1,a,b,e,g=>if b<e then(bF.l1 k a b 0 e g) else(some a)
def bF.l1:Nat->List Bool->Int->Int->Int->List (S83)->Option (List Bool)
 |0,_,_,_,_,_=>none
 |k+1,b,e,g,a,h=>if g<a then(bF.l2 k b e g 0 a h) else(bF.l0 k b (wrap64 (e+1)) a h)
def bF.l2:Nat->List Bool->Int->Int->Int->Int->List (S83)->Option (List Bool)
 |0,_,_,_,_,_,_=>none
 |k+1,e,i,a,b,g,h=>if b<g then(if 0<=a then(if a<(e.length:Int) then(if bs false e a=true then((dL.f k g h a b).bind fun t132=>(if t132>0 then(if 0<=b then(if b<(e.length:Int) then(bF.l2 k (e.set (b:Int).toNat true) i a (wrap64 (b+1)) g h) else(none)) else(none)) else(bF.l2 k e i a (wrap64 (b+1)) g h))) else(bF.l2 k e i a (wrap64 (b+1)) g h)) else(none)) else(none)) else(bF.l1 k e i (wrap64 (a+1)) g h)
end
def bF.f (k:Nat) (a:Int) (g:List (S83)) (b:Int):Option (List Bool):=if 0<=a then(if(a:Int).toNat<=281474976710656 then((some (List.replicate (a:Int).toNat false:List Bool)).bind fun e=>(if 0<=b then(if b<(e.length:Int) then(bF.l0 k (e.set (b:Int).toNat true) 0 a g) else(none)) else(none))) else(none)) else(none)
theorem bF.calls (k:Nat) (g:Int) (P:Option Addr) (Q:Nat) (l:List (S83)) (x:Int) (r:List Bool) (w:World) (bn:Kd.C aQ w P l.length l) (bo:l.length<=Q) (h:bF.f k g l x=some r):
  Calls Tryz.prog 131 #[.agg #[.int .i64 g,.slice P l.length Q],.int .i64 x] w fun e w'=>∃bq:Value,e= .returned (bq)/\Kd.R Kd.bool 4 w' w.heap.size (fun _=>True) bq r/\Below w.heap.size w w':=by
 have d4:=Tryz.underlying24;have bv:=zA bn;have bw:=zA bo;clear bn bo;have q:=zA (ai w.heap.size w);unfold bF.f at h;have H:=h;clear h;by_cases c3:0<=g
 ·rw[if_pos c3] at H
  have ce:=eq_true c3;have cg:=aA c3;clear c3;by_cases c4:(g:Int).toNat<=281474976710656
  ·rw[if_pos c4] at H
   have ch:=eq_true c4;have ci:=aA c4;clear c4;obtain⟨M,aP⟩:∃X:List Bool,X=(List.replicate (g:Int).toNat false):=⟨_,rfl⟩;replace H:(if 0<=x then(if x<(M.length:Int) then(bF.l0 k (M.set (x:Int).toNat true) 0 g l) else(none)) else(none))=some r:=zh aP H;have bx:=zA aP;clear aP;by_cases c5:0<=x
   ·rw[if_pos c5] at H
    have cj:=aA c5;clear c5;by_cases c6:x<(M.length:Int)
    ·rw[if_pos c6] at H
     have ck:=aA c6;clear c6;obtain⟨aS,a0⟩:∃X:List Bool,X=(M.set (x:Int).toNat true):=⟨_,rfl⟩;replace H:(bF.l0 k aS 0 g l)=some r:=zh a0 H;have cl:=zA a0;clear a0;have n:=zA H;clear H;go_enter Tryz.func131,Tryz.ntmps131
     go_wp2_with (first|((with_reducible refine aX (N:=2) rfl ?_);refine zX 2 #[.int .i64 g,.slice P l.length Q] 24 ?_;intro a2 hg w8 b0 hb;have a:=zA (b0);have d6:=zG q hg;have d7:=zG q hg;replace q:=zS q hb;clear hb b0 hg;obtain⟨cn,co,cq,cr⟩:=aE a)|((with_reducible refine aX (N:=11) rfl ?_);refine Kd.kx Kd.bool _ 4 rfl (N:=11) rfl 43 _ _ rfl g rfl rfl Tryz.underlying43 (.bool false) 1 jT rfl (by decide) (by omega) false (ok:=fun _=>True) (okp:=fun _=>True) rfl (fun _ hk=>hk) trivial (aD ‹_›) (Nat.le_trans (Nat.mul_le_mul_right _ (aD ‹_› :g.toNat<=281474976710656)) (by omega)) (ai _ _) (aM _) ?_;intro d8 b1 Y hb cs cv;clear cs cv;(first|rw[<-bx.out] at Y|(simp only[Int.reduceToNat] at Y;rw[<-bx.out] at Y));have O:=zA (Kd.bt Y (cX zB));replace a:=zb a hb;replace q:=zS q hb;clear hb Y;have p7:0<=(x:Int):=aD ‹_›;have q7:(x:Int)<((M.length:Int):Int):=aD ‹_›;obtain⟨z,Z,b2,b3,cx,d9,b4⟩:=Kd.fB O.out (by omega);(first|cases b2|(injection b2 with ar cy c0;(first|subst ar|(injection ar with ar;subst ar));subst c0;clear cy));have b5:=zA b3;have ea:=zA b4;clear b3 cx b4;obtain⟨c1,eb⟩:=Kd.bG false O.out (x:Int) p7 q7;replace p7:=eq_true p7;replace q7:=eq_true q7;obtain⟨eg,ek⟩:=Kd.bG false O.out (x:Int) (aD ‹_›) (aD ‹_›);have a3:=Kd.cY O.out (x:Int) true)|((with_reducible refine iY (t:=4) (p:=14) rfl ?_);refine iX (t:=4) (p:=14) (v:=?F9) (w1:=(b1.setCell ⟨z,(x:Int).toNat,none⟩ (.bool true))) ?hg ?ho ?hn ?hr ?_;(case ho=>rfl);(case hg=>rfl);(case hn=>rfl);(case hr=>first|(go_simp;done)|(go_simp;rfl));intro a4 hw;have hg:b1.grownBy a4 (some z):=(by rw[hw];exact a3.2);have aa:Kd.R Kd.bool 4 a4 w.heap.size (fun _=>True) (.slice (some ⟨z,0,none⟩) M.length Z) aS:=(by rw[hw,cl.out];exact a3.1);clear a3;replace a:=zA (cZ (zK a) hg (Kd.cW O.out a.out (by decide)));replace O:=zA (aa);replace q:=zA ((by rw[hw];exact dz (q.out) b5.out:Below w.heap.size w a4));clear hg hw aa))
     go_loopg [6] k (fun K v6 w'=>∃(ad:List Bool) (B:Int),v6= .int .i64 B/\Aside0 (bF.l0 K ad B g l=some r)/\Aside0 (K<=k)/\Aside0 (Kd.R Kd.bool 4 w' w.heap.size (fun _=>True) (.slice (some ⟨z,0,none⟩) M.length Z) ad)/\Aside0 (w'.heap[a2]? =some (.cells #[.int .i64 g,(.slice P l.length Q)] 24 (0,0)))/\Aside0 (Below w.heap.size w w'))
     case atStart=>exact⟨(aS),(0),zT,n,⟨aM _⟩,⟨zR O⟩,⟨zK a⟩,⟨zB⟩⟩
     case round=>
      clear n;clear ce cg ch ci cj ck p7 q7 cn co cq cr c1;obtain⟨ad,B,rfl,D,I,b,a,q⟩:=hrel;have o:=(Kd.a8 b.out).1;rw[o] at b
      (try simp only[o])
      (try simp only[o] at a)
      cases gk with
      |zero=>exact absurd D.out (by simp[bF.l0])
      |succ k1=>
       have H:=D.out;clear D;simp only[bF.l0] at H;by_cases S:B<g
       ·rw[if_pos S] at H
        have b':=aA S;clear S;have n:=zA H;clear H;obtain⟨c2,c7,c8,c9⟩:=aE a;go_wp2;go_loopg [7] k1 (fun K v7 w'=>∃(T:List Bool) (j:Int),v7= .int .i64 j/\Aside0 (bF.l1 K T B j g l=some r)/\Aside0 (K<=k1)/\Aside0 (Kd.R Kd.bool 4 w' w.heap.size (fun _=>True) (.slice (some ⟨z,0,none⟩) ad.length Z) T)/\Aside0 (w'.heap[a2]? =some (.cells #[.int .i64 g,(.slice P l.length Q)] 24 (0,0)))/\Aside0 (Below w.heap.size w w'))
        case atStart=>exact⟨(ad),(0),zT,n,⟨aM _⟩,⟨by(try simp only[o]);(with_reducible repeat(first|apply Kd.aK|apply Kd.cO|apply Kd.bR));exact b.out⟩,⟨by(try simp only[o]);exact zK a⟩,⟨zB⟩⟩
        case round=>
         clear n;clear b' c2 c7 c8 c9;obtain⟨T,j,rfl,D,J,b,a,q⟩:=hrel;have s:=(Kd.a8 b.out).1;rw[s] at b
         (try simp only[s])
         (try simp only[s] at a)
         cases gk with
         |zero=>exact absurd D.out (by simp[bF.l1])
         |succ k2=>
          have H:=D.out;clear D;simp only[bF.l1] at H;by_cases U:j<g
          ·rw[if_pos U] at H
           have ca:=aA U;clear U;have n:=zA H;clear H;obtain⟨dd,dl,ds,dv⟩:=aE a;go_wp2;go_loopg [8] k2 (fun K v8 w'=>∃(m:List Bool) (i:Int),v8= .int .i64 i/\Aside0 (bF.l2 K m B j i g l=some r)/\Aside0 (K<=k2)/\Aside0 (Kd.R Kd.bool 4 w' w.heap.size (fun _=>True) (.slice (some ⟨z,0,none⟩) T.length Z) m)/\Aside0 (w'.heap[a2]? =some (.cells #[.int .i64 g,(.slice P l.length Q)] 24 (0,0)))/\Aside0 (Below w.heap.size w w'))
           case atStart=>exact⟨(T),(0),zT,n,⟨aM _⟩,⟨by(try simp only[o]);(try simp only[s]);(with_reducible repeat(first|apply Kd.aK|apply Kd.cO|apply Kd.bR));exact b.out⟩,⟨by(try simp only[o]);(try simp only[s]);exact zK a⟩,⟨zB⟩⟩
           case round=>
            clear n;clear ca dd dl ds dv;obtain⟨m,i,rfl,D,L,b,a,q⟩:=hrel;have u:=(Kd.a8 b.out).1;rw[u] at b
            (try simp only[u])
            (try simp only[u] at a)
            cases gk with
            |zero=>exact absurd D.out (by simp[bF.l2])
            |succ E=>
             have H:=D.out;clear D;simp only[bF.l2] at H;by_cases V:i<g
             ·rw[if_pos V] at H
              have d0:=aA V;clear V;by_cases av:0<=j
              ·rw[if_pos av] at H
               have el:=aA av;clear av;by_cases aB:j<(m.length:Int)
               ·rw[if_pos aB] at H
                have em:=aA aB;clear aB;obtain⟨cb,a9⟩:∃b_:Bool,b_=(bs false m j):=⟨_,rfl⟩;replace H:(if cb=true then((dL.f E g l j i).bind fun t132=>(if t132>0 then(if 0<=i then(if i<(m.length:Int) then(bF.l2 E (m.set (i:Int).toNat true) B j (wrap64 (i+1)) g l) else(none)) else(none)) else(bF.l2 E m B j (wrap64 (i+1)) g l))) else(bF.l2 E m B j (wrap64 (i+1)) g l))=some r:=by rw[<-a9] at H;exact H
                have bb:=zA a9;clear a9;by_cases aF:cb=true
                ·subst aF
                 replace H:=zi H;obtain⟨t132,cc,H⟩:=zo H;by_cases W:t132>0
                 ·rw[if_pos W] at H
                  have d2:=aA W;clear W;by_cases aL:0<=i
                  ·rw[if_pos aL] at H
                   have er:=aA aL;clear aL;by_cases aO:i<(m.length:Int)
                   ·rw[if_pos aO] at H
                    have es:=aA aO;clear aO;obtain⟨bd,be⟩:∃X:List Bool,X=(m.set (i:Int).toNat true):=⟨_,rfl⟩;replace H:(bF.l2 E bd B j (wrap64 (i+1)) g l)=some r:=zh be H;have d3:=zA be;clear be;have n:=zA H;clear H;obtain⟨ev,ew,ex,ey⟩:=aE a;have F:0<=(j:Int):=aD ‹_›;have G:j<(m.length:Int):=aD ‹_›;obtain⟨ag,ak,y⟩:=Kd.ix (Kd.a8 b.out).2.2 j F G
                    (try rw[<-bb.out] at y)
                    obtain rfl:(⟨z,0,none⟩:Addr)=ag:=(by injection ak)
                    (first|simp only[add_plain] at y|simp only[gw] at y|simp only[Addr.add,Nat.zero_add] at y|skip)
                    replace F:=eq_true F;replace G:=eq_true G;go_wp2_with (first|(go_at_call 147;(with_reducible refine(dL.calls E g _ _ l j i t132 _ ?aw ?ax cc.out).mono ?_);(case aw=>exact Kd.al bv.out zB);(case ax=>exact bw.out);rintro e cd ⟨rfl,hb⟩;replace b:=lH b hb;replace a:=zb a hb;replace q:=zS q hb;(try clear hb);have bf:0<=(i:Int):=aD ‹_›;have bg:(i:Int)<((m.length:Int):Int):=aD ‹_›;obtain⟨e0,e1⟩:=Kd.bG false b.out (i:Int) bf bg;replace bf:=eq_true bf;replace bg:=eq_true bg;obtain⟨e2,e3⟩:=Kd.bG false b.out (i:Int) (aD ‹_›) (aD ‹_›);have bi:=Kd.cY b.out (i:Int) true)|((with_reducible refine iY (t:=4) (p:=46) rfl ?_);refine iX (t:=4) (p:=46) (v:=?IU) (w1:=(cd.setCell ⟨z,(i:Int).toNat,none⟩ (.bool true))) ?hg ?ho ?hn ?hr ?_;(case ho=>rfl);(case hg=>rfl);(case hn=>rfl);(case hr=>first|(go_simp;done)|(go_simp;rfl));intro bk hw;have hg:cd.grownBy bk (some z):=(by rw[hw];exact bi.2);have aa:Kd.R Kd.bool 4 bk w.heap.size (fun _=>True) (.slice (some ⟨z,0,none⟩) m.length Z) bd:=(by rw[hw,d3.out];exact bi.1);clear bi;replace a:=zA (cZ (zK a) hg (Kd.cW b.out a.out (by decide)));replace b:=zA (aa);replace q:=zA ((by rw[hw];exact dz (q.out) b5.out:Below w.heap.size w bk));clear hg hw aa))
                    (try simp only[<-u])
                    go_roundg E
                    case measure=>have:=I.out;have:=J.out;have:=L.out;omega
                    case rel=>exact⟨(bd),(wrap64 (i+1)),zT,n,⟨by have:=I.out;have:=J.out;have:=L.out;omega⟩,⟨by(try simp only[o]);(try simp only[s]);(try simp only[u]);(with_reducible repeat(first|apply Kd.aK|apply Kd.cO|apply Kd.bR));exact b.out⟩,⟨by(try simp only[o]);(try simp only[s]);(try simp only[u]);exact zK a⟩,⟨zB⟩⟩
                   ·rw[if_neg aO] at H
                    exact absurd H (by simp)
                  ·rw[if_neg aL] at H
                   exact absurd H (by simp)
                 ·rw[if_neg W] at H
                  have d2:=aY W;clear W;have n:=zA H;clear H;obtain⟨e4,e5,e6,e_⟩:=aE a;have F:0<=(j:Int):=aD ‹_›;have G:j<(m.length:Int):=aD ‹_›;obtain⟨ag,ak,y⟩:=Kd.ix (Kd.a8 b.out).2.2 j F G
                  (try rw[<-bb.out] at y)
                  obtain rfl:(⟨z,0,none⟩:Addr)=ag:=(by injection ak)
                  (first|simp only[add_plain] at y|simp only[gw] at y|simp only[Addr.add,Nat.zero_add] at y|skip)
                  replace F:=eq_true F;replace G:=eq_true G;go_wp2_with (first|(go_at_call 147;(with_reducible refine(dL.calls E g _ _ l j i t132 _ ?aw ?ax cc.out).mono ?_);(case aw=>exact Kd.al bv.out zB);(case ax=>exact bw.out);rintro e e' ⟨rfl,hb⟩;replace b:=lH b hb;replace a:=zb a hb;replace q:=zS q hb;(try clear hb)))
                  (try simp only[<-u])
                  go_roundg E
                  case measure=>have:=I.out;have:=J.out;have:=L.out;omega
                  case rel=>exact⟨(m),(wrap64 (i+1)),zT,n,⟨by have:=I.out;have:=J.out;have:=L.out;omega⟩,⟨by(try simp only[o]);(try simp only[s]);(try simp only[u]);(with_reducible repeat(first|apply Kd.aK|apply Kd.cO|apply Kd.bR));exact b.out⟩,⟨by(try simp only[o]);(try simp only[s]);(try simp only[u]);exact zK a⟩,⟨zB⟩⟩
                ·replace aF:=Bool.eq_false_iff.mpr aF
                 subst aF;replace H:=zj H;have n:=zA H;clear H;obtain⟨fd,fn,fo,fq⟩:=aE a;have F:0<=(j:Int):=aD ‹_›;have G:j<(m.length:Int):=aD ‹_›;obtain⟨ag,ak,y⟩:=Kd.ix (Kd.a8 b.out).2.2 j F G
                 (try rw[<-bb.out] at y)
                 obtain rfl:(⟨z,0,none⟩:Addr)=ag:=(by injection ak)
                 (first|simp only[add_plain] at y|simp only[gw] at y|simp only[Addr.add,Nat.zero_add] at y|skip)
                 replace F:=eq_true F;replace G:=eq_true G;go_wp2
                 (try simp only[<-u])
                 go_roundg E
                 case measure=>have:=I.out;have:=J.out;have:=L.out;omega
                 case rel=>exact⟨(m),(wrap64 (i+1)),zT,n,⟨by have:=I.out;have:=J.out;have:=L.out;omega⟩,⟨by(try simp only[o]);(try simp only[s]);(try simp only[u]);(with_reducible repeat(first|apply Kd.aK|apply Kd.cO|apply Kd.bR));exact b.out⟩,⟨by(try simp only[o]);(try simp only[s]);(try simp only[u]);exact zK a⟩,⟨zB⟩⟩
               ·rw[if_neg aB] at H
                exact absurd H (by simp)
              ·rw[if_neg av] at H
               exact absurd H (by simp)
             ·rw[if_neg V] at H
              have d0:=aY V;clear V;have n:=zA H;clear H;obtain⟨fr,ft,f0,f1⟩:=aE a;go_wp2
              (try simp only[<-s,<-u])
              go_roundg E
              case measure=>have:=I.out;have:=J.out;have:=L.out;omega
              case rel=>exact⟨(m),(wrap64 (j+1)),zT,n,⟨by have:=I.out;have:=J.out;have:=L.out;omega⟩,⟨by(try simp only[o]);(try simp only[s]);(try simp only[u]);(with_reducible repeat(first|apply Kd.aK|apply Kd.cO|apply Kd.bR));exact b.out⟩,⟨by(try simp only[o]);(try simp only[s]);(try simp only[u]);exact zK a⟩,⟨zB⟩⟩
          ·rw[if_neg U] at H
           have ca:=aY U;clear U;have n:=zA H;clear H;obtain⟨f2,f3,f4,f5⟩:=aE a;go_wp2
           (try simp only[<-o,<-s])
           go_roundg k2
           case measure=>have:=I.out;have:=J.out;omega
           case rel=>exact⟨(T),(wrap64 (B+1)),zT,n,⟨by have:=I.out;have:=J.out;omega⟩,⟨by(try simp only[o]);(try simp only[s]);(with_reducible repeat(first|apply Kd.aK|apply Kd.cO|apply Kd.bR));exact b.out⟩,⟨by(try simp only[o]);(try simp only[s]);exact zK a⟩,⟨zB⟩⟩
       ·rw[if_neg S] at H
        have b':=aY S;clear S;obtain rfl:=aR H;obtain⟨f6,f7,f8,f9⟩:=aE a;go_wp2;go_ret;exact⟨_,zE,by(with_reducible repeat(first|apply Kd.aK|apply Kd.cO|apply Kd.bR));exact b.out,zB⟩
    ·rw[if_neg c6] at H
     exact absurd H (by simp)
   ·rw[if_neg c5] at H
    exact absurd H (by simp)
  ·rw[if_neg c4] at H
   exact absurd H (by simp)
 ·rw[if_neg c3] at H
  exact absurd H (by simp)
mutual
def bZ.l0:Nat->Int->List Bool->Int->Int->List (S83)->Option (Int)
 |0,_,_,_,_,_=>none
 |k+1,x3,x4,a,b,e=>if a<b then(if 0<=a then(if a<(x4.length:Int) then(if bs false x4 a=true then(bZ.l0 k x3 x4 (wrap64 (a+1)) b e) else((bF.f k b e a).bind fun t139=>(bZ.l1 k (wrap64 (x3+1)) x4 a t139 0 b e))) else(none)) else(none)) else(some x3)
def bZ.l1:Nat->Int->List Bool->Int->List Bool->Int->Int->List (S83)->Option (Int)
 |0,_,_,_,_,_,_,_=>none
 |k+1,x3,x4,g,b,a,e,h=>if a<e then(if 0<=a then(if a<(x4.length:Int) then(if bs false x4 a=true then(bZ.l1 k x3 (x4.set (a:Int).toNat true) g b (wrap64 (a+1)) e h) else(if a<(b.length:Int) then(bZ.l1 k x3 (x4.set (a:Int).toNat (bs false b a)) g b (wrap64 (a+1)) e h) else(none))) else(none)) else(none)) else(bZ.l0 k x3 x4 (wrap64 (g+1)) e h)
end
def bZ.f (k:Nat) (a:Int) (b:List (S83)):Option (Int):=if 0<=a then(if(a:Int).toNat<=281474976710656 then(bZ.l0 k 0 (List.replicate (a:Int).toNat false) 0 a b) else(none)) else(none)
theorem bZ.calls (k:Nat) (j:Int) (O:Option Addr) (P:Nat) (l:List (S83)) (r:Int) (w:World) (b0:Kd.C aQ w O l.length l) (b1:l.length<=P) (h:bZ.f k j l=some r):
  Calls Tryz.prog 74 #[.agg #[.int .i64 j,.slice O l.length P]] w fun e w'=>e= .returned (.int .i64 r)/\Below w.heap.size w w':=by
 have em:=Tryz.underlying24;have ch:=zA b0;have ci:=zA b1;clear b0 b1;have q:=zA (ai w.heap.size w);unfold bZ.f at h;have H:=h;clear h;by_cases c2:0<=j
 ·rw[if_pos c2] at H
  have cj:=eq_true c2;have ck:=aA c2;clear c2;by_cases c3:(j:Int).toNat<=281474976710656
  ·rw[if_pos c3] at H
   have cl:=eq_true c3;have cn:=aA c3;clear c3;obtain⟨b2,aB⟩:∃V:List Bool,V=(List.replicate (j:Int).toNat false):=⟨_,rfl⟩;replace H:(bZ.l0 k 0 b2 0 j l)=some r:=zh aB H;have b3:=zA aB;clear aB;have s:=zA H;clear H;go_enter Tryz.func74,Tryz.ntmps74
   go_wp2_with (first|((with_reducible refine aX (N:=1) rfl ?_);refine zX 1 #[.int .i64 j,.slice O l.length P] 24 ?_;intro b4 hg w4 b5 hb;have g:=zA (b5);have es:=zG q hg;have ev:=zG q hg;replace q:=zS q hb;clear hb b5 hg;obtain⟨co,cq,cr,cs⟩:=aE g)|((with_reducible refine aX (N:=10) rfl ?_);refine Kd.kx Kd.bool _ 4 rfl (N:=10) rfl 43 _ _ rfl j rfl rfl Tryz.underlying43 (.bool false) 1 jT rfl (by decide) (by omega) false (ok:=fun _=>True) (okp:=fun _=>True) rfl (fun _ hk=>hk) trivial (aD ‹_›) (Nat.le_trans (Nat.mul_le_mul_right _ (aD ‹_› :j.toNat<=281474976710656)) (by omega)) (ai _ _) (aM _) ?_;intro cv w6 W hb cx cy;clear cx cy;(first|rw[<-b3.out] at W|(simp only[Int.reduceToNat] at W;rw[<-b3.out] at W));have c0:=zA (Kd.bt W (cX zB));replace g:=zb g hb;replace q:=zS q hb;clear hb W))
   go_loopg [3,5] k (fun X v3 v5 w'=>∃(x:Int) (u:List Bool) (i:Int),v3= .int .i64 x/\v5= .int .i64 i/\Aside0 (bZ.l0 X x u i j l=some r)/\Aside0 (X<=k)/\Aside0 (Kd.R Kd.bool 4 w' w.heap.size (fun _=>True) cv u)/\Aside0 (w'.heap[b4]? =some (.cells #[.int .i64 j,(.slice O l.length P)] 24 (0,0)))/\Aside0 (Below w.heap.size w w'))
   case atStart=>exact⟨(0),(b2),(0),zT,zT,s,⟨aM _⟩,⟨zR c0⟩,⟨zK g⟩,⟨zB⟩⟩
   case round=>
    clear s;clear cj ck cl cn co cq cr cs;obtain⟨x,u,i,rfl,rfl,F,z,b,g,q⟩:=hrel;cases gk with
    |zero=>exact absurd F.out (by simp[bZ.l0])
    |succ G=>
     have H:=F.out;clear F;simp only[bZ.l0] at H;by_cases Q:i<j
     ·rw[if_pos Q] at H
      have b6:=aA Q;clear Q;by_cases c9:0<=i
      ·rw[if_pos c9] at H
       have c1:=aA c9;clear c9;by_cases ak:i<(u.length:Int)
       ·rw[if_pos ak] at H
        have c4:=aA ak;clear ak;obtain⟨b',aF⟩:∃b_:Bool,b_=(bs false u i):=⟨_,rfl⟩;replace H:(if b'=true then(bZ.l0 G x u (wrap64 (i+1)) j l) else((bF.f G j l i).bind fun t139=>(bZ.l1 G (wrap64 (x+1)) u i t139 0 j l)))=some r:=by rw[<-aF] at H;exact H
        have Y:=zA aF;clear aF;by_cases am:b'=true
        ·subst am
         replace H:=zi H;have s:=zA H;clear H;obtain⟨ex,ey,e0,e1⟩:=aE g;obtain⟨e2,e3,c5⟩:=Kd.bE b.out;subst c5;have B:0<=(i:Int):=aD ‹_›;have D:i<(u.length:Int):=aD ‹_›;obtain⟨c6,aO,S⟩:=Kd.ix (Kd.a8 b.out).2.2 i B D
         (try rw[<-Y.out] at S)
         cases aO;replace B:=eq_true B;replace D:=eq_true D;go_wp2;go_roundg G
         case measure=>have:=z.out;omega
         case rel=>exact⟨(x),(u),(wrap64 (i+1)),zT,zT,s,⟨by have:=z.out;omega⟩,⟨zR b⟩,⟨zK g⟩,⟨zB⟩⟩
        ·replace am:=Bool.eq_false_iff.mpr am
         subst am;replace H:=zj H;obtain⟨t139,c7,H⟩:=zo H;have s:=zA H;clear H;obtain⟨c',dd,dl,ds⟩:=aE g;obtain⟨e4,E,dv⟩:=Kd.bE b.out;subst dv;have B:0<=(i:Int):=aD ‹_›;have D:i<(u.length:Int):=aD ‹_›;obtain⟨c6,aO,S⟩:=Kd.ix (Kd.a8 b.out).2.2 i B D
         (try rw[<-Y.out] at S)
         cases aO;obtain⟨an,dx⟩:=Kd.lz b.out;subst dx;simp only[add_plain] at S;replace B:=eq_true B;replace D:=eq_true D;go_wp2_with (first|((with_reducible refine aT (f:=131) rfl ?_);refine zL (some 25) Tryz.func131 #[.agg #[.int .i64 j,.slice O l.length P],.int .i64 i] ?_;(with_reducible refine(bF.calls G j _ _ l i t139 _ ?aw ?ax c7.out).mono ?_);(case aw=>exact Kd.al ch.out zB);(case ax=>exact ci.out);rintro e e5 ⟨aP,rfl,aS,hb⟩;refine⟨_,rfl,?_⟩;have d0:=zA (Kd.bt (Kd.xp aS (Kd.cF (zR b))) (cX zB));replace b:=yL b aS hb;replace g:=zb g hb;replace q:=zS q hb;(try clear hb);(try clear aS)))
         go_loopg [7] G (fun X v7 w'=>∃(m:List Bool) (a:Int),v7= .int .i64 a/\Aside0 (bZ.l1 X (wrap64 (x+1)) m i t139 a j l=some r)/\Aside0 (X<=G)/\Aside0 (Kd.R Kd.bool 4 w' w.heap.size (fun I=>some I≠(aP:Value).ownBlock) (.slice (some ⟨an,0,none⟩) u.length E) m)/\Aside0 (Kd.R Kd.bool 4 w' w.heap.size (fun I=>some I≠((.slice (some ⟨an,0,none⟩) u.length E):Value).ownBlock) aP t139)/\Aside0 (w'.heap[b4]? =some (.cells #[.int .i64 j,(.slice O l.length P)] 24 (0,0)))/\Aside0 (Below w.heap.size w w'))
         case atStart=>exact⟨(u),(0),zT,s,⟨aM _⟩,⟨by(with_reducible repeat(first|apply Kd.aK|apply Kd.cO|apply Kd.bR));exact Kd.bj b.out (fun _ hk=>hk.2)⟩,⟨by(with_reducible repeat(first|apply Kd.aK|apply Kd.cO|apply Kd.bR));exact Kd.bj d0.out (fun _ hk=>hk.2)⟩,⟨zK g⟩,⟨zB⟩⟩
         case round=>
          clear s;clear b6 c1 c4 c' dd dl ds S B D;obtain⟨m,a,rfl,F,T,b,y,g,q⟩:=hrel;have o:=(Kd.a8 b.out).1;rw[o] at b
          (try simp only[o])
          (try simp only[o] at g)
          (try simp only[o] at y)
          cases gk with
          |zero=>exact absurd F.out (by simp[bZ.l1])
          |succ J=>
           have H:=F.out;clear F;simp only[bZ.l1] at H;by_cases U:a<j
           ·rw[if_pos U] at H
            have d2:=aA U;clear U;by_cases ao:0<=a
            ·rw[if_pos ao] at H
             have e6:=aA ao;clear ao;by_cases ap:a<(m.length:Int)
             ·rw[if_pos ap] at H
              have e_:=aA ap;clear ap;obtain⟨ca,a0⟩:∃b_:Bool,b_=(bs false m a):=⟨_,rfl⟩;replace H:(if ca=true then(bZ.l1 J (wrap64 (x+1)) (m.set (a:Int).toNat true) i t139 (wrap64 (a+1)) j l) else(if a<(t139.length:Int) then(bZ.l1 J (wrap64 (x+1)) (m.set (a:Int).toNat (bs false t139 a)) i t139 (wrap64 (a+1)) j l) else(none)))=some r:=by rw[<-a0] at H;exact H
              have a1:=zA a0;clear a0;by_cases ar:ca=true
              ·subst ar
               replace H:=zi H;obtain⟨a2,a3⟩:∃V:List Bool,V=(m.set (a:Int).toNat true):=⟨_,rfl⟩;replace H:(bZ.l1 J (wrap64 (x+1)) a2 i t139 (wrap64 (a+1)) j l)=some r:=zh a3 H;have d3:=zA a3;clear a3;have s:=zA H;clear H;obtain⟨e',fd,fn,fo⟩:=aE g;have K:0<=(a:Int):=aD ‹_›;have L:a<(m.length:Int):=aD ‹_›;obtain⟨a4,a5,M⟩:=Kd.ix (Kd.a8 b.out).2.2 a K L
               (try rw[<-Y.out] at M)
               (try rw[<-a1.out] at M)
               obtain rfl:(⟨an,0,none⟩:Addr)=a4:=(by injection a5);replace K:=eq_true K;replace L:=eq_true L;have a9:0<=(a:Int):=aD ‹_›;have bb:(a:Int)<((m.length:Int):Int):=aD ‹_›;obtain⟨Z,fq,d4,cb,d5,fr,cc⟩:=Kd.fB b.out (by omega)
               (first|(injection d4 with n bd be;(first|subst n|(injection n with n;first|subst n|(injection n with n;have n:=n.symm;subst n)));subst be;clear bd))
               have d6:=zA cb;have ft:=zA cc;clear cb d5 cc
               (first|simp only[add_plain] at S|skip)
               (first|simp only[add_plain] at M|skip)
               obtain⟨f0,f1⟩:=Kd.bG false b.out (a:Int) a9 bb;replace a9:=eq_true a9;replace bb:=eq_true bb;have bf:=Kd.cY b.out (a:Int) true;go_wp2_with (first|((with_reducible refine iY (t:=4) (p:=44) rfl ?_);refine iX (t:=4) (p:=44) (v:=?F_) (w1:=(wr.setCell ⟨Z,(a:Int).toNat,none⟩ (.bool true))) ?hg ?ho ?hn ?hr ?_;(case ho=>rfl);(case hg=>rfl);(case hn=>rfl);(case hr=>first|(go_simp;done)|(go_simp;rfl));intro bg hw;have hg:wr.grownBy bg (some Z):=(by rw[hw];exact bf.2);have aa:Kd.R Kd.bool 4 bg w.heap.size (fun I=>some I≠(aP:Value).ownBlock) (.slice (some ⟨Z,0,none⟩) m.length E) a2:=(by rw[hw,d3.out];exact bf.1);clear bf;replace y:=zA (Kd.ry (v:=(.slice (some ⟨Z,0,none⟩) m.length E)) (v1:=(.slice (some ⟨Z,0,none⟩) m.length E)) (ok:=(fun _=>True)) (by(with_reducible repeat(first|apply Kd.aK|apply Kd.cO|apply Kd.bR));exact Kd.bj y.out (fun _ hk=>⟨trivial,hk⟩)) hg (.inl rfl));replace g:=zA (cZ (zK g) hg (Kd.cW b.out g.out (by decide)));replace b:=zA (aa);replace q:=zA ((by rw[hw];exact dz (q.out) d6.out:Below w.heap.size w bg));clear hg hw aa))
               (try simp only[<-o])
               go_roundg J
               case measure=>have:=z.out;have:=T.out;omega
               case rel=>exact⟨(a2),(wrap64 (a+1)),zT,s,⟨by have:=z.out;have:=T.out;omega⟩,⟨by(try simp only[o]);(with_reducible repeat(first|apply Kd.aK|apply Kd.cO|apply Kd.bR));exact b.out⟩,⟨by(try simp only[o]);(with_reducible repeat(first|apply Kd.aK|apply Kd.cO|apply Kd.bR));exact Kd.bj y.out (fun _ hk=>hk.2)⟩,⟨by(try simp only[o]);exact zK g⟩,⟨zB⟩⟩
              ·replace ar:=Bool.eq_false_iff.mpr ar
               subst ar;replace H:=zj H;by_cases av:a<(t139.length:Int)
               ·rw[if_pos av] at H
                have f2:=aA av;clear av;obtain⟨bi,bk⟩:∃V:List Bool,V=(m.set (a:Int).toNat (bs false t139 a)):=⟨_,rfl⟩;replace H:(bZ.l1 J (wrap64 (x+1)) bi i t139 (wrap64 (a+1)) j l)=some r:=zh bk H;have d7:=zA bk;clear bk;have s:=zA H;clear H;obtain⟨f3,f4,f5,f6⟩:=aE g;have K:0<=(a:Int):=aD ‹_›;have L:a<(m.length:Int):=aD ‹_›;obtain⟨a4,a5,M⟩:=Kd.ix (Kd.a8 b.out).2.2 a K L
                (try rw[<-Y.out] at M)
                (try rw[<-a1.out] at M)
                obtain rfl:(⟨an,0,none⟩:Addr)=a4:=(by injection a5);replace K:=eq_true K;replace L:=eq_true L;obtain⟨f7,d8,d9⟩:=Kd.bE y.out;subst d9;have bn:0<=(a:Int):=aD ‹_›;have bo:a<(t139.length:Int):=aD ‹_›;obtain⟨ea,eb,cd⟩:=Kd.ix (Kd.a8 y.out).2.2 a bn bo
                (try rw[<-Y.out] at cd)
                (try rw[<-a1.out] at cd)
                cases eb;replace bn:=eq_true bn;replace bo:=eq_true bo;have bq:0<=(a:Int):=aD ‹_›;have bv:(a:Int)<((m.length:Int):Int):=aD ‹_›;obtain⟨ad,f8,eg,ce,ek,f9,cg⟩:=Kd.fB b.out (by omega)
                (first|(injection eg with n bd be;(first|subst n|(injection n with n;first|subst n|(injection n with n;have n:=n.symm;subst n)));subst be;clear bd))
                have el:=zA ce;have f':=zA cg;clear ce ek cg
                (first|simp only[add_plain] at M|skip)
                obtain⟨ga,gb⟩:=Kd.bG false b.out (a:Int) bq bv;replace bq:=eq_true bq;replace bv:=eq_true bv;have bw:=Kd.cY b.out (a:Int) (bs false t139 a);go_wp2_with (first|((with_reducible refine iY (t:=4) (p:=44) rfl ?_);refine iX (t:=4) (p:=44) (v:=?IV) (w1:=(wr.setCell ⟨ad,(a:Int).toNat,none⟩ (.bool (bs false t139 a)))) ?hg ?ho ?hn ?hr ?_;(case ho=>rfl);(case hg=>rfl);(case hn=>rfl);(case hr=>first|(go_simp;done)|(go_simp;rfl));intro bx hw;have hg:wr.grownBy bx (some ad):=(by rw[hw];exact bw.2);have aa:Kd.R Kd.bool 4 bx w.heap.size (fun I=>some I≠(.slice (some ea) t139.length d8:Value).ownBlock) (.slice (some ⟨ad,0,none⟩) m.length E) bi:=(by rw[hw,d7.out];exact bw.1);clear bw;replace y:=zA (Kd.ry (v:=(.slice (some ⟨ad,0,none⟩) m.length E)) (v1:=(.slice (some ⟨ad,0,none⟩) m.length E)) (ok:=(fun _=>True)) (by(with_reducible repeat(first|apply Kd.aK|apply Kd.cO|apply Kd.bR));exact Kd.bj y.out (fun _ hk=>⟨trivial,hk⟩)) hg (.inl rfl));replace g:=zA (cZ (zK g) hg (Kd.cW b.out g.out (by decide)));replace b:=zA (aa);replace q:=zA ((by rw[hw];exact dz (q.out) el.out:Below w.heap.size w bx));clear hg hw aa))
                (try simp only[<-o])
                go_roundg J
                case measure=>have:=z.out;have:=T.out;omega
                case rel=>exact⟨(bi),(wrap64 (a+1)),zT,s,⟨by have:=z.out;have:=T.out;omega⟩,⟨by(try simp only[o]);(with_reducible repeat(first|apply Kd.aK|apply Kd.cO|apply Kd.bR));exact b.out⟩,⟨by(try simp only[o]);(with_reducible repeat(first|apply Kd.aK|apply Kd.cO|apply Kd.bR));exact Kd.bj y.out (fun _ hk=>hk.2)⟩,⟨by(try simp only[o]);exact zK g⟩,⟨zB⟩⟩
               ·rw[if_neg av] at H
                exact absurd H (by simp)
             ·rw[if_neg ap] at H
              exact absurd H (by simp)
            ·rw[if_neg ao] at H
             exact absurd H (by simp)
           ·rw[if_neg U] at H
            have d2:=aY U;clear U;have s:=zA H;clear H;obtain⟨gc,gd,ge,gf⟩:=aE g;go_wp2
            (try simp only[<-o])
            go_roundg J
            case measure=>have:=z.out;have:=T.out;omega
            case rel=>exact⟨((wrap64 (x+1))),(m),(wrap64 (i+1)),zT,zT,s,⟨by have:=z.out;have:=T.out;omega⟩,⟨by(try simp only[o]);(with_reducible repeat(first|apply Kd.aK|apply Kd.cO|apply Kd.bR));exact Kd.bj b.out (fun _ hk=>trivial)⟩,⟨by(try simp only[o]);exact zK g⟩,⟨zB⟩⟩
       ·rw[if_neg ak] at H
        exact absurd H (by simp)
      ·rw[if_neg c9] at H
       exact absurd H (by simp)
     ·rw[if_neg Q] at H
      have b6:=aY Q;clear Q;obtain rfl:=aR H;obtain⟨gg,gi,gl,gm⟩:=aE g;go_wp2;go_ret;exact⟨zE,zB⟩
  ·rw[if_neg c3] at H
   exact absurd H (by simp)
 ·rw[if_neg c2] at H
  exact absurd H (by simp)
def j4.f (k:Nat) (a:Int) (b:List (S83)):Option (Bool):=(bZ.f k a b).bind fun t147=>(some (t147==1))
theorem j4.calls (k:Nat) (b:Int) (i:Option Addr) (j:Nat) (a:List (S83)) (r:Bool) (w:World) (n:Kd.C aQ w i a.length a) (o:a.length<=j) (h:j4.f k b a=some r):
  Calls Tryz.prog 104 #[.agg #[.int .i64 b,.slice i a.length j]] w fun e w'=>e= .returned (.bool r)/\Below w.heap.size w w':=by
 have v:=Tryz.underlying24;have q:=zA n;have s:=zA o;clear n o;have g:=zA (ai w.heap.size w);have H:((bZ.f k b a).bind fun t147=>(some (t147==1)))=some r:=h;clear h;obtain⟨t147,u,H⟩:=zo H;obtain rfl:=aR H;go_enter Tryz.func104,Tryz.ntmps104
 go_wp2_with (first|((with_reducible refine aX (N:=1) rfl ?_);refine zX 1 #[.int .i64 b,.slice i a.length j] 24 ?_;intro x l w3 p hb;have m:=zA (p);have y:=zG g l;have z:=zG g l;replace g:=zS g hb;clear hb p l;obtain⟨B,D,E,F⟩:=aE m)|((with_reducible refine aT (f:=74) rfl ?_);refine zL (some 4) Tryz.func74 #[.agg #[.int .i64 b,.slice i a.length j]] ?_;(with_reducible refine(bZ.calls k b _ _ a t147 _ ?aw ?ax u.out).mono ?_);(case aw=>exact Kd.al q.out zB);(case ax=>exact s.out);rintro e G ⟨rfl,hb⟩;refine⟨_,rfl,?_⟩;replace m:=zb m hb;replace g:=zS g hb;(try clear hb)))
 go_ret;exact⟨zE,zB⟩
def aV (o:List Bool) (i:Nat):Bool:=o.getD i false
theorem pU (o:List Bool) (i:Nat):bs false o (i:Int)=aV o i:=by simp[bs,aV]
theorem kX (o:List Bool) (i j:Nat) (b:Bool):aV (o.set i b) j=if i=j/\j<o.length then b else aV o j:=by
 unfold aV;rw[aN,aN,List.getElem?_set];by_cases h:i=j
 ·subst h
  by_cases a:i<o.length
  ·simp[a]
  ·simp[a]
 ·simp[h]
def fw (E:List S83) (a:Nat) (o:List Bool) (b:Nat):List Bool:=if aV o a=true/\cN E a b>0 then o.set b true else o
def iI (E:List S83) (n:Nat) (o:List Bool) (a:Nat):List Bool:=(List.range' 0 n).foldl (fw E a) o
def iJ (E:List S83) (n:Nat) (o:List Bool):List Bool:=(List.range' 0 n).foldl (iI E n) o
def gM (E:List S83) (n:Nat):Nat->List Bool->List Bool
 |0,o=>o
 |m+1,o=>gM E n m (iJ E n o)
def eO (E:List S83) (n v:Nat):List Bool:=gM E n n ((List.replicate n false).set v true)
theorem pV (E:List S83) (a b:Nat) (o:List Bool):(fw E a o b).length=o.length:=by unfold fw;split<;>simp
theorem kY {f:List Bool->Nat->List Bool} (h:∀o b,(f o b).length=o.length):∀(l:List Nat) (o:List Bool),(l.foldl f o).length=o.length
 |[],_=>rfl
 |x::l,o=>by rw[List.foldl_cons,kY h l,h]
theorem pW (E:List S83) (n a:Nat) (o:List Bool):(iI E n o a).length=o.length:=kY (fun o b=>pV E a b o) _ _
theorem pX (E:List S83) (n:Nat) (o:List Bool):(iJ E n o).length=o.length:=kY (fun o a=>pW E n a o) _ _
theorem tT (E:List S83) (n:Nat):∀m o,(gM E n m o).length=o.length
 |0,_=>rfl
 |m+1,o=>by rw[gM,tT E n m,pX]
theorem tU (E:List S83) (i:E.length<=1000) (n a g:Nat) (hn:n<=1000) (p:a<n) (r:List Bool):∀(m j:Nat) (o:List Bool),j+m=n->o.length=n->Ev (fun k=>bF.l1 k ((List.range' j m).foldl (fw E a) o) g ((a+1:Nat):Int) n E) r->Ev (fun k=>bF.l2 k o g a j n E) r
 |0,j,o,q,l,h=>by
  refine Ev.of_succ ?_;simp only[bF.l2,if_neg (show ¬((j:Int)<(n:Int)) by omega),fh (show a<=1000000 by omega)];exact h
 |m+1,j,o,q,l,h=>by
  rw[List.range'_succ,List.foldl_cons] at h;have b:=tU E i n a g hn p r m (j+1) (fw E a o j) (by omega) (by rw[pV];exact l) h;refine Ev.of_succ ?_;simp only[bF.l2,if_pos (show (j:Int)<(n:Int) by omega),if_pos (show (0:Int)<=(a:Int) by omega),if_pos (show (a:Int)<(o.length:Int) by omega),if_pos (show (0:Int)<=(j:Int) by omega),if_pos (show (j:Int)<(o.length:Int) by omega),fh (show j<=1000000 by omega),pU,aq];unfold fw at b;by_cases h1:aV o a=true
  ·simp only[if_pos h1]
   refine Ev.bind (Bx n E a j i) ?_;by_cases e:cN E a j>0
   ·simp only[if_pos e];rw[if_pos ⟨h1,e⟩] at b;exact b
   ·simp only[if_neg e];rw[if_neg (fun h=>e h.2)] at b;exact b
  ·simp only[if_neg h1];rw[if_neg (fun h=>h1 h.1)] at b;exact b
theorem tV (E:List S83) (g:E.length<=1000) (n b:Nat) (hn:n<=1000) (i:b<=1000) (r:List Bool):∀(m a:Nat) (o:List Bool),a+m=n->o.length=n->Ev (fun k=>bF.l0 k ((List.range' a m).foldl (iI E n) o) ((b+1:Nat):Int) n E) r->Ev (fun k=>bF.l1 k o b a n E) r
 |0,a,o,j,e,h=>by
  refine Ev.of_succ ?_;simp only[bF.l1,if_neg (show ¬((a:Int)<(n:Int)) by omega),fh (show b<=1000000 by omega)];exact h
 |m+1,a,o,j,e,h=>by
  rw[List.range'_succ,List.foldl_cons] at h;have l:=tV E g n b hn i r m (a+1) (iI E n o a) (by omega) (by rw[pW];exact e) h;refine Ev.of_succ ?_;simp only[bF.l1,if_pos (show (a:Int)<(n:Int) by omega)];exact tU E g n a b hn (by omega) r n 0 o (by omega) e l
theorem tW (E:List S83) (b:E.length<=1000) (n:Nat) (hn:n<=1000):∀(m i:Nat) (o:List Bool),i+m=n->o.length=n->Ev (fun k=>bF.l0 k o i n E) (gM E n m o)
 |0,i,o,hi,a=>by
  refine Ev.of_succ ?_;simp only[bF.l0,if_neg (show ¬((i:Int)<(n:Int)) by omega)];exact Ev.const _
 |m+1,i,o,hi,a=>by
  have e:=tW E b n hn m (i+1) (iJ E n o) (by omega) (by rw[pX];exact a);refine Ev.of_succ ?_;simp only[bF.l0,if_pos (show (i:Int)<(n:Int) by omega)];exact tV E b n i hn (by omega) _ n 0 o (by omega) a e
theorem BC (E:List S83) (a:E.length<=1000) (n v:Nat) (hn:n<=1000) (b:v<n):Ev (fun k=>bF.f k n E v) (eO E n v):=by
 unfold bF.f;simp only[if_pos (show (0:Int)<=(n:Int) by omega),aq,if_pos (show n<=281474976710656 by omega),Option.bind_some,if_pos (show (0:Int)<=(v:Int) by omega),List.length_replicate,if_pos (show (v:Int)<(n:Int) by omega)];exact tW E a n hn n 0 _ (by omega) (by simp)
def iK (s r:List Bool):List Bool:=(List.range' 0 s.length).foldl (fun s u=>s.set u (aV s u||aV r u)) s
def fJ (E:List S83) (n:Nat):Nat->Nat->Nat->List Bool->Nat
 |0,_,c,_=>c
 |m+1,v,c,s=>if aV s v=true then fJ E n m (v+1) c s else fJ E n m (v+1) (c+1) (iK s (eO E n v))
theorem BD (r:List Bool) (o:List Bool) (u:Nat):(o.set u (aV o u||aV r u)).length=o.length:=by simp
theorem tX (E:List S83) (n:Nat) (hn:n<=1000) (c v:Nat) (e:v<=1000) (q:List Bool) (g:q.length=n) (r:Int):∀(m j:Nat) (s:List Bool),j+m=n->s.length=n->Ev (fun k=>bZ.l0 k c ((List.range' j m).foldl (fun s u=>s.set u (aV s u||aV q u)) s) ((v+1:Nat):Int) n E) r->Ev (fun k=>bZ.l1 k c s v q j n E) r
 |0,j,s,i,b,h=>by
  refine Ev.of_succ ?_;simp only[bZ.l1,if_neg (show ¬((j:Int)<(n:Int)) by omega),fh (show v<=1000000 by omega)];exact h
 |m+1,j,s,i,b,h=>by
  rw[List.range'_succ,List.foldl_cons] at h;have a:=tX E n hn c v e q g r m (j+1) _ (by omega) (by rw[List.length_set];exact b) h;refine Ev.of_succ ?_;simp only[bZ.l1,if_pos (show (j:Int)<(n:Int) by omega),if_pos (show (0:Int)<=(j:Int) by omega),if_pos (show (j:Int)<(s.length:Int) by omega),if_pos (show (j:Int)<(q.length:Int) by omega),fh (show j<=1000000 by omega),pU,aq];by_cases h1:aV s j=true
  ·simp only[if_pos h1];rw[h1,Bool.true_or] at a;exact a
  ·simp only[if_neg h1];rw[Bool.eq_false_iff.2 h1,Bool.false_or] at a;exact a
theorem pY (E:List S83) (e:E.length<=1000) (n:Nat) (hn:n<=1000):∀(m v c:Nat) (s:List Bool),v+m=n->c<=v->s.length=n->Ev (fun k=>bZ.l0 k c s v n E) ((fJ E n m v c s:Nat):Int)
 |0,v,c,s,g,h,a=>by
  refine Ev.of_succ ?_;simp only[bZ.l0,if_neg (show ¬((v:Int)<(n:Int)) by omega)];exact Ev.const _
 |m+1,v,c,s,g,h,a=>by
  refine Ev.of_succ ?_;simp only[bZ.l0,if_pos (show (v:Int)<(n:Int) by omega),if_pos (show (0:Int)<=(v:Int) by omega),if_pos (show (v:Int)<(s.length:Int) by omega),fh (show v<=1000000 by omega),pU,fJ];by_cases h1:aV s v=true
  ·simp only[if_pos h1]
   exact pY E e n hn m (v+1) c s (by omega) (by omega) a
  ·simp only[if_neg h1]
   refine Ev.bind (BC E e n v hn (by omega)) ?_;have i:(eO E n v).length=n:=by unfold eO;rw[tT];simp
   have j:=pY E e n hn m (v+1) (c+1) (iK s (eO E n v)) (by omega) (by omega) (by unfold iK;rw[kY (fun o b=>BD _ o b)];exact a);rw[fh (show c<=1000000 by omega)];refine tX E n hn (c+1) v (by omega) _ i _ n 0 s (by omega) a ?_;rw[show (List.range' 0 n).foldl (fun s u=>s.set u (aV s u||aV (eO E n v) u)) s=iK s (eO E n v) from by unfold iK;rw[a]];exact j
def partsOf (E:List S83) (n:Nat):Nat:=fJ E n n 0 0 (List.replicate n false)
theorem tY (E:List S83) (a:E.length<=1000) (n:Nat) (hn:n<=1000):Ev (fun k=>bZ.f k n E) ((partsOf E n:Nat):Int):=by
 unfold bZ.f;simp only[if_pos (show (0:Int)<=(n:Int) by omega),aq,if_pos (show n<=281474976710656 by omega)];exact pY E a n hn n 0 0 _ (by omega) (by omega) (by simp)
theorem pZ {E:List S83} {a b:Nat} {o:List Bool} {i:Nat} (h:aV o i=true):aV (fw E a o b) i=true:=by
 unfold fw;split
 ·rw[kX];split<;>simp_all
 ·exact h
theorem j5 {f:List Bool->Nat->List Bool} (hf:∀o b i,aV o i=true->aV (f o b) i=true):∀(l:List Nat) (o:List Bool) (i:Nat),aV o i=true->aV (l.foldl f o) i=true
 |[],_,_,h=>h
 |x::l,o,i,h=>by rw[List.foldl_cons];exact j5 hf l _ i (hf _ _ _ h)
theorem p4 {E:List S83} {n a:Nat} {o:List Bool} {i:Nat} (h:aV o i=true):aV (iI E n o a) i=true:=j5 (fun o b i h=>pZ h) _ _ _ h
theorem tZ {E:List S83} {n:Nat} {o:List Bool} {i:Nat} (h:aV o i=true):aV (iJ E n o) i=true:=j5 (fun o b i h=>p4 h) _ _ _ h
theorem t_ {E:List S83} {n:Nat}:∀{m:Nat} {o:List Bool} {i:Nat},aV o i=true->aV (gM E n m o) i=true
 |0,_,_,h=>h
 |m+1,o,i,h=>t_ (m:=m) (tZ h)
def gN (E:List S83) (n:Nat) (S:Nat->Bool):Prop:=∀a b:Nat,a<n->b<n->S a=true->cN E a b>0->S b=true
theorem l6 {P:List Bool->Prop} {f:List Bool->Nat->List Bool} {n:Nat} (hf:∀o b,b<n->P o->P (f o b)):∀(m j:Nat) (o:List Bool),j+m<=n->P o->P ((List.range' j m).foldl f o)
 |0,_,_,_,h=>h
 |m+1,j,o,a,h=>by rw[List.range'_succ,List.foldl_cons];exact l6 hf m (j+1) _ (by omega) (hf _ _ (by omega) h)
theorem BE {E:List S83} {n:Nat} {S:Nat->Bool} (hS:gN E n S) {o:List Bool} (h:∀i,aV o i=true->S i=true):∀i,aV (iJ E n o) i=true->S i=true:=by
 refine l6 (P:=fun o=>∀i,aV o i=true->S i=true) (n:=n) (fun o a g h=>?_) n 0 o (by omega) h;refine l6 (P:=fun o=>∀i,aV o i=true->S i=true) (n:=n) (fun o b hb h=>?_) n 0 o (by omega) h;intro i hi;unfold fw at hi;split at hi
 ·rename_i e
  rw[kX] at hi;split at hi
  ·rename_i j
   obtain⟨rfl,_⟩:=j;exact hS a b g hb (h a e.1) e.2
  ·exact h i hi
 ·exact h i hi
theorem ub {E:List S83} {n:Nat} {S:Nat->Bool} (hS:gN E n S):∀(m:Nat) {o:List Bool},(∀i,aV o i=true->S i=true)->∀i,aV (gM E n m o) i=true->S i=true
 |0,_,h=>h
 |m+1,o,h=>ub hS m (BE hS h)
theorem BF {o:List Bool} {b:Nat} (h:aV o b=true):o.set b true=o:=by
 refine List.ext_getElem (by simp) fun i h1 a=>?_
 rw[List.getElem_set];by_cases e:b=i
 ·subst e
  rw[if_pos rfl];simp only[aV,aN,br a,Option.getD_some] at h;exact h.symm
 ·rw[if_neg e]
theorem BG {E:List S83} {n:Nat} {o:List Bool} (h:gN E n (aV o)):iJ E n o=o:=by
 refine l6 (P:=fun x=>x=o) (n:=n) (fun x a g i=>?_) n 0 o (by omega) rfl;subst i;refine l6 (P:=fun y=>y=x) (n:=n) (fun y b hb j=>?_) n 0 x (by omega) rfl;subst j;unfold fw;split
 ·rename_i e
  exact BF (h a b g hb e.1 e.2)
 ·rfl
theorem ud {E:List S83} {n:Nat}:∀(m:Nat) {o:List Bool},gN E n (aV o)->gM E n m o=o
 |0,_,_=>rfl
 |m+1,o,h=>by rw[gM,BG h,ud m h]
def iL (o:List Bool) (n:Nat):Nat:=(List.range n).countP (aV o)
theorem BH (o:List Bool) (n:Nat):iL o n<=n:=by
 unfold iL;exact Nat.le_trans List.countP_le_length (by simp)
theorem p5 {o p:List Bool} {b:Nat}:∀{n:Nat},(∀i,aV o i=true->aV p i=true)->b<n->aV o b=false->aV p b=true->iL o n<iL p n
 |0,_,hb,_,_=>by omega
 |n+1,h,hb,h1,g=>by
  have mono:∀m,iL o m<=iL p m:=fun m=>List.countP_mono_left (fun x _ j=>h x j)
  unfold iL at*;rw[List.range_succ,List.countP_append,List.countP_append];by_cases e:b=n
  ·subst e
   have:=mono b;simp[h1,g];omega
  ·have:=p5 (n:=n) h (by omega) h1 g
   unfold iL at this;have k:(if aV o n=true then 1 else 0)<=(if aV p n=true then 1 else 0):=by
    by_cases a:aV o n=true
    ·rw[if_pos a,if_pos (h n a)];exact aM _
    ·rw[if_neg a];exact Nat.zero_le _
   simp only[List.countP_cons,List.countP_nil,Nat.zero_add];omega
theorem BI {E:List S83} {n:Nat} {o:List Bool} (r:o.length=n) {a b:Nat} (s:a<n) (hb:b<n) (h1:aV o a=true) (k:cN E a b>0):aV (iJ E n o) b=true:=by
 unfold iJ;have l:List.range' 0 n=List.range' 0 a++a::List.range' (a+1) (n-a-1):=by
  rw[<-List.range'_succ,show n-a-1+1=n-a by omega];rw[show List.range' 0 a++List.range' a (n-a)=List.range' 0 a++List.range' (0+a) (n-a) by rw[Nat.zero_add],List.range'_append_1];rw[show a+(n-a)=n by omega]
 have m:List.range' 0 n=List.range' 0 b++b::List.range' (b+1) (n-b-1):=by
  rw[<-List.range'_succ,show n-b-1+1=n-b by omega];rw[show List.range' 0 b++List.range' b (n-b)=List.range' 0 b++List.range' (0+b) (n-b) by rw[Nat.zero_add],List.range'_append_1];rw[show b+(n-b)=n by omega]
 rw[l,List.foldl_append,List.foldl_cons];refine j5 (fun o b i h=>p4 h) _ _ _ ?_;have g:=j5 (f:=iI E n) (fun o b i h=>p4 h) (List.range' 0 a) o a h1;have p:=kY (f:=iI E n) (fun o a=>pW E n a o) (List.range' 0 a) o;generalize (List.range' 0 a).foldl (iI E n) o=e at g p⊢;unfold iI;rw[m,List.foldl_append,List.foldl_cons];refine j5 (fun o b i h=>pZ h) _ _ _ ?_;have j:=j5 (f:=fw E a) (fun o b i h=>pZ h) (List.range' 0 b) e a g;have q:=kY (f:=fw E a) (fun o b=>pV E a b o) (List.range' 0 b) e;generalize (List.range' 0 b).foldl (fw E a) e=u at j q⊢;unfold fw;rw[if_pos ⟨j,k⟩,kX,if_pos ⟨rfl,by omega⟩]
theorem ue {E:List S83} {n:Nat}:∀(m:Nat) (o:List Bool),o.length=n->n<iL o n+m->gN E n (aV (gM E n m o))
 |0,o,g,h=>by have:=BH o n;omega
 |m+1,o,g,h=>by
  by_cases e:gN E n (aV o)
  ·rw[ud (m+1) e];exact e
  ·rw[gM]
   refine ue m _ (by rw[pX];exact g) ?_;unfold gN at e;simp only[Classical.not_forall] at e;obtain⟨a,b,j,hb,h1,k,l⟩:=e;have:=p5 (o:=o) (p:=iJ E n o) (b:=b) (n:=n) (fun i hi=>tZ hi) hb (Bool.eq_false_iff.2 l) (BI g j hb h1 k);omega
theorem BJ {E:List S83} {n v:Nat} (e:v<n):aV (eO E n v) v=true/\gN E n (aV (eO E n v))/\∀S:Nat->Bool,gN E n S->S v=true->∀i,aV (eO E n v) i=true->S i=true:=by
 have g:aV ((List.replicate n false).set v true) v=true:=by rw[kX,if_pos ⟨rfl,by simpa using e⟩]
 have a:∀i,aV (List.replicate n false) i=false:=fun i=>by simp[aV,aN,List.getElem?_replicate];split<;>rfl
 refine⟨t_ g,ue n _ (by simp) ?_,fun S hS j=>ub hS n (fun i hi=>?_)⟩
 ·have:=p5 (o:=List.replicate n false) (p:=(List.replicate n false).set v true) (b:=v) (n:=n) (fun i hi=>by rw[a] at hi;cases hi) e (a v) g
  omega
 ·rw[kX] at hi
  split at hi
  ·rename_i h;rw[<-h.1];exact j
  ·rw[a] at hi;cases hi
theorem BL {E:List S83} {a b:Int} (h:cN E a b>0):∃x∈E,x.f0=min a b/\x.f1=max a b:=by
 unfold cN at h;split at h
 ·rename_i x e
  refine⟨x,List.mem_of_find?_eq_some e,?_⟩;have:=List.find?_some e;simpa [fv] using this
 ·omega
theorem uf {N:Int} {E:List S83} (h:a7 N E) {x:S83} (a:x∈E):cN E x.f0 x.f1>0:=by
 unfold cN;split
 ·rename_i y b
  have:=h.ok y (List.mem_of_find?_eq_some b);simp[bA] at this;omega
 ·rename_i hn
  rw[List.find?_eq_none] at hn;have:=hn x a;have hle:=h.le x a;simp[fv] at this;omega
theorem BM {E:List S83} {n:Nat} {S:Nat->Bool} (h:∀x∈E,S x.f0.toNat=S x.f1.toNat):gN E n S:=by
 intro a b k hb e g;obtain⟨x,i,l,h1⟩:=BL g;have:=h x i;rcases Nat.le_total a b with j|j
 ·rw[show x.f0.toNat=a by omega,show x.f1.toNat=b by omega] at this
  rw[<-this];exact e
 ·rw[show x.f0.toNat=b by omega,show x.f1.toNat=a by omega] at this
  rw[this];exact e
theorem BN {n:Nat} {E:List S83} (b:a7 n E) {S:Nat->Bool} (h:gN E n S):∀x∈E,S x.f0.toNat=S x.f1.toNat:=by
 intro x e;have hb:=uf b e;have k:=b.ok x e;simp[bA] at k;have g:((x.f0.toNat:Nat):Int)=x.f0:=by omega
 have i:((x.f1.toNat:Nat):Int)=x.f1:=by omega
 have h1:=h x.f0.toNat x.f1.toNat (by omega) (by omega);have j:=h x.f1.toNat x.f0.toNat (by omega) (by omega);rw[g,i] at h1;rw[g,i,nn] at j;cases a:S x.f0.toNat with
 |true=>exact(h1 a hb).symm
 |false=>
  cases l:S x.f1.toNat with
  |false=>rfl
  |true=>rw[j l hb] at a;cases a
theorem BO (s r:List Bool) (i:Nat) (hi:i<s.length):aV (iK s r) i=(aV s i||aV r i):=by
 unfold iK;have key:∀(m j:Nat) (o:List Bool),o.length=s.length->aV ((List.range' j m).foldl (fun s u=>s.set u (aV s u||aV r u)) o) i=if j<=i/\i<j+m then(aV o i||aV r i) else aV o i:=by
  intro m;induction m with
  |zero=>intro j o _;rw[if_neg (by omega)];rfl
  |succ m b=>
   intro j o e;rw[List.range'_succ,List.foldl_cons,b _ _ (by rw[List.length_set];exact e),kX];by_cases h1:j=i
   ·subst h1
    rw[if_neg (by omega),if_pos ⟨rfl,by omega⟩,if_pos (by omega)]
   ·rw[if_neg (show ¬(j=i/\i<o.length) from fun h=>h1 h.1)]
    by_cases a:j+1<=i/\i<j+1+m
    ·rw[if_pos a,if_pos (by omega)]
    ·rw[if_neg a,if_neg (by omega)]
 rw[key s.length 0 s rfl,if_pos (by omega)]
theorem ug (E:List S83) (n:Nat):∀(m v c:Nat) (s:List Bool),(∀i,v<=i->i<v+m->aV s i=true)->fJ E n m v c s=c
 |0,_,_,_,_=>rfl
 |m+1,v,c,s,h=>by
  rw[fJ,if_pos (h v (aM _) (by omega))];exact ug E n m (v+1) c s (fun i h1 a=>h i (by omega) (by omega))
theorem p6 (E:List S83) (n:Nat):∀(m v c:Nat) (s:List Bool),c<=fJ E n m v c s
 |0,_,_,_=>aM _
 |m+1,v,c,s=>by
  rw[fJ];split
  ·exact p6 E n m _ _ _
  ·exact Nat.le_trans (Nat.le_succ c) (p6 E n m _ _ _)
theorem uh (E:List S83) (n:Nat):∀(m v c:Nat) (s:List Bool) (u:Nat),v<=u->u<v+m->aV s u=false->c+1<=fJ E n m v c s
 |0,_,_,_,_,_,h,_=>by omega
 |m+1,v,c,s,u,h1,e,a=>by
  rw[fJ];split
  ·rename_i b
   exact uh E n m (v+1) c s u (by rcases Nat.lt_or_ge v u with h|h;exact h;exfalso;have:v=u:=(by omega);subst this;rw[a] at b;cases b) (by omega) a
  ·exact p6 E n m _ _ _
theorem iM {n:Nat} {E:List S83} (hn:1<=n) (q:a7 n E):partsOf E n=1↔eN n E:=by
 obtain⟨m,rfl⟩:∃m,n=m+1:=⟨n-1,by omega⟩;obtain⟨r,s,w⟩:=BJ (E:=E) (n:=m+1) (v:=0) (by omega);have j:∀i,aV (List.replicate (m+1) false) i=false:=fun i=>by simp[aV,aN,List.getElem?_replicate];split<;>rfl
 have e:partsOf E (m+1)=fJ E (m+1) m 1 1 (iK (List.replicate (m+1) false) (eO E (m+1) 0)):=by
  unfold partsOf;rw[fJ,if_neg (by rw[j];decide)]
 have k:∀i,i<m+1->aV (iK (List.replicate (m+1) false) (eO E (m+1) 0)) i=aV (eO E (m+1) 0) i:=fun i hi=>by
  rw[BO _ _ _ (by simpa using hi),j,Bool.false_or]
 rw[e];constructor
 ·intro h S y z
  refine Classical.byContradiction fun a=>?_
  have hS:∀x∈E,S x.f0.toNat=S x.f1.toNat:=fun x B=>Classical.byContradiction fun b=>a ⟨x,B,b⟩
  have main:∀T:Nat->Bool,(∀x∈E,T x.f0.toNat=T x.f1.toNat)->T 0=true->(∃u,u<m+1/\T u=false)->False:=by
   rintro T C l ⟨u,hu,g⟩;have h1:aV (eO E (m+1) 0) u=false:=by
    cases o:aV (eO E (m+1) 0) u with
    |false=>rfl
    |true=>have:=w T (BM C) l u o;rw[g] at this;cases this
   have F:u≠0:=fun e=>by subst e;rw[l] at g;cases g
   have:=uh E (m+1) m 1 1 _ u (by omega) (by omega) (by rw[k u hu];exact h1);omega
  cases p:S 0 with
  |true=>exact main S hS p z
  |false=>
   refine main (fun u=> !S u) (fun x a=>by simp[hS x a]) (by simp[p]) ?_;obtain⟨u,hu,D⟩:=y;exact⟨u,hu,by simp[D]⟩
 ·intro h
  refine ug E _ m 1 1 _ fun i h1 o=>?_
  rw[k i (by omega)];cases hi:aV (eO E (m+1) 0) i with
  |true=>rfl
  |false=>
   obtain⟨x,a,b⟩:=h (aV (eO E (m+1) 0)) ⟨0,by omega,r⟩ ⟨i,by omega,hi⟩;exact absurd (BN q s x a) b
def eD (N:Int) (E:List S83) (q:Int):Int:=if cE N E=0 then(if partsOf E N.toNat=1 then(if 0<=q/\q<N then 0 else 2) else 13) else cE N E
theorem ui (N:Int) (E:List S83) (q:Int) (g:E.length<=1000):Ev (fun k=>dc.f k N E q) (eD N E q):=by
 unfold dc.f eD;by_cases b:cE N E=0
 ·obtain⟨h1,m,e⟩:=iH b
  obtain⟨n,rfl⟩:=Int.eq_ofNat_of_zero_le (show 0<=N by omega);refine Ev.bind (a:=(decide (partsOf E n=1),(0:Int))) ?_ ?_
  ·unfold cD.f
   have h:=l5 (n:Int) E g;rw[b] at h;refine Ev.bind h ?_;have j:jh (n:Int) E=true:=by
    unfold jh;rw[aA (by omega),Bool.true_and];refine List.all_eq_true.2 fun x l=>?_
    have:=e.ok x l;simp[bA] at this⊢;omega
   simp only[if_true,if_pos j,aq];rw[show decide (bD (az E) n=1)=decide (partsOf E n=1) by
    congr 1;exact propext ((pT (by omega) (iy e.dZ)).trans (iM (by omega) e).symm)]
   exact Ev.const _
  ·simp only[if_pos b,if_true,aq]
   by_cases hp:partsOf E n=1
   ·simp only[aA hp,if_true,if_pos hp]
    by_cases i:0<=q/\q<(n:Int)
    ·simp only[if_neg (show ¬q<0 by omega),if_neg (show ¬q>=(n:Int) by omega),if_pos i];exact Ev.const _
    ·simp only[if_neg i]
     by_cases h1:q<0
     ·simp only[if_pos h1];exact Ev.const _
     ·simp only[if_neg h1,if_pos (show q>=(n:Int) by omega)];exact Ev.const _
   ·simp only[aY hp,Bool.false_eq_true,if_false,if_neg hp];exact Ev.const _
 ·refine Ev.bind (a:=(false,cE N E)) ?_ ?_
  ·unfold cD.f
   refine Ev.bind (l5 N E g) ?_;simp only[if_neg b];exact Ev.const _
  ·simp only[if_neg b];exact Ev.const _
section
theorem p9 {b:Nat->Bool} {u:Nat}:∀(l:List Nat),b u=true->bX b l u=true:=by
 intro l;induction l generalizing b with
 |nil=>exact id
 |cons v l a=>intro h;exact a (b:=dB b v) (by unfold dB;split<;>simp_all)
theorem p_ (b:Nat->Bool) (v:Nat) (l:List Nat):bX b (v::l)=bX (dB b v) l:=rfl
section
variable {n:Nat} {c:(Nat->Bool)->Nat->Bool}
theorem qa (g:∀b v,c b v=true->b v=false):∀(f:Nat) (b:Nat->Bool),dn n b<=f->∀v,v<n->c (bX b (eY n c f b)) v=false:=by
 intro f;induction f with
 |zero=>
  intro b h v e;show c b v=false
  cases i:c b v with
  |false=>rfl
  |true=>
   have:=lL e (g b v i);omega
 |succ f j=>
  intro b h v e;cases a:iA n c b with
  |none=>
   simp only[eY,a];unfold iA at a;rw[List.find?_eq_none] at a;have:=a v (List.mem_range.2 e);simpa [bX] using this
  |some v0=>
   have h1:=List.find?_some a;have k:=List.mem_of_find?_eq_some a;have l:=lL (List.mem_range.1 k) (g b v0 (by simpa using h1));simp only[eY,a,p_];exact j (dB b v0) (by omega) v e
theorem BP (hm:∀(b b':Nat->Bool) v,(∀u,b u=true->b' u=true)->b' v=false->c b v=true->c b' v=true) (S:Nat->Bool):
  ∀(f:Nat) (b:Nat->Bool),(∀v,S v=true->b v=false)->(∃v,v<n/\S v=true/\bX b (eY n c f b) v=true)->∃v,v<n/\S v=true/\c (fun u=> !S u) v=true:=by
 intro f;induction f with
 |zero=>
  rintro b hb ⟨v,j,a,h⟩;have:=hb v a;simp[eY,bX,this] at h
 |succ f k=>
  rintro b hb ⟨v,j,a,h⟩;cases g:iA n c b with
  |none=>
   simp only[eY,g] at h;have:=hb v a;simp[bX,this] at h
  |some v0=>
   have h1:=List.find?_some g;have l:=List.mem_of_find?_eq_some g;simp only[eY,g,p_] at h;cases i:S v0 with
   |true=>
    refine⟨v0,List.mem_range.1 l,i,hm b _ v0 (fun u hu=>?_) (by simp[i]) (by simpa using h1)⟩;cases m:S u with
    |true=>exact absurd hu (by simp[hb u m])
    |false=>rfl
   |false=>
    refine k (dB b v0) (fun u hu=>?_) ⟨v,j,a,h⟩;unfold dB;rw[if_neg (fun e=>by subst e;rw[i] at hu;cases hu)];exact hb u hu
theorem BQ (g:∀b v,c b v=true->b v=false) (hm:∀(b b':Nat->Bool) v,(∀u,b u=true->b' u=true)->b' v=false->c b v=true->c b' v=true) (b:Nat->Bool):
  (∀v,v<n->bX b (dO n c b) v=true)↔∀S:Nat->Bool,(∃v,v<n/\S v=true)->(∀v,S v=true->b v=false)->∃v,v<n/\S v=true/\c (fun u=> !S u) v=true:=by
 constructor
 ·rintro h S ⟨v,a,i⟩ hb
  exact BP hm S (dn n b) b hb ⟨v,a,i,h v a⟩
 ·intro h v a
  cases j:bX b (dO n c b) v with
  |true=>rfl
  |false=>
   obtain⟨u,hu,l,e⟩:=h (fun u=> !bX b (dO n c b) u) ⟨v,a,by simp[j]⟩ (fun u hu=>by
    cases k:b u with
    |false=>rfl
    |true=>simp[p9 _ k] at hu)
   have:=qa (n:=n) g (dn n b) b (aM _) u hu;simp only[Bool.not_not] at e;rw[show dO n c b=eY n c (dn n b) b from rfl] at e;rw[this] at e;cases e
end
theorem uj {t:Nat->Nat->Int} (a:∀i j,0<=t i j) {b b':Nat->Bool} (h:∀u,b u=true->b' u=true) (v:Nat):∀u,cw t b v u<=cw t b' v u
 |0=>Int.le_refl _
 |u+1=>by
  have h1:=uj a h v u;have e:=h u;have g:=a v u;simp only[cw];by_cases hb:b u=true
  ·rw[if_pos hb,if_pos (e hb)];omega
  ·rw[if_neg hb]
   split<;>omega
theorem uk {t:Nat->Nat->Int} {b b':Nat->Bool} (v:Nat):∀n,(∀u,u<n->b u=b' u)->cw t b v n=cw t b' v n
 |0,_=>rfl
 |n+1,h=>by
  simp only[cw];rw[uk v n (fun u hu=>h u (by omega)),h n (by omega)]
def jq (n:Nat) (t:Nat->Nat->Int) (q:Nat) (c:Nat->Int):Prop:=∀S:Nat->Bool,(∃v,v<n/\S v=true)->S q=false->∃v,v<n/\S v=true/\c v<cw t (fun u=> !S u) v n
def bJ (n:Nat) (t:Nat->Nat->Int) (q:Nat) (l:List Int):Bool:=(List.range n).all (bX (bT q) (dO n (bM n t l) (bT q)))
theorem jr {n:Nat} {t:Nat->Nat->Int} (m:∀i j,0<=t i j) (q:Nat) (l:List Int):bJ n t q l=true↔jq n t q (fun v=>rd l v):=by
 have h:=BQ (n:=n) (c:=bM n t l) (fun b v h=>lM b v h) (fun b b' v hb a g=>by
  unfold bM at g⊢;simp only[Bool.and_eq_true,decide_eq_true_eq] at g⊢;exact⟨by simp[a],Int.lt_of_lt_of_le g.2 (uj m hb v n)⟩) (bT q)
 unfold bJ jq;rw[List.all_eq_true];constructor
 ·intro h1 S hS o
  obtain⟨v,a,k,g⟩:=h.1 (fun v a=>h1 v (List.mem_range.2 a)) S hS (fun v a=>by
   unfold bT;rw[if_neg (fun e=>by subst e;rw[o] at a;cases a)])
  unfold bM at g;simp only[Bool.and_eq_true,decide_eq_true_eq] at g;exact⟨v,a,k,g.2⟩
 ·intro h1 v a
  refine h.2 (fun S hS hb=>?_) v (List.mem_range.1 a);obtain⟨v,a,k,g⟩:=h1 S hS (by
   cases p:S q with
   |false=>rfl
   |true=>have:=hb q p;simp[bT] at this)
  refine⟨v,a,k,?_⟩;unfold bM;simp[k,g]
theorem jq.down {n:Nat} {t:Nat->Nat->Int} {q:Nat} {c a:Nat->Int} (h:jq n t q c) (e:∀v,v<n->a v<=c v):jq n t q a:=by
 intro S hS g;obtain⟨v,b,i,j⟩:=h S hS g;exact⟨v,b,i,Int.lt_of_le_of_lt (e v b) j⟩
def valOf (n:Nat) (t:Nat->Nat->Int) (v:Nat):Int:=cw t (fun u=> !decide (u=v)) v n
theorem jq.lt {n:Nat} {t:Nat->Nat->Int} {q:Nat} {c:Nat->Int} (h:jq n t q c) {v:Nat} (a:v<n) (b:v≠q):c v<valOf n t v:=by
 obtain⟨u,hu,g,i⟩:=h (fun u=>decide (u=v)) ⟨v,a,by simp⟩ (by simpa using fun e=>b e.symm);have:u=v:=by simpa using g
 subst this;exact i
end
theorem j6 {k:Nat} {N:Int} {E:List S83} {q:Int} (h:dc.f k N E q=some 0):aW.f k N E=some 0/\(0<=N/\N<=12)/\bD (az E) N.toNat=1/\0<=q/\q<N:=by
 unfold dc.f cD.f at h;simp only[Option.bind_assoc] at h;obtain⟨t,e,h⟩:=Option.bind_eq_some_iff.1 h;by_cases a:t=0
 ·subst a
  rw[if_pos rfl] at h;by_cases hk:jh N E=true
  ·rw[if_pos hk] at h
   simp only[Option.bind_some,if_pos] at h;simp only[jh,Bool.and_eq_true,decide_eq_true_eq] at hk;refine⟨e,hk.1,?_⟩;by_cases b:bD (az E) N.toNat=1
   ·simp only[b,decide_true,if_true] at h
    by_cases h1:q<0
    ·rw[if_pos h1] at h;exact absurd (aR h) (by decide)
    ·rw[if_neg h1] at h
     by_cases g:q>=N
     ·rw[if_pos g] at h;exact absurd (aR h) (by decide)
     ·exact⟨b,by omega,by omega⟩
   ·simp[b] at h
  ·rw[if_neg hk] at h;cases h
 ·rw[if_neg a] at h
  simp[a] at h
def j7 (N:Int) (E:List S83):Bool:=cJ E&&gC N E
theorem um {α:Type} {f:Nat->Option α} (h:∀k,bl (f k) (f (k+1))) {k:Nat} {r:α} (hk:f k=some r):∀m,f (k+m)=some r
 |0=>hk
 |m+1=>h _ _ (um h hk m)
theorem uo {i:Nat} (h:i<=1000):wrap64 ((i:Int)+1)=((i+1:Nat):Int):=by
 rw[show wrap64 ((i:Int)+1)=(i:Int)+1 from by unfold wrap64;omega];omega
theorem BR {x:Int} (h: -1048576<=x/\x<=1048576):gG.f x=some true:=by
 unfold gG.f;rw[if_pos (show x>= -1048576 from h.1)];simp[h.2]
theorem uq (c:List Int) (b:c.length<=12) (h:∀i:Nat, -1048576<=rd c i/\rd c i<=1048576):∀(m K i:Nat),i+m=c.length->m<K->cu.l0 K c c.length i=some 0
 |0,0,i,_,a=>by omega
 |0,K+1,i,hi,_=>by
  rw[cu.l0,if_neg (by omega)]
 |m+1,0,i,_,a=>by omega
 |m+1,K+1,i,hi,a=>by
  rw[cu.l0,if_pos (by omega),if_pos (by omega),if_pos (by omega),BR (h i),Option.bind_some,if_pos rfl,uo (by omega)];exact uq c b h m K (i+1) (by omega) (by omega)
theorem ur (q:Int) (c:List Int) (b:c.length<=12) (h:∀i:Nat,0<=rd c i):∀(m K i:Nat),i+m=c.length->m<K->dq.l0 K q c c.length i=some 0
 |0,0,i,_,a=>by omega
 |0,K+1,i,hi,_=>by
  rw[dq.l0,if_neg (by omega)]
 |m+1,0,i,_,a=>by omega
 |m+1,K+1,i,hi,a=>by
  have e:=h i;rw[dq.l0,if_pos (by omega),if_pos (by omega),if_pos (by omega),if_neg (show ¬rd c i<0 by omega),uo (by omega),ur q c b h m K (i+1) (by omega) (by omega)];split<;>rfl
theorem qb (b:Nat->Bool):∀n,(fc b n).length=0↔(List.range n).all b=true
 |0=>by simp[fc]
 |n+1=>by
  have a:=qb b n;rw[List.range_succ,List.all_append];simp only[fc];cases hb:b n with
  |true=>simp[hb] at a⊢;exact a
  |false=>simp[hb]
theorem BS {k n:Nat} {E:List S83} {q:Nat} {c:List Int} (b:dc.f k n E q=some 0) (a:gH n q c):dq.f (k+20) n E q c=some 0:=by
 obtain⟨_,⟨_,hn⟩,_,g,h⟩:=j6 b;have j:=a.1;have h1:=um (fun k=>dc.mono n E q k) b 20;have e:cu.f (k+20) c n=some 0:=by
  unfold cu.f gV.f;rw[if_neg (by omega),if_neg (by omega),Option.bind_some,if_pos rfl,if_pos (by omega)];exact uq c (by omega) (fun i=>by have:=a.2.1 i;omega) c.length (k+20) 0 (by omega) (by omega)
 unfold dq.f;rw[h1,Option.bind_some,if_pos rfl,e,Option.bind_some,if_pos rfl];exact ur q c (by omega) (fun i=>(a.2.1 i).1) c.length (k+20) 0 (by omega) (by omega)
theorem BU {k n:Nat} {E:List S83} {q:Nat} {c:List Int} (b:dc.f k n E q=some 0) (a:gH n q c):gW.f (k+20) n E q c=some 0:=by
 obtain⟨_,⟨_,hn⟩,_,e,g⟩:=j6 b;have h:=a.1;unfold gW.f;rw[BS b a,Option.bind_some,if_pos rfl,if_pos e,if_pos (by omega),if_pos a.2.2]
theorem BW {k n:Nat} {E:List S83} {q:Nat} {c:List Int} (a:dc.f k n E q=some 0) (e:gC n E=true) (b:gH n q c):gX.f (k+20) n E q c=some (bJ n (ae E) q c,0):=by
 obtain⟨_,⟨_,hn⟩,_,g,i⟩:=j6 a;have j:=b.1;unfold gX.f jW.f;rw[BU a b,Option.bind_some,if_pos rfl,if_pos (by simp only[kP,Bool.and_eq_true,decide_eq_true_eq];exact⟨by omega,e⟩),Option.bind_some,if_pos rfl];congr 2
 rw[aq,aq];have h:=qb (bX (bT q) (iE n E q c)) n;rw[Bool.eq_iff_iff];unfold bJ;rw[show dO n (bM n (ae E) c) (bT q)=iE n E q c from rfl,<-h];simp
theorem BX {k n:Nat} {E:List S83} {q:Nat} {c:List Int} (a:dc.f k n E q=some 0) (b:gC n E=true) (e:gH n q c):fp.f (k+20) n E q c=some (bJ n (ae E) q c):=by
 unfold fp.f;rw[BW a b e,Option.bind_some];cases bJ n (ae E) q c<;>simp
theorem BY {t:Nat->Nat->Int} (a:∀i j,0<=t i j/\t i j<=50) (b:Nat->Bool) (v:Nat) (n:Nat) (hn:n<=12):cw t b v n<=600:=by
 have:=(pd (burnt:=b) a v n).2;omega
theorem qc {n:Nat} {E:List S83} {q:Nat} (b:gC n E=true) (hn:n<=12) {l:List Int} {v:Nat} (e:v<n) (g:v≠q) (h:bJ n (ae E) q l=true):rd l v<valOf n (ae E) v/\valOf n (ae E) v<=600:=by
 have a:=(iy b).times;exact⟨((jr (fun i j=>(a i j).1) q l).1 h).lt e g,BY a _ v n hn⟩
end Go.Proofs.YtffdiakgjakngaaGreat.P


namespace Go.Proofs.YtffdiakgjakngaaGreat.P
open Go.RowKit Go.Proofs.YtffdiakgjakngaaGreatW.PrintWords Go.Proofs.YtffdiakgjakngaaGreatW.PrintLast Go.Proofs.YtffdiakgjakngaaGreatW.PrintMore
set_option linter.unusedVariables false
set_option linter.unusedSimpArgs false
set_option maxHeartbeats 8000000
set_option maxRecDepth 100000
section
attribute [local go_sem] Oper.semAt_some
theorem BZ {w0:World} {B K n:Nat} {A0:Option Addr} {c0:Nat} {E:List S83} {q gx qx:Nat} {calm:List Int->Bool} (W:World) (m:Nat) (hS:W.heap.size=m) (hn:n<=12) (ag:Kd.C aQ w0 A0 E.length E) (ak:E.length<=c0)
  (G:∀c,gH n q c->fp.f K n E q c=some (calm c)) (H:∀(p:List Int) (x I:Nat),calm (p++(x:Int)::List.replicate I 0)=true->p.length+1+I=n->p.length≠q->x+1<B) (hB:B<=1000) (an:0<B)
  (L:(cU q B calm n []).length<=16384)
  (r:W.heap[gx]? =some (.cells #[.int .i64 n,.slice A0 E.length c0] 24 (0,0))) (w:W.heap[qx]? =some (.cells #[.int .i64 q] 3 (0,0))) (hw:Below w0.heap.size w0 W):
  gD (σ:=Unit) Fence.wide 9 Tryz.prog 199 #[.pointer (some ⟨gx,0,none⟩),.pointer (some ⟨qx,0,none⟩)] (fun x:List Int×Value=>#[x.2]) (fun _ W W1=>W1=W) (fun _ A C=>A.grownBy C (some (m+1))) (fun _ x A C=>py m x A C)
   (fun _ X Y=>pz w0 gx qx m X Y) (fun _ xs W'=>xs.map Prod.fst=cU q B calm n []) (fun _ _ _=>True) (fun pre=>pre.length<16384) W:=by
 intro u J Jx y ao M N;subst hS;have O:=M () W rfl;have ap:=zA (fun W' h1 z g=>AB (w0:=w0) (B:=B) (K:=K) (s:=W.heap.size) (l:=u) (J:=J ()) (Jx:=Jx ()) hn ag ak (ay r) (ay w) hw.size G H hB an (fun pre A C h hA=>y _ _ _ _ h hA) (fun pre x A C h1 z g=>N _ _ _ _ _ h1 z g) n 0 [] [] W' rfl (by omega) h1 z g (by simpa using L));have av:=zA y;have aB:=zA O;obtain⟨zs,P,Q⟩:=kL 26 Tryz.underlying26 n (by omega);have HZ:=zA Q;have R:=zA r;have S:=zA w;have T:=zA hw;have bg:(W.alloc (.cells #[.func (.yield u) #[] #[]] 141)).cell? ⟨gx,0,none⟩=some (.int .i64 n):=(ah (aj r _) 0).trans rfl;have aL:=zA (show gH n q (List.replicate n 0) from⟨by simp,fun i=>by simp[rd,aN,List.getElem?_replicate];split<;>simp,by simp[rd,aN,List.getElem?_replicate];split<;>simp⟩);have aO:=ay R.out;have aP:=ay S.out;have aS:=T.out.size;obtain⟨a,U⟩:∃o:Obj,o= .cells #[.func (.yield u) #[] #[]] 141:=⟨_,rfl⟩;obtain⟨j,V⟩:∃o:Obj,o= .cells zs 3:=⟨_,rfl⟩;obtain⟨b,Z⟩:∃o:Obj,o= .cells #[.slice (some ⟨W.heap.size+1,0,none⟩) n n] 26:=⟨_,rfl⟩;obtain⟨fo,aa⟩:∃o:Obj,o= .cells #[.func (.func 200) #[] #[.pointer (some ⟨gx,0,none⟩),.pointer (some ⟨W.heap.size,0,none⟩),.pointer (some ⟨W.heap.size+1+1,0,none⟩),.pointer (some ⟨qx,0,none⟩),.pointer (some ⟨W.heap.size+1+1+1,0,none⟩)]] 121:=⟨_,rfl⟩;have v:=zA (af (af (af (af (ai W.heap.size W) a) j) b) fo);have E0:=zA (show ((((W.alloc a).alloc j).alloc b).alloc fo).heap[W.heap.size]? =some a from by rw[Below.heap_alloc _ _ _ (by simp;omega),Below.heap_alloc _ _ _ (by simp;omega),Below.heap_alloc _ _ _ (by simp)];exact aU W a);have D:=HZ.out (W.alloc a) (fun k=>k=W.heap.size+1) (by simp);rw[World.size_alloc,<-V] at D;have E1:=zA (Kd.aK (Kd.aK (Kd.bt D (show w0.heap.size<=W.heap.size+1 by omega)) b) fo);have E2:=zA (show ((((W.alloc a).alloc j).alloc b).alloc fo).heap[W.heap.size+2]? =some b from by rw[Below.heap_alloc _ _ _ (by simp)];have h:=aU ((W.alloc a).alloc j) b;simpa using h);have E3:=zA (show ((((W.alloc a).alloc j).alloc b).alloc fo).heap[W.heap.size+3]? =some fo from by have h:=aU (((W.alloc a).alloc j).alloc b) fo;simpa using h);have a4:Aside0 (CS w0 n A0 c0 E q gx qx W.heap.size u ((((W.alloc a).alloc j).alloc b).alloc fo) (List.replicate n 0)):=
  ⟨⟨(v.out.block gx aO).trans R.out,(v.out.block qx aP).trans S.out,E0.out.trans (by rw[U]),E1.out,E2.out.trans (by rw[Z]),E3.out.trans (by rw[aa]),T.out.trans (v.out.mono aS)⟩⟩
 have a5:Aside0 (J () [] ((((W.alloc a).alloc j).alloc b).alloc fo)):=⟨av.out _ _ _ _ aB.out (gh v.out _)⟩;have a9:=zA ((callsIn_wide (n:=8)).2 (callsIn_wide.1 (ap.out _ (by simpa using a4.out) (by simpa using aL.out) a5.out)));subst U V Z aa;clear y ao M N O G H L Q r w hw D;refine callsIn_of_wp Tryz.func199 rfl trivial ?_ rfl;simp only[Tryz.ntmps199,List.size_toArray,List.length_cons,List.length_nil,Nat.reduceAdd,Nat.reduceSub,Array.replicate_succ,Array.replicate_zero,List.push_toArray,List.append_toArray,List.nil_append,List.cons_append];gi_wp2;refine⟨trivial,?_⟩;refine a9.out.mono ?_;rintro e w3 (⟨vs,rfl,g,h4,h5⟩|⟨rfl,be,g⟩)
 ·have F:=zA g
  have H4:=zA h4;clear g h4 h5 P;gi_wp2;go_end0;exact⟨⟨_,rfl⟩,.inl ⟨_,vs,H4.out,F.out⟩⟩
 ·have F:=zA g
  clear g P;gi_wp2;go_end0;exact⟨⟨_,rfl⟩,.inr ⟨_,be,trivial,F.out⟩⟩
end
def fi (val:List Int) (q:Int) (n j:Nat):List Int:=(List.range n).map fun v=>if v<j/\(v:Int)≠q then rd val v-1 else 0
theorem B0 (val:List Int) (q:Int) (n:Nat):fi val q n 0=List.replicate n 0:=by
 unfold fi;refine List.ext_getElem (by simp) fun i h1 a=>?_
 simp
theorem B2 {val:List Int} {q:Int} {n j:Nat} (h:(j:Int)=q):fi val q n (j+1)=fi val q n j:=by
 unfold fi;refine List.map_congr_left fun v _=>?_
 by_cases e:v=j
 ·subst e;simp[h]
 ·have:(v<j+1/\(v:Int)≠q)↔(v<j/\(v:Int)≠q):=by omega
  simp only[this]
theorem B3 {val:List Int} {q:Int} {n j:Nat} (h:(j:Int)≠q) (a:j<n):fi val q n (j+1)=(fi val q n j).set j (rd val j-1):=by
 refine List.ext_getElem (by simp[fi]) fun i h1 b=>?_
 rw[List.getElem_set];simp only[fi,List.getElem_map,List.getElem_range];by_cases e:j=i
 ·subst e;simp[h]
 ·rw[if_neg e]
  have:(i<j+1/\(i:Int)≠q)↔(i<j/\(i:Int)≠q):=by omega
  simp only[this]
theorem B6 (n:Nat) (E:List S83):(fe n E).length=n:=sZ n _ _
theorem B7 {n:Nat} {E:List S83} (h:cJ E=true) (i:Nat):0<=rd (fe n E) i/\rd (fe n E) i<=4000:=by
 have h1:=s7 n (a6 E E.length) (a6 E E.length).length i;have a:=sX h;unfold fe;omega
theorem B8 (k n:Nat) (A0:Option Addr) (c0:Nat) (E:List S83) (q:Int) (a:Option Addr) (cd:Nat) (dl:List Int) (w:World) (h:Kd.C aQ w A0 E.length E) (i:E.length<=c0) (hd:Kd.C (Kd.int .i64) w a n dl) (j:n<=cd)
  (hn:n<=12) (l:dl.length=n) (m:aW.f k n E=some 0) (o:cJ E=true) (p:dN n E):
  Calls Tryz.prog 212 #[.agg #[.int .i64 n,.slice A0 E.length c0],.int .i64 q,.slice a n cd] w fun e w'=>∃(gp:Nat) (r b:Option Addr) (s g:Nat) (u:Value),e= .returned (.tuple #[.pointer (some ⟨gp,0,none⟩),.int .i64 0])/\cf w' gp (.slice r n s) q u (.slice b n g) (fun x=>if x<n then gB q (fe n E) dl x else false)/\(Kd.int .i64).R 3 w' w.heap.size (fun _=>True) (.slice b n g) (fe n E)/\Below w.heap.size w w':=by
 subst l;exact zO k dl.length A0 c0 E q a cd dl w h i hd j hn rfl m o p
def js.f (k:Nat) (N:Int) (E:List S83) (q:Int):Option (List Int×Int):=
 (dc.f k N E q).bind fun t=>if t=0 then(if j7 N E=true then some (fi (fe N.toNat E) q N.toNat N.toNat,0) else none) else some ([],t)
theorem B9 (k:Nat) (N:Int) (A0:Option Addr) (c0:Nat) (E:List S83) (q:Int) (t:Int) (w:World) (g:Kd.C aQ w A0 E.length E) (h:E.length<=c0)
  (a:dc.f k N E q=some t) (b:t≠0):
  Calls Tryz.prog 198 #[.agg #[.int .i64 N,.slice A0 E.length c0],.int .i64 q] w fun e w'=>e= .returned (.tuple #[.slice none 0 0,.int .i64 t])/\Below w.heap.size w w':=by
 have hu:=Tryz.underlying24;have i:=zA a;have l:(t != 0)=true:=by simpa using b
 clear a b;go_enter Tryz.func198,Tryz.ntmps198
 go_wp2_with (go_at_call 211;refine(dc.calls k N A0 c0 E q t _ (Kd.bp g _) h i.out).mono ?_;rintro e w1 ⟨rfl,hb⟩;have j:=zA (aC (af (ai w.heap.size w) _) hb);clear hb)
 go_ret2;exact⟨rfl,j.out⟩
theorem B_ (k n:Nat) (A0:Option Addr) (c0:Nat) (E:List S83) (q:Int) (w:World) (L:Kd.C aQ w A0 E.length E) (M:E.length<=c0)
  (u:dc.f k n E q=some 0) (N:cJ E=true) (O:dN n E):
  Calls Tryz.prog 198 #[.agg #[.int .i64 n,.slice A0 E.length c0],.int .i64 q] w fun e w'=>∃v,e= .returned (.tuple #[v,.int .i64 0])/\(Kd.int .i64).R 3 w' w.heap.size (fun _=>True) v (fi (fe n E) q n n)/\Below w.heap.size w w':=by
 have hu:=Tryz.underlying24;have bn:=Tryz.underlying236;obtain⟨P,⟨_,hn⟩,_,bo,bq⟩:=j6 u;obtain⟨zs,aF,Q⟩:=kL 25 Tryz.underlying25 n (by omega);obtain⟨ys,aL,S⟩:=kL 26 Tryz.underlying26 n (by omega);have HZ:=zA Q;have HY:=zA S;have aS:=zA u;have Hg:=zA P;have T:=zA N;have HI:=zA O;have a1:n<=12:=by omega
 clear Q S u P N O hn;have y:=zA (aU w (.cells #[.int .i64 n,.slice A0 E.length c0] 24));go_enter Tryz.func198,Tryz.ntmps198
 go_wp2_with (go_at_call 211;refine(dc.calls k n A0 c0 E q 0 _ (Kd.bp L _) M aS.out).mono ?_;rintro e w1 ⟨rfl,hb⟩;have b:=zA (aC (af (ai w.heap.size w) _) hb);have a:=zA (au y.out hb);clear hb)
 generalize z:w.heap.size=gb at y b a⊢;have a2:=ay a.out;have a3:w1.cell? ⟨gb,0,none⟩=some (.int .i64 n):=(ah a.out 0).trans rfl;have a4:w1.cell? ⟨gb,1,none⟩=some (.slice A0 E.length c0):=(ah a.out 1).trans rfl;have a5:(w1.alloc (.cells zs 3)).drew.cell? ⟨gb,0,none⟩=some (.int .i64 n):=(ah (aj a.out _) 0).trans rfl;have a9:(w1.alloc (.cells zs 3)).drew.cell? ⟨gb,1,none⟩=some (.slice A0 E.length c0):=(ah (aj a.out _) 1).trans rfl;have U:=zA (B8 k n A0 c0 E q (some ⟨w1.heap.size,0,none⟩) n (List.replicate n 0) (w1.alloc (.cells zs 3)).drew (Kd.gn (Kd.bp (Kd.al L (by rw[z];exact b.out)) _)) M (by have h:=(Kd.a8 (Kd.bR (HZ.out w1 (fun _=>True) trivial))).2.2;rw[List.length_replicate] at h;exact h) (aM _) a1 (by simp) Hg.out T.out HI.out);have B:Aside0 (gb<=(w1.alloc (.cells zs 3)).drew.heap.size):=⟨by have h:(w1.alloc (.cells zs 3)).drew.heap.size=w1.heap.size+1:=World.size_alloc w1 _;omega⟩;have V:=zA (bC (b.out.alloc (Nat.le_of_lt a2) (.cells zs 3)));have W:=zA (show (w1.alloc (.cells zs 3)).drew.heap[gb]? =some (.cells #[.int .i64 n,.slice A0 E.length c0] 24 (0,0)) from aj a.out _);go_wp2;go_region_with ((go_at_call 212;refine U.out.mono ?_;rintro e w2 ⟨gp,bv,X,bw,Y,rv,rfl,Z,hR,hb⟩;have ag:=zA (V.out.trans (hb.mono B.out));have D:=zA (au W.out hb);have ak:=zA Z;have F:=zA (Kd.bt hR B.out);clear Z hR hb))
 all_goals have bb:w2.cell? ⟨gb,0,none⟩=some (.int .i64 n):=(ah D.out 0).trans rfl
 all_goals have G:=ay D.out
 all_goals have am:=zA (ak.out.below (af (ai w2.heap.size w2) (.cells ys 3)))
 all_goals have r:=zA (Kd.aK F.out (.cells ys 3))
 all_goals have H:=zA (ag.out.alloc (Nat.le_of_lt G) (.cells ys 3))
 all_goals have g:=zA (Kd.bt (HY.out w2 (fun k=>k=w2.heap.size) rfl) (Nat.le_of_lt G))
 all_goals have bd:=am.out.mV
 all_goals have an:Aside0 (some w2.heap.size≠(Value.slice X n Y).ownBlock):=⟨fun e=>by have:=Kd.cF F.out _ e.symm;omega⟩
 all_goals clear y b a V W B U ag D ak F a3 a4 a5 a9 aF
 all_goals go_wp2
 all_goals clear bb aL G bd am
 all_goals generalize w2.alloc (.cells ys 3)=w3 at r H g⊢
 all_goals generalize w2.heap.size=l at g an⊢
 all_goals
  have ao:=zA (B7 (n:=n) T.out);have ap:=zA (B6 n E);obtain⟨vl,I⟩:∃vl,vl=fe n E:=⟨_,rfl⟩;rw[<-I] at r ao ap;have be:=zA I;clear I;rw[<-B0 vl q n] at g;go_loopw [38] (fun i wr=>∃(j:Nat),j<=n/\i= .int .i64 j/\Aside0 ((Kd.int .i64).R 3 wr gb (fun _=>True) (.slice X n Y) vl)/\Aside0 ((Kd.int .i64).R 3 wr gb (fun k=>k=l) (.slice (some ⟨l,0,none⟩) n n) (fi vl q n j))/\Aside0 (Below gb w wr)) (fun i _=>n- (intOf i).toNat)
  case atStart=>exact⟨0,by omega,rfl,r,g,H⟩
  case round=>
   clear r g H;obtain⟨j,hj,rfl,J,m,K⟩:=hrel;by_cases bf:j<n
   ·obtain⟨-, -,hC⟩:=Kd.a8 J.out
    rw[ap.out] at hC;obtain⟨ad,rfl,hx⟩:=Kd.cP hC j (by omega) (by omega);rw[aq] at hx;clear hC;have bg:=ao.out j;have b1:(0:Int)<=(j:Int):=by omega
    have b2:(j:Int)<(n:Int):=by omega
    by_cases o:(j:Int)=q
    ·have s:=zA (B2 (val:=vl) (n:=n) o)
     subst o;go_wp2;go_roundw
     case rel=>exact⟨j+1,by omega,by go_num,J,⟨by rw[s.out];exact m.out⟩,K⟩
     case measure=>exact(show n- ((j:Int)+1).toNat<n- ((j:Int)).toNat by omega)
    ·have s:=zA (B3 (val:=vl) o bf)
     have b3:((j:Int) != q)=true:=by simpa using o
     obtain⟨bi,bk⟩:=Kd.bG (0:Int) m.out (j:Int) (by omega) (by omega);have hp:=Kd.cY m.out (j:Int) (rd vl j-1);rw[aq] at bi bk hp;have av:=zA hp.1;have aB:=zA (Kd.gA J.out rfl hp.2 an.out);have b:=zA (Below.setCell (p:=⟨l,j,none⟩) K.out (Kd.ee m.out l rfl) (.int .i64 (rd vl j-1)));clear hp o;generalize rd vl j=x at hx bg av aB b s;go_wp2;go_roundw
     case rel=>exact⟨j+1,by omega,by go_num,aB,⟨by rw[s.out];exact av.out⟩,b⟩
     case measure=>exact(show n- ((j:Int)+1).toNat<n- ((j:Int)).toNat by omega)
   ·obtain rfl:j=n:=by omega
    go_wp2;go_ret2;exact⟨.slice (some ⟨l,0,none⟩) _ _,rfl,by rw[z,<-be.out];exact Kd.bj m.out (fun _ _=>trivial),by rw[z];exact K.out⟩
theorem js.calls (k:Nat) (g:Int) (i:Option Addr) (j:Nat) (a:List (S83)) (l:Int) (p:List Int) (q:Int) (w:World) (r:Kd.C aQ w i a.length a) (s:a.length<=j) (h:js.f k g a l=some (p,q)):
  Calls Tryz.prog 198 #[.agg #[.int .i64 g,.slice i a.length j],.int .i64 l] w fun e w'=>∃u:Value,e= .returned (.tuple #[u,.int .i64 q])/\Kd.R (Kd.int .i64) 3 w' w.heap.size (fun _=>True) u p/\Below w.heap.size w w':=by
 unfold js.f at h;obtain⟨t,m,H⟩:=Option.bind_eq_some_iff.mp h;by_cases o:t=0
 ·subst o
  rw[if_pos rfl] at H;by_cases b:j7 g a=true
  ·rw[if_pos b] at H
   simp only[Option.some.injEq,Prod.mk.injEq] at H;obtain⟨rfl,rfl⟩:=H;obtain⟨_,⟨v,x⟩,_,_⟩:=j6 m;obtain⟨n,rfl⟩:=Int.eq_ofNat_of_zero_le v;simp only[j7,Bool.and_eq_true] at b;rw[aq];exact B_ k n i j a l w r s m b.1 (iy b.2)
  ·rw[if_neg b] at H;cases H
 ·rw[if_neg o] at H
  simp only[Option.some.injEq,Prod.mk.injEq] at H;obtain⟨rfl,rfl⟩:=H;refine(B9 k g i j a l t w r s m o).mono ?_;rintro e w' ⟨rfl,hb⟩;exact⟨_,rfl,Kd.c_ _ _ _ _ _,hb⟩
def gO.f (k:Nat) (b:Int) (e:List (S83)) (g:Int):Option (List Int×Int):=(js.f k b e g).bind fun a=>(some (a.1,a.2))
theorem gO.calls (k:Nat) (b:Int) (j:Option Addr) (l:Nat) (a:List (S83)) (i:Int) (m:List Int) (n:Int) (w:World) (q:Kd.C aQ w j a.length a) (r:a.length<=l) (h:gO.f k b a i=some (m,n)):
  Calls Tryz.prog 173 #[.agg #[.int .i64 b,.slice j a.length l],.int .i64 i] w fun e w'=>∃s:Value,e= .returned (.tuple #[s,.int .i64 n])/\Kd.R (Kd.int .i64) 3 w' w.heap.size (fun _=>True) s m/\Below w.heap.size w w':=by
 have G:=Tryz.underlying24;have y:=zA q;have z:=zA r;clear q r;have g:=zA (ai w.heap.size w);have H:((js.f k b a i).bind fun u=>(some (u.1,u.2)))=some (m,n):=h;clear h;obtain⟨⟨B,D⟩,E,H⟩:=zo H;dsimp only at H;simp only[Option.some.injEq,Prod.mk.injEq] at H;obtain⟨rfl,rfl⟩:=H;go_enter Tryz.func173,Tryz.ntmps173
 go_wp2_with (first|((with_reducible refine aX (N:=2) rfl ?_);refine zX 2 #[.int .i64 b,.slice j a.length l] 24 ?_;intro I o J v hb;have p:=zA (v);have K:=zG g o;have L:=zG g o;replace g:=zS g hb;clear hb v o;obtain⟨M,O,P,Q⟩:=aE p)|((with_reducible refine aT (f:=198) rfl ?_);refine zL (some 8) Tryz.func198 #[.agg #[.int .i64 b,.slice j a.length l],.int .i64 i] ?_;(with_reducible refine(js.calls k b _ _ a i B D _ ?aw ?ax E.out).mono ?_);(case aw=>exact Kd.al y.out zB);(case ax=>exact z.out);rintro e S ⟨T,rfl,x,hb⟩;refine⟨_,rfl,?_⟩;have F:=zA (Kd.bt x (cX zB));replace p:=zb p hb;replace g:=zS g hb;(try clear hb);(try clear x)))
 go_ret2;exact⟨_,zE,by(with_reducible repeat(first|apply Kd.aK|apply Kd.cO|apply Kd.bR));exact F.out,zB⟩
section
attribute [local go_sem] Oper.semAt_some
theorem uu {P:Program} {ty:TypeId} {d:TypeDesc} (w:World) (a:Addr) (v:Value) (h:P.underlying ty=some d) (k:(match d with| .struct _| .array _ _=>true|_=>false)=false) (c:w.cell? a=some v):(loadVar ty a).run P w= .ok v w:=by
 have e:(isAgg ty).run P w= .ok false w:=by
  unfold isAgg;rw[Sem.run_bind];have hu:(underlying ty).run P w= .ok d w:=by simp[underlying,Sem.run_bind,Result.andThen,h]
  rw[hu];cases d<;>first|(simp at k;done)|rfl
 unfold loadVar;rw[Sem.run_bind,e];simp[Result.andThen,go_sem,c]
theorem qd {P:Program} {fn:Func} {p u:Tmp} {t1 t2:TypeId} {d1 d2:TypeDesc} (h:fn.results=#[.cell p t1,.cell u t2]) (tmps:Array Value) (w:World) (a b:Addr) (v1 v2:Value) (hp:tmps.getD p undef= .pointer (some a)) (hu:tmps.getD u undef= .pointer (some b))
  (h1:P.underlying t1=some d1) (e:P.underlying t2=some d2) (g:(match d1 with| .struct _| .array _ _=>true|_=>false)=false) (i:(match d2 with| .struct _| .array _ _=>true|_=>false)=false) (c1:w.cell? a=some v1) (c2:w.cell? b=some v2):
  (results fn tmps).run P w= .ok (.tuple #[v1,v2]) w:=by
 have j:tmps[p]?.getD undef= .pointer (some a):=by simpa using hp
 have k:tmps[u]?.getD undef= .pointer (some b):=by simpa using hu
 simp[results,h,j,k,asAddr,Sem.run_bind,Result.andThen,uu w a v1 h1 g c1,uu w b v2 e i c2]
theorem Ca (N:Int) (A0:Option Addr) (c0:Nat) (E:List S83) (q:Int) (w:World):Calls Tryz.prog 174 #[.agg #[.int .i64 N,.slice A0 E.length c0],.int .i64 q] w fun e w'=>e= .returned (.func (.func 199) #[] #[.pointer (some ⟨w.heap.size,0,none⟩),.pointer (some ⟨w.heap.size+1,0,none⟩)])/\w'=(w.alloc (.cells #[.int .i64 N,.slice A0 E.length c0] 24)).alloc (.cells #[.int .i64 q] 3):=by
 go_enter Tryz.func174,Tryz.ntmps174
 go_wp2;go_ret;exact⟨rfl,rfl⟩
def nt:Nat:=1000
def dQ (n:Nat) (E:List S83) (q:Nat):List (List Int):=cU q nt (bJ n (ae E) q) n []
def hU.f (k:Nat) (N:Int) (E:List S83) (q:Int):Option (List (List Int)×Int):=
 (gO.f k N E q).bind fun t=>if t.2=0 then(if(dQ N.toNat E q.toNat).length<=16384 then some (dQ N.toNat E q.toNat,0) else none) else some ([],t.2)
theorem uw {k:Nat} {N:Int} {E:List S83} {q:Int} {l:List Int} (h:gO.f k N E q=some (l,0)):dc.f k N E q=some 0/\cJ E=true/\gC N E=true/\l=fi (fe N.toNat E) q N.toNat N.toNat:=by
 unfold gO.f js.f at h;simp only[Option.bind_assoc] at h;obtain⟨t,b,h⟩:=Option.bind_eq_some_iff.1 h;by_cases a:t=0
 ·subst a
  rw[if_pos rfl] at h;by_cases hk:j7 N E=true
  ·rw[if_pos hk] at h
   simp only[j7,Bool.and_eq_true] at hk;simp only[Option.bind_some,Option.some.injEq,Prod.mk.injEq] at h;exact⟨b,hk.1,hk.2,h.1.symm⟩
  ·rw[if_neg hk] at h;cases h
 ·rw[if_neg a] at h
  simp only[Option.bind_some,Option.some.injEq,Prod.mk.injEq] at h;exact absurd h.2 a
theorem Cb {F:Fence} {n:Nat} {P:Program} {fn:Func} {R:Ending->World->Prop} {a:Act} {w:World} {v:Value} (hd:a.defers=[]) (b:(results fn a.tmps).run P w= .ok v w) (e:R (.returned v) w):bodyPostM F n P fn R .ret a w:=by
 show LeavesInM F n P fn a.tmps R a.defers .returning w
 rw[hd];exact⟨_,b,e⟩
theorem Cc {w1:World} {r:Nat} {t1 t2:TypeId} {u1 u2:Value} (v1 v2:Value) (a:w1.heap[r]? =some (.cells #[u1] t1 (0,0))) (b:w1.heap[r+1]? =some (.cells #[u2] t2 (0,0))):
  ((w1.setCell ⟨r,0,none⟩ v1).setCell ⟨r+1,0,none⟩ v2).cell? ⟨r,0,none⟩=some v1/\((w1.setCell ⟨r,0,none⟩ v1).setCell ⟨r+1,0,none⟩ v2).cell? ⟨r+1,0,none⟩=some v2:=by
 have h1:=bB a 0 v1;have e:=aH (p:=⟨r+1,0,none⟩) h1 (by show r≠r+1;omega) v2;have g:=aH (p:=⟨r,0,none⟩) b (by show r+1≠r;omega) v1;have h:=bB g 0 v2;exact⟨(ah e 0).trans (by simp),(ah h 0).trans (by simp)⟩
theorem l7 (w:World) (a b e:Obj):(((w.alloc a).alloc b).alloc e).heap[w.heap.size]? =some a/\(((w.alloc a).alloc b).alloc e).heap[w.heap.size+1]? =some b/\(((w.alloc a).alloc b).alloc e).heap[w.heap.size+1+1]? =some e:=by
 refine⟨?_,?_,?_⟩
 ·rw[Below.heap_alloc _ _ _ (by simp;omega),Below.heap_alloc _ _ _ (by simp)];exact aU w a
 ·rw[Below.heap_alloc _ _ _ (by simp)];have h:=aU (w.alloc a) b;simpa using h
 ·have h:=aU ((w.alloc a).alloc b) e;simpa using h
theorem Cd (k:Nat) (N:Int) (A0:Option Addr) (c0:Nat) (E:List S83) (q:Int) (l:List Int) (t:Int) (w:World) (j:Kd.C aQ w A0 E.length E) (m:E.length<=c0) (hf:gO.f k N E q=some (l,t)) (g:t≠0):
  Calls Tryz.prog 114 #[.agg #[.int .i64 N,.slice A0 E.length c0],.int .i64 q] w fun e w'=>e= .returned (.tuple #[.slice none 0 0,.int .i64 t])/\Below w.heap.size w w':=by
 have hu:=Tryz.underlying24;have o:=zA hf;have x:(t != 0)=true:=by simpa using g
 have a:=zA (l7 w (.cells #[.int .i64 N,.slice A0 E.length c0] 24) (.cells #[.slice none 0 0] 33) (.cells #[.int .i64 0] 30));have y:(((w.alloc (.cells #[.int .i64 N,.slice A0 E.length c0] 24)).alloc (.cells #[.slice none 0 0] 33)).alloc (.cells #[.int .i64 0] 30)).cell? ⟨w.heap.size,0,none⟩=some (.int .i64 N):=(ah a.out.1 0).trans rfl;have z:(((w.alloc (.cells #[.int .i64 N,.slice A0 E.length c0] 24)).alloc (.cells #[.slice none 0 0] 33)).alloc (.cells #[.int .i64 0] 30)).cell? ⟨w.heap.size,1,none⟩=some (.slice A0 E.length c0):=(ah a.out.1 1).trans rfl;clear hf g;refine(callsIn_wide (n:=10)).1 ?_;refine callsIn_of_wp_marks Tryz.func114 rfl trivial ?_ rfl;simp only[Tryz.ntmps114,List.size_toArray,List.length_cons,List.length_nil,Nat.reduceAdd,Nat.reduceSub,Array.replicate_succ,Array.replicate_zero,List.push_toArray,List.append_toArray,List.nil_append,List.cons_append];gi_wp2_with (refine⟨trivial,?_⟩;gi_at_call 173;refine(callsIn_wide.2 (gO.calls k N A0 c0 E q l t _ (Kd.bp (Kd.bp (Kd.bp j _) _) _) m o.out)).mono ?_;rintro e w1 ⟨v,rfl,r,hb⟩;have s:=zA ((af (af (af (ai w.heap.size w) _) _) _).trans (hb.mono (by simp;omega)));have b:=zA (au a.out.2.1 hb);have h:=zA (au a.out.2.2 hb);have B:w1.cell? ⟨w.heap.size+1,0,none⟩=some (.slice none 0 0):=(ah b.out 0).trans rfl;have D:w1.frozen? ⟨w.heap.size+1,0,none⟩=false:=bc b.out 0;have i:=zA (aH (p:=⟨w.heap.size+1,0,none⟩) h.out (by show w.heap.size+1+1≠w.heap.size+1;omega) (.slice none 0 0));have F:(w1.setCell ⟨w.heap.size+1,0,none⟩ (.slice none 0 0)).cell? ⟨w.heap.size+1+1,0,none⟩=some (.int .i64 0):=(ah i.out 0).trans rfl;have G:=bc i.out 0;clear r hb)
 obtain⟨c1,c2⟩:=Cc (.slice none 0 0) (.int .i64 t) b.out h.out;exact Cb rfl (qd (p:=4) (u:=5) rfl _ _ ⟨w.heap.size+1,0,none⟩ ⟨w.heap.size+1+1,0,none⟩ _ _ rfl rfl Tryz.underlying33 Tryz.underlying30 rfl rfl c1 c2) ⟨rfl,(s.out.setCell (p:=⟨w.heap.size+1,0,none⟩) (by show w.heap.size<=w.heap.size+1;omega) _).setCell (p:=⟨w.heap.size+1+1,0,none⟩) (by show w.heap.size<=w.heap.size+1+1;omega) _⟩
end
section
attribute [local go_sem] Oper.semAt_some
theorem Ce (k n:Nat) (A0:Option Addr) (c0:Nat) (E:List S83) (q:Nat) (l:List Int) (w:World) (aO:Kd.C aQ w A0 E.length E) (aP:E.length<=c0) (hf:gO.f k n E q=some (l,0)) (aS:(dQ n E q).length<=16384):
  Calls Tryz.prog 114 #[.agg #[.int .i64 n,.slice A0 E.length c0],.int .i64 q] w fun e w'=>∃v,e= .returned (.tuple #[v,.int .i64 0])/\(Kd.slice 3 (Kd.int .i64)).R 26 w' w.heap.size (fun _=>True) v (dQ n E q)/\Below w.heap.size w w':=by
 have hu:=Tryz.underlying24;obtain⟨hr,hm,an, -⟩:=uw hf;obtain⟨_,⟨_,hn⟩,_,cb,cc⟩:=j6 hr;have a0:n<=12:=by omega
 have cd:=zA (fun c (hc:gH n q c)=>BX hr an hc);have ce:Aside0 (∀(p:List Int) (x P:Nat),bJ n (ae E) q (p++(x:Int)::List.replicate P 0)=true->p.length+1+P=n->p.length≠q->x+1<nt):=⟨fun p x P h hp cg=>by
  have h1:=qc an a0 (v:=p.length) (by omega) cg h;have hx:rd (p++(x:Int)::List.replicate P 0) p.length=x:=by simp[rd,aN]
  rw[hx] at h1;show x+1<1000
  omega⟩
 have ci:=zA aS;have Hf:=zA hf;have m:=zA (l7 w (.cells #[.int .i64 n,.slice A0 E.length c0] 24) (.cells #[.slice none 0 0] 33) (.cells #[.int .i64 0] 30));have ck:(((w.alloc (.cells #[.int .i64 n,.slice A0 E.length c0] 24)).alloc (.cells #[.slice none 0 0] 33)).alloc (.cells #[.int .i64 0] 30)).cell? ⟨w.heap.size,0,none⟩=some (.int .i64 n):=(ah m.out.1 0).trans rfl;have cl:(((w.alloc (.cells #[.int .i64 n,.slice A0 E.length c0] 24)).alloc (.cells #[.slice none 0 0] 33)).alloc (.cells #[.int .i64 0] 30)).cell? ⟨w.heap.size,1,none⟩=some (.slice A0 E.length c0):=(ah m.out.1 1).trans rfl;clear hf hr hm an aS cb cc hn;refine(callsIn_wide (n:=10)).1 ?_;refine callsIn_of_wp_marks Tryz.func114 rfl trivial ?_ rfl;simp only[Tryz.ntmps114,List.size_toArray,List.length_cons,List.length_nil,Nat.reduceAdd,Nat.reduceSub,Array.replicate_succ,Array.replicate_zero,List.push_toArray,List.append_toArray,List.nil_append,List.cons_append];gi_wp2_with (first|(refine⟨trivial,?_⟩;gi_at_call 173;refine(callsIn_wide.2 (gO.calls k n A0 c0 E q l 0 _ (Kd.bp (Kd.bp (Kd.bp aO _) _) _) aP Hf.out)).mono ?_;rintro e w1 ⟨v,rfl,cn,hb⟩;have HB:=zA ((af (af (af (ai w.heap.size w) _) _) _).trans (hb.mono (by simp;omega)));have X0:=zA (au m.out.1 hb);have y:=zA (au m.out.2.1 hb);have J:=zA (au m.out.2.2 hb);have y0:(w1.alloc (.cells #[.slice none 0 0] 33)).cell? ⟨w.heap.size,0,none⟩=some (.int .i64 n):=(ah (aj X0.out _) 0).trans rfl;have y1:(w1.alloc (.cells #[.slice none 0 0] 33)).cell? ⟨w.heap.size,1,none⟩=some (.slice A0 E.length c0):=(ah (aj X0.out _) 1).trans rfl;clear cn hb)|(refine⟨trivial,?_⟩;gi_at_call 174;refine(callsIn_wide.2 (Ca n A0 c0 E q _)).mono ?_;rintro e w3 ⟨rfl,rfl⟩))
 have cs:w.heap.size+1+1<w1.heap.size:=ay J.out;have cy:=HB.out.size;obtain⟨Q,a2⟩:∃o:Obj,o= .cells #[.int .i64 n,.slice A0 E.length c0] 24:=⟨_,rfl⟩;obtain⟨S,a3⟩:∃o:Obj,o= .cells #[.int .i64 q] 3:=⟨_,rfl⟩;obtain⟨T,a4⟩:∃o:Obj,o= .cells #[.slice none 0 0] 33:=⟨_,rfl⟩;obtain⟨Z0,Z1,Z2⟩:=l7 w1 T Q S;have L:=zA (Z0.trans (by rw[a4]:_=some (.cells #[.slice none 0 0] 33 (0,0))));have U:=zA (Z1.trans (by rw[a2]:_=some (.cells #[.int .i64 n,.slice A0 E.length c0] 24 (0,0))));have V:=zA (Z2.trans (by rw[a3]:_=some (.cells #[.int .i64 q] 3 (0,0))));have X:=zA (af (af (af HB.out T) Q) S);have bd:=zA (aj (aj (aj y.out T) Q) S);have be:=zA (aj (aj (aj J.out T) Q) S);clear Z0 Z1 Z2;subst a2 a3 a4;clear y0 y1 ck cl X0 y J HB m;generalize (((w1.alloc (.cells #[.slice none 0 0] 33)).alloc (.cells #[.int .i64 n,.slice A0 E.length c0] 24)).alloc (.cells #[.int .i64 q] 3))=a at L U V X bd be⊢;have c2:=ay L.out;have c3:=ay U.out;have c4:=ay V.out;generalize c5:w1.heap.size+1+1=qx at V c4⊢;generalize c6:w1.heap.size+1=gx at U c3 c5⊢;generalize w1.heap.size=bo at L cs cy c2 c6⊢;have ea:=X.out.size;refine fR (σ:=Unit) (α:=List Int×Value) (F:=Fence.wide) (n:=10) rfl (by decide) (gf:=199) (lb:=#[.pointer (some ⟨gx,0,none⟩),.pointer (some ⟨qx,0,none⟩)]) rfl trivial (enters_of Tryz.func199 (by kernel_rfl) rfl)
  (fun o=>BZ (w0:=w) (B:=nt) (K:=k+20) (n:=n) (A0:=A0) (c0:=c0) (E:=E) (q:=q) (gx:=gx) (qx:=qx) (calm:=bJ n (ae E) q) _ (a.heap.size+2) (by simp) a0 aO aP cd.out ce.out (by decide) (by decide) ci.out (aj (aj U.out _) _) (aj (aj V.out _) _) (af (af X.out _) _)) (fun _=>rfl)
  (fun _=>True) ?dT ?st ?ar
  (fun _ pre W=>a.heap.size+2<=W.heap.size/\∃v,W.heap[bo]? =some (.cells #[v] 33 (0,0))/\W.heap[w.heap.size+1]? =some (.cells #[.slice none 0 0] 33 (0,0))/\W.heap[w.heap.size+1+1]? =some (.cells #[.int .i64 0] 30 (0,0))/\(Kd.slice 3 (Kd.int .i64)).R 26 W w.heap.size (fun k=>¬(k=gx\/k=qx\/a.heap.size+2<=k/\k<a.heap.size+2+4)) v (pre.map Prod.fst)/\Below w.heap.size w W) (fun _ _ _ _=>False)
  ?is (fun _ _ _ _ _ _ h _=>h) ?ib (fun _ _ _ _ _ h _=>h) ?kt ?h0 ?a1 ?assign ?body ?done (fun _ _ _ _ _ _ _ h=>h.elim)
 case assign=>
  intro l x W K hK;gi_wp2;exact hK
 case dT=>
  intro o s W1 h;exact⟨trivial,by rw[h];exact bI.refl _ _⟩
 case st=>intro s A B _ h k o h1 G g _;exact(h.block k (Array.getElem?_eq_some_iff.1 g).1 (fun e=>by injection e;omega)).trans g
 case ar=>intro s x A B _ h k o h1 G g _;exact(h.1.block k (Array.getElem?_eq_some_iff.1 g).1 (fun e=>by injection e;omega)).trans g
 case is=>
  rintro s pre A B _ ⟨M,v,h1,G,g,h4,Y⟩ H;exact⟨Nat.le_trans M H.size,v,(H.block bo (ay h1) (fun e=>by injection e;omega)).trans h1,(H.block _ (ay G) (fun e=>by injection e;omega)).trans G,(H.block _ (ay g) (fun e=>by injection e;omega)).trans g,Kd.fO h4 H (fun k hk e=>hk (.inr (.inr (by injection e;omega)))),ir Y _ Y.size H (fun k e=>by injection e;omega)⟩
 case ib=>
  rintro s pre A B ⟨M,v,h1,G,g,h4,Y⟩ hb;exact⟨by rw[hb.size];exact M,v,hb.cells h1,hb.cells G,hb.cells g,cC h4 hb,Y.trans (hb.below w.heap.size (by omega))⟩
 case kt=>
  intro s A B C D Z bf bg;refine⟨fun aG=>((Z.below w.heap.size (by omega)).trans (bf.1 (by rw[Z.size];exact aG))).trans (bg.below w.heap.size (by omega)),fun k hk aG=>?_⟩;have bi:k≠a.heap.size+1:=by rcases hk with rfl|rfl|hk<;>omega
  exact(bg.heap k bi).trans ((bf.2 k hk (by rw[Z.size];exact aG)).trans (Z.heap k bi))
 case h0=>
  rintro o s W1 rfl;exact⟨by simp,_,aj (aj L.out _) _,aj (aj bd.out _) _,aj (aj be.out _) _,Kd.c_ _ _ _ _ _,af (af X.out _) _⟩
 case body=>
  rintro l s pre ⟨xl,xv⟩ N W1 W _ ⟨M,v,i1,i2,i3,i4,i5⟩ ⟨z,aa,eg⟩ bn b;simp only at aa;obtain⟨Ax,cx,rfl⟩:=Kd.bE aa;have ek:N.heap.size<=W.heap.size:=by have:=b.size;have:=z.size;omega
  have b1:=zA (b.cells ((z.block bo (ay i1) (fun e=>by injection e;omega)).trans i1));have r:=zA (b.cells ((z.block _ (ay i2) (fun e=>by injection e;omega)).trans i2));have b3:=zA (b.cells ((z.block _ (ay i3) (fun e=>by injection e;omega)).trans i3));have b4:=zA (cC (Kd.fO i4 z (fun k hk e=>hk (.inr (.inr (by injection e;omega))))) b);have b5:=zA ((ir i5 _ i5.size z (fun k e=>by injection e;omega)).trans (b.below w.heap.size (by omega)));have bx:=zA (Kd.kr (Kd.bt (Kd.bj (ok':=fun k=>N.heap.size<=k) (Kd.dy (cC aa b)) (fun k hk=>hk.2.1)) i5.size));have bq:∀k,v.ownBlock=some k->k<N.heap.size:=fun k hk=>Kd.cF i4 k hk
  have bv:=zA bq;have dd:=zA (Kd.fP i4);clear i1 i2 i3 i4 i5 z aa b bq;obtain⟨Ar,cr,rfl⟩:=Kd.bE b4.out;have b0:(pre.map Prod.fst).length=pre.length:=by simp
  rw[b0] at b1 b4 bv dd;have hc:=cB b1.out;have hf:=bc b1.out 0;have el:(((pre.length:Nat):Int)==16384)=false:=by simp;omega
  have LN:Aside0 (((pre.map Prod.fst).length+1)*24<=140737488355328):=⟨by rw[b0];omega⟩;have ds:Aside0 (∀k,N.heap.size<=k->¬(k=gx\/k=qx\/a.heap.size+2<=k/\k<a.heap.size+2+4)/\some k≠(Value.slice Ar pre.length cr).ownBlock):=⟨fun k hk=>⟨by omega,fun e=>by have:=bv.out k e.symm;omega⟩⟩;have dv:Aside0 (∀k,W.heap.size<=k->¬(k=gx\/k=qx\/a.heap.size+2<=k/\k<a.heap.size+2+4)):=⟨fun k hk=>by omega⟩;gi_wp2_with (gi_at_builtin;go_loud (refine jd (Kd.slice 3 (Kd.int .i64)) (w0:=w) w.heap.size rfl (.tmp 26) (.tmp 28) 33 26 (.slice none 0 0) 24 rfl Tryz.underlying33 o9 rfl (by decide) (by omega) (.slice Ar pre.length cr) (pre.map Prod.fst) xl [.slice Ax xl.length cx] (fun k=>¬(k=gx\/k=qx\/a.heap.size+2<=k/\k<a.heap.size+2+4)) (fun k=>N.heap.size<=k) rfl rfl bx.out ds.out dv.out b4.out b5.out b5.out.size LN.out ?_;intro v1 em aF hb O dx;obtain⟨A1,c1,rfl⟩:=Kd.bE aF;have y:=zA ((O.block bo (ay b1.out) (Kd.cW b4.out b1.out (by decide))).trans b1.out);have J:=zA ((O.block _ (ay r.out) (Kd.cW b4.out r.out (by decide))).trans r.out);have I:=zA ((O.block _ (ay b3.out) (Kd.cW b4.out b3.out (by decide))).trans b3.out);have er:=cB y.out;have es:=bc y.out 0;have d0:=zA aF;have d1:=zA hb;have ag:=zA O;clear aF hb O dx))
  refine⟨(lN b4.out ag.out).trans (eu _ _ (ay L.out)),⟨fun aG=>Below.setCell ((ai w.heap.size W).grown ag.out aG (Kd.ee b4.out)) (by show w.heap.size<=bo;omega) _,fun k hk d2=>?_⟩,by have:=ag.out.size;simp;omega,.slice A1 (pre.length+1) c1,by simpa using bB y.out 0 (.slice A1 (pre.length+1) c1),aH J.out (by show w.heap.size+1≠bo;omega) _,aH I.out (by show w.heap.size+1+1≠bo;omega) _,?_,dz d1.out (by show w.heap.size<=bo;omega)⟩
  ·have d3:k≠bo:=by rcases hk with rfl|rfl|hk<;>omega
   rw[Below.heap_setCell _ _ _ _ d3];exact ag.out.block k d2 (fun e=>(b4.out.1 k e.symm) hk)
  ·have h:=Kd.ep d0.out y.out (by decide) 0 (.slice A1 (pre.length+1) c1)
   simpa using h
 case done=>
  rintro s xs W W' _ b6 ⟨M,v,i1,i2,i3,i4,i5⟩ b b_;obtain⟨i,j,hv⟩:=Kd.bE i4;rw[List.length_map] at hv;subst hv;have b1:=zA (b.cells i1);have r:=zA (b.cells i2);have b3:=zA (b.cells i3);have b4:=zA (cC i4 b);have b5:=zA (i5.trans (b.below w.heap.size (by omega)));have d4:=zA b_;have m:=zA (show xs.map Prod.fst=dQ n E q from b6);clear i1 i2 i3 i4 i5 b_ b6 b;have hc:=cB b1.out;have q1:W'.cell? ⟨w.heap.size+1,0,none⟩=some (.slice none 0 0):=(ah r.out 0).trans rfl;have q2:W'.frozen? ⟨w.heap.size+1,0,none⟩=false:=bc r.out 0;have I:=zA (aH (p:=⟨w.heap.size+1,0,none⟩) b3.out (by show w.heap.size+1+1≠w.heap.size+1;omega) (.slice i xs.length j));have q3:(W'.setCell ⟨w.heap.size+1,0,none⟩ (.slice i xs.length j)).cell? ⟨w.heap.size+1+1,0,none⟩=some (.int .i64 0):=(ah I.out 0).trans rfl;have q4:=bc I.out 0;have Y1:=zA (aH (p:=⟨w.heap.size+1+1,0,none⟩) (bB r.out 0 (.slice i xs.length j)) (by show w.heap.size+1≠w.heap.size+1+1;omega) (.int .i64 0));have Y2:=zA (bB I.out 0 (.int .i64 0));have bn:w.heap.size+1≠a.heap.size:=by omega
  have d7:w.heap.size+1+1≠a.heap.size:=by omega
  have Y3:=zA (show ((W'.setCell ⟨w.heap.size+1,0,none⟩ (.slice i xs.length j)).setCell ⟨w.heap.size+1+1,0,none⟩ (.int .i64 0)).heap[a.heap.size]? =some (.deferred (some [])) from by rw[Below.heap_setCell _ _ _ _ (fun e=>d7 e.symm),Below.heap_setCell _ _ _ _ (fun e=>bn e.symm)];exact d4.out);have Y4:=zA (Kd.ep (Kd.ep b4.out r.out (by decide) 0 (.slice i xs.length j)) I.out (by decide) 0 (.int .i64 0));have Y5:=zA ((b5.out.setCell (p:=⟨w.heap.size+1,0,none⟩) (by show w.heap.size<=w.heap.size+1;omega) (.slice i xs.length j)).setCell (p:=⟨w.heap.size+1+1,0,none⟩) (by show w.heap.size<=w.heap.size+1+1;omega) (.int .i64 0));gi_wp2_with fail
  have ak:Bk a.heap.size ((W'.setCell ⟨w.heap.size+1,0,none⟩ (.slice i xs.length j)).setCell ⟨w.heap.size+1+1,0,none⟩ (.int .i64 0)) (((W'.setCell ⟨w.heap.size+1,0,none⟩ (.slice i xs.length j)).setCell ⟨w.heap.size+1+1,0,none⟩ (.int .i64 0)).putObj a.heap.size (.deferred none)):=⟨_,_,Y3.out,rfl,rfl⟩;refine iB (D:=a.heap.size) rfl Y3.out (qd (p:=4) (u:=5) rfl _ _ ⟨w.heap.size+1,0,none⟩ ⟨w.heap.size+1+1,0,none⟩ (.slice i xs.length j) (.int .i64 0) rfl rfl Tryz.underlying33 Tryz.underlying30 rfl rfl ((ah (ak.cells Y1.out) 0).trans (by simp)) ((ah (ak.cells Y2.out) 0).trans (by simp))) ⟨_,rfl,?_,Y5.out.trans (ak.below w.heap.size (by omega))⟩;rw[<-m.out];exact Kd.bj (cC Y4.out ak) (fun _ _=>trivial)
theorem hU.calls (k:Nat) (b:Int) (g:Option Addr) (i:Nat) (a:List (S83)) (j:Int) (r:List (List Int)) (s:Int) (w:World) (u:Kd.C aQ w g a.length a) (x:a.length<=i) (h:hU.f k b a j=some (r,s)):
  Calls Tryz.prog 114 #[.agg #[.int .i64 b,.slice g a.length i],.int .i64 j] w fun e w'=>∃y:Value,e= .returned (.tuple #[y,.int .i64 s])/\Kd.N (Kd.slice 3 (Kd.int .i64)) 26 w' w.heap.size (fun z=>(w.heap.size<=z)) y r/\Below w.heap.size w w':=by
 unfold hU.f at h;obtain⟨⟨l,t⟩,o,H⟩:=Option.bind_eq_some_iff.mp h;simp only at H;by_cases p:t=0
 ·subst p
  rw[if_pos rfl] at H;by_cases m:(dQ b.toNat a j.toNat).length<=16384
  ·rw[if_pos m] at H
   simp only[Option.some.injEq,Prod.mk.injEq] at H;obtain⟨rfl,rfl⟩:=H;obtain⟨B, -, -, -⟩:=uw o;obtain⟨_,⟨D,G⟩,_,E,_⟩:=j6 B;obtain⟨n,rfl⟩:=Int.eq_ofNat_of_zero_le D;obtain⟨q,rfl⟩:=Int.eq_ofNat_of_zero_le E;rw[aq,aq] at m⊢;refine(Ce k n g i a q l w u x o m).mono ?_;rintro e w' ⟨v,rfl,h1,F⟩;exact⟨v,rfl,Kd.lE (Kd.bj (Kd.dy h1) (fun k hk=>hk.2.1)),F⟩
  ·rw[if_neg m] at H;cases H
 ·rw[if_neg p] at H
  simp only[Option.some.injEq,Prod.mk.injEq] at H;obtain⟨rfl,rfl⟩:=H;refine(Cd k b g i a j l t w u x o p).mono ?_;rintro e w' ⟨rfl,hb⟩;exact⟨_,rfl,Kd.lE (Kd.c_ _ _ _ _ _),hb⟩
end
def ny (qx gx:Nat) (row:Option Nat) (a:World) (l:List (List Int)) (del:List Int->Bool):Prop:=
 ∀(W':World) (A0:Option Addr) (c0:Nat) (x:List Int),a.grownBy W' row->x∈l->x.length<=c0->Kd.C (Kd.int .i64) W' A0 x.length x->
  Calls Tryz.prog 116 #[.slice A0 x.length c0,.pointer (some ⟨qx,0,none⟩),.pointer (some ⟨gx,0,none⟩)] W' fun e w'=>e= .returned (.bool (del x))/\Below W'.heap.size W' w'
theorem ux {l:List (List Int)} {i:Nat} (h:i<l.length):aZ l i∈l:=by
 have e:aZ l i=l[i]:=by simp[aZ,aN,br h]
 rw[e];exact List.getElem_mem h
theorem uy (qx gx base:Nat) (row:Option Nat) (A:Option Addr) (cap:Nat) (ok:Nat->Prop) (l:List (List Int)) (del:List Int->Bool) (o W:World) (p:Kd.N (Kd.slice 3 (Kd.int .i64)) 26 W base ok (.slice A l.length cap) l) (q:o.grownBy W row) (s:ny qx gx row o l del):
  Calls Tryz.prog 175 #[.slice A l.length cap,.func (.func 116) #[] #[.pointer (some ⟨qx,0,none⟩),.pointer (some ⟨gx,0,none⟩)]] W fun e w'=>∃r:Int,e= .returned (.int .i64 r)/\((r= -1/\∀j:Nat,j<l.length->del (aZ l j)=false)\/∃i:Nat,r=i/\i<l.length/\del (aZ l i)=true/\∀j:Nat,j<i->del (aZ l j)=false)/\Below W.heap.size W w':=by
 have x:=zA p;have y:=zA q;have z:=zA s;clear p q s;go_enter Tryz.func175,Tryz.ntmps175
 go_wp2;go_loopw [8] (fun i wr=>∃k:Nat,k<=l.length/\i= .int .i64 k/\Aside0 (∀j:Nat,j<k->del (aZ l j)=false)/\Aside0 (Below W.heap.size W wr)) (fun i _=>l.length- (intOf i).toNat)
 case atStart=>exact⟨0,by omega,rfl,⟨fun j B=>by omega⟩,⟨ai _ _⟩⟩
 case round=>
  obtain⟨k,hk,rfl,h,a⟩:=hrel;by_cases u:k<l.length
  ·obtain⟨-,C,hC⟩:=Kd.jM (Kd.gz x.out a.out)
   obtain⟨ad,D,cc,rfl,E,v,w⟩:=mU hC k (by omega) (by omega);rw[aq] at E;have g:=zA (z.out wr D cc (aZ l k) (y.out.trans (gh a.out _)) (ux u) v w);have F:=zA (rfl:aZ l k=aZ l k);have G:(0:Int)<=(k:Int):=by omega
   have H:(k:Int)<(l.length:Int):=by omega
   have I:l.length<=9223372036854775807:=Kd.lr hC;clear hC w v C;cases hb:del (aZ l k) with
   |true=>
    rw[hb] at g;have m:=zA hb;clear hb;go_wp2_with (go_at_call 116;refine g.out.mono ?_;rintro e w1 ⟨rfl,b⟩;have n:=zA b;clear b)
    go_ret;exact⟨k,rfl,.inr ⟨k,rfl,u,m.out,h.out⟩,a.out.trans (n.out.mono a.out.size)⟩
   |false=>
    rw[hb] at g;have m:=zA hb;clear hb;go_wp2_with (go_at_call 116;refine g.out.mono ?_;rintro e w1 ⟨rfl,b⟩;have n:=zA b;clear b)
    go_roundw
    case rel=>exact⟨k+1,by omega,by go_num,⟨fun j B=>by
     by_cases e:j=k
     ·subst e;exact m.out
     ·exact h.out j (by omega)⟩,⟨a.out.trans (n.out.mono a.out.size)⟩⟩
    case measure=>exact(show l.length- ((k:Int)+1).toNat<l.length- ((k:Int)).toNat by omega)
  ·obtain rfl:k=l.length:=by omega
   go_wp2;go_ret;exact⟨-1,rfl,.inl ⟨rfl,h.out⟩,a.out⟩
theorem Cf {ys:List (List Int)} {i m:Nat} (h:i≠m) (x:List Int):aZ (ys.set i x) m=aZ ys m:=by
 simp[aZ,aN,List.getElem?_set,h]
theorem Cg (i:Nat):((i:Int)== -1)=false:=by
 rw[beq_eq_false_iff_ne];omega
theorem uz {l:List (List Int)} {j:Nat} (h:j<l.length):l.take (j+1)=l.take j++[aZ l j]:=by
 rw[List.take_succ_eq_append_getElem h];simp[aZ,aN,br h]
theorem Ch {ys:List (List Int)} {i:Nat} (h:i<ys.length) (x:List Int):(ys.set i x).take (i+1)=ys.take i++[x]:=by
 rw[List.take_succ_eq_append_getElem (by simpa using h)];simp[List.take_set_of_le]
theorem Ci {l:List (List Int)} {del:List Int->Bool} {j:Nat} (h:j<l.length):(l.take (j+1)).filter (fun x=> !del x)=(l.take j).filter (fun x=> !del x)++(if del (aZ l j) then[] else[aZ l j]):=by
 rw[uz h,List.filter_append];cases hd:del (aZ l j)<;>simp[hd]
theorem Cj (w:World):(zeroValue 26).run Tryz.prog w= .ok (.slice none 0 0) w:=by kernel_rfl
theorem Ck {l:List (List Int)} {del:List Int->Bool} {i:Nat} (h1:del (aZ l i)=true) (b:∀j:Nat,j<i->del (aZ l j)=false) (h:i<l.length):l.take i=(l.take (i+1)).filter fun x=> !del x:=by
 rw[uz h,List.filter_append];rw[show[aZ l i].filter (fun x=> !del x)=[] by simp[h1],List.append_nil];symm
 rw[List.filter_eq_self];intro x g;obtain⟨j,k,rfl⟩:=List.mem_take_iff_getElem.1 g;have a:=b j (by omega);have e:aZ l j=l[j]'(by omega):=by simp[aZ,aN,br (by omega:j<l.length)]
 rw[e] at a;simp[a]
theorem nz {W:World} {base g0 n cap:Nat} {ok:Nat->Prop} {ys:List (List Int)} {x:List Int} {v:Value} {i:Nat} (h:Kd.N (Kd.slice 3 (Kd.int .i64)) 26 W base ok (.slice (some ⟨g0,0,none⟩) n cap) ys) (l:Kd.FK (Kd.slice 3 (Kd.int .i64)) W (fun k=>ok k/\k≠g0) x [v]) (hi:i<n):
  (∃u,W.cell? ⟨g0,i,none⟩=some u)/\W.frozen? ⟨g0,i,none⟩=false/\Kd.N (Kd.slice 3 (Kd.int .i64)) 26 (W.setCell ⟨g0,i,none⟩ v) base ok (.slice (some ⟨g0,0,none⟩) n cap) (ys.set i x)/\W.grownBy (W.setCell ⟨g0,i,none⟩ v) (some g0):=by
 obtain⟨c,b, -,a,m⟩:=Kd.oU h [] (i:Int) (by omega) (by omega);obtain⟨u,rfl⟩:∃u,c=[u]:=List.length_eq_one_iff.1 b;have e:=Kd.yw h (i:Int) (by omega) (by omega) (c:=[u]) (seg:=[v]) (j:=0) (x':=x) (okp:=fun k=>ok k/\k≠g0) b a (by simp[Kd.slice]) (by simpa using l) (fun k hk=>hk);rw[aq] at a e;have o:=a 0 u rfl;have g:=m 0;rw[aq] at g;refine⟨⟨u,by simpa [Kd.slice] using o⟩,by simpa [Kd.slice] using g,?_⟩;simpa [Kd.slice,World.setCells] using e
theorem Cl {base g0 n cap:Nat} {ok:Nat->Prop}:∀(m i:Nat) (W:World) (ys:List (List Int)),i+m=n->ys.length=n->Kd.N (Kd.slice 3 (Kd.int .i64)) 26 W base ok (.slice (some ⟨g0,0,none⟩) n cap) ys->
  ∃zs:List (List Int),zs.length=n/\zs.take i=ys.take i/\Kd.N (Kd.slice 3 (Kd.int .i64)) 26 (W.setCells g0 i (List.replicate m (.slice none 0 0))) base ok (.slice (some ⟨g0,0,none⟩) n cap) zs/\W.grownBy (W.setCells g0 i (List.replicate m (.slice none 0 0))) (some g0):=by
 intro m;induction m with
 |zero=>intro i W ys _ a h;exact⟨ys,a,rfl,h,⟨rfl,rfl,rfl,aM _,fun _ _ _=>rfl⟩⟩
 |succ m e=>
  intro i W ys hi a h;obtain⟨-, -,h1,g⟩:=nz (x:=[]) (v:=.slice none 0 0) (i:=i) h (fun W' _=>⟨none,0,rfl,aM _,Kd.oE _ _⟩) (by omega);obtain⟨zs,z1,z2,z3,z4⟩:=e (i+1) _ (ys.set i []) (by omega) (by rw[List.length_set];exact a) h1;refine⟨zs,z1,?_,by rw[List.replicate_succ,World.setCells];exact z3,by rw[List.replicate_succ,World.setCells];exact g.trans z4⟩;have b:=congrArg (List.take i) z2;rw[List.take_take,List.take_take,show min i (i+1)=i by omega] at b;rw[b,List.take_set_of_le (aM i)]
theorem Cm (qx gx base g0 cap:Nat) (ok:Nat->Prop) (l:List (List Int)) (del:List Int->Bool) (y W:World) (g:Kd.N (Kd.slice 3 (Kd.int .i64)) 26 W base ok (.slice (some ⟨g0,0,none⟩) l.length cap) l) (z:y.grownBy W (some g0)) (B:ny qx gx (some g0) y l del) (hex:∃j:Nat,j<l.length/\del (aZ l j)=true):
  Calls Tryz.prog 115 #[.slice (some ⟨g0,0,none⟩) l.length cap,.func (.func 116) #[] #[.pointer (some ⟨qx,0,none⟩),.pointer (some ⟨gx,0,none⟩)]] W fun e w'=>∃m:Nat,e= .returned (.slice (some ⟨g0,0,none⟩) m cap)/\m=(l.filter fun x=> !del x).length/\Kd.N (Kd.slice 3 (Kd.int .i64)) 26 w' base ok (.slice (some ⟨g0,0,none⟩) m cap) (l.filter fun x=> !del x)/\W.grownBy w' (some g0):=by
 have HN:=zA g;have ao:=zA z;have HD:=zA B;have ar:=zA hex;have J:Aside0 (Calls Tryz.prog 175 #[.slice (some ⟨g0,0,none⟩) l.length cap,.func (.func 116) #[] #[.pointer (some ⟨qx,0,none⟩),.pointer (some ⟨gx,0,none⟩)]] W fun e w'=>∃i:Nat,e= .returned (.int .i64 i)/\i<l.length/\del (aZ l i)=true/\(∀j:Nat,j<i->del (aZ l j)=false)/\Below W.heap.size W w'):=⟨(uy qx gx base (some g0) (some ⟨g0,0,none⟩) cap ok l del y W g z B).mono (by
  rintro e w' ⟨r,rfl,h|⟨i,rfl,h1,h2,h3⟩,hb⟩
  ·obtain⟨j,k,K⟩:=hex
   rw[h.2 j k] at K;cases K
  ·exact⟨i,rfl,h1,h2,h3,hb⟩)⟩
 obtain⟨-,a2,L⟩:=Kd.jM g;have a3:l.length<=9223372036854775807:=Kd.lr L;clear g z B hex L;go_enter Tryz.func115,Tryz.ntmps115
 go_wp2_with (go_at_call 175;refine J.out.mono ?_;rintro e w1 ⟨i0,rfl,M,O,Q,hb⟩;have R:=zA O;have S:=zA Q;have C:=zA hb;have aF:=Cg i0;clear O Q hb)
 have T:=zA (Ck R.out S.out M);have U:=zA (gh C.out (some g0));have V:=zA (Kd.gz HN.out C.out);clear J R S C ar aF;go_loopw [5,6] (fun ii D wr=>∃(i j:Nat) (ys:List (List Int)),i<j/\j<=l.length/\ii= .int .i64 i/\D= .int .i64 j/\Aside0 (ys.length=l.length)/\Aside0 (ys.take i=(l.take j).filter fun x=> !del x)/\Aside0 (∀m:Nat,j<=m->aZ ys m=aZ l m)/\Aside0 (Kd.N (Kd.slice 3 (Kd.int .i64)) 26 wr base ok (.slice (some ⟨g0,0,none⟩) l.length cap) ys)/\Aside0 (W.grownBy wr (some g0))) (fun _ D _=>l.length- (intOf D).toNat)
 case atStart=>exact⟨i0,i0+1,l,by omega,by omega,rfl,by go_num,⟨rfl⟩,T,⟨fun _ _=>rfl⟩,V,U⟩
 case round=>
  clear T U V;obtain⟨i,j,ys,a4,k,rfl,rfl,n,E,F,b,o⟩:=hrel;by_cases X:j<l.length
  ·obtain⟨c,G,p,H, -⟩:=Kd.oU b.out [] (j:Int) (by omega) (by omega)
   rw[show ys.getD (j:Int).toNat []=aZ l j from F.out j (aM _)] at p;rw[aq] at H;obtain⟨Y,Z,rfl,hle,hF⟩:=Kd.mO p;have a5:wr.cell? ⟨g0,j,none⟩=some (.slice Y (aZ l j).length Z):=by have h:=H 0 _ rfl;simpa [Kd.slice] using h
   have q:=zA (HD.out wr Y Z (aZ l j) (ao.out.trans o.out) (ux X) hle (Kd.oR hF));have aL:=zA p;have a9:(0:Int)<=(j:Int):=by omega
   have bb:(j:Int)<(l.length:Int):=by omega
   have bd:(0:Int)<=(i:Int):=by omega
   have aO:(i:Int)<(l.length:Int):=by omega
   have s:=zA (show (l.take (j+1)).filter (fun x=> !del x)=(l.take j).filter (fun x=> !del x)++(if del (aZ l j) then[] else[aZ l j]) from Ci X);have be:=zA (show ∃x,x=aZ l j from⟨_,rfl⟩);clear G p H hle hF;cases hb:del (aZ l j) with
   |true=>
    rw[hb] at q s;clear hb;go_wp2_with (go_at_call 116;refine q.out.mono ?_;rintro e w2 ⟨rfl,a⟩;have w:=zA a;clear a)
    go_roundw
    case rel=>exact⟨i,j+1,ys,by omega,by omega,rfl,by go_num,n,⟨by rw[s.out,E.out];simp⟩,⟨fun m hm=>F.out m (by omega)⟩,⟨Kd.gz b.out w.out⟩,⟨o.out.trans (gh w.out _)⟩⟩
    case measure=>exact(show l.length- ((j:Int)+1).toNat<l.length- ((j:Int)).toNat by omega)
   |false=>
    rw[hb] at q s;clear hb;go_wp2_with (go_at_call 116;refine q.out.mono ?_;rintro e w2 ⟨rfl,a⟩;obtain⟨q1,q2,I⟩:=nz (Kd.gz b.out a) (Kd.yi aL.out a) (show i<l.length by omega);have w:=zA a;have aP:=zA I.1;have aS:=zA I.2;obtain⟨q0,q1⟩:=q1;clear I a)
    go_roundw
    case rel=>exact⟨i+1,j+1,ys.set i (aZ l j),by omega,by omega,by go_num,by go_num,⟨by rw[List.length_set];exact n.out⟩,⟨by rw[Ch (by rw[n.out];omega),s.out,E.out];simp⟩,⟨fun m hm=>by rw[Cf (by omega)];exact F.out m (by omega)⟩,aP,⟨(o.out.trans (gh w.out _)).trans aS.out⟩⟩
    case measure=>exact(show l.length- ((j:Int)+1).toNat<l.length- ((j:Int)).toNat by omega)
  ·obtain rfl:j=l.length:=by omega
   have G:=Lib.run_clear_slice (P:=Tryz.prog) wr 33 26 0 (.slice none 0 0) Tryz.underlying33 Cj rfl rfl g0 i (l.length-i) (cap-i) (by omega) (fun j k=>by
    obtain⟨⟨u,hu⟩, -⟩:=nz (x:=[]) (v:=.slice none 0 0) (i:=i+j) b.out (fun W' _=>⟨none,0,rfl,aM _,Kd.oE _ _⟩) (by omega);rw[hu];rfl) (fun j k=>(nz (x:=[]) (v:=.slice none 0 0) (i:=i+j) b.out (fun W' _=>⟨none,0,rfl,aM _,Kd.oE _ _⟩) (by omega)).2.1)
   obtain⟨zs,z1,z2,z3,z4⟩:=Cl (l.length-i) i wr ys (by omega) n.out b.out;have ad:=zA z1;have a0:=zA z2;have ag:=zA z3;have ak:=zA z4;have M:(0:Int)<=(i:Int):=by omega
   have aO:(i:Int)<=(l.length:Int):=by omega
   have bg:(i:Int)<=(cap:Int):=by omega
   have bi:¬cap=i:=by omega
   clear z1 z2 z3 z4;generalize wr.setCells g0 i (List.replicate (l.length-i) (.slice none 0 0))=w9 at G ag ak;go_wp2;go_ret;have am:(l.filter fun x=> !del x)=zs.take i:=by
    have h:=E.out;rw[List.take_length] at h;rw[<-h,a0.out]
   have a1:i=(l.filter fun x=> !del x).length:=by rw[am,List.length_take,ad.out];omega
   refine⟨i,rfl,a1,?_,o.out.trans ak.out⟩;rw[am];exact Kd.yv ag.out (by rw[ad.out];omega)
theorem filter_none {l:List (List Int)} {del:List Int->Bool} (h:∀j:Nat,j<l.length->del (aZ l j)=false):(l.filter fun x=> !del x)=l:=by
 rw[List.filter_eq_self];intro x g;obtain⟨j,a,rfl⟩:=List.mem_iff_getElem.1 g;have b:=h j a;have e:aZ l j=l[j]:=by simp[aZ,aN,br a]
 rw[e] at b;simp[b]
theorem Cn (qx gx base:Nat) (row:Option Nat) (A:Option Addr) (cap:Nat) (ok:Nat->Prop) (l:List (List Int)) (del:List Int->Bool) (a W:World) (b:Kd.N (Kd.slice 3 (Kd.int .i64)) 26 W base ok (.slice A l.length cap) l) (g:a.grownBy W row) (k:ny qx gx row a l del) (hex:∀j:Nat,j<l.length->del (aZ l j)=false):
  Calls Tryz.prog 115 #[.slice A l.length cap,.func (.func 116) #[] #[.pointer (some ⟨qx,0,none⟩),.pointer (some ⟨gx,0,none⟩)]] W fun e w'=>e= .returned (.slice A l.length cap)/\Below W.heap.size W w':=by
 have n:Aside0 (Calls Tryz.prog 175 #[.slice A l.length cap,.func (.func 116) #[] #[.pointer (some ⟨qx,0,none⟩),.pointer (some ⟨gx,0,none⟩)]] W fun e w'=>e= .returned (.int .i64 (-1))/\Below W.heap.size W w'):=⟨(uy qx gx base row A cap ok l del a W b g k).mono (by
  rintro e w' ⟨r,rfl,⟨rfl,h⟩|⟨i,rfl,h1,m,p⟩,hb⟩
  ·exact⟨rfl,hb⟩
  ·rw[hex i h1] at m;cases m)⟩
 clear b g k hex;go_enter Tryz.func115,Tryz.ntmps115
 go_wp2_with (go_at_call 175;refine n.out.mono ?_;rintro e w1 ⟨rfl,hb⟩;have o:=zA hb;clear hb)
 go_ret;exact⟨rfl,o.out⟩
def du.l0:Nat->Int->List Int->Int->Int->List (S83)->Option (List Int)
 |0,_,_,_,_,_=>none
 |k+1,x1,x2,x3,a,b=>(fp.f k a b x1 x2).bind fun e=>(if e=true then(if 0<=x3 then(if x3<(x2.length:Int) then(du.l0 k x1 (x2.set (x3:Int).toNat (wrap64 ((rd x2 x3)+1))) x3 a b) else(none)) else(none)) else(if 0<=x3 then(if x3<(x2.length:Int) then(some (x2.set (x3:Int).toNat (wrap64 ((rd x2 x3)-1)))) else(none)) else(none)))
def du.f (k:Nat) (b:Int) (e:List (S83)) (g:Int) (l2:List Int) (a3:Int):Option (List Int):=(fb.f l2).bind fun a=>(if 0<=a3 then(if a3<(a.length:Int) then(du.l0 k g (a.set (a3:Int).toNat (wrap64 ((rd a a3)+1))) a3 b e) else(none)) else(none))
theorem du.calls (k:Nat) (m:Int) (u:Option Addr) (x:Nat) (j:List (S83)) (o:Int) (U:Option Addr) (c2:Nat) (l2:List Int) (a3:Int) (r:List Int) (w:World) (a4:Kd.C aQ w u j.length j) (a5:j.length<=x) (a9:Kd.C (Kd.int .i64) w U l2.length l2) (bb:l2.length<=c2) (h:du.f k m j o l2 a3=some r):
  Calls Tryz.prog 117 #[.agg #[.int .i64 m,.slice u j.length x],.int .i64 o,.slice U l2.length c2,.int .i64 a3] w fun e w'=>∃bd:Value,e= .returned (bd)/\Kd.R (Kd.int .i64) 3 w' w.heap.size (fun _=>True) bd r/\Below w.heap.size w w':=by
 have cs:=Tryz.underlying24;have be:=zA a4;have bf:=zA a5;clear a4 a5;have b4:=zA a9;have b5:=zA bb;clear a9 bb;have i:=zA (ai w.heap.size w);unfold du.f at h;have H:=h;clear h;obtain⟨n,A5,H⟩:=zo H;by_cases D:0<=a3
 ·rw[if_pos D] at H
  have b_:=aA D;clear D;by_cases E:a3<(n.length:Int)
  ·rw[if_pos E] at H
   have b':=aA E;clear E;obtain⟨V,W⟩:∃B:List Int,B=(n.set (a3:Int).toNat (wrap64 ((rd n a3)+1))):=⟨_,rfl⟩;replace H:(du.l0 k o V a3 m j)=some r:=zh W H;have ca:=zA W;clear W;have F:=zA H;clear H;go_enter Tryz.func117,Tryz.ntmps117
   go_wp2_with (first|((with_reducible refine aX (N:=4) rfl ?_);refine zX 4 #[.int .i64 m,.slice u j.length x] 24 ?_;intro cb hg w9 bg hb;have g:=zA (bg);have cx:=zG i hg;have cy:=zG i hg;replace i:=zS i hb;clear hb bg hg)|((with_reducible refine aT (f:=57) rfl ?_);refine zL (some 10) Tryz.func57 #[.slice U l2.length c2] ?_;(with_reducible refine(fb.calls _ _ l2 n _ ?aw ?ax A5.out).mono ?_);(case aw=>exact Kd.al b4.out zB);(case ax=>exact b5.out);rintro e bi ⟨c0,rfl,bk,hb⟩;refine⟨_,rfl,?_⟩;have q:=zA (Kd.bt bk (cX zB));replace g:=zb g hb;replace i:=zS i hb;(try clear hb);(try clear bk);obtain⟨c1,y,cc⟩:=Kd.bE q.out;subst cc;have G:0<=(a3:Int):=aD ‹_›;have I:a3<(n.length:Int):=aD ‹_›;obtain⟨c3,cd,bn⟩:=Kd.cP (Kd.a8 q.out).2.2 a3 G I;cases cd;replace G:=eq_true G;replace I:=eq_true I;have J:0<=(a3:Int):=aD ‹_›;have K:(a3:Int)<((n.length:Int):Int):=aD ‹_›;obtain⟨l,c4,bo,bq,ce,c5,bv⟩:=Kd.fB q.out (by omega);(first|cases bo|(injection bo with L cg ch;(first|subst L|(injection L with L;subst L));subst ch;clear cg));have X:=zA bq;have c8:=zA bv;clear bq ce bv;(first|simp only[add_plain] at bn|skip);obtain⟨ci,c9⟩:=Kd.bG 0 q.out (a3:Int) J K;replace J:=eq_true J;replace K:=eq_true K;obtain⟨c',dd⟩:=Kd.bG 0 q.out (a3:Int) (aD ‹_›) (aD ‹_›);have Y:=Kd.cY q.out (a3:Int) (wrap64 ((rd n a3)+1)))|((with_reducible refine iY (t:=3) (p:=16) rfl ?_);refine iX (t:=3) (p:=16) (v:=?F9) (w1:=(bi.setCell ⟨l,(a3:Int).toNat,none⟩ (.int .i64 (wrap64 ((rd n a3)+1))))) ?hg ?ho ?hn ?hr ?_;(case ho=>rfl);(case hg=>rfl);(case hn=>rfl);(case hr=>first|(go_simp;done)|(go_simp;rfl));intro Z hw;have hg:bi.grownBy Z (some l):=(by rw[hw];exact Y.2);have s:Kd.R (Kd.int .i64) 3 Z w.heap.size (fun _=>True) (.slice (some ⟨l,0,none⟩) n.length y) V:=(by rw[hw,ca.out];exact Y.1);clear Y;replace g:=zA (cZ (zK g) hg (Kd.cW q.out g.out (by decide)));replace q:=zA (s);replace i:=zA ((by rw[hw];exact dz (i.out) X.out:Below w.heap.size w Z));clear hg hw s))
   go_loopg [] k (fun kq w'=>∃(b:List Int),Aside0 (du.l0 kq o b a3 m j=some r)/\Aside0 (kq<=k)/\Aside0 (Kd.R (Kd.int .i64) 3 w' w.heap.size (fun _=>True) (.slice (some ⟨l,0,none⟩) n.length y) b)/\Aside0 (w'.heap[cb]? =some (.cells #[.int .i64 m,(.slice u j.length x)] 24 (0,0)))/\Aside0 (Below w.heap.size w w'))
   case atStart=>exact⟨(V),F,⟨aM _⟩,⟨zR q⟩,⟨zK g⟩,⟨zB⟩⟩
   case round=>
    clear F;clear b_ b' J K bn ci G I;obtain⟨b,HA,bx,a,g,i⟩:=hrel;have z:=(Kd.a8 a.out).1;rw[z] at a
    (try simp only[z])
    (try simp only[z] at g)
    cases gk with
    |zero=>exact absurd HA.out (by simp[du.l0])
    |succ M=>
     have H:=HA.out;clear HA;simp only[du.l0] at H;obtain⟨cj,b0,H⟩:=zo H;by_cases O:cj=true
     ·subst O
      replace H:=zi H;by_cases P:0<=a3
      ·rw[if_pos P] at H
       have dl:=aA P;clear P;by_cases Q:a3<(b.length:Int)
       ·rw[if_pos Q] at H
        have ds:=aA Q;clear Q;obtain⟨ad,ag⟩:∃B:List Int,B=(b.set (a3:Int).toNat (wrap64 ((rd b a3)+1))):=⟨_,rfl⟩;replace H:(du.l0 M o ad a3 m j)=some r:=zh ag H;have ck:=zA ag;clear ag;have F:=zA H;clear H;obtain⟨dv,dx,d0,d1⟩:=aE g;go_wp2_with (first|((with_reducible refine aT (f:=176) rfl ?_);refine zL (some 20) Tryz.func176 #[.agg #[.int .i64 m,.slice u j.length x],.int .i64 o,.slice (some ⟨l,0,none⟩) b.length y] ?_;(with_reducible refine(fp.calls M m _ _ j o _ _ b true _ ?aw ?ax ?dk ?dm b0.out).mono ?_);(case aw=>exact Kd.al be.out zB);(case ax=>exact bf.out);(case dk=>exact zC (Kd.a8 a.out).2.2);(case dm=>exact(Kd.a8 a.out).2.1);rintro e b1 ⟨rfl,hb⟩;refine⟨_,rfl,?_⟩;replace a:=lH a hb;replace g:=zb g hb;replace i:=zS i hb;(try clear hb);have ak:0<=(a3:Int):=aD ‹_›;have am:a3<(b.length:Int):=aD ‹_›;obtain⟨cl,cn,an⟩:=Kd.cP (Kd.a8 a.out).2.2 a3 ak am;obtain rfl:(⟨l,0,none⟩:Addr)=cl:=(by injection cn);(first|simp only[add_plain] at an|simp only[gw] at an|simp only[Addr.add,Nat.zero_add] at an|skip);replace ak:=eq_true ak;replace am:=eq_true am;have ao:0<=(a3:Int):=aD ‹_›;have ap:(a3:Int)<((b.length:Int):Int):=aD ‹_›;obtain⟨d2,d3⟩:=Kd.bG 0 a.out (a3:Int) ao ap;replace ao:=eq_true ao;replace ap:=eq_true ap;obtain⟨d4,d5⟩:=Kd.bG 0 a.out (a3:Int) (aD ‹_›) (aD ‹_›);have ar:=Kd.cY a.out (a3:Int) (wrap64 ((rd b a3)+1)))|((with_reducible refine iY (t:=3) (p:=26) rfl ?_);refine iX (t:=3) (p:=26) (v:=?IW) (w1:=(b1.setCell ⟨l,(a3:Int).toNat,none⟩ (.int .i64 (wrap64 ((rd b a3)+1))))) ?hg ?ho ?hn ?hr ?_;(case ho=>rfl);(case hg=>rfl);(case hn=>rfl);(case hr=>first|(go_simp;done)|(go_simp;rfl));intro av hw;have hg:b1.grownBy av (some l):=(by rw[hw];exact ar.2);have s:Kd.R (Kd.int .i64) 3 av w.heap.size (fun _=>True) (.slice (some ⟨l,0,none⟩) b.length y) ad:=(by rw[hw,ck.out];exact ar.1);clear ar;replace g:=zA (cZ (zK g) hg (Kd.cW a.out g.out (by decide)));replace a:=zA (s);replace i:=zA ((by rw[hw];exact dz (i.out) X.out:Below w.heap.size w av));clear hg hw s))
        (try simp only[<-z])
        go_roundg M
        case measure=>have:=bx.out;omega
        case rel=>exact⟨(ad),F,⟨by have:=bx.out;omega⟩,⟨by(try simp only[z]);(with_reducible repeat(first|apply Kd.aK|apply Kd.cO|apply Kd.bR));exact a.out⟩,⟨by(try simp only[z]);exact zK g⟩,⟨zB⟩⟩
       ·rw[if_neg Q] at H
        exact absurd H (by simp)
      ·rw[if_neg P] at H
       exact absurd H (by simp)
     ·replace O:=Bool.eq_false_iff.mpr O
      subst O;replace H:=zj H;by_cases S:0<=a3
      ·rw[if_pos S] at H
       have d6:=aA S;clear S;by_cases T:a3<(b.length:Int)
       ·rw[if_pos T] at H
        have d7:=aA T;clear T;obtain⟨b2,aB⟩:∃B:List Int,B=(b.set (a3:Int).toNat (wrap64 ((rd b a3)-1))):=⟨_,rfl⟩;replace H:(some b2)=some r:=zh aB H;have co:=zA aB;clear aB;obtain rfl:=aR H;obtain⟨d8,d9,ea,eb⟩:=aE g;go_wp2_with (first|((with_reducible refine aT (f:=176) rfl ?_);refine zL (some 20) Tryz.func176 #[.agg #[.int .i64 m,.slice u j.length x],.int .i64 o,.slice (some ⟨l,0,none⟩) b.length y] ?_;(with_reducible refine(fp.calls M m _ _ j o _ _ b false _ ?aw ?ax ?dk ?dm b0.out).mono ?_);(case aw=>exact Kd.al be.out zB);(case ax=>exact bf.out);(case dk=>exact zC (Kd.a8 a.out).2.2);(case dm=>exact(Kd.a8 a.out).2.1);rintro e b3 ⟨rfl,hb⟩;refine⟨_,rfl,?_⟩;replace a:=lH a hb;replace g:=zb g hb;replace i:=zS i hb;(try clear hb);have aF:0<=(a3:Int):=aD ‹_›;have aL:a3<(b.length:Int):=aD ‹_›;obtain⟨cq,cr,aO⟩:=Kd.cP (Kd.a8 a.out).2.2 a3 aF aL;obtain rfl:(⟨l,0,none⟩:Addr)=cq:=(by injection cr);(first|simp only[add_plain] at aO|simp only[gw] at aO|simp only[Addr.add,Nat.zero_add] at aO|skip);replace aF:=eq_true aF;replace aL:=eq_true aL;have aP:0<=(a3:Int):=aD ‹_›;have aS:(a3:Int)<((b.length:Int):Int):=aD ‹_›;obtain⟨eg,ek⟩:=Kd.bG 0 a.out (a3:Int) aP aS;replace aP:=eq_true aP;replace aS:=eq_true aS;obtain⟨el,em⟩:=Kd.bG 0 a.out (a3:Int) (aD ‹_›) (aD ‹_›);have a0:=Kd.cY a.out (a3:Int) (wrap64 ((rd b a3)-1)))|((with_reducible refine iY (t:=3) (p:=32) rfl ?_);refine iX (t:=3) (p:=32) (v:=?IX) (w1:=(b3.setCell ⟨l,(a3:Int).toNat,none⟩ (.int .i64 (wrap64 ((rd b a3)-1))))) ?hg ?ho ?hn ?hr ?_;(case ho=>rfl);(case hg=>rfl);(case hn=>rfl);(case hr=>first|(go_simp;done)|(go_simp;rfl));intro a2 hw;have hg:b3.grownBy a2 (some l):=(by rw[hw];exact a0.2);have s:Kd.R (Kd.int .i64) 3 a2 w.heap.size (fun _=>True) (.slice (some ⟨l,0,none⟩) b.length y) b2:=(by rw[hw,co.out];exact a0.1);clear a0;replace g:=zA (cZ (zK g) hg (Kd.cW a.out g.out (by decide)));replace a:=zA (s);replace i:=zA ((by rw[hw];exact dz (i.out) X.out:Below w.heap.size w a2));clear hg hw s))
        go_ret;exact⟨_,zE,by(with_reducible repeat(first|apply Kd.aK|apply Kd.cO|apply Kd.bR));exact a.out,zB⟩
       ·rw[if_neg T] at H
        exact absurd H (by simp)
      ·rw[if_neg S] at H
       exact absurd H (by simp)
  ·rw[if_neg E] at H
   exact absurd H (by simp)
 ·rw[if_neg D] at H
  exact absurd H (by simp)
def eE (x:List Int) (q:Int) (r:Nat->List Int) (k:Nat):Bool:=(List.range k).any fun v=>decide ((v:Int)≠q)&&decide (rd x v<rd (r v) v)
theorem uA (x:List Int) (q:Int) (r:Nat->List Int) (k:Nat):eE x q r (k+1)=(eE x q r k||(decide ((k:Int)≠q)&&decide (rd x k<rd (r k) k))):=by simp[eE,List.range_succ,List.any_append]
theorem Co {x:List Int} {q:Int} {r:Nat->List Int} {k n:Nat} (hk:k<n) (a:(k:Int)≠q) (h:rd x k<rd (r k) k):eE x q r n=true:=by
 unfold eE;rw[List.any_eq_true];exact⟨k,List.mem_range.2 hk,by simp[a,h]⟩
theorem Cp (K:Nat) (N:Int) (A0:Option Addr) (c0:Nat) (E:List S83) (q:Int) (qx gx:Nat) (A:Option Addr) (c:Nat) (x:List Int) (r:Nat->List Int) (W:World) (w:Kd.C aQ W A0 E.length E) (J:E.length<=c0) (y:W.heap[gx]? =some (.cells #[.int .i64 N,.slice A0 E.length c0] 24 (0,0))) (z:W.heap[qx]? =some (.cells #[.int .i64 q] 3 (0,0)))
  (l:Kd.C (Kd.int .i64) W A x.length x) (L:x.length<=c) (B:∀v:Nat,v<x.length->(v:Int)≠q->du.f K N E q x v=some (r v)/\v<(r v).length):
  Calls Tryz.prog 116 #[.slice A x.length c,.pointer (some ⟨qx,0,none⟩),.pointer (some ⟨gx,0,none⟩)] W fun e w'=>e= .returned (.bool (eE x q r x.length))/\Below W.heap.size W w':=by
 have M:=zA w;have D:=zA y;have O:=zA z;have P:=zA l;have Q:=zA B;have Z:x.length<=9223372036854775807:=Kd.lr l;clear w y z l B;go_enter Tryz.func116,Tryz.ntmps116
 go_wp2;go_loopw [10] (fun i wr=>∃k:Nat,k<=x.length/\i= .int .i64 k/\Aside0 (eE x q r k=false)/\Aside0 (Below W.heap.size W wr)) (fun i _=>x.length- (intOf i).toNat)
 case atStart=>exact⟨0,by omega,rfl,⟨rfl⟩,⟨ai _ _⟩⟩
 case round=>
  obtain⟨k,hk,rfl,m,a⟩:=hrel;have aa:wr.cell? ⟨qx,0,none⟩=some (.int .i64 q):=(ah (au O.out a.out) 0).trans rfl;have ag:wr.cell? ⟨gx,0,none⟩=some (.int .i64 N):=(ah (au D.out a.out) 0).trans rfl;have ak:wr.cell? ⟨gx,1,none⟩=some (.slice A0 E.length c0):=(ah (au D.out a.out) 1).trans rfl;have hu:=Tryz.underlying24;by_cases F:k<x.length
  ·have hC:=Kd.al P.out a.out
   have R:=zA hC;obtain⟨ad,rfl,S⟩:=Kd.cP hC k (by omega) (by omega);rw[aq] at S;have am:(0:Int)<=(k:Int):=by omega
   have an:(k:Int)<(x.length:Int):=by omega
   clear hC;by_cases b:(k:Int)=q
   ·have o:=zA (show eE x q r (k+1)=false from by rw[uA,m.out];simp[b])
    have T:((k:Int)==q)=true:=by simpa using b
    have G:=zA b;clear b;go_wp2;go_roundw
    case rel=>exact⟨k+1,by omega,by go_num,o,a⟩
    case measure=>exact(show x.length- ((k:Int)+1).toNat<x.length- ((k:Int)).toNat by omega)
   ·have T:((k:Int)==q)=false:=by simpa using b
    obtain⟨H,ao⟩:=Q.out k F b;have I:=zA (du.calls K N A0 c0 E q (some ad) c x k (r k) wr (Kd.al M.out a.out) J R.out L H);have G:=zA b;clear b H;by_cases p:rd x k<rd (r k) k
    ·have U:=zA (Co (n:=x.length) F G.out p)
     have V:(k:Int)<((r k).length:Int):=by omega
     go_wp2_with (go_at_call 117;refine I.out.mono ?_;rintro e w1 ⟨v1,rfl,g,h⟩;obtain⟨X,cr,rfl⟩:=Kd.bE g;obtain⟨-, -,j⟩:=Kd.a8 g;obtain⟨Y,rfl,s⟩:=Kd.cP j k (by omega) (by omega);rw[aq] at s;have u:=zA h;clear g h j)
     go_ret;exact⟨by rw[U.out];rfl,a.out.trans (u.out.mono a.out.size)⟩
    ·have o:=zA (show eE x q r (k+1)=false from by rw[uA,m.out];simp[p])
     have ap:¬rd (r k) k>rd x k:=p;have V:(k:Int)<((r k).length:Int):=by omega
     go_wp2_with (go_at_call 117;refine I.out.mono ?_;rintro e w1 ⟨v1,rfl,g,h⟩;obtain⟨X,cr,rfl⟩:=Kd.bE g;obtain⟨-, -,j⟩:=Kd.a8 g;obtain⟨Y,rfl,s⟩:=Kd.cP j k (by omega) (by omega);rw[aq] at s;have u:=zA h;clear g h j)
     go_roundw
     case rel=>exact⟨k+1,by omega,by go_num,o,⟨a.out.trans (u.out.mono a.out.size)⟩⟩
     case measure=>exact(show x.length- ((k:Int)+1).toNat<x.length- ((k:Int)).toNat by omega)
  ·obtain rfl:k=x.length:=by omega
   go_wp2;go_ret;exact⟨by rw[m.out];rfl,a.out⟩
theorem Cq (k:Nat) (N:Int) (A0:Option Addr) (c0:Nat) (E:List S83) (q:Int) (l:List (List Int)) (t:Int) (w:World) (g:Kd.C aQ w A0 E.length E) (h:E.length<=c0) (hf:hU.f k N E q=some (l,t)) (a:t≠0):
  Calls Tryz.prog 56 #[.agg #[.int .i64 N,.slice A0 E.length c0],.int .i64 q] w fun e w'=>e= .returned (.tuple #[.slice none 0 0,.int .i64 t])/\Below w.heap.size w w':=by
 have hu:=Tryz.underlying24;have i:=zA hf;have n:(t != 0)=true:=by simpa using a
 have b:=zA (aj (aU w (.cells #[.int .i64 N,.slice A0 E.length c0] 24)) (.cells #[.int .i64 q] 3));have o:((w.alloc (.cells #[.int .i64 N,.slice A0 E.length c0] 24)).alloc (.cells #[.int .i64 q] 3)).cell? ⟨w.heap.size,0,none⟩=some (.int .i64 N):=(ah b.out 0).trans rfl;have p:((w.alloc (.cells #[.int .i64 N,.slice A0 E.length c0] 24)).alloc (.cells #[.int .i64 q] 3)).cell? ⟨w.heap.size,1,none⟩=some (.slice A0 E.length c0):=(ah b.out 1).trans rfl;clear hf a;go_enter Tryz.func56,Tryz.ntmps56
 go_wp2_with (go_at_call 114;refine(hU.calls k N A0 c0 E q l t _ (Kd.bp (Kd.bp g _) _) h i.out).mono ?_;rintro e w1 ⟨v,rfl,j,hb⟩;have m:=zA (aC (af (af (ai w.heap.size w) _) _) hb);clear j hb)
 go_ret2;exact⟨rfl,m.out⟩
theorem Cr (k K:Nat) (N:Int) (A0:Option Addr) (c0:Nat) (E:List S83) (q:Int) (l:List (List Int)) (r:List Int->Nat->List Int) (w:World) (F:Kd.C aQ w A0 E.length E) (G:E.length<=c0) (hf:hU.f k N E q=some (l,0)) (H:∀x∈l,∀v:Nat,v<x.length->(v:Int)≠q->du.f K N E q x v=some (r x v)/\v<(r x v).length):
  Calls Tryz.prog 56 #[.agg #[.int .i64 N,.slice A0 E.length c0],.int .i64 q] w fun e w'=>∃v,e= .returned (.tuple #[v,.int .i64 0])/\Kd.N (Kd.slice 3 (Kd.int .i64)) 26 w' w.heap.size (fun R=>(w.heap.size<=R)) v (l.filter fun x=> !eE x q (r x) x.length)/\Below w.heap.size w w':=by
 have hu:=Tryz.underlying24;have S:=zA hf;have i:=zA (aj (aU w (.cells #[.int .i64 N,.slice A0 E.length c0] 24)) (.cells #[.int .i64 q] 3));have T:=zA (heap_alloc2_new w (.cells #[.int .i64 N,.slice A0 E.length c0] 24) (.cells #[.int .i64 q] 3));have ak:((w.alloc (.cells #[.int .i64 N,.slice A0 E.length c0] 24)).alloc (.cells #[.int .i64 q] 3)).cell? ⟨w.heap.size,0,none⟩=some (.int .i64 N):=(ah i.out 0).trans rfl;have am:((w.alloc (.cells #[.int .i64 N,.slice A0 E.length c0] 24)).alloc (.cells #[.int .i64 q] 3)).cell? ⟨w.heap.size,1,none⟩=some (.slice A0 E.length c0):=(ah i.out 1).trans rfl;have U:=zA H;clear hf H;go_enter Tryz.func56,Tryz.ntmps56
 go_wp2_with (go_at_call 114;refine(hU.calls k N A0 c0 E q l 0 _ (Kd.bp (Kd.bp F _) _) G S.out).mono ?_;rintro e w1 ⟨v,rfl,n,hb⟩;obtain⟨I,o,rfl⟩:=Kd.oT n;have a:=zA (aC (af (af (ai w.heap.size w) _) _) hb);have J:=zA (au i.out hb);have L:=zA (au T.out hb);have b:=zA n;clear n hb)
 have p:w.heap.size+2=((w.alloc (.cells #[.int .i64 N,.slice A0 E.length c0] 24)).alloc (.cells #[.int .i64 q] 3)).heap.size:=by simp
 rw[<-p] at b;have M:Aside0 (∀row,(∀g,row=some g->w.heap.size+2<=g)->ny (w.heap.size+1) w.heap.size row w1 l (fun x=>eE x q (r x) x.length)):=⟨fun row s W' A c x u V W X=>by
  have Y:Below w.heap.size w W':=ir a.out row a.out.size u (fun g e=>by have:=s g e;omega);refine Cp K N A0 c0 E q (w.heap.size+1) w.heap.size A c x (r x) W' (Kd.al F Y) G ((u.block _ (ay J.out) (fun e=>by have:=s _ e.symm;omega)).trans J.out) ((u.block _ (ay L.out) (fun e=>by have:=s _ e.symm;omega)).trans L.out) X W (U.out x V)⟩
 have aG:=a.out.size;by_cases hex:∃j:Nat,j<l.length/\(fun x=>eE x q (r x) x.length) (aZ l j)=true
 ·obtain⟨g0,cap,Z,an, -, -⟩:=Kd.yp b.out (by obtain⟨j,O,_⟩:=hex;omega)
  injection Z with aa ao ad
  subst aa ad;refine(Cm (w.heap.size+1) w.heap.size (w.heap.size+2) g0 o (fun k=>w.heap.size+2<=k) l _ w1 w1 b.out ⟨rfl,rfl,rfl,aM _,fun _ _ _=>rfl⟩ (M.out (some g0) (fun g e=>by injection e with e;omega)) hex).mono ?_;rintro e w2 ⟨m,rfl,hm,P,Q⟩;have y:=zA (Kd.gy (Kd.mJ (base':=w.heap.size) P (by omega)) (ok':=fun k=>w.heap.size<=k) (fun k hk=>by omega));have z:=zA (ir a.out (some g0) a.out.size Q (fun k e=>by injection e with e;omega));clear hm P Q hex p;go_wp2;go_ret2;exact⟨_,rfl,y.out,z.out⟩
 ·have B:∀j:Nat,j<l.length->(fun x=>eE x q (r x) x.length) (aZ l j)=false:=fun j O=>by
   cases h:(fun x=>eE x q (r x) x.length) (aZ l j) with
   |false=>rfl
   |true=>exact absurd ⟨j,O,h⟩ hex
  have ag:=zA (filter_none (l:=l) (del:=fun x=>eE x q (r x) x.length) B);refine(Cn (w.heap.size+1) w.heap.size (w.heap.size+2) none I o (fun k=>w.heap.size+2<=k) l _ w1 w1 b.out ⟨rfl,rfl,rfl,aM _,fun _ _ _=>rfl⟩ (M.out none (fun g e=>by cases e)) B).mono ?_;rintro e w2 ⟨rfl,D⟩;have y:=zA (Kd.gz (Kd.gy (Kd.mJ (base':=w.heap.size) b.out (by omega)) (ok':=fun k=>w.heap.size<=k) (fun k hk=>by omega)) D);have z:=zA (a.out.trans (D.mono a.out.size));clear D hex B p;go_wp2;go_ret2;exact⟨.slice I l.length o,rfl,by rw[ag.out];exact y.out,z.out⟩
def kZ (k:Nat) (N:Int) (E:List S83) (q:Int) (l:List (List Int)):Bool:=l.all fun c=>(List.range c.length).all fun v=>decide ((v:Int)=q)||match du.f k N E q c v with|some r=>decide (v<r.length)|none=>false
def iN (k:Nat) (N:Int) (E:List S83) (q:Int) (c:List Int) (v:Nat):List Int:=(du.f k N E q c v).getD []
theorem Cs {k:Nat} {N:Int} {E:List S83} {q:Int} {l:List (List Int)} (h:kZ k N E q l=true):∀x∈l,∀v:Nat,v<x.length->(v:Int)≠q->du.f k N E q x v=some (iN k N E q x v)/\v<(iN k N E q x v).length:=by
 intro x b v e g;have h1:=List.all_eq_true.1 (List.all_eq_true.1 h x b) v (List.mem_range.2 e);rw[aY g,Bool.false_or] at h1;unfold iN;cases a:du.f k N E q x v with
 |none=>rw[a] at h1;cases h1
 |some r=>rw[a] at h1;exact⟨rfl,by simpa using h1⟩
def jt.f (k:Nat) (N:Int) (E:List S83) (q:Int):Option (List (List Int)×Int):=
 (hU.f k N E q).bind fun t=>if t.2=0 then(if kZ k N E q t.1=true then some (t.1.filter fun x=> !eE x q (iN k N E q x) x.length,0) else none) else some ([],t.2)
theorem jt.calls (k:Nat) (b:Int) (i:Option Addr) (j:Nat) (a:List (S83)) (g:Int) (o:List (List Int)) (p:Int) (w:World) (q:Kd.C aQ w i a.length a) (r:a.length<=j) (h:jt.f k b a g=some (o,p)):
  Calls Tryz.prog 56 #[.agg #[.int .i64 b,.slice i a.length j],.int .i64 g] w fun e w'=>∃s:Value,e= .returned (.tuple #[s,.int .i64 p])/\Kd.N (Kd.slice 3 (Kd.int .i64)) 26 w' w.heap.size (fun v=>(w.heap.size<=v)) s o/\Below w.heap.size w w':=by
 unfold jt.f at h;obtain⟨⟨l,t⟩,u,H⟩:=Option.bind_eq_some_iff.mp h;simp only at H;by_cases m:t=0
 ·subst m
  rw[if_pos rfl] at H;by_cases n:kZ k b a g l=true
  ·rw[if_pos n] at H
   simp only[Option.some.injEq,Prod.mk.injEq] at H;obtain⟨rfl,rfl⟩:=H;exact Cr k k b i j a g l _ w q r u (Cs n)
  ·rw[if_neg n] at H;cases H
 ·rw[if_neg m] at H
  simp only[Option.some.injEq,Prod.mk.injEq] at H;obtain⟨rfl,rfl⟩:=H;refine(Cq k b i j a g l t w q r u m).mono ?_;rintro e w' ⟨rfl,hb⟩;exact⟨_,rfl,Kd.jI _ _ _ _ _,hb⟩
end Go.Proofs.YtffdiakgjakngaaGreat.P


