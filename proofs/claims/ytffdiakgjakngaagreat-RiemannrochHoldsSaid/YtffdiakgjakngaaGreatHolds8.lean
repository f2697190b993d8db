/- RiemannrochHolds answers true whatever the input (text 8 of 20): own walks and plain laws; no conditions. -/
import Derived.BigQuiet
import Derived.Deep.QuietTactic
import Derived.Deep.RegionLaw
import Derived.Lib.Hide
import Derived.Outline
import Derived.WalkSpells
import Derived.Test.YtffdiakgjakngaaGreatHolds7
namespace Go.Proofs.YtffdiakgjakngaaGreat.P
open Go.RowKit Go.Proofs.YtffdiakgjakngaaGreatW.PrintWords Go.Proofs.YtffdiakgjakngaaGreatW.PrintLast Go.Proofs.YtffdiakgjakngaaGreatW.PrintMore
set_option linter.unusedVariables false
set_option linter.unusedSimpArgs false
set_option maxHeartbeats 8000000
set_option maxRecDepth 100000
theorem bm.kh {N:Int} {E:List S83} (h:bm N E) {x:S83} (a:x∈E):0<=x.f0∧x.f0<=x.f1∧x.f1<N∧1<=x.f2∧x.f2<=50:=by
 have h1:=h.ok x a;have b:=h.le x a;simp[bQ] at h1;omega
theorem bm.jh {n:Nat} {E:List S83} (h:bm n E):dV n E:=fun x a=>by
 have:=h.kh a;omega
theorem bm.take {N:Int} {E:List S83} (h:bm N E) (k:Nat):bm N (E.take k):=⟨fun x a=>h.ok x (List.mem_of_mem_take a),fun x a=>h.le x (List.mem_of_mem_take a),h.order.sublist (List.take_sublist _ _)⟩
theorem tN {E:List S83} (v:Nat):∀(E:List S83) (f:Nat->Nat->Int),(∀x∈E,0<=x.f0∧0<=x.f1)->f v v=0->E.foldl cH f v v=0
 |[],f,_,hf=>hf
 |x::E,f,h,hf=>by
  rw[List.foldl_cons];refine tN (E:=E) v E _ (fun y a=>h y (List.mem_cons_of_mem _ a)) ?_;have b:=h x (List.mem_cons_self ..);unfold cH;split
  ·exact hf
  ·dsimp only
   rw[if_neg (by omega),if_neg (by omega)];exact hf
theorem bm.wt {n:Nat} {E:List S83} (h:bm n E):T.Wt n (aj E):=by
 have a:∀v,aj E v v=0:=fun v=>tN (E:=E) v E _ (fun x b=>by have:=h.kh b;omega) rfl
 refine⟨fun u v=>?_,fun u v=>?_,a⟩
 ·by_cases e:u=v
  ·subst e;rw[a];omega
  ·rw[ma h u v e];exact(zx h _ _).1
 ·by_cases e:u=v
  ·subst e;rfl
  ·rw[ma h u v e,ma h v u (fun k=>e k.symm),sL]
theorem bm.Bi {N:Int} {E:List S83} (h:bm N E) {x:S83} (a:x∈E):0<dj E x.f0 x.f1:=by
 unfold dj;have he:=h.kh a;have e:(E.find? (fG x.f0 x.f1)).isSome=true:=List.find?_isSome.2 ⟨x,a,by simp[fG];omega⟩;obtain⟨y,b⟩:=Option.isSome_iff_exists.1 e;rw[b];have:=h.kh (List.mem_of_find?_eq_some b);show 0<y.f2
 omega
theorem bm.conn {n:Nat} {E:List S83} (h:bm n E) (j:e7 n E):T.dp n (aj E):=by
 intro S h1 k;obtain⟨x,i,b⟩:=j S h1 k;have he:=h.kh i;have hb:=h.Bi i;have l:dj E x.f0 x.f1=aj E x.f0.toNat x.f1.toNat:=by
  rw[ma h _ _ (fun e=>b (by rw[e]))];congr 1<;>omega
 rw[l] at hb;cases g:S x.f0.toNat with
 |true=>
  have a:S x.f1.toNat=false:=by cases a:S x.f1.toNat with|false=>rfl|true=>rw[g,a] at b;exact absurd rfl b
  exact⟨_,_,by omega,by omega,g,a,hb⟩
 |false=>
  have a:S x.f1.toNat=true:=by cases a:S x.f1.toNat with|true=>rfl|false=>rw[g,a] at b;exact absurd rfl b
  exact⟨_,_,by omega,by omega,a,g,by rw[h.wt.sym];exact hb⟩
def du (φ:Nat->Int):List (Int×Int)->Int
 |[]=>0
 |x::L=>x.2*φ x.1.toNat+du φ L
theorem tO (φ:Nat->Int):∀A B,du φ (A++B)=du φ A+du φ B
 |[],B=>by simp[du]
 |x::A,B=>by
  simp only[List.cons_append,du,tO φ A B];omega
theorem qb {E:List S83} {k:Nat} (hk:k<E.length):ai E k=E[k]:=by simp[ai,List.getD_eq_getElem?_getD,List.getElem?_eq_getElem hk]
theorem Bj {N:Int} {E:List S83} (h:bm N E) {k:Nat} (hk:k<E.length):∀y∈E.take k,gI y (ai E k):=by
 intro y a;have h1:=h.order;rw[<-List.take_append_drop k E,List.pairwise_append] at h1;refine h1.2.2 y a _ ?_;rw[qb hk,List.drop_eq_getElem_cons hk];exact List.mem_cons_self ..
theorem tP {n:Nat} {E:List S83} (h:bm n E) (φ:Nat->Int) {v:Nat} (p:v<n):∀k,k<=E.length->du φ (b8 E v k)=T.sN (fun u=>aj (E.take k) v u*φ u) n
 |0,_=>by
  rw[T.ga (fun u _=>by simp[aj])];rfl
 |k+1,hk=>by
  have g:k<E.length:=by omega
  have q:=tP h φ p k (by omega);have l:=h.kh (show ai E k∈E by rw[qb g];exact List.getElem_mem g);have o:=Bj h g;have C:=(h.take k).wt.self v;rw[sI E k g];simp only[b8,tO,q];generalize ai E k=x at l o;obtain⟨a,b,m⟩:=x;simp only at l;by_cases i:a≠b∧(a=v∨b=v)
  ·rw[if_pos i]
   obtain⟨u0,r⟩:∃u0:Nat,(u0:Int)=a+b-v:=⟨(a+b-v).toNat,by omega⟩;have s:u0<n:=by omega
   have w:v≠u0:=by omega
   have z:aj (E.take k) v u0=0:=by
    rw[ma (h.take k) v u0 w];unfold dj;rw[sM (fun y B D=>by have:=o y B;unfold gI at this;simp only at this;omega)]
   have j:∀u:Nat,u<n->cH (aj (E.take k)) ⟨a,b,m⟩ v u*φ u=aj (E.take k) v u*φ u+(if u=u0 then m*φ u else 0):=fun u hu=>by
    unfold cH;simp only[if_neg i.1];by_cases e:u=u0
    ·subst e
     rw[z,if_pos rfl];by_cases e2:v=b.toNat∧u=a.toNat
     ·rw[if_pos e2];omega
     ·rw[if_neg e2,if_pos (by omega)];omega
    ·rw[if_neg e,if_neg (by omega),if_neg (by omega)];omega
   rw[T.bC j,T.dn,T.i_ s (fun u _ hu=>if_neg hu),if_pos rfl];simp only[du,<-r,Int.toNat_natCast];omega
  ·rw[if_neg i]
   have j:∀u:Nat,u<n->cH (aj (E.take k)) ⟨a,b,m⟩ v u*φ u=aj (E.take k) v u*φ u:=fun u hu=>by
    unfold cH;by_cases e:a=b
    ·simp only[if_pos e]
    ·simp only[if_neg e]
     rw[if_neg (by omega),if_neg (by omega)]
   rw[T.bC j];simp[du]
theorem nW {n:Nat} {E:List S83} (h:bm n E) (φ:Nat->Int) {v:Nat} (a:v<n):du φ (b8 E v E.length)=T.sN (fun u=>aj E v u*φ u) n:=by
 rw[tP h φ a E.length (Nat.le_refl _),List.take_length]
theorem nX {n:Nat} {E:List S83} (h:bm n E) {v:Nat}:∀k,k<=E.length->∀x∈b8 E v k,0<=x.1∧x.1<n∧x.1≠v∧1<=x.2∧x.2<=50
 |0,_=>fun x a=>by cases a
 |k+1,hk=>fun x a=>by
  have b:k<E.length:=by omega
  have he:=h.kh (show ai E k∈E by rw[qb b];exact List.getElem_mem b);rcases List.mem_append.1 a with a|a
  ·exact nX h k (by omega) x a
  ·split at a
   ·rename_i e
    obtain rfl:=List.mem_singleton.1 a;simp only;omega
   ·cases a
theorem tQ (E:List S83) (v:Int):∀k,(b8 E v k).length<=k
 |0=>Nat.le_refl _
 |k+1=>by
  have:=tQ E v k;simp only[b8,List.length_append];split<;>simp<;>omega
theorem qc (B:Nat->Bool):∀(L:List (Int×Int)) (s:Int),(∀x∈L,1<=x.2∧x.2<=50)->0<=s->s+50*L.length<=1000000000->L.foldl (fun s x=>if B x.1.toNat=true then wrap64 (s+x.2) else s) s=s+du (T.ind B) L
 |[],s,_,_,_=>by simp[du]
 |x::L,s,h,g,b=>by
  have i:=h x (List.mem_cons_self ..);simp only[List.length_cons] at b;rw[List.foldl_cons];simp only[du,T.ind];by_cases e:B x.1.toNat=true
  ·rw[if_pos e,if_pos e,l5 (by omega),qc B L _ (fun y a=>h y (List.mem_cons_of_mem _ a)) (by omega) (by omega)]
   unfold T.ind;omega
  ·rw[if_neg e,if_neg e,qc B L _ (fun y a=>h y (List.mem_cons_of_mem _ a)) (by omega) (by omega)]
   unfold T.ind;omega
theorem Bl (t:Nat->Int) (B:Nat->Bool) (n:Nat):T.sN (fun u=>t u*T.ind B u) n=T.sN (fun u=>if B u=true then t u else 0) n:=T.bC fun u _=>by
 unfold T.ind;split<;>simp
theorem qd {n:Nat} {E:List S83} (h:bm n E) (e:E.length<=1000) (B:Nat->Bool) {v:Nat} (a:v<n):dP B (b8 E v E.length)=T.sN (fun u=>if B u=true then aj E v u else 0) n:=by
 have h1:=tQ E v E.length;unfold dP;rw[qc B _ 0 (fun x b=>(nX h _ (Nat.le_refl _) x b).2.2.2) (by omega) (by omega),nW h _ a,Bl,Int.zero_add]
theorem mr (t:Nat->Nat->Int) (B:Nat->Bool) (v:Nat):∀n,dr t B v n=T.sN (fun u=>if B u=true then t v u else 0) n
 |0=>rfl
 |n+1=>by
  show dr t B v n+_=T.sN _ n+_
  rw[mr t B v n]
theorem Bm {n:Nat} {E:List S83} (h:bm n E) (a:E.length<=1000) (B:Nat->Bool) {v:Nat} (b:v<n):dP B (b8 E v E.length)=dr (aj E) B v n:=by rw[qd h a B b,mr]
def Md (a b:Int):Prop:=(a-b)%18446744073709551616=0
def cY (a:Int):Prop:= -9223372036854775808<=a∧a<=9223372036854775807
theorem Md.refl (a:Int):Md a a:=by unfold Md;omega
theorem Md.wrap {a b:Int} (h:Md a b):Md (wrap64 a) b:=by unfold Md wrap64 at*;omega
theorem Md.add {a b c d:Int} (h:Md a b) (e:Md c d):Md (a+c) (b+d):=by unfold Md at*;omega
theorem Md.sub {a b c d:Int} (h:Md a b) (e:Md c d):Md (a-c) (b-d):=by unfold Md at*;omega
theorem Md.eq {a b:Int} (h:Md a b) (e:cY a) (hb:cY b):a=b:=by unfold Md cY at*;omega
theorem qe (a:Int):cY (wrap64 a):=by unfold cY wrap64;omega
theorem tR {d:List Int} (h:∀w:Nat,w<d.length->cY (rd d w)) (v:Nat) (a:Int) (b:cY a):∀w:Nat,w<d.length->cY (rd (d.set v a) w):=fun w hw=>by
 by_cases e:v=w
 ·subst e;rw[jg _ _ _ hw];exact b
 ·rw[ij _ _ _ _ e];exact h w hw
theorem tS (t:Int) {v n:Nat} (j:v<n):∀(L:List (Int×Int)) (d:List Int),d.length=n->(∀x∈L,0<=x.1∧x.1<n∧x.1≠v)->(∀w:Nat,w<n->cY (rd d w))->∀w:Nat,w<n->
  cY (rd (fx t v d L) w)∧Md (rd (fx t v d L) w) (rd d w-t*(if w=v then du (fun _=>1) L else 0)+t*du (fun u=>if u=w then 1 else 0) L)
 |[],d,hd,_,b=>fun w hw=>by
  refine⟨b w hw,?_⟩;simp[fx,du];exact Md.refl _
 |x::L,d,hd,g,b=>fun w hw=>by
  have s:=g x (List.mem_cons_self ..);obtain⟨u,hu⟩:∃u:Nat,(u:Int)=x.1:=⟨x.1.toNat,by omega⟩;have k:u<n:=by omega
  have h:u≠v:=by omega
  have l:(il t v d x).length=n:=by rw[tL];exact hd
  have m:∀w:Nat,w<n->cY (rd (il t v d x) w):=by
   unfold il;rw[<-hd] at b⊢;have h1:=tR b v (wrap64 (rd d v-wrap64 (x.2*t))) (qe _);have o:=tR (d:=d.set v (wrap64 (rd d v-wrap64 (x.2*t)))) (by simpa using h1) x.1.toNat (wrap64 (rd (d.set v (wrap64 (rd d v-wrap64 (x.2*t)))) x.1+wrap64 (x.2*t))) (qe _);simpa using o
  obtain⟨i1,i2⟩:=tS t j L (il t v d x) l (fun y p=>g y (List.mem_cons_of_mem _ p)) m w hw;refine⟨i1,?_⟩;show Md (rd (fx t v (il t v d x) L) w) _
  have z:Md (rd (il t v d x) w) (rd d w-t*(if w=v then x.2 else 0)+t*(if u=w then x.2 else 0)):=by
   unfold il;rw[<-hu,Int.toNat_natCast];have q:rd (d.set v (wrap64 (rd d v-wrap64 (x.2*t)))) (u:Int)=rd d u:=ij _ _ _ _ (fun e=>h e.symm);have i:Md (wrap64 (x.2*t)) (t*x.2):=by rw[Int.mul_comm];exact(Md.refl _).wrap
   rw[q];by_cases a:u=w
   ·subst a
    rw[jg _ _ _ (by simpa [hd] using k),if_neg h,if_pos rfl,Int.mul_zero,Int.sub_zero];exact((Md.refl _).add i).wrap
   ·rw[ij _ _ _ _ a,if_neg a,Int.mul_zero,Int.add_zero]
    by_cases ev:w=v
    ·subst ev
     rw[jg _ _ _ (by simpa [hd] using hw),if_pos rfl];exact((Md.refl _).sub i).wrap
    ·rw[ij _ _ _ _ (fun e=>ev e.symm),if_neg ev,Int.mul_zero,Int.sub_zero]
     exact Md.refl _
  have r:rd d w-t*(if w=v then du (fun _=>1) (x::L) else 0)+t*du (fun u=>if u=w then 1 else 0) (x::L)=(rd d w-t*(if w=v then x.2 else 0)+t*(if u=w then x.2 else 0))-t*(if w=v then du (fun _=>1) L else 0)+t*du (fun u=>if u=w then 1 else 0) L:=by
   simp only[du,<-hu,Int.toNat_natCast];by_cases ev:w=v
   ·simp only[if_pos ev]
    by_cases a:u=w
    ·simp only[if_pos a,Int.mul_one,Int.mul_add];omega
    ·simp only[if_neg a,Int.mul_one,Int.mul_zero,Int.mul_add];omega
   ·simp only[if_neg ev]
    by_cases a:u=w
    ·simp only[if_pos a,Int.mul_one,Int.mul_add,Int.mul_zero];omega
    ·simp only[if_neg a,Int.mul_zero,Int.mul_add];omega
  rw[r];unfold Md at*;omega
theorem Bn {n:Nat} {E:List S83} (h:bm n E) (t:Int) {v:Nat} (b:v<n) (d:List Int) (hd:d.length=n) (g:∀w:Nat,w<n->cY (rd d w)):∀w:Nat,w<n->
  cY (rd (fx t v d (b8 E v E.length)) w)∧Md (rd (fx t v d (b8 E v E.length)) w) (rd d w-t*T.aN n (aj E) (T.one v) w):=by
 intro w hw;obtain⟨h1,a⟩:=tS t b (b8 E v E.length) d hd (fun x i=>by have:=nX h _ (Nat.le_refl _) x i;omega) g w hw;refine⟨h1,?_⟩;rw[nW h _ b,nW h _ b] at a;have j:T.sN (fun u=>aj E v u*1) n=T.val n (aj E) v:=T.bC fun u _=>Int.mul_one _
 have e2:T.sN (fun u=>aj E v u*(if u=w then 1 else 0)) n=aj E v w:=by
  rw[T.i_ hw (fun u _ hu=>by rw[if_neg hu,Int.mul_zero]),if_pos rfl,Int.mul_one]
 rw[j,e2] at a;by_cases e:w=v
 ·subst e
  rw[T.sC h.wt hw];rw[if_pos rfl,h.wt.self,Int.mul_zero,Int.add_zero] at a;exact a
 ·rw[T.sD b e,h.wt.sym w v,Int.mul_neg]
  rw[if_neg e,Int.mul_zero,Int.sub_zero] at a;rw[show rd d w- -(t*aj E v w)=rd d w+t*aj E v w by omega];exact a
theorem tT {n:Nat} {E:List S83} (h:bm n E) (In:Nat->Bool) (t:Int) (d s:List Int) (hd:d.length=n) (g:s.length=n) (i:∀w:Nat,w<n->cY (rd d w)) (j:∀w:Nat,w<n->cY (rd s w)):∀k,k<=n->∀w:Nat,w<n->
  (cY (rd (bj E In t k (d,s)).1 w)∧Md (rd (bj E In t k (d,s)).1 w) (rd d w-t*T.aN n (aj E) (T.ind fun v=>In v&&decide (v<k)) w))∧(cY (rd (bj E In t k (d,s)).2 w)∧Md (rd (bj E In t k (d,s)).2 w) (rd s w+t*T.ind (fun v=>In v&&decide (v<k)) w))
 |0,_=>fun w hw=>by
  have e:T.ind (fun v=>In v&&decide (v<0))=fun _=>0:=by funext v;simp[T.ind]
  rw[e,T.jG,Int.mul_zero,Int.sub_zero,Int.add_zero];exact⟨⟨i w hw,Md.refl _⟩,j w hw,Md.refl _⟩
 |k+1,hk=>fun w hw=>by
  have l:k<n:=by omega
  have a:=tT h In t d s hd g i j k (by omega);obtain⟨m,o⟩:=mq E In t (d,s) k;simp only at m o;unfold bj;cases hIn:In k with
  |false=>
   rw[if_neg (by decide)];have e:∀u,(In u&&decide (u<k+1))=(In u&&decide (u<k)):=fun u=>by
    by_cases e:u=k
    ·subst e;rw[hIn];rfl
    ·rw[show decide (u<k+1)=decide (u<k) by congr 1;exact propext (by omega)]
   rw[show (fun v=>In v&&decide (v<k+1))=(fun v=>In v&&decide (v<k)) from funext e];exact a w hw
  |true=>
   rw[if_pos rfl];have e:∀u,T.ind (fun v=>In v&&decide (v<k+1)) u=T.ind (fun v=>In v&&decide (v<k)) u+T.one k u:=fun u=>by
    unfold T.ind T.one;show (if(In u&&decide (u<k+1))=true then(1:Int) else 0)=(if(In u&&decide (u<k))=true then 1 else 0)+if u=k then 1 else 0
    by_cases e:u=k
    ·subst e;simp[hIn]
    ·rw[show decide (u<k+1)=decide (u<k) by congr 1;exact propext (by omega),if_neg e];omega
   have e2:T.aN n (aj E) (T.ind fun v=>In v&&decide (v<k+1)) w=T.aN n (aj E) (T.ind fun v=>In v&&decide (v<k)) w+T.aN n (aj E) (T.one k) w:=by
    rw[<-T.j9];exact T.kR (fun u _=>e u) hw
   rw[e2,e w];obtain⟨p,j2⟩:=Bn h t l (bj E In t k (d,s)).1 (by rw[m];exact hd) (fun w hw=>(a w hw).1.1) w hw;refine⟨⟨p,?_⟩,?_⟩
   ·have r:=(a w hw).1.2
    rw[Int.mul_add];show Md (rd (fx t k (bj E In t k (d,s)).1 (b8 E k E.length)) w) _
    unfold Md at*;omega
   ·have q:k<(bj E In t k (d,s)).2.length:=by rw[o,g];exact l
    by_cases b:k=w
    ·subst b
     rw[jg _ _ _ q];refine⟨qe _,?_⟩;have:=(a k hw).2.2;rw[Int.mul_add,show T.one k k=1 by simp[T.one],Int.mul_one];refine Md.wrap ?_;unfold Md at*;omega
    ·rw[ij _ _ _ _ b,show T.one k w=0 by unfold T.one;rw[if_neg (fun e=>b e.symm)],Int.add_zero]
     exact(a w hw).2
theorem tU {n:Nat} {E:List S83} (h:bm n E) (In:Nat->Bool) (t:Int) (d s:List Int) (hd:d.length=n) (g:s.length=n) (i:∀w:Nat,w<n->cY (rd d w)) (j:∀w:Nat,w<n->cY (rd s w)) {w:Nat} (hw:w<n):
  (cY (rd d w-t*T.aN n (aj E) (T.ind In) w)->rd (bj E In t n (d,s)).1 w=rd d w-t*T.aN n (aj E) (T.ind In) w)∧(cY (rd s w+t*T.ind In w)->rd (bj E In t n (d,s)).2 w=rd s w+t*T.ind In w):=by
 have e:∀u,u<n->T.ind (fun v=>In v&&decide (v<n)) u=T.ind In u:=fun u hu=>by
  unfold T.ind;simp[hu]
 obtain⟨⟨h1,a⟩,k,b⟩:=tT h In t d s hd g i j n (Nat.le_refl _) w hw;rw[T.kR e hw] at a;rw[e w hw] at b;exact⟨fun hi=>a.eq h1 hi,fun hi=>b.eq k hi⟩
theorem qf {f:Nat->Int} {n v:Nat} (b:v<n) {a:Int} (e:a<=0) (h:∀u,u<n->a<=f u):f v<=T.sN f n-n*a:=by
 have h1:=T.gh (f:=fun u=>f u-a) b (fun u hu=>by have:=h u hu;show 0<=f u-a;omega);rw[T.c_ f (fun _=>a) n,T.iH] at h1;have g:f v-a<=T.sN f n-n*a:=h1;omega
theorem mu {n:Nat} {t:Nat->Nat->Int} (e:T.Wt n t) (hn:n<=12) (l:T.sN (T.val n t) n<=19) {D dist d s:Nat->Int} (m:∀v,v<n-> -200<=D v∧D v<=200) {k:Int} (hk:0<=k) (o:k<=n) (h:T.eO n t D dist 200 k d s):∀v,v<n-> -102400<=d v∧d v<=1231200∧0<=s v∧s v<=1228800:=by
 have p:T.sN d n=T.sN D n:=by
  rw[T.bC (f:=d) (g:=fun v=>D v-T.aN n t s v) h.eq,T.c_,T.l9 e];omega
 have q:=(T.nF (f:=D) (n:=n) (B:=200) m).2;have i:∀v,v<n-> -102400<=d v:=fun v b=>by
  have h1:=h.low v b;have j:=T.pP e dist (B:=200) (by omega) l k;omega
 intro v b;have h1:=qf (f:=d) b (a:= -102400) (by omega) i;have j:=h.s0 v b;have r:((n:Int)-k)*(200*512)<=12*(200*512):=Int.mul_le_mul_of_nonneg_right (by omega) (by omega);exact⟨i v b,by omega,j.1,by omega⟩
theorem Bo {a x:Int} (b:1<=x):a<=(a+x-1)/x*x:=by
 have e:=Int.emod_lt_of_pos (a+x-1) (show 0<x by omega);have g:=Int.mul_ediv_add_emod (a+x-1) x;rw[Int.mul_comm];omega
theorem Bp {a x:Int} (b:1<=a) (e:1<=x):(a+x-1)/x<=a:=by
 refine Int.ediv_le_of_le_mul (by omega) ?_;have:=Int.mul_le_mul_of_nonneg_right (show (1:Int)<=a by omega) (show (0:Int)<=x-1 by omega);rw[show a*x=a*(x-1)+a by rw[Int.mul_sub];omega];omega
theorem Bq {n:Nat} {E:List S83} (a:bm n E) (hn:n<=12) (b:T.sN (T.val n (aj E)) n<=19) {D dist:Nat->Int} (e:∀v,v<n-> -200<=D v∧D v<=200) (g:∀u v:Nat,u<n->v<n->0<aj E u v->dist v<=dist u+1) {k:Int} (hk:1<=k) (q:k<=n) {d s:List Int} (r:d.length=n) (y:s.length=n)
  (h:T.eO n (aj E) D dist 200 k (fun v=>rd d (v:Nat)) (fun v=>rd s (v:Nat))) {x:Int} (i:0<=x) (j:x<=T.e9 n (aj E) dist 200 k) (l:∀v:Nat,v<n->dist v=k->rd d v<0-> -rd d v<=x*T.sN (fun u=>if T.bs dist k u=true then aj E v u else 0) n):
  T.eO n (aj E) D dist 200 (k-1) (fun v=>rd (bj E (T.bs dist k) x n (d,s)).1 (v:Nat)) (fun v=>rd (bj E (T.bs dist k) x n (d,s)).2 (v:Nat))∧
  ∀v:Nat,v<n-> -2097152<=rd (bj E (T.bs dist k) x n (d,s)).1 v∧rd (bj E (T.bs dist k) x n (d,s)).1 v<=2097152∧ -2097152<=rd (bj E (T.bs dist k) x n (d,s)).2 v∧rd (bj E (T.bs dist k) x n (d,s)).2 v<=2097152:=by
 have hb:=mu a.wt hn b e (by omega) q h;have h1:=T.eO.step a.wt (by omega) b g h i j l (d':=fun v=>rd d (v:Nat)-x*T.aN n (aj E) (T.ind (T.bs dist k)) v) (s':=fun v=>rd s (v:Nat)+x*T.ind (T.bs dist k) v) (fun _ _=>rfl) (fun _ _=>rfl);have m:=mu a.wt hn b e (show 0<=k-1 by omega) (by omega) h1;have o:=fun (w:Nat) (hw:w<n)=>tU a (T.bs dist k) x d s r y (fun w hw=>by have:=hb w hw;unfold cY;omega) (fun w hw=>by have:=hb w hw;unfold cY;omega) hw
 have z:∀w:Nat,w<n->rd (bj E (T.bs dist k) x n (d,s)).1 w=rd d w-x*T.aN n (aj E) (T.ind (T.bs dist k)) w:=fun w hw=>(o w hw).1 (by have:=m w hw;unfold cY;omega)
 have e2:∀w:Nat,w<n->rd (bj E (T.bs dist k) x n (d,s)).2 w=rd s w+x*T.ind (T.bs dist k) w:=fun w hw=>(o w hw).2 (by have:=m w hw;unfold cY;omega)
 have p:=T.eO.step a.wt (by omega) b g h i j l (d':=fun v=>rd (bj E (T.bs dist k) x n (d,s)).1 (v:Nat)) (s':=fun v=>rd (bj E (T.bs dist k) x n (d,s)).2 (v:Nat)) z e2;refine⟨p,fun v B=>?_⟩;have:=mu a.wt hn b e (show 0<=k-1 by omega) (by omega) p v B;omega
theorem Br {n:Nat} {E:List S83} (a:bm n E) (b:T.sN (T.val n (aj E)) n<=19) {D dist:Nat->Int} (e:∀u v:Nat,u<n->v<n->0<aj E u v->dist v<=dist u+1) {k:Int} {d s:List Int}
  (h:T.eO n (aj E) D dist 200 k (fun v=>rd d (v:Nat)) (fun v=>rd s (v:Nat))) (g:∀v:Nat,v<n->dist v=k->rd d v<0-> -rd d v<=0*T.sN (fun u=>if T.bs dist k u=true then aj E v u else 0) n):
  T.eO n (aj E) D dist 200 (k-1) (fun v=>rd d (v:Nat)) (fun v=>rd s (v:Nat)):=by
 refine T.eO.step a.wt (by omega) b e h (T:=0) (by omega) ?_ g (fun v _=>by rw[Int.zero_mul,Int.sub_zero]) (fun v _=>by rw[Int.zero_mul,Int.add_zero]);have:=T.nG (n:=n) (t:=aj E) dist (show (0:Int)<=200 by omega) k;omega
theorem Bs {n:Nat} {t:Nat->Nat->Int} (a:T.Wt n t) {out:List Int} {k:Int} {v u:Nat} (hu:u<n) (h1:0<t v u) (g:rd out (u:Int)+1=rd out (v:Int)) (hk:rd out (v:Int)=k):1<=T.sN (fun u=>if T.bs (fun v=>rd out (v:Nat)) k u=true then t v u else 0) n:=by
 have b:=T.gh (f:=fun u=>if T.bs (fun v=>rd out (v:Nat)) k u=true then t v u else 0) hu (fun w _=>by
  show 0<=(if T.bs (fun v=>rd out (v:Nat)) k w=true then t v w else 0)
  have:=a.pos v w;split<;>omega)
 have e:T.bs (fun v=>rd out (v:Nat)) k u=true:=by exact decide_eq_true (show rd out (u:Int)<k by omega)
 simp only[e,if_true] at b;omega
theorem tV (n:Nat) (t:Nat->Nat->Int) (q:Nat) (d:List Int):bp n t q d q=true:=p4 _ (by simp[cC])
theorem Bt (n:Nat) (t:Nat->Nat->Int) (q:Nat) (d:List Int) {v:Nat} (a:v<n):bY n t d (bp n t q d) v=false:=
 p9 (n:=n) (c:=bY n t d) (fun b v h=>mi b v h) (dD n (cC q)) (cC q) (Nat.le_refl _) v a
theorem tW {n:Nat} {t:Nat->Nat->Int} {q:Nat} {d:List Int} {v:Nat} (a:v<n) (h:bp n t q d v=false):T.sN (fun u=>if bp n t q d u=true then t v u else 0) n<=rd d v:=by
 have h1:=Bt n t q d a;unfold bY at h1;rw[h,mr] at h1;simp at h1;exact h1
theorem Bu {n:Nat} {t:Nat->Nat->Int} (e:T.Wt n t) {q:Nat} {d:List Int} (h:((List.range n).any fun v=> !bp n t q d v)=false):T.jH n t q (fun v=>rd d (v:Nat)):=by
 have h1:fJ n t q d=true:=by
  unfold fJ;rw[List.all_eq_true];intro v a;rw[List.any_eq_false] at h;have:=h v a;show bp n t q d v=true
  simpa using this
 have g:=(p_ (fun i j=>e.pos i j) q d).1 h1;intro S hS k;obtain⟨v,a,l,b⟩:=g S hS k;refine⟨v,a,l,?_⟩;rw[mr] at b;refine Int.lt_of_lt_of_le b (T.cM fun u _=>?_);show (if(!S u)=true then t v u else 0)<=(if S u=false then t v u else 0)
 cases S u<;>simp
theorem Bv {n:Nat} {t:Nat->Nat->Int} (g:T.dp n t) (e:T.Wt n t) {q:Nat} (i:q<n) {d:List Int} (h:((List.range n).any fun v=> !bp n t q d v)=true):∃v,v<n∧bp n t q d v=false∧0<T.sN (fun u=>if bp n t q d u=true then t v u else 0) n:=by
 obtain⟨v,j,hb⟩:=List.any_eq_true.1 h;obtain⟨a,b,k,l,h1,m,p⟩:=g (bp n t q d) ⟨q,i,tV n t q d⟩ ⟨v,List.mem_range.1 j,by simpa using hb⟩;refine⟨b,l,m,?_⟩;have o:=T.gh (f:=fun u=>if bp n t q d u=true then t b u else 0) k (fun w _=>by
  show 0<=(if bp n t q d w=true then t b w else 0)
  have:=e.pos b w;split<;>omega)
 have r:=e.sym a b;simp only[h1,if_true] at o;omega
structure iL (n q:Nat) (t:Nat->Nat->Int) (D:Nat->Int) (d s:List Int):Prop where
 dl:d.length=n
 sl:s.length=n
 eq:∀v:Nat,v<n->rd d v=D v-T.aN n t (fun u=>rd s (u:Nat)) v
 jK:∀v:Nat,v<n->v≠q->0<=rd d v
 low: -102400<=rd d q
 s0:∀v:Nat,v<n->0<=rd s v
 sq:rd s q<=1228800
structure ez (n q:Nat) (t:Nat->Nat->Int) (D c σ:Nat->Int):Prop where
 red:T.jI n t q c
 eq:∀v,v<n->c v=D v-T.aN n t σ v
 q0:σ q=0
theorem Bw {n q:Nat} {t:Nat->Nat->Int} (a:T.Wt n t) (b:T.dp n t) (e:q<n) (D:Nat->Int):∃c σ,ez n q t D c σ:=by
 obtain⟨c,⟨s,g⟩,i⟩:=T.sE a b e D;refine⟨c,fun u=>s u-s q,i,fun v j=>?_,by show s q-s q=0;omega⟩;have h:=T.kQ n t s (fun _=>s q) v;rw[T.jG] at h;rw[h,g v j];omega
theorem ez.unique {n q:Nat} {t:Nat->Nat->Int} (l:T.Wt n t) (m:T.dp n t) (o:q<n) {D c σ k i:Nat->Int} (h:ez n q t D c σ) (j:ez n q t D k i):∀v,v<n->c v=k v∧σ v=i v:=by
 have e:T.bI n t c k:=⟨fun u=>i u-σ u,fun v g=>by rw[T.kQ,h.eq v g,j.eq v g];omega⟩;have h1:=T.zl l m o h.red j.red e;have p:=T.Ak l m o (s:=σ) (s':=i) (by rw[h.q0,j.q0]) (fun v g=>by
  have a:=h.eq v g;have b:=j.eq v g;have c:=h1 v g;omega)
 exact fun v g=>⟨(h1 v g).symm,p v g⟩
theorem qg {n:Nat} {t:Nat->Nat->Int} (a:T.Wt n t) {v:Nat} (b:v<n):T.val n t v<=T.sN (T.val n t) n:=T.gh b (fun u _=>T.di fun w _=>a.pos u w)
theorem ez.bound {n q:Nat} {t:Nat->Nat->Int} (j:T.Wt n t) (r:T.dp n t) (o:q<n) (hn:n<=12) (l:T.sN (T.val n t) n<=19) {D c σ:Nat->Int} (p:∀v,v<n-> -200<=D v∧D v<=200) (h:ez n q t D c σ):∀v,v<n-> -31536<=σ v∧σ v<=31536∧ -3000<=c v∧c v<=3000∧(v≠q->0<=c v∧c v<19):=by
 have h1:=T.Am j r o h.red h.eq h.q0 (B:=200) (V:=19) (by omega) (by omega) p (fun v i=>Int.le_trans (qg j i) l);have m:∀v,v<n->v≠q->0<=c v∧c v<=19:=fun v i k=>by
  have a:=h.red.1 v i k;have b:=T.nE j h.red.2 i k;have:=Int.le_trans (qg j i) l;omega
 have s:∀v,v<n->v≠q->0<=c v∧c v<19:=fun v i k=>by
  have a:=h.red.1 v i k;have b:=T.nE j h.red.2 i k;have:=Int.le_trans (qg j i) l;omega
 have u:=T.Ap (f:=c) o (a:=0) (b:=19) (by omega) (by omega) m;have w:T.sN c n=T.sN D n:=by
  rw[T.bC (f:=c) (g:=fun v=>D v-T.aN n t σ v) h.eq,T.c_,T.l9 j];omega
 have x:=T.nF (f:=D) (n:=n) (B:=200) p;have y:(n:Int)*(n*(200+19))<=31536:=by
  have a:(n:Int)*(200+19)<=12*(200+19):=Int.mul_le_mul_of_nonneg_right (by omega) (by omega);have b:=Int.mul_le_mul_of_nonneg_left a (show (0:Int)<=n by omega);have c:(n:Int)*(12*(200+19))<=12*(12*(200+19)):=Int.mul_le_mul_of_nonneg_right (by omega) (by omega);omega
 intro v i;have a:=h1 v i;refine⟨by omega,by omega,?_,?_,fun k=>s v i k⟩
 ·by_cases e:v=q
  ·subst e;omega
  ·have:=m v i e;omega
 ·by_cases e:v=q
  ·subst e;omega
  ·have:=m v i e;omega
theorem iL.bounds {n q:Nat} {t:Nat->Nat->Int} (j:T.Wt n t) (k:T.dp n t) (l:q<n) (hn:n<=12) (p:T.sN (T.val n t) n<=19) {D c σ:Nat->Int} (m:∀v,v<n-> -200<=D v∧D v<=200) (i:ez n q t D c σ) {d s:List Int} (h:iL n q t D d s):
  ∀v:Nat,v<n-> -102400<=rd d v∧rd d v<=1231200∧0<=rd s v∧rd s v<=σ v+rd s q∧rd s v<=1260336:=by
 have o:∀v:Nat,v<n-> -102400<=rd d v:=fun v b=>by
  by_cases e:v=q
  ·subst e;exact h.low
  ·have:=h.jK v b e;omega
 have r:T.sN (fun v=>rd d (v:Nat)) n=T.sN D n:=by
  rw[T.bC (f:=fun v=>rd d (v:Nat)) (g:=fun v=>D v-T.aN n t (fun u=>rd s (u:Nat)) v) h.eq,T.c_,T.l9 j];omega
 have w:=(T.nF (f:=D) (n:=n) (B:=200) m).2;have hle:=T.pO j k l i.red i.eq i.q0 (d:=fun v=>rd d (v:Nat)) h.eq h.jK;intro v b;have h1:rd d v<=T.sN (fun v=>rd d (v:Nat)) n-n* -102400:=qf (f:=fun v=>rd d (v:Nat)) b (a:= -102400) (by omega) o;have x:rd s v<=σ v+rd s q:=hle v b;have y:=i.bound j k l hn p m v b;have z:=h.s0 v b;have C:=h.sq;have E:=o v b;omega
def ji (n q:Nat) (σ:Nat->Int) (s:List Int):Int:=T.sN (fun v=>σ v+rd s q-rd s v) n
theorem iL.step {n q:Nat} {E:List S83} (j:bm n E) (C:T.dp n (aj E)) (i:q<n) (hn:n<=12) (K:T.sN (T.val n (aj E)) n<=19) {D c σ:Nat->Int} (F:∀v,v<n-> -200<=D v∧D v<=200) (k:ez n q (aj E) D c σ) {d s:List Int} (h:iL n q (aj E) D d s)
  (U:((List.range n).any fun v=> !bp n (aj E) q d v)=true) {x:Int} (Z:1<=x) (V:∀v:Nat,v<n->bp n (aj E) q d v=false->x*T.sN (fun u=>if bp n (aj E) q d u=true then aj E v u else 0) n<=rd d v):
  iL n q (aj E) D (bj E (fun v=> !bp n (aj E) q d v) x n (d,s)).1 (bj E (fun v=> !bp n (aj E) q d v) x n (d,s)).2∧
  (∀v:Nat,v<n-> -2097152<=rd (bj E (fun v=> !bp n (aj E) q d v) x n (d,s)).1 v∧rd (bj E (fun v=> !bp n (aj E) q d v) x n (d,s)).1 v<=2097152∧ -2097152<=rd (bj E (fun v=> !bp n (aj E) q d v) x n (d,s)).2 v∧rd (bj E (fun v=> !bp n (aj E) q d v) x n (d,s)).2 v<=2097152)∧
  0<=ji n q σ (bj E (fun v=> !bp n (aj E) q d v) x n (d,s)).2∧ji n q σ (bj E (fun v=> !bp n (aj E) q d v) x n (d,s)).2<ji n q σ s:=by
 obtain⟨L,l⟩:∃L:Nat->Bool,L=fun v=> !bp n (aj E) q d v:=⟨_,rfl⟩
 have M:L q=false:=by rw[l];simp[tV]
 have G:=T.Aq j.wt (L:=L) (d:=fun v=>rd d (v:Nat)) (T:=x) (by omega) (fun v b N=>by
  have h1:=V v b (by rw[l] at N;simpa using N);rw[T.bC (f:=fun u=>if L u=false then aj E v u else 0) (g:=fun u=>if bp n (aj E) q d u=true then aj E v u else 0) (fun u _=>by
   have e:L u= !bp n (aj E) q d u:=by rw[l]
   rw[e];cases bp n (aj E) q d u<;>simp)]
  exact h1)
 rw[<-l];have hb:=h.bounds j.wt C i hn K F k;have H:∀v:Nat,v<n->v≠q->0<=rd d v-x*T.aN n (aj E) (T.ind L) v:=fun v b I=>by
  cases m:L v with
  |true=>exact(G v b).1 m
  |false=>have h1:=(G v b).2 m;have o:=h.jK v b I;omega
 have O: -102400<=rd d q-x*T.aN n (aj E) (T.ind L) q:=by
  have h1:=(G q i).2 M;have o:=h.low;omega
 have J:∀v:Nat,v<n-> -102400<=rd d v-x*T.aN n (aj E) (T.ind L) v:=fun v b=>by
  by_cases e:v=q
  ·subst e;exact O
  ·have:=H v b e;omega
 have heq:∀v:Nat,v<n->rd d v-x*T.aN n (aj E) (T.ind L) v=D v-T.aN n (aj E) (fun u=>rd s (u:Nat)+x*T.ind L u) v:=fun v b=>by
  rw[T.j9,T.sx,h.eq v b];omega
 have W:T.sN (fun v=>rd d (v:Nat)-x*T.aN n (aj E) (T.ind L) v) n=T.sN D n:=by
  rw[T.bC heq,T.c_,T.l9 j.wt];omega
 have aa:=(T.nF (f:=D) (n:=n) (B:=200) F).2;have P:∀v:Nat,v<n->rd d v-x*T.aN n (aj E) (T.ind L) v<=1231200:=fun v b=>by
  have h1:rd d v-x*T.aN n (aj E) (T.ind L) v<=T.sN (fun v=>rd d (v:Nat)-x*T.aN n (aj E) (T.ind L) v) n-n* -102400:=qf (f:=fun v=>rd d (v:Nat)-x*T.aN n (aj E) (T.ind L) v) b (a:= -102400) (by omega) J;rw[W] at h1;omega
 have hle:=T.pO j.wt C i k.red k.eq k.q0 (d:=fun v=>rd d (v:Nat)-x*T.aN n (aj E) (T.ind L) v) (s:=fun u=>rd s (u:Nat)+x*T.ind L u) heq H;have p:T.ind L q=0:=by unfold T.ind;rw[M];rfl
 have X:∀v,0<=T.ind L v∧T.ind L v<=1:=fun v=>by unfold T.ind;split<;>omega
 have Q:∀v,0<=x*T.ind L v:=fun v=>Int.mul_nonneg (by omega) (X v).1
 have y:∀v:Nat,v<n->0<=rd s v+x*T.ind L v∧rd s v+x*T.ind L v<=σ v+rd s q∧rd s v+x*T.ind L v<=1260336:=fun v b=>by
  have h1:rd s (v:Nat)+x*T.ind L v<=σ v+(rd s (q:Nat)+x*T.ind L q):=hle v b;rw[p,Int.mul_zero,Int.add_zero] at h1;have o:=h.s0 v b;have R:=Q v;have h4:=k.bound j.wt C i hn K F v b;have h5:=h.sq;omega
 have S:=fun (w:Nat) (hw:w<n)=>tU j L x d s h.dl h.sl (fun w hw=>by have:=hb w hw;unfold cY;omega) (fun w hw=>by have:=hb w hw;unfold cY;omega) hw
 have z:∀w:Nat,w<n->rd (bj E L x n (d,s)).1 w=rd d w-x*T.aN n (aj E) (T.ind L) w:=fun w hw=>(S w hw).1 (by have:=J w hw;have:=P w hw;unfold cY;omega)
 have e2:∀w:Nat,w<n->rd (bj E L x n (d,s)).2 w=rd s w+x*T.ind L w:=fun w hw=>(S w hw).2 (by have:=y w hw;unfold cY;omega)
 obtain⟨l1,l2⟩:=mq E L x (d,s) n;refine⟨⟨l1.trans h.dl,l2.trans h.sl,fun v b=>?_,fun v b I=>by rw[z v b];exact H v b I,by rw[z q i];exact O,fun v b=>by rw[e2 v b];exact(y v b).1,by rw[e2 q i,p,Int.mul_zero,Int.add_zero];exact h.sq⟩,fun v b=>?_,?_,?_⟩
 ·rw[z v b,heq v b,T.kR (s:=fun u=>rd (bj E L x n (d,s)).2 (u:Nat)) (r:=fun u=>rd s (u:Nat)+x*T.ind L u) (fun u hu=>e2 u hu) b]
 ·rw[z v b,e2 v b]
  have:=J v b;have:=P v b;have:=y v b;omega
 ·refine T.di fun v b=>?_
  show 0<=σ v+rd (bj E L x n (d,s)).2 q-rd (bj E L x n (d,s)).2 v
  rw[e2 v b,e2 q i,p,Int.mul_zero,Int.add_zero];have:=(y v b).2.1;omega
 ·obtain⟨v,b,hb⟩:=List.any_eq_true.1 U
  have Y:=List.mem_range.1 b;have m:L v=true:=by rw[l];exact hb
  have h1:ji n q σ (bj E L x n (d,s)).2=T.sN (fun v=>(σ v+rd s q-rd s v)-x*T.ind L v) n:=by
   refine T.bC fun v b=>?_
   show σ v+rd (bj E L x n (d,s)).2 q-rd (bj E L x n (d,s)).2 v=_
   rw[e2 v b,e2 q i,p,Int.mul_zero,Int.add_zero];omega
  rw[h1,T.c_];have o:=T.gh (f:=fun v=>x*T.ind L v) Y (fun u _=>Q u);have R:T.ind L v=1:=by unfold T.ind;rw[m];rfl
  simp only[R,Int.mul_one] at o;show T.sN (fun v=>σ v+rd s q-rd s v) n-T.sN (fun v=>x*T.ind L v) n<T.sN (fun v=>σ v+rd s q-rd s v) n
  omega
def cT (x:Int):Bool:=decide (-1048576<=x∧x<=1048576)
def fy (l:List Int) (n:Int):Int:=if n<1∨n>12 then 2 else if(l.length:Int)≠n then 8 else if l.all cT=true then 0 else 2
theorem tX (x:Int):ig.f x=some (cT x):=by
 unfold ig.f cT;by_cases h1:x>= -1048576
 ·by_cases a:x<=1048576
  ·simp[h1,a]
  ·simp[h1,a]
 ·simp[h1]
theorem Bx {l:List Int} {i:Nat} (h:i<l.length):l.drop i=rd l i::l.drop (i+1):=by
 rw[List.drop_eq_getElem_cons h];simp[rd,List.getD_eq_getElem?_getD,List.getElem?_eq_getElem h]
theorem tY (l:List Int) (a:l.length<=1000000):∀(m i:Nat),i+m=l.length->Ev (fun k=>bc.l0 k l l.length i) (if(l.drop i).all cT=true then 0 else 2)
 |0,i,hi=>by
  refine Ev.of_succ ?_;simp only[bc.l0,if_neg (show ¬((i:Int)<(l.length:Int)) by omega)];rw[List.drop_eq_nil_of_le (by omega)];exact Ev.const _
 |m+1,i,hi=>by
  have b:=tY l a m (i+1) (by omega);refine Ev.of_succ ?_;simp only[bc.l0,if_pos (show (i:Int)<(l.length:Int) by omega),if_pos (show (0:Int)<=(i:Int) by omega),dU (show i<=1000000 by omega),tX,Option.bind_some];rw[Bx (show i<l.length by omega),List.all_cons];cases hb:cT (rd l i) with
  |true=>simp only[if_true,Bool.true_and];exact b
  |false=>simp;exact Ev.const _
theorem ki (l:List Int) (n:Int) (b:l.length<=1000000):Ev (fun k=>bc.f k l n) (fy l n):=by
 unfold bc.f fy;have e:jf.f n=some (if n<1∨n>12 then 2 else 0):=by
  unfold jf.f;by_cases h1:n<1
  ·simp[h1]
  ·by_cases a:n>12
   ·simp[h1,a]
   ·simp[h1,a]
 rw[e];simp only[Option.bind_some];by_cases h:n<1∨n>12
 ·simp only[if_pos h];exact Ev.const _
 ·simp only[if_neg h,if_true]
  by_cases hn:(l.length:Int)=n
  ·rw[if_neg (by simpa using hn)]
   simp only[if_pos hn];have:=tY l b l.length 0 (by omega);simpa using this
  ·rw[if_pos hn]
   simp only[if_neg hn];exact Ev.const _
theorem qh {l:List Int} {n:Int}:fy l n=0↔1<=n∧n<=12∧(l.length:Int)=n∧∀v:Nat,v<l.length-> -1048576<=rd l v∧rd l v<=1048576:=by
 unfold fy;have g:l.all cT=true↔∀v:Nat,v<l.length-> -1048576<=rd l v∧rd l v<=1048576:=by
  rw[List.all_eq_true];constructor
  ·intro h v a
   have:=h l[v] (List.getElem_mem a);rw[show rd l (v:Int)=l[v] by simp[rd,List.getD_eq_getElem?_getD,List.getElem?_eq_getElem a]];simpa [cT] using this
  ·intro h x i
   obtain⟨v,a,rfl⟩:=List.getElem_of_mem i;have:=h v a;rw[show rd l (v:Int)=l[v] by simp[rd,List.getD_eq_getElem?_getD,List.getElem?_eq_getElem a]] at this;simpa [cT] using this
 by_cases h:n<1∨n>12
 ·rw[if_pos h];constructor
  ·intro h;cases h
  ·intro b;omega
 ·rw[if_neg h]
  by_cases hn:(l.length:Int)=n
  ·rw[if_neg (by simpa using hn)]
   by_cases e:l.all cT=true
   ·rw[if_pos e];exact⟨fun _=>⟨by omega,by omega,hn,g.1 e⟩,fun _=>rfl⟩
   ·rw[if_neg e];constructor
    ·intro h;cases h
    ·intro b;exact absurd (g.2 b.2.2.2) e
  ·rw[if_pos hn];constructor
   ·intro h;cases h
   ·intro b;exact absurd b.2.2.1 hn
theorem tZ (A0:Option Addr) (c0 n:Nat) (l:List Int) (w:World) (m:Nat) (b:l.length=n) (h1:1<=n) (hn:n<=12) (hb:∀v:Nat,v<n-> -1048576<=rd l v∧rd l v<=1048576) (g:Kd.C (Kd.int .i64) (w.drewN m) A0 l.length l) (h:l.length<=c0):
  Calls Tryz.prog 87 #[.slice A0 n c0,.int .i64 n] (w.drewN m) fun e i=>e= .returned (.int .i64 0)∧∃a,i=w.drewN a:=by
 subst b;obtain⟨k,hk⟩:=(ki l l.length (by omega)).get;rw[qh.2 ⟨by omega,by omega,rfl,hb⟩] at hk;refine(bc.calls k A0 c0 l l.length 0 _ g h hk).mono ?_;rintro e w' ⟨rfl,⟨a,rfl⟩⟩;exact⟨rfl,m+a,by rw[World.drewN_drewN]⟩
theorem t_ {n:Nat} {t:Nat->Nat->Int} (k:T.Wt n t) {q:Nat} {d:List Int}:T.jH n t q (fun v=>rd d (v:Nat))↔fJ n t q d=true:=by
 rw[p_ (fun i j=>k.pos i j) q d];have key:∀(S:Nat->Bool) (v:Nat),dr t (fun u=> !S u) v n=T.sN (fun u=>if S u=false then t v u else 0) n:=fun S v=>by
  rw[mr];refine T.bC fun u _=>?_
  cases S u<;>simp
 constructor
 ·intro h S hS b
  obtain⟨v,e,g,a⟩:=h S hS b;exact⟨v,e,g,by rw[key];exact a⟩
 ·intro h S hS b
  obtain⟨v,e,g,a⟩:=h S hS b;exact⟨v,e,g,by rw[key] at a;exact a⟩
def eh (n:Nat) (E:List S83) (d s:List Int):List Int:=(List.range n).map fun v:Nat=>rd d v-T.aN n (aj E) (fun u=>rd s (u:Nat)) v
theorem t' (f:Nat->Int) {n v:Nat} (a:v<n):rd ((List.range n).map f) (v:Int)=f v:=by
 rw[jL,List.getD_eq_getElem?_getD,List.getElem?_map,List.getElem?_range a];rfl
theorem ub (n:Nat) (E:List S83) (d s:List Int) {v:Nat} (a:v<n):rd (eh n E d s) v=rd d v-T.aN n (aj E) (fun u=>rd s (u:Nat)) v:=t' _ a
theorem qi (n:Nat) (E:List S83) (d s:List Int):(eh n E d s).length=n:=by simp[eh]
theorem ud {a b:List Int} {n:Nat} (e:a.length=n) (hb:b.length=n) (h:∀v:Nat,v<n->rd a v=rd b v):a=b:=by
 refine List.ext_getElem (by rw[e,hb]) fun i h1 g=>?_
 have:=h i (by omega);rw[jL,jL,List.getD_eq_getElem?_getD,List.getD_eq_getElem?_getD,List.getElem?_eq_getElem h1,List.getElem?_eq_getElem g] at this;exact this
def jO (n:Nat) (E:List S83) (q:Nat) (d s:List Int):Bool:=decide (s.length=n)&&decide (rd s q=0)&&((List.range n).all fun v=>decide (v=q)||decide (0<=rd (eh n E d s) v))&&fJ n (aj E) q (eh n E d s)
def boxes (r q:Nat):Nat->List (List Int)
 |0=>[[]]
 |v+1=>(boxes r q v).flatMap fun s=>if v=q then[s++[0]] else(List.range (2*r+1)).map fun i:Nat=>s++[(i:Int)-r]
theorem ue (r q:Nat) (σ:Nat->Int) (a:σ q=0):∀n,(∀v,v<n-> -(r:Int)<=σ v∧σ v<=r)->(List.range n).map σ∈boxes r q n
 |0,_=>by simp[boxes]
 |n+1,h=>by
  unfold boxes;rw[List.mem_flatMap];refine⟨_,ue r q σ a n (fun v b=>h v (by omega)),?_⟩;rw[show (List.range (n+1)).map σ=(List.range n).map σ++[σ n] by rw[List.range_succ,List.map_append];rfl];by_cases e:n=q
  ·rw[if_pos e,e,a];exact List.mem_singleton.2 rfl
  ·rw[if_neg e,List.mem_map]
   have:=h n (by omega);exact⟨(σ n+r).toNat,List.mem_range.2 (by omega),by congr 2;omega⟩
def uf (n:Nat) (E:List S83) (q:Nat) (d:List Int) (r:Nat):Option (List Int):=(boxes r q n).find? (jO n E q d)
def gN (n:Nat) (E:List S83) (q:Nat) (d:List Int):Nat->Option (List Int)
 |0=>none
 |k+1=>match gN n E q d k with
  |some s=>some s
  |none=>uf n E q d k
theorem By (n:Nat) (E:List S83) (q:Nat) (d:List Int) (k:Nat):ae (gN n E q d k) (gN n E q d (k+1)):=fun r h=>by
 unfold gN;rw[h]
theorem qj {n:Nat} {E:List S83} {q:Nat} {d s:List Int}:∀{k:Nat},gN n E q d k=some s->jO n E q d s=true
 |0,h=>by cases h
 |k+1,h=>by
  unfold gN at h;cases h1:gN n E q d k with
  |some s'=>rw[h1] at h;injection h with h;subst h;exact qj h1
  |none=>rw[h1] at h;exact List.find?_some h
theorem Bz {n:Nat} {E:List S83} {q:Nat} {d s:List Int} {r:Nat} (a:s∈boxes r q n) (b:jO n E q d s=true):∃s',gN n E q d (r+1)=some s':=by
 unfold gN;cases h1:gN n E q d r with
 |some s'=>exact⟨s',rfl⟩
 |none=>
  have:(uf n E q d r).isSome=true:=List.find?_isSome.2 ⟨s,a,b⟩;obtain⟨s',h⟩:=Option.isSome_iff_exists.1 this;exact⟨s',h⟩
theorem mw {n:Nat} {E:List S83} (b:bm n E) {q:Nat} {d s:List Int}:jO n E q d s=true↔s.length=n∧ez n q (aj E) (fun v=>rd d (v:Nat)) (fun v=>rd (eh n E d s) (v:Nat)) (fun v=>rd s (v:Nat)):=by
 unfold jO;simp only[Bool.and_eq_true,decide_eq_true_eq,List.all_eq_true,List.mem_range,Bool.or_eq_true];constructor
 ·rintro⟨⟨⟨h1,g⟩,i⟩,j⟩
  exact⟨h1,⟨fun v a k=>(i v a).resolve_left k,(t_ b.wt).2 j⟩,fun v a=>ub n E d s a,g⟩
 ·rintro⟨h1,h⟩
  exact⟨⟨⟨h1,h.q0⟩,fun v a=>by by_cases e:v=q;exact .inl e;exact .inr (h.red.1 v a e)⟩,(t_ b.wt).1 h.red.2⟩
theorem BA {n q:Nat} {t:Nat->Nat->Int} {D c σ g b:Nat->Int} (h:ez n q t D c σ) (j:q<n) (e:∀v,v<n->g v=c v) (i:∀v,v<n->b v=σ v):ez n q t D g b:=by
 refine⟨⟨fun v a k=>by rw[e v a];exact h.red.1 v a k,fun S hS l=>?_⟩,fun v a=>?_,by rw[i q j];exact h.q0⟩
 ·obtain⟨v,a,h1,m⟩:=h.red.2 S hS l
  exact⟨v,a,h1,by rw[e v a];exact m⟩
 ·rw[e v a,h.eq v a,T.kR (s:=b) (r:=σ) i a]
theorem BB {n:Nat} {E:List S83} (b:bm n E) (hC:e7 n E) {q:Nat} (g:q<n) (d:List Int):∃s,Ev (gN n E q d) s∧s.length=n∧ez n q (aj E) (fun v=>rd d (v:Nat)) (fun v=>rd (eh n E d s) (v:Nat)) (fun v=>rd s (v:Nat)):=by
 obtain⟨c,σ,h⟩:=Bw b.wt (b.conn hC) g (fun v=>rd d (v:Nat));obtain⟨r,j⟩:∃r:Nat,∀v,v<n-> -(r:Int)<=σ v∧σ v<=r:=by
  refine⟨(T.sN (fun v=>((σ v).natAbs:Int)) n).toNat,fun v a=>?_⟩;have h1:=T.gh (f:=fun v=>((σ v).natAbs:Int)) a (fun u _=>by show (0:Int)<=((σ u).natAbs:Int);omega);have e:((σ v).natAbs:Int)<=T.sN (fun v=>((σ v).natAbs:Int)) n:=h1;omega
 have i:∀v,v<n->rd ((List.range n).map σ) (v:Int)=σ v:=fun v a=>t' _ a
 have k:jO n E q d ((List.range n).map σ)=true:=(mw b).2 ⟨by simp,BA h g (fun v a=>by rw[ub n E d _ a,h.eq v a,T.kR (s:=fun u=>rd ((List.range n).map σ) (u:Nat)) (r:=σ) i a]) i⟩;obtain⟨s',h1⟩:=Bz (ue r q σ h.q0 n j) k;have e:=(mw b).1 (qj h1);exact⟨s',Ev.at_ (By n E q d) h1,e.1,e.2⟩
def gy (N:Int) (E:List S83) (q:Int) (d:List Int):Bool:=decide (1<=N∧N<=12∧0<=q∧q<N∧E.length<=1000∧cG N E=0∧partsOf E N.toNat=1∧T.sN (T.val N.toNat (aj E)) N.toNat<=19∧(d.length:Int)=N)&&d.all fun x=>decide (-200<=x∧x<=200)
structure dW (n q:Nat) (E:List S83) (d:List Int):Prop where
 n1:1<=n
 n12:n<=12
 q:q<n
 len:E.length<=1000
 right:bm n E
 conn:e7 n E
 val:T.sN (T.val n (aj E)) n<=19
 dl:d.length=n
 d:∀v:Nat,v<n-> -200<=rd d v∧rd d v<=200
theorem ug {d:List Int} {B:Int}:(d.all fun x=>decide (-B<=x∧x<=B))=true↔∀v:Nat,v<d.length-> -B<=rd d v∧rd d v<=B:=by
 rw[List.all_eq_true];have e:∀(v:Nat) (a:v<d.length),rd d (v:Int)=d[v]:=fun v a=>by simp[rd,List.getD_eq_getElem?_getD,List.getElem?_eq_getElem a]
 constructor
 ·intro h v a
  rw[e v a];simpa using h d[v] (List.getElem_mem a)
 ·intro h x b
  obtain⟨v,a,rfl⟩:=List.getElem_of_mem b;have:=h v a;rw[e v a] at this;simpa using this
theorem nY {N:Int} {E:List S83} {q:Int} {d:List Int} (h:gy N E q d=true):∃n a:Nat,N=n∧q=a∧dW n a E d:=by
 unfold gy at h;rw[Bool.and_eq_true,decide_eq_true_eq] at h;obtain⟨⟨h1,m,i,o,j,k,b,e,p⟩,l⟩:=h;obtain⟨n,rfl⟩:=Int.eq_ofNat_of_zero_le (show 0<=N by omega);obtain⟨a,rfl⟩:=Int.eq_ofNat_of_zero_le i;simp only[Int.toNat_natCast] at b e;have g:=(gJ k).2.2;refine⟨n,a,rfl,rfl,by omega,by omega,by omega,j,g,(kc (by omega) g).1 b,e,by omega,fun v r=>ug.1 l v (by omega)⟩
theorem dW.ok {n q:Nat} {E:List S83} {d:List Int} (h:dW n q E d) (a:cG n E=0):gy n E q d=true:=by
 unfold gy;rw[Bool.and_eq_true,decide_eq_true_eq];have:=h.n1;have:=h.n12;have:=h.q;have:=h.dl;exact⟨⟨by omega,by omega,by omega,by omega,h.len,a,by simpa using (kc (by omega) h.right).2 h.conn,by simpa using h.val,by omega⟩,ug.2 fun v b=>h.d v (by omega)⟩
theorem BC {n:Nat} {t:Nat->Nat->Int} (i:T.Wt n t) (hn:0<n) {D:Nat->Int} (hw:T.b7 n t D) {L:Int} (h1:∀v,v<n->∀k,T.bK n t (fun u=>D u-T.one v u) k->L<=k+1) (g:L=T.sN D n∨∃v,v<n∧∃k,T.bK n t (fun u=>D u-T.one v u) k∧L=k+1):T.bK n t D L:=by
 obtain⟨r,h⟩:=T.hU i hn D;obtain⟨a,v,m,b⟩:=T.zu i hn hw h;obtain⟨j,l⟩:=T.hU i hn (fun u=>D u-T.one v u);have p:=b j l;have e2:=h1 v m j l;have o:0<=r:=by
  have:=h.1;by_cases e:r= -1
  ·exact absurd hw ((T.bK.kS hn h).1 e)
  ·omega
 have q:r<=L:=by
  rcases g with g|⟨u,hu,k,hk,g⟩
  ·rw[g];exact h.pz i hn o
  ·rw[g];exact a u hu k hk
 have:r=L:=by omega
 rw[<-this];exact h
theorem uh {n:Nat} {t:Nat->Nat->Int} (b:T.Wt n t) (hn:0<n) {D:Nat->Int} (hw:¬T.b7 n t D):T.bK n t D (-1):=by
 obtain⟨r,a⟩:=T.hU b hn D;have:=(T.bK.kS hn a).2 hw;rw[<-this];exact a
theorem BD {n:Nat} {t:Nat->Nat->Int} (a:T.Wt n t) (e:T.dp n t) (hn:0<n) {g:Int} (h:T.ee n t g) {D:Nat->Int} (hd:2*g-2<T.sN D n):T.bK n t D (T.sN D n-g):=by
 obtain⟨r,b⟩:=T.hU a hn D;have:=T.zv a e hn h hd b;rw[<-this];exact b
def Rk (n:Nat) (t:Nat->Nat->Int) (d:List Int) (r:Int):Prop:=T.bK n t (fun v=>rd d (v:Nat)) r
theorem nZ {n:Nat} {t:Nat->Nat->Int} {D D':Nat->Int} (h:∀v,v<n->D' v=D v) {r:Int} (a:T.bK n t D r):T.bK n t D' r:=a.fF (T.bI.of_eq h)
theorem BE {c:List Int} {n v:Nat} (a:c.length=n) (b:v<n):∀u,u<n->rd (c.set v (rd c v-1)) (u:Nat)=rd c u-T.one v u:=fun u hu=>by
 unfold T.one;by_cases e:u=v
 ·subst e;rw[jg _ _ _ (by omega),if_pos rfl]
 ·rw[ij _ _ _ _ (fun k=>e k.symm),if_neg e];omega
theorem BF {c:List Int} {v:Nat} (a:v<c.length) (x:Int):(c.set v x).set v (rd c v)=c:=by
 rw[List.set_set];refine List.ext_getElem (by simp) fun i h1 b=>?_
 rw[List.getElem_set];split
 ·rename_i e;subst e;simp[rd,List.getD_eq_getElem?_getD,List.getElem?_eq_getElem a]
 ·rfl
def iM (c:List Int):List Int:=c++List.replicate (12-c.length) 0
theorem BG {c:List Int} (h:c.length<=12):(iM c).length=12:=by simp[iM];omega
def jk (n:Nat) (t:Nat->Nat->Int) (g:Int) (l:List Int) (x:Int):Prop:=∃c:List Int,c.length=n∧l=iM c∧Rk n t c x∧(∀v:Nat,v<n->0<=rd c v)∧(∀v:Nat,v<n->v≠0->rd c v<T.val n t v)∧T.sN (fun v=>rd c (v:Nat)) n<=2*g-2
theorem BH {n:Nat} {a b:List Int} (e:a.length=n) (hb:b.length=n) (h:iM a=iM b):a=b:=by
 unfold iM at h;rw[e,hb] at h;exact List.append_cancel_right h
theorem qk {α:Type} [DecidableEq α]:∀{a L:List α},a.Pairwise (· ≠ ·)->(∀x∈a,x∈L)->a.length<=L.length
 |[],_,_,_=>Nat.zero_le _
 |x::a,L,h,hm=>by
  rw[List.pairwise_cons] at h;have b:=hm x (List.mem_cons_self ..);have h1:=qk (L:=L.erase x) h.2 (fun y g=>(List.mem_erase_of_ne (fun e=>h.1 y g e.symm)).2 (hm y (List.mem_cons_of_mem _ g)));have i:=List.length_erase_of_mem b;have j:=List.length_pos_of_mem b;rw[List.length_cons];omega
def kj (B:Nat->Nat):Nat->List (List Int)
 |0=>[[]]
 |n+1=>(kj B n).flatMap fun c=>(List.range (B n)).map fun x:Nat=>c++[(x:Int)]
def gO (B:Nat->Nat):Nat->Nat
 |0=>1
 |n+1=>gO B n*B n
theorem ui {α β:Type} {f:α->List β} {m:Nat}:∀{l:List α},(∀x∈l,(f x).length=m)->(l.flatMap f).length=l.length*m
 |[],_=>by simp
 |x::l,h=>by
  rw[List.flatMap_cons,List.length_append,h x (List.mem_cons_self ..),ui (fun y a=>h y (List.mem_cons_of_mem _ a)),List.length_cons,Nat.succ_mul,Nat.add_comm]
theorem uj (B:Nat->Nat):∀n,(kj B n).length=gO B n
 |0=>rfl
 |n+1=>by
  rw[kj,ui (m:=B n) (fun c _=>by simp),uj B n];rfl
theorem uk (B:Nat->Nat) (f:Nat->Int):∀n,(∀v,v<n->0<=f v∧f v<B v)->(List.range n).map f∈kj B n
 |0,_=>by simp[kj]
 |n+1,h=>by
  rw[kj,List.mem_flatMap];refine⟨(List.range n).map f,uk B f n (fun v a=>h v (by omega)),List.mem_map.2 ⟨(f n).toNat,List.mem_range.2 ?_,?_⟩⟩
  ·have:=h n (by omega)
   omega
  ·have:=h n (by omega)
   rw[List.range_succ,List.map_append,Int.toNat_of_nonneg this.1];rfl
theorem BI:∀x:Nat,x<19->x ^ 3<=3 ^ x:=by decide
def fK (n:Nat) (t:Nat->Nat->Int) (v:Nat):Nat:=if v=0 then 17 else(T.val n t v).toNat
theorem BJ {n:Nat} {t:Nat->Nat->Int} (b:∀v,v<n->0<=T.val n t v) (o:T.sN (T.val n t) n<=18):∀m,m<=n->0<=T.sN (fun v=>if v=0 then 0 else T.val n t v) m∧T.sN (fun v=>if v=0 then 0 else T.val n t v) m<=18∧gO (fK n t) m ^ 3<=17 ^ 3*3 ^ (T.sN (fun v=>if v=0 then 0 else T.val n t v) m).toNat∧(m=0->gO (fK n t) m ^ 3<=1):=by
 have hle:∀m,m<=n->T.sN (fun v=>if v=0 then 0 else T.val n t v) m<=T.sN (T.val n t) m∧T.sN (T.val n t) m<=18:=by
  intro m hm;refine⟨T.cM fun v p=>by have:=b v (by omega);show (if v=0 then 0 else T.val n t v)<=_;split<;>omega,?_⟩;have key:∀k,m+k<=n->T.sN (T.val n t) m<=T.sN (T.val n t) (m+k):=by
   intro k;induction k with
   |zero=>intro _;exact Int.le_refl _
   |succ k g=>
    intro hk;have:=g (by omega);show _<=T.sN (T.val n t) (m+k)+T.val n t (m+k)
    have:=b (m+k) (by omega);omega
  have:=key (n-m) (by omega);rw[show m+(n-m)=n by omega] at this;omega
 intro m;induction m with
 |zero=>intro _;exact⟨by simp[T.sN],by simp[T.sN],by simp[T.sN,gO],fun _=>by simp[gO]⟩
 |succ m g=>
  intro hm;obtain⟨i1,i2,i3,i4⟩:=g (by omega);have j:=(hle (m+1) hm);have hb:=b m (by omega);have e:T.sN (fun v=>if v=0 then 0 else T.val n t v) (m+1)=T.sN (fun v=>if v=0 then 0 else T.val n t v) m+(if m=0 then 0 else T.val n t m):=rfl;refine⟨by rw[e];split<;>omega,by omega,?_,fun h=>by omega⟩;show (gO (fK n t) m*fK n t m) ^ 3<=_
  rw[Nat.mul_pow];by_cases a:m=0
  ·have h1:=i4 a
   have i:fK n t m=17:=if_pos a;rw[i];have l:1<=3 ^ (T.sN (fun v=>if v=0 then 0 else T.val n t v) (m+1)).toNat:=Nat.pow_pos (by decide);calc gO (fK n t) m ^ 3*17 ^ 3<=1*17 ^ 3:=Nat.mul_le_mul_right _ h1
    _=17 ^ 3*1:=by simp
    _<=_:=Nat.mul_le_mul_left _ l
  ·have i:fK n t m=(T.val n t m).toNat:=if_neg a
   rw[e,if_neg a] at j;rw[e,if_neg a,i,Int.toNat_add i1 hb,Nat.pow_add,<-Nat.mul_assoc];exact Nat.mul_le_mul i3 (BI _ (by omega))
theorem BK {n:Nat} {t:Nat->Nat->Int} (a:∀v,v<n->0<=T.val n t v) (b:T.sN (T.val n t) n<=18):gO (fK n t) n<16384:=by
 obtain⟨h1,l,e, -⟩:=BJ a b n (Nat.le_refl n);have g:3 ^ (T.sN (fun v=>if v=0 then 0 else T.val n t v) n).toNat<=3 ^ 18:=Nat.pow_le_pow_right (by decide) (by omega);have i:gO (fK n t) n ^ 3<=17 ^ 3*3 ^ 18:=Nat.le_trans e (Nat.mul_le_mul_left _ g);rcases Nat.lt_or_ge (gO (fK n t) n) 16384 with h|h
 ·exact h
 ·have j:16384 ^ 3<=gO (fK n t) n ^ 3:=Nat.pow_le_pow_left h 3
  have k:=Nat.le_trans j i;exact absurd k (by decide)
theorem BL {c:List Int}:(List.range c.length).map (fun v:Nat=>rd c (v:Int))=c:=by
 refine List.ext_getElem (by simp) fun i h1 a=>?_
 simp[rd,List.getD_eq_getElem?_getD,List.getElem?_eq_getElem a]
theorem BM {n:Nat} {t:Nat->Nat->Int} (k:T.Wt n t) (hn:0<n) {g:Int} (o:T.ee n t g) (B:T.sN (T.val n t) n<=19) (b:List (List Int)) (hk:b.Pairwise (· ≠ ·)) (p:∀l∈b,∃x,jk n t g l x):b.length<16384:=by
 have q:∀v,v<n->0<=T.val n t v:=fun v _=>T.di fun u _=>k.pos v u
 have h1:T.sN (T.can n t) n=T.sN (T.val n t) n-2*n:=by
  have key:∀m:Nat,T.sN (T.can n t) m=T.sN (T.val n t) m-2*m:=by
   intro m;induction m with
   |zero=>simp[T.sN]
   |succ m r=>
    show T.sN (T.can n t) m+T.can n t m=T.sN (T.val n t) m+T.val n t m-_
    rw[r];unfold T.can;omega
  exact key n
 have C:T.sN (T.can n t) n=2*g-2:=o;have s:T.sN (T.val n t) n<=18:=by omega
 have hle:=qk (L:=(kj (fK n t) n).map iM) hk (fun l w=>by
  obtain⟨x,c,i,rfl, -,h,y,D⟩:=p l w;refine List.mem_map.2 ⟨c,?_,rfl⟩;have:=uk (fK n t) (fun v=>rd c (v:Nat)) n (fun v a=>⟨h v a,by
   unfold fK;split
   ·rename_i e
    subst e;have j:=T.gh (f:=fun v=>rd c (v:Nat)) a h;have z:rd c ((0:Nat):Int)<=T.sN (fun v=>rd c (v:Nat)) n:=j;show rd c ((0:Nat):Int)<_
    omega
   ·rename_i e
    have j:=y v a e;have z:=h v a;show rd c (v:Int)<_
    omega⟩)
  rw[<-i,BL,i] at this;exact this)
 rw[List.length_map,uj] at hle;exact Nat.lt_of_le_of_lt hle (BK q s)
section
theorem um {w w1:World} {g j:Nat} {v:Value} (h:Below w.heap.size w w1):w.grownBy (w1.setCell ⟨g,j,none⟩ v) (some g):=
 ⟨h.os,h.tape,h.output,by simpa using h.size,fun k hk a=>(Below.heap_setCell w1 _ v k (fun e=>a (by rw[e]))).trans (h.block k hk)⟩
structure BN (cs:Array Value) (d:Value) (q:Int) (rows val:Value) (waits:Nat->Bool):Prop where
 size:cs.size=18
 d:cs[0]? =some d
 q:cs[1]? =some (.int .i64 q)
 rows:cs[2]? =some rows
 val:cs[3]? =some val
 waits:∀i,i<12->cs[6+i]? =some (.bool (waits i))
def cw (w:World) (g:Nat) (d:Value) (q:Int) (rows val:Value) (waits:Nat->Bool):Prop:=
 ∃cs:Array Value,w.heap[g]? =some (.cells cs 236 (0,0))∧BN cs d q rows val waits
namespace cw
variable {w w':World} {g:Nat} {d:Value} {q:Int} {rows val:Value} {waits:Nat->Bool}
theorem uo (h:cw w g d q rows val waits):w.cell? ⟨g,0,none⟩=some d:=by obtain⟨cs,hb,a⟩:=h;exact(ao hb 0).trans a.d
theorem BO (h:cw w g d q rows val waits):w.cell? ⟨g,1,none⟩=some (.int .i64 q):=by obtain⟨cs,hb,a⟩:=h;exact(ao hb 1).trans a.q
theorem lu (h:cw w g d q rows val waits):w.cell? ⟨g,2,none⟩=some rows:=by obtain⟨cs,hb,a⟩:=h;exact(ao hb 2).trans a.rows
theorem n9 (h:cw w g d q rows val waits):w.cell? ⟨g,3,none⟩=some val:=by obtain⟨cs,hb,a⟩:=h;exact(ao hb 3).trans a.val
theorem BP (h:cw w g d q rows val waits) (i:Nat) (hi:i<12):w.cell? ⟨g,6+i,none⟩=some (.bool (waits i)):=by obtain⟨cs,hb,a⟩:=h;exact(ao hb _).trans (a.waits i hi)
theorem frozen (h:cw w g d q rows val waits) (k:Nat):w.frozen? ⟨g,k,none⟩=false:=by obtain⟨cs,hb,_⟩:=h;exact bq hb k
theorem below (h:cw w g d q rows val waits) (hb:Below w.heap.size w w'):cw w' g d q rows val waits:=by obtain⟨cs,a,b⟩:=h;exact⟨cs,aG a hb,b⟩
theorem drew (h:cw w g d q rows val waits):cw w.drew g d q rows val waits:=h
theorem grown {row:Option Nat} (h:cw w g d q rows val waits) (a:w.grownBy w' row) (b:some g≠row):cw w' g d q rows val waits:=by obtain⟨cs,e,i⟩:=h;exact⟨cs,cI e a b,i⟩
theorem BQ (h:cw w g d q rows val waits) (i:Nat) (hi:i<12) (b:Bool):cw (w.setCell ⟨g,6+i,none⟩ (.bool b)) g d q rows val (fun j=>if j=i then b else waits j):=by
 obtain⟨cs,l,a⟩:=h;refine⟨cs.setIfInBounds (6+i) (.bool b),by simpa using bE l (6+i) (.bool b),by simp[a.size],?_,?_,?_,?_,?_⟩
 ·rw[Array.getElem?_setIfInBounds_ne (by omega)];exact a.d
 ·rw[Array.getElem?_setIfInBounds_ne (by omega)];exact a.q
 ·rw[Array.getElem?_setIfInBounds_ne (by omega)];exact a.rows
 ·rw[Array.getElem?_setIfInBounds_ne (by omega)];exact a.val
 ·intro k hk
  have m:=a.size;by_cases e:k=i
  ·subst e
   rw[Array.getElem?_setIfInBounds_self_of_lt (by omega)];simp
  ·rw[Array.getElem?_setIfInBounds_ne (by omega),a.waits k hk];simp[e]
theorem BR (h:cw w g d q rows val waits) (u:Value):cw (w.setCell ⟨g,2,none⟩ u) g d q u val waits:=by
 obtain⟨cs,b,a⟩:=h;have e:=a.size;refine⟨cs.setIfInBounds 2 u,by simpa using bE b 2 u,by simp[a.size],?_,?_,?_,?_,?_⟩
 ·rw[Array.getElem?_setIfInBounds_ne (by omega)];exact a.d
 ·rw[Array.getElem?_setIfInBounds_ne (by omega)];exact a.q
 ·rw[Array.getElem?_setIfInBounds_self_of_lt (by omega)]
 ·rw[Array.getElem?_setIfInBounds_ne (by omega)];exact a.val
 ·intro k hk
  rw[Array.getElem?_setIfInBounds_ne (by omega)];exact a.waits k hk
theorem eK (h:cw w g d q rows val waits) {α:Type} {k:Kd α} {e base:Nat} {ok:Nat->Prop} {v:Value} {xs:List α} (a:k.R e w base ok v xs) (b:∀q,q∈e::k.E->q≠236) (j:Nat) (u:Value):k.R e (w.setCell ⟨g,j,none⟩ u) base ok v xs:=by
 obtain⟨cs,hb,_⟩:=h;exact Kd.eK a hb b j u
theorem oX (h:cw w g d q rows val waits) {α:Type} {k:Kd α} {e base:Nat} {ok:Nat->Prop} {v:Value} {xs:List α} (a:Kd.S k e w base ok v xs) (b:∀q,q∈e::k.E->q≠236) (j:Nat) (u:Value):Kd.S k e (w.setCell ⟨g,j,none⟩ u) base ok v xs:=by
 obtain⟨cs,hb,_⟩:=h;exact Kd.oX a hb b j u
theorem ql (h:cw w g d q rows val waits) {v:Value} {e:Nat} (b:∀k,v.ownBlock=some k->∃cells,w.heap[k]? =some (.cells cells e (0,0))) (i:e≠236):some g≠v.ownBlock:=fun he=>by
 obtain⟨cs,hb,_⟩:=h;obtain⟨cells,a⟩:=b g he.symm;rw[hb] at a;injection a with a
 injection a with _ a _
 exact i a.symm
end cw
def iq (q:Int) (vl dl:List Int) (v:Nat):Bool:=decide ((v:Int)≠q)&&decide (rd vl v<=rd dl v)
theorem BS (g v:Nat) (q:Int) (b h:Option Addr) (cd k:Nat) (dl vl:List Int) (rows:Value) (waits:Nat->Bool) (w:World) (o:v<dl.length) (p:v<vl.length)
  (hw:cw w g (.slice b dl.length cd) q rows (.slice h vl.length k) waits) (hd:Kd.C (Kd.int .i64) w b dl.length dl) (i:Kd.C (Kd.int .i64) w h vl.length vl):
  Calls Tryz.prog 223 #[.pointer (some ⟨g,0,none⟩),.int .i64 v] w fun e w'=>e= .returned (.bool (iq q vl dl v))∧az w w':=by
 have r:=hw.uo;have s:=hw.BO;have u:=hw.n9;have x:=hd.2.1;have y:=i.2.1;unfold iq;by_cases a:(v:Int)=q
 ·rw[decide_eq_false (by simpa using a),Bool.false_and]
  subst a;go_enter Tryz.func223,Tryz.ntmps223
  go_wp2_with fail
  go_quiet (fail)
  go_wp2;go_ret;exact⟨rfl,by repeat(first|exact az.refl _|apply az.step)⟩
 ·rw[decide_eq_true (by simpa using a),Bool.true_and]
  obtain⟨ad,rfl,l⟩:=Kd.bG hd v (by omega) (by omega);obtain⟨z,rfl,m⟩:=Kd.bG i v (by omega) (by omega);rw[Int.toNat_natCast] at l m;have B:(0:Int)<=(v:Int):=by omega
  have D:(v:Int)<(dl.length:Int):=by omega
  have E:(v:Int)<(vl.length:Int):=by omega
  have j:((v:Int) != q)=true:=by simpa using a
  have n:=Lib.hid j;clear j;go_enter Tryz.func223,Tryz.ntmps223
  go_wp2_with fail
  go_quiet (fail)
  go_wp2;go_ret;refine⟨?_,by repeat(first|exact az.refl _|apply az.step)⟩;show Ending.returned (.bool ((v:Int) != q&&decide (rd vl v<=rd dl v)))=_
  rw[n.out,Bool.true_and]
theorem BU (g v:Nat) (q:Int) (a h:Option Addr) (cd k:Nat) (dl vl:List Int) (rows:Value) (waits:Nat->Bool) (w:World) (n:v<12) (r:v<dl.length) (s:v<vl.length)
  (hw:cw w g (.slice a dl.length cd) q rows (.slice h vl.length k) waits) (hd:Kd.C (Kd.int .i64) w a dl.length dl) (o:Kd.C (Kd.int .i64) w h vl.length vl):
  Calls Tryz.prog 218 #[.pointer (some ⟨g,0,none⟩),.int .i64 v] w fun e w'=>e= .returned (.tuple #[])∧cw w' g (.slice a dl.length cd) q rows (.slice h vl.length k) (fun j=>if j=v then iq q vl dl v else waits j)∧w.grownBy w' (some g):=by
 have E:(0:Int)<=(v:Int):=by omega
 have F:(v:Int)<12:=by omega
 have p:=Aside0.mk (fun W h1 u x=>BS g v q a h cd k dl vl rows waits W r s h1 u x);have l:=Aside0.mk hw;have y:=Aside0.mk hd;have z:=Aside0.mk o;clear hw hd o;generalize iq q vl dl v=b at p⊢;go_enter Tryz.func218,Tryz.ntmps218
 go_wp2_with fail
 go_region_with ((go_at_call 223;refine(p.out _ l.out.drew (Kd.eV y.out) (Kd.eV z.out)).mono ?_;rintro e w1 ⟨rfl,i⟩;have G:w1.cell? ⟨g,6+v,none⟩=some (.bool (waits v)):=(by obtain⟨m,rfl⟩:=i.out;exact l.out.BP v n);have H:w1.frozen? ⟨g,6+v,none⟩=false:=(by obtain⟨m,rfl⟩:=i.out;exact l.out.frozen _);have B:=Aside0.mk (show cw (w1.setCell ⟨g,6+v,none⟩ (.bool b)) g (.slice a dl.length cd) q rows (.slice h vl.length k) (fun j=>if j=v then b else waits j) from by obtain⟨m,rfl⟩:=i.out;exact cw.BQ (w:=w.drew.drewN m) l.out v n b);have D:=Aside0.mk (show w.grownBy (w1.setCell ⟨g,6+v,none⟩ (.bool b)) (some g) from by exact um ((gF (Below.refl w.heap.size w)).trans i.below));clear i))
 all_goals go_wp2
 all_goals go_end0
 all_goals exact⟨rfl,B.out,D.out⟩
end
end Go.Proofs.YtffdiakgjakngaaGreat.P
namespace Go.Proofs.YtffdiakgjakngaaGreat.P
open Go Go.RowKit
set_option linter.unusedVariables false
set_option linter.unusedSimpArgs false
set_option maxHeartbeats 8000000
set_option maxRecDepth 100000
section
variable {F:Fence} {n:Nat} {P:Program}
theorem uq {σ α:Type} {g:Operand} {ps:Array Tmp} {assign body:Code} {Q:Exit->Act->World->Prop} {a:Act} {w:World}
  (aS:F.round=none) (h1:1<=n) {gf:Nat} {lb:Array Value} (hg:a.eval g= .func (.func gf) #[] lb) (a1:F.fn gf) (eg:∀args w,(callFunc gf args).run P w= .ok (.enter gf args) w)
  {bF:α->Array Value} {Start:σ->World->World->Prop} {M:σ->World->World->Prop} {T:σ->α->World->World->Prop} {z:σ->World->World->Prop} {S Sp:σ->List α->World->Prop} {Bd:List α->Prop}
  (a4:∀o,iJ F (n-1) P gf lb bF Start M T z S Sp Bd ((w.alloc (.deferred (some []))).alloc (.loop o))) (a5:∀x,(bF x).size=ps.size)
  (m:σ->Prop) (a9:∀o s W1,Start s ((w.alloc (.deferred (some []))).alloc (.loop o)) W1->m s∧bX w.heap.size ((w.alloc (.deferred (some []))).alloc (.loop o)) W1)
  (N:∀s A B,m s->M s A B->bX w.heap.size A B) (be:∀s x A B,m s->T s x A B->bX w.heap.size A B)
  (I:σ->List α->World->Prop) (u:Code->σ->List α->World->Prop)
  (bf:∀s pre A B,m s->I s pre A->M s A B->I s pre B) (bg:∀c s pre A B,m s->u c s pre A->M s A B->u c s pre B)
  (bi:∀s pre A B,I s pre A->Bk (w.heap.size+1) A B->I s pre B) (bk:∀c s pre A B,u c s pre A->Bk (w.heap.size+1) A B->u c s pre B)
  (bn:∀s A B C D,Bk (w.heap.size+1) A B->z s B C->Bk (w.heap.size+1) C D->z s A D)
  (h0:∀o s W1,Start s ((w.alloc (.deferred (some []))).alloc (.loop o)) W1->I s [] W1) (a₁:α->World->Act) (J:α->World->World)
  (bv:∀x W,bX w.heap.size W (J x W)) (bw:∀s x A D,z s (J x A) D->z s A D)
  (bx:∀(l:Nat) (x:α) (W:World) (K:Act->World->Prop),K (a₁ x W) (J x W)->
   assign.wpIn (F.inRound l) (n-1-1) P (Exit.then K (fun _ _ _=>False)) {tmps:=(ps.zip (bF x)).foldl (fun t (p,v)=>t.setIfInBounds p v) a.tmps,defers:=[]} W)
  (b0:∀(l:Nat) (s:σ) (pre:List α) (x:α) (L W1 W:World),m s->I s pre L->T s x L W1->Bd pre->Bk (w.heap.size+1) (J x W1) W->body.wpIn (F.inRound l) (n-1-1) P (pS (σ:=σ) w.heap.size (z s) (I s) (fun c=>u c s) (pre++[x]) W) (a₁ x W1) W)
  (b1:∀(s:σ) (xs:List α) (W W':World),m s->S s xs W->I s xs W->Bk (w.heap.size+1) W W'->W'.heap[w.heap.size]? =some (.deferred (some []))->Q .normal {a with defers:={target:=.collected w.heap.size,args:=#[]}::a.defers} W')
  (b2:∀(c:Code) (s:σ) (pre:List α) (W W':World),m s->Sp s pre W->u c s pre W->Bk (w.heap.size+1) W W'->W'.heap[w.heap.size]? =some (.deferred (some []))->c.wpIn F n P Q {a with defers:={target:=.collected w.heap.size,args:=#[]}::a.defers} W'):
  (Code.rangeFunc g ps assign body).wpIn F n P Q a w:=by
 refine wpIn_rangeFunc ?_;intro fn b3;rw[aS];obtain⟨rec,q⟩:∃rec:LoopState->Option Code->Loop,rec=fun st pe=>{state:=st,pending:=pe,fn,tmps:=a.tmps,params:=ps,assign,body,defers:=w.heap.size}:=⟨_,rfl⟩
 obtain⟨W1,E⟩:∃W1,(w.alloc (.deferred (some []))).alloc (.loop (rec .ready none))=W1:=⟨_,rfl⟩;have b5:W1.heap[w.heap.size+1]? =some (.loop (rec .ready none)):=by
  rw[<-E];have:=World.alloc_heap_new (w.alloc (.deferred (some []))) (.loop (rec .ready none));rwa [World.size_alloc] at this
 have b6:W1.heap[w.heap.size]? =some (.deferred (some [])):=by
  rw[<-E];exact(Below.heap_alloc _ _ _ (by simp)).trans (World.alloc_heap_new w _)
 refine⟨w.heap.size+1,[{target:=.collected w.heap.size,args:=#[]}],W1,{target:=.fn (.func gf) lb,args:=#[.func (.yield (w.heap.size+1)) #[] #[]]},W1,gf,
  #[.func (.yield (w.heap.size+1)) #[] #[]]++lb,W1,?_,?_,?_,?_,fun _=>h1,?_⟩
 ·rw[<-E,q];exact run_enterLoop_outer _ _ _ _ _
 ·simp only[resolve,hg]
  simp[go_sem]
 ·intro f' aB;simp[Target.leads] at aB;subst aB;exact a1
 ·simp[invoke,go_sem,eg]
 ·have hs:=a4 (rec .ready none)
  rw[E] at hs;have ld:∀{A B:World} {r:Loop},bX w.heap.size A B->A.heap[w.heap.size+1]? =some (.loop r)->B.heap[w.heap.size+1]? =some (.loop r):=fun h U=>h _ _ (by omega) (by omega) U rfl
  have G:∀{A B:World},bX w.heap.size A B->A.heap[w.heap.size]? =some (.deferred (some []))->B.heap[w.heap.size]? =some (.deferred (some [])):=fun h U=>h _ _ (by omega) (by omega) U rfl
  refine(hs (w.heap.size+1)
   (fun s pre W=>m s∧I s pre W∧W.heap[w.heap.size+1]? =some (.loop (rec .ready none))∧W.heap[w.heap.size]? =some (.deferred (some [])))
   (fun s pre W=>m s∧∃c,u c s pre W∧W.heap[w.heap.size+1]? =some (.loop (rec .done (some c)))∧W.heap[w.heap.size]? =some (.deferred (some [])))
   (fun s pre A B h j=>⟨h.1,bf s pre A B h.1 h.2.1 j,ld (N s A B h.1 j) h.2.2.1,G (N s A B h.1 j) h.2.2.2⟩)
   (fun s pre A B h j=>by
    obtain⟨i,c,hc,b,hk⟩:=h;exact⟨i,c,bg c s pre A B i hc j,ld (N s A B i j) b,G (N s A B i j) hk⟩)
   (fun s W2 j=>by
    rw[<-E] at j;have hk:=a9 (rec .ready none) s W2 j;have y:=hk.2;rw[E] at y;exact⟨hk.1,h0 _ s W2 j,ld y b5,G y b6⟩)
   ?_).mono ?_
  ·rintro s pre x L W ⟨i,hi,aL,aO⟩ V b'
   have y:=be s x L W i V;have b:=ld y aL;have hk:=G y aO;have X:=run_yield (P:=P) (args:=bF x) b (by rw[q];exact a5 x);rw[q] at X;obtain⟨Y,ca⟩:∃Y,Y=W:=⟨_,rfl⟩;have O:=bv x W;have b:=ld O b;have hk:=G O hk;have Z:=fun D=>bw s x W D
   have aa:=b0 (w.heap.size+1) s pre x L W;have ab:=bx (w.heap.size+1) x W;clear y aL aO;rw[<-ca] at X ab Z aa b hk O V⊢;generalize cj:J x Y=W at b hk O Z aa ab;have cb:w.heap.size+1<W.heap.size:=(Array.getElem?_eq_some_iff.1 b).1;have aP:Bk (w.heap.size+1) W (W.putObj (w.heap.size+1) (.loop {rec .ready none with state:=.busy})):=⟨_,_,b,rfl,rfl⟩;refine⟨fn,_,assign,body,X,roundIn_of_wpIn b3 (ab _ ⟨_,run_beginRound b (by rw[q]),?_⟩)⟩;have cc:(W.putObj (w.heap.size+1) (.loop {rec .ready none with state:=.busy})).heap[w.heap.size+1]? =some (.loop {rec .ready none with state:=.busy}):=World.putObj_heap_same cb;have cd:(W.putObj (w.heap.size+1) (.loop {rec .ready none with state:=.busy})).heap[w.heap.size]? =some (.deferred (some [])):=(World.putObj_heap_other (by omega)).trans hk;refine wpIn_mono (aa _ i hi V b' aP) ?_;have fin:∀(jump:Option Code) (k:World),bX w.heap.size (W.putObj (w.heap.size+1) (.loop {rec .ready none with state:=.busy})) k->
     (Instr.endRound (w.heap.size+1) jump).run P k= .ok (.bool jump.isNone) (k.putObj (w.heap.size+1) (.loop (rec (if jump.isNone then .ready else .done) jump)))∧
     Bk (w.heap.size+1) k (k.putObj (w.heap.size+1) (.loop (rec (if jump.isNone then .ready else .done) jump)))∧
     (k.putObj (w.heap.size+1) (.loop (rec (if jump.isNone then .ready else .done) jump))).heap[w.heap.size+1]? =some (.loop (rec (if jump.isNone then .ready else .done) jump))∧
     (k.putObj (w.heap.size+1) (.loop (rec (if jump.isNone then .ready else .done) jump))).heap[w.heap.size]? =some (.deferred (some [])):=fun jump k H=>by
    have ad:=ld H cc;have:=run_endRound (P:=P) jump ad;rw[q] at this⊢;exact⟨this,⟨_,_,ad,rfl,rfl⟩,World.putObj_heap_same (Array.getElem?_eq_some_iff.1 ad).1,(World.putObj_heap_other (by omega)).trans (G H cd)⟩
   rintro e a3 k hp;cases e with
   |normal=>
    obtain⟨H,ce,ag⟩:=hp;obtain⟨hr,R,am,an⟩:=fin none k H;exact⟨_,_,hr,.inl ⟨rfl,⟨i,bi s _ _ _ ag R,am,an⟩,Z _ (bn s _ _ _ _ aP ce R)⟩⟩
   |ret=>
    obtain⟨H,ag⟩:=hp;obtain⟨hr,R,am,an⟩:=fin (some .ret) k H;exact⟨_,_,hr,.inr ⟨rfl,i,.ret,bk _ s _ _ _ ag R,am,an⟩⟩
   |exit id=>exact hp.elim
   |goto t=>exact hp.elim
   |panic ch=>exact hp.elim
   |outgrown=>exact hp.elim
  ·rintro e W2 ⟨⟨v,rfl⟩,(⟨s,xs,hS,i,hi,b,hk⟩|⟨s,pre,cf,i,c,hi,b,hk⟩)⟩
   ·exact⟨none,_,by have:=run_endLoop (P:=P) b (by rw[q];simp);rw[q] at this;exact this,b1 s xs W2 _ i hS hi ⟨_,_,b,rfl,rfl⟩ ((World.putObj_heap_other (by omega)).trans hk)⟩
   ·exact⟨some c,_,by have:=run_endLoop (P:=P) b (by rw[q];simp);rw[q] at this;exact this,b2 c s pre W2 _ i cf hi ⟨_,_,b,rfl,rfl⟩ ((World.putObj_heap_other (by omega)).trans hk)⟩
end
end Go.Proofs.YtffdiakgjakngaaGreat.P
namespace Go.Proofs.YtffdiakgjakngaaGreat.P
open Go.RowKit Go.Proofs.YtffdiakgjakngaaGreatW.PrintWords Go.Proofs.YtffdiakgjakngaaGreatW.PrintLast Go.Proofs.YtffdiakgjakngaaGreatW.PrintMore
set_option linter.unusedVariables false
set_option linter.unusedSimpArgs false
set_option maxHeartbeats 8000000
set_option maxRecDepth 100000
section
attribute [local go_sem] Oper.semAt_some
def fk (xs:List (Nat×Int×Int)):List (List Value):=xs.map fun x=>[.int .i64 x.2.1,.int .i64 x.2.2]
theorem BW (k:Nat) (N:Int) (A0:Option Addr) (c0:Nat) (E:List S83) (w:World) (U:Kd.C aK w A0 E.length E) (an:E.length<=c0) (m:aY.f k N E=some 0) (V:eF E=true):
  Calls Tryz.prog 178 #[.agg #[.int .i64 N,.slice A0 E.length c0]] w fun e w'=>∃v,e= .returned (.tuple #[v,.int .i64 0])∧(Kd.raw 2).R 205 w' w.heap.size (fun _=>True) v (fk (bT E E.length))∧Below w.heap.size w w':=by
 have hu:=Tryz.underlying24;have Ht:=Aside0.mk m;have HE:=Aside0.mk V;clear m V;refine(callsIn_wide (n:=10)).1 ?_;refine callsIn_of_wp_marks Tryz.func178 rfl trivial ?_ rfl;simp only[Tryz.ntmps178,List.size_toArray,List.length_cons,List.length_nil,Nat.reduceAdd,Nat.reduceSub,Array.replicate_succ,Array.replicate_zero,List.push_toArray,List.append_toArray,List.nil_append,List.cons_append];gi_wp2_with (first|(refine⟨trivial,?_⟩;gi_at_call 64;refine(callsIn_wide.2 (aY.calls k N A0 c0 E 0 _ (Kd.br U _) an Ht.out)).mono ?_;rintro e w1 ⟨rfl,hb⟩;have u:=Aside0.mk (aG (heap_alloc_new w (.cells #[.int .i64 N,.slice A0 E.length c0] 24)) hb);have aB:w1.cell? ⟨w.heap.size,0,none⟩=some (.int .i64 N):=(ao u.out 0).trans rfl;have aF:w1.cell? ⟨w.heap.size,1,none⟩=some (.slice A0 E.length c0):=(ao u.out 1).trans rfl;have aL:(w1.alloc (.cells #[.slice none 0 0] 156)).cell? ⟨w.heap.size,0,none⟩=some (.int .i64 N):=(ao (aw u.out _) 0).trans rfl;have aO:(w1.alloc (.cells #[.slice none 0 0] 156)).cell? ⟨w.heap.size,1,none⟩=some (.slice A0 E.length c0):=(ao (aw u.out _) 1).trans rfl;have X:=Aside0.mk (aU (aq (Below.refl w.heap.size w) _) hb);clear hb)|(refine⟨trivial,?_⟩;gi_at_call 85;refine(callsIn_wide.2 (tq N A0 c0 E _)).mono ?_;rintro e w3 ⟨rfl,rfl⟩))
 have aP:w.heap.size<w1.heap.size:=ay u.out;have G:=Aside0.mk (show ((w1.alloc (.cells #[.slice none 0 0] 156)).alloc (.cells #[.int .i64 N,.slice A0 E.length c0] 24)).heap[w1.heap.size]? =some (.cells #[.slice none 0 0] 156 (0,0)) from aw (heap_alloc_new w1 _) _);have I:=Aside0.mk (show ((w1.alloc (.cells #[.slice none 0 0] 156)).alloc (.cells #[.int .i64 N,.slice A0 E.length c0] 24)).heap[w1.heap.size+1]? =some (.cells #[.int .i64 N,.slice A0 E.length c0] 24 (0,0)) from heap_alloc2_new w1 _ _);have J:=Aside0.mk (aq (aq X.out (.cells #[.slice none 0 0] 156)) (.cells #[.int .i64 N,.slice A0 E.length c0] 24));clear aB aF aL aO u X;generalize ((w1.alloc (.cells #[.slice none 0 0] 156)).alloc (.cells #[.int .i64 N,.slice A0 E.length c0] 24))=y at G I J⊢;have aS:=ay G.out;have a0:=ay I.out;generalize a2:w1.heap.size+1=Y at I a0⊢;generalize w1.heap.size=bo at G aP aS a2⊢;have b5:=J.out.size;refine uq (σ:=Unit) (α:=Nat×Int×Int) (F:=Fence.wide) (n:=10) rfl (by decide) (gf:=140) (lb:=#[.pointer (some ⟨Y,0,none⟩)]) rfl trivial (enters_of Tryz.func140 (by kernel_rfl) rfl)
  (fun o=>AN Y N A0 c0 E w _ U HE.out (aq (aq J.out _) _) (aw (aw I.out _) _)) (fun _=>rfl)
  (fun _=>True) ?ei ?st ?ar
  (fun _ pre W=>y.heap.size<=W.heap.size∧∃v,W.heap[bo]? =some (.cells #[v] 156 (0,0))∧(Kd.raw 2).R 205 W w.heap.size (fun _=>True) v (fk pre)∧Below w.heap.size w W) (fun _ _ _ _=>False)
  ?is (fun _ _ _ _ _ _ h _=>h) ?ib (fun _ _ _ _ _ h _=>h) ?kt ?h0 ?a1 (fun x W=>W.alloc (.cells #[.int .i64 x.2.1,.int .i64 x.2.2] 116)) ?hw ?qT ?assign ?body ?done (fun _ _ _ _ _ _ _ h=>h.elim)
 case assign=>
  intro l x W K hK;gi_wp2;exact hK
 case ei=>
  intro o s W1 h;exact⟨trivial,by rw[h];exact bX.refl _ _⟩
 case st=>intro s A B _ h k o h1 z g _;exact(h.block k (Array.getElem?_eq_some_iff.1 g).1).trans g
 case ar=>intro s x A B _ h k o h1 z g _;exact(h.block k (Array.getElem?_eq_some_iff.1 g).1).trans g
 case hw=>intro x W k o h1 z g _;exact aw g _
 case qT=>
  intro s x A D h;exact⟨fun aQ=>((Below.refl w.heap.size A).alloc aQ _).trans (h.1 (by simp;omega)),fun k cs t m hk=>h.2 k cs t m (aw hk _)⟩
 case is=>
  rintro s pre A B _ ⟨r,v,h1,z,g⟩ L;exact⟨Nat.le_trans r L.size,v,aG h1 L,Kd.cp z L,aU g L⟩
 case ib=>
  rintro s pre A B ⟨r,v,h1,z,g⟩ hb;exact⟨by rw[hb.size];exact r,v,hb.cells h1,db z hb,g.trans (hb.below w.heap.size (by omega))⟩
 case kt=>
  intro s A B C D P Z aa;exact⟨fun aQ=>((P.below w.heap.size (by omega)).trans (Z.1 (by rw[P.size];exact aQ))).trans (aa.below w.heap.size (by omega)),fun k cs t m hk=>aa.cells (Z.2 k cs t m (P.cells hk))⟩
 case h0=>
  rintro o s W1 rfl;exact⟨by simp;omega,_,aw (aw G.out _) _,Kd.cV _ _ _ _ _,aq (aq J.out _) _⟩
 case body=>
  rintro l s pre ⟨i,a,b⟩ Wb W1 W _ ⟨r,v,i1,i2,i3⟩ H b' j;have c1:=aG i1 H;have c2:=Kd.cp i2 H;have c3:=aU i3 H;have bf:y.heap.size<=W1.heap.size:=Nat.le_trans r H.size;have p:=Aside0.mk (j.cells (aw c1 (.cells #[.int .i64 a,.int .i64 b] 116)));have q:=Aside0.mk (db (Kd.aI c2 (.cells #[.int .i64 a,.int .i64 b] 116)) j);have b3:=Aside0.mk ((aq c3 (.cells #[.int .i64 a,.int .i64 b] 116)).trans (j.below w.heap.size (by omega)));have b4:=Aside0.mk (j.cells (heap_alloc_new W1 (.cells #[.int .i64 a,.int .i64 b] 116)));have aQ:W.heap.size=W1.heap.size+1:=by rw[j.size];simp
  have ca:y.heap.size<=W.heap.size:=by omega
  clear i1 i2 i3 H j c1 c2 c3 aQ bf r;generalize W1.heap.size=pb at b4⊢;obtain⟨Ar,cr,rfl⟩:=Kd.aZ q.out;have ad:(fk pre).length=pre.length:=by simp[fk]
  rw[ad] at p q;have hc:=dt p.out;have hf:=bq p.out 0;have cc:W.cell? ⟨pb,0,none⟩=some (.int .i64 a):=(ao b4.out 0).trans rfl;have cd:W.cell? ⟨pb,1,none⟩=some (.int .i64 b):=(ao b4.out 1).trans rfl;have LN:Aside0 (((fk pre).length+1)*16<=140737488355328):=⟨by rw[ad];omega⟩;have ce:=Tryz.underlying116;gi_wp2_with (gi_at_builtin;go_loud (refine nL (Kd.raw 2) (w0:=w) w.heap.size rfl (.tmp 17) (.tmp 23) 156 205 (.agg #[.int .i64 0,.int .i64 0]) 16 rfl Tryz.underlying156 ti rfl (by decide) (by omega) _ _ [.int .i64 a,.int .i64 b] [.int .i64 a,.int .i64 b] (fun _=>True) (fun _=>False) rfl rfl ⟨rfl,rfl,by simp[Value.oneCell']⟩ (fun _ hk=>hk.elim) (fun _ _=>trivial) q.out b3.out b3.out.size LN.out ?_;intro v1 cf Q hb S bk;obtain⟨T,c1,rfl⟩:=Kd.aZ Q;have M:=Aside0.mk ((S.block bo (ay p.out) (Kd.dh q.out p.out (by decide))).trans p.out);have ch:=dt M.out;have ci:=bq M.out 0;have bn:=Aside0.mk Q;have bv:=Aside0.mk hb;have O:=Aside0.mk S;clear Q hb S bk))
  have bw:(fk pre++[[Value.int .i64 a,Value.int .i64 b]]).length=pre.length+1:=by simp[fk]
  refine⟨(nM q.out O.out).trans (fa _ _ (ay G.out)),⟨fun aQ=>Below.setCell ((Below.refl w.heap.size W).grown O.out aQ (Kd.dK q.out)) (by show w.heap.size<=bo;omega) _,fun k cs t m hk=>?_⟩,by have:=O.out.size;simp;omega,.slice T (pre.length+1) c1,by simpa using bE M.out 0 (.slice T (pre.length+1) c1),?_,ec bv.out (by show w.heap.size<=bo;omega)⟩
  ·have b0:k≠bo:=by
    rintro rfl;have h1:=hk.symm.trans p.out;injection h1 with h1
    injection h1 with _ h1 _
    rcases m with rfl|rfl<;>exact absurd h1 (by decide)
   rw[Below.heap_setCell _ _ _ _ b0];exact(O.out.block k (ay hk) (Kd.dh q.out hk (by rcases m with rfl|rfl<;>decide))).trans hk
  ·have h:=Kd.eK bn.out M.out (by decide) 0 (.slice T (pre.length+1) c1)
   rw[bw] at h;simpa [fk] using h
 case done=>
  rintro s xs W W' _ rfl ⟨r,v,i1,i2,i3⟩ j ag;have p:=Aside0.mk (j.cells i1);have q:=Aside0.mk (db i2 j);have b3:=Aside0.mk (i3.trans (j.below w.heap.size (by omega)));have ak:=Aside0.mk ag;clear i1 i2 i3 ag;have hc:=dt p.out;gi_wp2_with fail
  have am:Bk y.heap.size W' (W'.putObj y.heap.size (.deferred none)):=⟨_,_,ak.out,rfl,rfl⟩;exact iK (D:=y.heap.size) rfl ak.out (results_tmp2 rfl _ _ _) ⟨_,rfl,db q.out am,b3.out.trans (am.below w.heap.size (by omega))⟩
end
section
theorem ur (L:List (Nat×Int×Int)):(fk L).length=L.length:=by simp[fk]
theorem uu {s:Nat} {a b:Int}:∀{j:Nat} {x:Nat×Int×Int},x∈fI s a b j->x.2.1=a∧x.2.2=b
 |0,x,h=>absurd h (by simp[fI])
 |j+1,x,h=>by
  simp only[fI,List.mem_append,List.mem_singleton] at h;rcases h with h|rfl
  ·exact uu h
  ·exact⟨rfl,rfl⟩
theorem uw {n:Nat} {E:List S83} (h:∀k,k<E.length->0<=(ai E k).f0∧(ai E k).f0<n∧0<=(ai E k).f1∧(ai E k).f1<n∧1<=(ai E k).f2∧(ai E k).f2<=50):
  ∀k,k<=E.length->∀x∈bT E k,0<=x.2.1∧x.2.1<n∧0<=x.2.2∧x.2.2<n
 |0,_=>fun x a=>absurd a (by simp[bT])
 |k+1,hk=>fun x a=>by
  simp only[bT,List.mem_append] at a;rcases a with a|a
  ·exact uw h k (by omega) x a
  ·obtain⟨h1,b⟩:=uu a
   have:=h k (by omega);omega
theorem BX {n:Nat} {E:List S83} (h:∀k,k<E.length->0<=(ai E k).f0∧(ai E k).f0<n∧0<=(ai E k).f1∧(ai E k).f1<n∧1<=(ai E k).f2∧(ai E k).f2<=50):
  ∀x∈bT E E.length,0<=x.2.1∧x.2.1<n∧0<=x.2.2∧x.2.2<n:=uw h _ (Nat.le_refl _)
theorem ux {E:List S83} (h:eF E=true):(bT E E.length).length<=2000:=by
 obtain⟨h1,a⟩:=pQ h;have:=nH a E.length (Nat.le_refl _);rw[nN];omega
def ir (l:List Int) (v:Nat):List Int:=l.set v (rd l v+1)
def gz (l:List Int) (x:Nat×Int×Int):List Int:=if x.2.1=x.2.2 then l else ir (ir l x.2.1.toNat) x.2.2.toNat
def dw (n:Nat) (L:List (Nat×Int×Int)) (k:Nat):List Int:=(L.take k).foldl gz (List.replicate n 0)
theorem BY (l:List Int) (v:Nat):(ir l v).length=l.length:=by simp[ir]
theorem BZ (l:List Int) (x:Nat×Int×Int):(gz l x).length=l.length:=by
 unfold gz;split<;>simp[BY]
theorem uy:∀(L:List (Nat×Int×Int)) (l:List Int),(L.foldl gz l).length=l.length
 |[],l=>rfl
 |x::L,l=>by rw[List.foldl_cons,uy L,BZ]
theorem uz (n:Nat) (L:List (Nat×Int×Int)) (k:Nat):(dw n L k).length=n:=by simp[dw,uy]
theorem B4 (n:Nat) (L:List (Nat×Int×Int)) (k:Nat) (hk:k<L.length):dw n L (k+1)=gz (dw n L k) L[k]:=by
 unfold dw;rw[List.take_succ_eq_append_getElem hk,List.foldl_append];rfl
theorem B6 {l:List Int} {v:Nat} {B:Int} {x:Int} (h:∀i:Nat,0<=rd l i∧rd l i<=B) (a:0<=x∧x<=B+1) (i:Nat):0<=rd (l.set v x) i∧rd (l.set v x) i<=B+1:=by
 have hi:=h i;simp only[rd,Int.toNat_natCast,List.getD_eq_getElem?_getD,List.getElem?_set] at hi⊢;split
 ·split
  ·simpa using a
  ·simp;omega
 ·omega
theorem qm {l:List Int} {v:Nat} {B:Int} (h:∀i:Nat,0<=rd l i∧rd l i<=B) (i:Nat):0<=rd (ir l v) i∧rd (ir l v) i<=B+1:=
 B6 h (by have:=h v;omega) i
theorem B7 {l:List Int} {x:Nat×Int×Int} {B:Int} (h:∀i:Nat,0<=rd l i∧rd l i<=B) (i:Nat):0<=rd (gz l x) i∧rd (gz l x) i<=B+2:=by
 unfold gz;split
 ·have:=h i;omega
 ·have:=qm (v:=x.2.2.toNat) (qm (v:=x.2.1.toNat) h) i;omega
theorem uA:∀(L:List (Nat×Int×Int)) (l:List Int) (B:Int),(∀i:Nat,0<=rd l i∧rd l i<=B)->∀i:Nat,0<=rd (L.foldl gz l) i∧rd (L.foldl gz l) i<=B+2*L.length
 |[],l,B,h=>fun i=>by have:=h i;simpa using this
 |x::L,l,B,h=>fun i=>by
  have:=uA L (gz l x) (B+2) (B7 h) i;simp only[List.foldl_cons,List.length_cons];omega
theorem uB (n:Nat) (L:List (Nat×Int×Int)) (k:Nat) (i:Nat):0<=rd (dw n L k) i∧rd (dw n L k) i<=2*L.length:=by
 have h:=uA (L.take k) (List.replicate n 0) 0 (fun i=>by simp[rd,List.getD_eq_getElem?_getD,List.getElem?_replicate];split<;>simp) i;have a:(L.take k).length<=L.length:=by simp;omega
 unfold dw;omega
theorem B8 {W:World} {gb n:Nat} {ok:Nat->Prop} {g0 len cap:Nat} {rows:List (List Int)} (h:Kd.S (Kd.slice 3 (Kd.int .i64)) 25 W gb ok (.slice (some ⟨g0,0,none⟩) len cap) rows) (s:rows.length=len) (m:∀y∈rows,y.length=n) (a b:Nat) (C:a<len) (hb:b<n):
  ∃(gi ci:Nat) (z:Int),W.cell? ⟨g0,a,none⟩=some (.slice (some ⟨gi,0,none⟩) n ci)∧W.cell? ⟨gi,b,none⟩=some (.int .i64 z)∧W.frozen? ⟨gi,b,none⟩=false∧ok gi∧gb<=gi∧(∃cells,W.heap[gi]? =some (.cells cells 3 (0,0)))∧
   ∀x:Int,∃i:List (List Int),i.length=len∧(∀y∈i,y.length=n)∧Kd.S (Kd.slice 3 (Kd.int .i64)) 25 (W.setCell ⟨gi,b,none⟩ (.int .i64 x)) gb ok (.slice (some ⟨g0,0,none⟩) len cap) i:=by
 obtain⟨oki,c,D,⟨ev,rfl,g⟩,j,u,l⟩:=Kd.xX h [] (a:Int) (by omega) (by omega);rw[Int.toNat_natCast] at g j l;have o:(rows.getD a []).length=n:=by
  rw[List.getD_eq_getElem?_getD,List.getElem?_eq_getElem (by omega)];exact m _ (List.getElem_mem (by omega))
 obtain⟨gi,ci,rfl,v,E,cells,w⟩:=Kd.fg g (by omega);rw[o] at g l j;obtain⟨p,q⟩:=Kd.bJ (0:Int) g (b:Int) (by omega) (by omega);rw[Int.toNat_natCast] at p q;have r:=j 0 _ rfl;refine⟨gi,ci,_,?_,p,q,(u gi (g.1 gi rfl)).1,v,⟨cells,w⟩,fun x=>⟨rows.set a ((rows.getD a []).set b x),by simp[s],?_,?_⟩⟩
 ·rw[show (⟨g0,0,none⟩:Addr).add (a*(Kd.slice 3 (Kd.int .i64)).sz+0)=⟨g0,a,none⟩ from by simp[Kd.slice,Addr.add];intro e;exact e.symm] at r
  exact r
 ·intro y B
  rcases List.mem_or_eq_of_mem_set B with h1|h1
  ·exact m y h1
  ·subst h1;simpa using o
 ·have hp:=Kd.cZ g (b:Int) x
  rw[Int.toNat_natCast] at hp;exact l hp.2 (fun k hk=>by cases hk;exact g.1 gi rfl) ⟨_,rfl,hp.1⟩
theorem B9 {w:World} {A:Option Addr} {n:Nat} {L:List (Nat×Int×Int)} (h:Kd.C (Kd.raw 2) w A n (fk L)) (j:Nat) (m:j<n) (i:j<L.length):∃ad,A=some ad∧w.cell? (ad.add (j*2))=some (.int .i64 L[j].2.1)∧w.cell? ⟨(ad.add (j*2)).block,(ad.add (j*2)).off+1,none⟩=some (.int .i64 L[j].2.2):=by
 obtain⟨ad,c,e,_,a,b⟩:=Kd.oM h [] (j:Int) (by omega) (by omega);rw[Int.toNat_natCast] at a b;have l:(fk L).getD j []=[.int .i64 L[j].2.1,.int .i64 L[j].2.2]:=by
  rw[List.getD_eq_getElem?_getD,List.getElem?_eq_getElem (by simpa [fk] using i)];simp[fk]
 rw[l] at a;obtain rfl:=a.1;have g:∀k u,[Value.int .i64 L[j].2.1,.int .i64 L[j].2.2][k]? =some u->w.cell? (ad.add (j*2+k))=some u:=b;exact⟨ad,e,g 0 _ rfl,by rw[<-oJ _ _ 1 (by omega)];exact g 1 _ rfl⟩
structure PS (w:World) (gb n gp bv g0 cr:Nat) (q:Int) (dv:Value) (dl:List Int) (ev:Value) (L:List (Nat×Int×Int)) (W:World) (rows:List (List Int)) (vl:List Int):Prop where
 len:rows.length=n
 all:∀y∈rows,y.length=n
 iu:cw W gp dv q (.slice (some ⟨g0,0,none⟩) n cr) (.slice (some ⟨bv,0,none⟩) n n) (fun _=>false)
 d:(Kd.int .i64).R 3 W gb (fun k=>k≠bv) dv dl
 val:(Kd.int .i64).R 3 W gb (fun k=>some k≠dv.ownBlock) (.slice (some ⟨bv,0,none⟩) n n) vl
 rows:Kd.S (Kd.slice 3 (Kd.int .i64)) 25 W gb (fun k=>some k≠dv.ownBlock∧k≠bv) (.slice (some ⟨g0,0,none⟩) n cr) rows
 ends:(Kd.raw 2).R 205 W gb (fun _=>True) ev (fk L)
 below:Below gb w W
namespace PS
variable {w:World} {gb n gp bv g0 cr:Nat} {q:Int} {dv:Value} {dl:List Int} {ev:Value} {L:List (Nat×Int×Int)} {W:World} {rows:List (List Int)} {vl:List Int}
theorem drewN (h:PS w gb n gp bv g0 cr q dv dl ev L W rows vl) (m:Nat):PS w gb n gp bv g0 cr q dv dl ev L (W.drewN m) rows vl:=
 ⟨h.len,h.all,h.iu,Kd.ba h.d m,Kd.ba h.val m,Kd.xM h.rows m,Kd.ba h.ends m,bP h.below m⟩
theorem row (h:PS w gb n gp bv g0 cr q dv dl ev L W rows vl) (a b:Nat) (k:a<n) (hb:b<n):∃(gi ci:Nat) (z:Int),W.cell? ⟨g0,a,none⟩=some (.slice (some ⟨gi,0,none⟩) n ci)∧W.cell? ⟨gi,b,none⟩=some (.int .i64 z)∧W.frozen? ⟨gi,b,none⟩=false∧
  ∀x:Int,∃g,PS w gb n gp bv g0 cr q dv dl ev L (W.setCell ⟨gi,b,none⟩ (.int .i64 x)) g vl:=by
 obtain⟨gi,ci,z,h1,l,m,⟨o,p⟩,r,⟨cells,j⟩,s⟩:=B8 h.rows h.len h.all a b k hb;refine⟨gi,ci,z,h1,l,m,fun x=>?_⟩;obtain⟨g,l1,l2,u⟩:=s x;have i:W.grownBy (W.setCell ⟨gi,b,none⟩ (.int .i64 x)) (some gi):=um (Below.refl _ _);refine⟨g,l1,l2,h.iu.grown i (fun e=>?_),Kd.gX h.d rfl i o,Kd.gX h.val rfl i (fun e=>p (by simpa [Value.ownBlock] using e)),u,Kd.eK h.ends j (by decide) _ _,Below.setCell h.below r _⟩;obtain⟨cs,hp,_⟩:=h.iu;injection e with e
 subst e;rw[j] at hp;injection hp with hp
 injection hp with _ hp _
 exact absurd hp (by decide)
theorem uC (h:PS w gb n gp bv g0 cr q dv dl ev L W rows vl) (a:Nat) (j:a<n):W.cell? ⟨bv,a,none⟩=some (.int .i64 (rd vl a))∧W.frozen? ⟨bv,a,none⟩=false∧
  ∀x:Int,PS w gb n gp bv g0 cr q dv dl ev L (W.setCell ⟨bv,a,none⟩ (.int .i64 x)) rows (vl.set a x):=by
 obtain⟨h1,i⟩:=Kd.bJ (0:Int) h.val (a:Int) (by omega) (by omega);rw[Int.toNat_natCast] at h1 i;obtain⟨cells,hb⟩:=Kd.fS h.val bv rfl;refine⟨h1,i,fun x=>?_⟩;have hp:=Kd.cZ h.val (a:Int) x;rw[Int.toNat_natCast] at hp;have g:=hp.2;refine⟨h.len,h.all,h.iu.grown g (fun e=>?_),Kd.gX h.d rfl g (fun e=>h.d.1 bv e.symm rfl),hp.1,Kd.rP h.rows g (fun k hk e=>hk.2 (by injection e)),Kd.eK h.ends hb (by decide) _ _,Below.setCell h.below (Kd.dK h.val bv rfl) _⟩;obtain⟨cs,b,_⟩:=h.iu;injection e with e
 subst e;rw[hb] at b;injection b with b
 injection b with _ b _
 exact absurd b (by decide)
end PS
def gA (n:Nat) (E:List S83):List Int:=dw n (bT E E.length) (bT E E.length).length
theorem B_ (g v n:Nat) (q:Int) (a b:Option Addr) (cd h:Nat) (dl vl:List Int) (rows:Value) (waits:Nat->Bool) (w:World) (i:v<12) (k:v<dl.length) (l:vl.length=n) (m:v<n)
  (hw:cw w g (.slice a dl.length cd) q rows (.slice b n h) waits) (hd:Kd.C (Kd.int .i64) w a dl.length dl) (o:Kd.C (Kd.int .i64) w b n vl):
  Calls Tryz.prog 218 #[.pointer (some ⟨g,0,none⟩),.int .i64 v] w fun e w'=>e= .returned (.tuple #[])∧cw w' g (.slice a dl.length cd) q rows (.slice b n h) (fun j=>if j=v then iq q vl dl v else waits j)∧w.grownBy w' (some g):=by
 subst l;exact BU g v q a b cd h dl vl rows waits w i k m hw hd o
theorem Ca (q:Int) (vl dl:List Int) (v:Nat):(fun j=>if j=v then iq q vl dl v else(if j<v then iq q vl dl j else false))=fun j=>if j<v+1 then iq q vl dl j else false:=by
 funext j
 by_cases e:j=v
 ·subst e;simp
 ·by_cases h:j<v
  ·rw[if_neg e,if_pos h,if_pos (by omega)]
  ·rw[if_neg e,if_neg h,if_neg (by omega)]
end
end Go.Proofs.YtffdiakgjakngaaGreat.P

