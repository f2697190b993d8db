/- Lists2 answers true whatever the input (text 7 of 8): own walks and plain laws; no conditions. -/
import Derived.Deep.RegionHeld3
import Derived.Laws.Bits64b
import Derived.Test.YtffdiakgjakngaaGreatLists26
namespace Go.Proofs.YtffdiakgjakngaaGreat.P
open Go.RowKit Go.Proofs.YtffdiakgjakngaaGreatW.PrintWords Go.Proofs.YtffdiakgjakngaaGreatW.PrintLast Go.Proofs.YtffdiakgjakngaaGreatW.PrintMore
set_option linter.unusedVariables false
set_option linter.unusedSimpArgs false
set_option maxHeartbeats 8000000
set_option maxRecDepth 100000
theorem br.ya {N:Int} {E:List S83} (h:br N E) (a:E.length<=40):e9 E=true:=by
 unfold e9;rw[ay a,Bool.true_and];refine List.all_eq_true.2 fun x b=>?_
 have:=h.ok x b;simp[cu] at this⊢;omega
theorem yb {l:List Int} {i:Nat} (h:i<l.length):l.drop i=rd l i::l.drop (i+1):=by
 rw[List.drop_eq_getElem_cons h];simp[rd,aX,bB h]
def ko:Nat->Nat->Nat->List Int
 |0,_,_=>[]
 |m+1,i,d=>(if d%2=1 then[(i:Int)] else[])++ko m (i+1) (d/2)
def Hz (n:Nat):List (List Int):=(List.range (2 ^ n)).map (ko n 0)
def fS (E:List S83) (s:List Int) (v:Int):Nat->Int
 |0=>0
 |u+1=>fS E s v u+(if(u:Int)∈s then 0 else df E v u)
theorem sE {N:Int} {E:List S83} (h:br N E) (s:List Int) (v:Int):∀u:Nat,0<=fS E s v u/\fS E s v u<=50*u
 |0=>by simp[fS]
 |u+1=>by
  have h1:=sE h s v u;have a:=nD h v u;simp only[fS];split<;>omega
def nZ (E:List S83) (n:Nat) (c s:List Int):Int->List Int->Bool
 |a,[]=>decide (a>0)
 |a,v::l=>if rd c v<fS E s v n then false else nZ E n c s (a+fS E s v n) l
def sF (E:List S83) (n:Nat) (q:Int) (c s:List Int):Bool:=decide (0<s.length)&& !decide (q∈s)&&nZ E n c s 0 s
theorem pV:∀{m i d:Nat} {x:Int},x∈ko m i d↔∃j:Nat,j<m/\x=((i+j:Nat):Int)/\d.testBit j=true
 |0,i,d,x=>by simp[ko]
 |m+1,i,d,x=>by
  rw[ko,List.mem_append,pV (m:=m)];constructor
  ·rintro(h|⟨j,b,h1,a⟩)
   ·split at h
    ·rename_i h1
     simp at h;exact⟨0,by omega,by simpa using h,by rw[Nat.testBit_zero];simpa using h1⟩
    ·simp at h
   ·exact⟨j+1,by omega,by rw[h1];congr 1;omega,by rw[Nat.testBit_succ];exact a⟩
  ·rintro⟨j,b,h1,a⟩
   cases j with
   |zero=>
    left
    rw[Nat.testBit_zero] at a;rw[if_pos (by simpa using a)];simpa using h1
   |succ j=>exact .inr ⟨j,by omega,by rw[h1];congr 1;omega,by rw[Nat.testBit_succ] at a;exact a⟩
def pW (E:List S83) (n:Nat) (q:Int) (c:List Int):Bool:=(Hz n).all fun s=> !sF E n q c s
theorem sG (S:Nat->Bool):∀n,∃d,d<2 ^ n/\∀j,j<n->d.testBit j=S j
 |0=>⟨0,by simp,fun j a=>by omega⟩
 |n+1=>by
  obtain⟨d,hd,h⟩:=sG (fun j=>S (j+1)) n;refine⟨(if S 0 then 1 else 0)+2*d,?_,fun j a=>?_⟩
  ·rw[Nat.pow_succ];split<;>omega
  ·cases j with
   |zero=>
    rw[Nat.testBit_zero];cases b:S 0<;>simp<;>omega
   |succ j=>
    rw[Nat.testBit_succ,show ((if S 0 then 1 else 0)+2*d)/2=d by split<;>omega];exact h j (by omega)
theorem sH {n:Nat} {E:List S83} (a:br n E) (s:List Int) (v:Nat) (b:(v:Int)∈s):∀u,fS E s v u=cM (ae E) (fun u=> !decide ((u:Int)∈s)) v u
 |0=>rfl
 |u+1=>by
  rw[fS,cM,sH a s v b u];congr 1
  by_cases h:(u:Int)∈s
  ·simp[h]
  ·have g:v≠u:=fun e=>by subst e;exact h b
   simp only[if_neg h,h,decide_false,Bool.not_false,if_true];exact(iJ a v u g).symm
theorem sI (E:List S83) (n:Nat) (c s:List Int):∀(l:List Int) (a:Int),nZ E n c s a l=true↔(∀v∈l,fS E s v n<=rd c v)/\0<a+(l.map fun v=>fS E s v n).sum
 |[],a=>by simp[nZ]
 |v::l,a=>by
  rw[nZ];by_cases h:rd c v<fS E s v n
  ·rw[if_pos h]
   simp;intro b;omega
  ·rw[if_neg h,sI E n c s l]
   simp only[List.mem_cons,forall_eq_or_imp,List.map_cons,List.sum_cons];constructor
   ·rintro⟨h1,b⟩;exact⟨⟨by omega,h1⟩,by omega⟩
   ·rintro⟨⟨_,h1⟩,b⟩;exact⟨h1,by omega⟩
theorem yc {f:Int->Int}:∀{l:List Int},(∀v∈l,0<=f v)->(∃v∈l,0<f v)->0<(l.map f).sum
 |[],_,⟨v,a,_⟩=>by simp at a
 |x::l,b,⟨v,a,h1⟩=>by
  have g:=b x (List.mem_cons_self ..);have e:∀v∈l,0<=f v:=fun v a=>b v (List.mem_cons_of_mem _ a)
  have i:0<=(l.map f).sum:=by
   clear h1 a b g;induction l with
   |nil=>simp
   |cons y l h=>
    have:=h (fun v a=>e v (List.mem_cons_of_mem _ a));have:=e y (List.mem_cons_self ..);simp only[List.map_cons,List.sum_cons];omega
  simp only[List.map_cons,List.sum_cons];rcases List.mem_cons.1 a with rfl|a
  ·omega
  ·have:=yc e ⟨v,a,h1⟩
   omega
theorem H7 {n q:Nat} {E:List S83} (l:br n E) (hC:fc n E) (I:q<n) (c:List Int):pW E n q c=true↔kN n (ae E) q (fun v=>rd c v):=by
 unfold pW;rw[List.all_eq_true];constructor
 ·intro h S hS B
  obtain⟨d,hd,hb⟩:=sG S n;have m:∀v:Nat,v<n->((v:Int)∈ko n 0 d↔S v=true):=fun v g=>by
   rw[pV];constructor
   ·rintro⟨j,k,h1,i⟩
    rw[hb j k] at i;rw[show v=j by omega];exact i
   ·intro h1;exact⟨v,g,by simp,by rw[hb v g];exact h1⟩
  have h1:=h (ko n 0 d) (List.mem_map.2 ⟨d,List.mem_range.2 hd,rfl⟩);generalize C:ko n 0 d=s at h1 m;have D:∀v∈s,∃j:Nat,j<n/\v=(j:Int):=fun v g=>by
   rw[<-C] at g;obtain⟨j,k,i,_⟩:=pV.1 g;exact⟨j,k,by simpa using i⟩
  obtain⟨v0,o,J⟩:=hS;have r:0<s.length:=List.length_pos_of_mem ((m v0 o).2 J);have p:¬((q:Int)∈s):=fun i=>by rw[(m q I).1 i] at B;cases B
  have T:∀v:Nat,v<n->(v:Int)∈s->fS E s v n=cM (ae E) (fun u=> !S u) v n:=fun v g w=>by
   rw[sH l s v w n];refine vq v n fun u hu=>?_
   have:=m u hu;cases F:S u with
   |true=>simp[this.2 F]
   |false=>simp[show ¬((u:Int)∈s) from fun i=>by rw[this.1 i] at F;cases F]
  unfold sF at h1;rw[ay r,aZ p,Bool.true_and,Bool.not_false,Bool.true_and,Bool.not_eq_true'] at h1;have i:=mt (sI E n c s s 0).2 (by rw[h1];decide);by_cases G:∀v∈s,fS E s v n<=rd c v
  ·exfalso
   refine i ⟨G,?_⟩;rw[Int.zero_add];refine yc (fun v g=>(sE l s v n).1) ?_;obtain⟨x,K,y⟩:=hC S ⟨v0,o,J⟩ ⟨q,I,B⟩;have L:=xt l K;have U:=l.ok x K;simp[cu] at U;have M:∀(a b:Nat),a<n->b<n->S a=true->S b=false->df E a b>0->∃v∈s,0<fS E s v n:=fun a b V N W O ag=>by
    refine⟨a,(m a V).2 W,?_⟩;have X:¬((b:Int)∈s):=fun P=>by rw[(m b N).1 P] at O;cases O
    have key:∀u,b<u->0<fS E s a u:=fun u=>by
     induction u with
     |zero=>omega
     |succ u Y=>
      intro hu;have ak:=sE l s a u;have am:=nD l a u;rw[fS];by_cases e:b=u
      ·subst e;rw[if_neg X];omega
      ·have:=Y (by omega)
       split<;>omega
    exact key n N
   have Q:((x.f0.toNat:Nat):Int)=x.f0:=by omega
   have R:((x.f1.toNat:Nat):Int)=x.f1:=by omega
   cases z:S x.f0.toNat with
   |true=>
    refine M x.f0.toNat x.f1.toNat (by omega) (by omega) z ?_ (by rw[Q,R];exact L);cases H:S x.f1.toNat with
    |false=>rfl
    |true=>rw[z,H] at y;exact absurd rfl y
   |false=>
    refine M x.f1.toNat x.f0.toNat (by omega) (by omega) ?_ z (by rw[Q,R,pk];exact L);cases H:S x.f1.toNat with
    |true=>rfl
    |false=>rw[z,H] at y;exact absurd rfl y
  ·simp only[Classical.not_forall] at G
   obtain⟨v,g,P⟩:=G;obtain⟨j,k,rfl⟩:=D v g;refine⟨j,k,(m j k).1 g,?_⟩;rw[<-T j k g];show rd c j<_
   omega
 ·intro h s C
  obtain⟨d,hd,rfl⟩:=List.mem_map.1 C;generalize Z:ko n 0 d=s;have D:∀v∈s,∃j:Nat,j<n/\v=(j:Int):=fun v g=>by
   rw[<-Z] at g;obtain⟨j,k,i,_⟩:=pV.1 g;exact⟨j,k,by simpa using i⟩
  unfold sF;by_cases r:0<s.length
  ·by_cases p:(q:Int)∈s
   ·simp[p]
   ·rw[ay r,aZ p,Bool.true_and,Bool.not_false,Bool.true_and,Bool.not_eq_true',Bool.eq_false_iff]
    intro hm;have h1:=((sI E n c s s 0).1 hm).1;obtain⟨v0,o⟩:=List.exists_mem_of_length_pos r;obtain⟨j0,aa,rfl⟩:=D v0 o;obtain⟨v,g,ab,ad⟩:=h (fun u=>decide ((u:Int)∈s)) ⟨j0,aa,by simpa using o⟩ (by simpa using p);have w:(v:Int)∈s:=by simpa using ab
    have i:=h1 v w;rw[sH l s v w n] at i;have an:rd c v<cM (ae E) (fun u=> !decide ((u:Int)∈s)) v n:=ad;omega
  ·simp[show s.length=0 by omega]
end Go.Proofs.YtffdiakgjakngaaGreat.P
namespace Go.Proofs.YtffdiakgjakngaaGreat.P
open Go.RowKit Go.Proofs.YtffdiakgjakngaaGreatW.PrintWords Go.Proofs.YtffdiakgjakngaaGreatW.PrintLast Go.Proofs.YtffdiakgjakngaaGreatW.PrintMore
set_option linter.unusedVariables false
set_option linter.unusedSimpArgs false
def fz (E:List S83) (v:Nat):Nat->Int
 |0=>0
 |u+1=>fz E v u+(if u=v then 0 else df E u v)
def gY (E:List S83) (n q:Nat) (v:Nat):Nat:=if v=q then 0 else(fz E v n-1).toNat
theorem H8 {α:Type} (l:List α) (c:Nat):(l.map fun _=>c).sum=l.length*c:=by
 induction l with
 |nil=>simp
 |cons x l a=>simp only[List.map_cons,List.sum_cons,a,List.length_cons,Nat.succ_mul];omega
def fA:List S83->Int
 |[]=>0
 |x::E=>x.f2+fA E
theorem yd:∀(A B:List S83),fA (A++B)=fA A+fA B
 |[],B=>by simp[fA]
 |x::A,B=>by rw[List.cons_append,fA,fA,yd A B];omega
theorem pX {N:Int} {E:List S83} (a:br N E):∀k,k<=E.length->((cZ E k:Nat):Int)=fA (E.take k)
 |0,_=>rfl
 |k+1,hk=>by
  have e:af E k=E[k]:=by simp[af,aX,bB (by omega:k<E.length)]
  have:=a.ok E[k] (List.getElem_mem _);simp[cu] at this;rw[List.take_succ_eq_append_getElem (by omega),yd,<-pX a k (by omega),cZ,e];simp only[fA];omega
theorem H9 {E:List S83} (h:∀x∈E,1<=x.f2) (a b:Int):0<=df E a b:=by
 unfold df;split
 ·rename_i x e;have:=h x (List.mem_of_find?_eq_some e);omega
 ·omega
theorem ye {x:S83} {E:List S83} (h:∀y∈x::E,1<=y.f2) (v:Nat):∀u:Nat,fz (x::E) v u<=fz E v u+(if(∃w:Nat,w<u/\w≠v/\x.f0=min (w:Int) v/\x.f1=max (w:Int) v) then x.f2 else 0)
 |0=>by simp[fz]
 |u+1=>by
  have g:=ye h v u;have j:=h x (List.mem_cons_self ..);have k:=H9 (fun y i=>h y (List.mem_cons_of_mem _ i)) (u:Int) v;have l:(if(∃w:Nat,w<u/\w≠v/\x.f0=min (w:Int) v/\x.f1=max (w:Int) v) then x.f2 else 0)<=(if(∃w:Nat,w<u+1/\w≠v/\x.f0=min (w:Int) v/\x.f1=max (w:Int) v) then x.f2 else 0):=by
   by_cases h1:∃w:Nat,w<u/\w≠v/\x.f0=min (w:Int) v/\x.f1=max (w:Int) v
   ·obtain⟨w,hw,a⟩:=h1
    rw[if_pos ⟨w,hw,a⟩,if_pos ⟨w,by omega,a⟩];exact Int.le_refl _
   ·rw[if_neg h1];split<;>omega
  simp only[fz];by_cases e:u=v
  ·rw[if_pos e,if_pos e];omega
  ·rw[if_neg e,if_neg e,vI]
   by_cases b:x.f0=min (u:Int) v/\x.f1=max (u:Int) v
   ·rw[if_pos b,if_pos (show ∃w:Nat,w<u+1/\w≠v/\x.f0=min (w:Int) v/\x.f1=max (w:Int) v from⟨u,by omega,e,b⟩)]
    rw[if_neg (show ¬∃w:Nat,w<u/\w≠v/\x.f0=min (w:Int) v/\x.f1=max (w:Int) v from by rintro⟨w,hw,m,h1,a⟩;omega)] at g;omega
   ·rw[if_neg b];omega
theorem yf:∀{E:List S83},(∀y∈E,1<=y.f2)->∀v u:Nat,fz E v u<=fA E
 |[],_,v,u=>by
  have:∀u,fz [] v u=0:=fun u=>by
   induction u with
   |zero=>rfl
   |succ u a=>simp[fz,a,df]
  simp[this,fA]
 |x::E,h,v,u=>by
  have h1:=ye h v u;have e:=yf (fun y b=>h y (List.mem_cons_of_mem _ b)) v u;have g:=h x (List.mem_cons_self ..);simp only[fA];split at h1<;>omega
theorem pY {n:Nat} {E:List S83} (a:br n E) (v:Nat):∀u,cM (ae E) (fun u=> !decide (u=v)) v u=fz E v u
 |0=>rfl
 |u+1=>by
  rw[cM,fz,pY a v u];congr 1
  by_cases h:u=v
  ·simp[h]
  ·simp only[h,decide_false,Bool.not_false,if_true,if_neg h]
   rw[iJ a v u (fun e=>h e.symm),pk];simp
theorem yg:∀{a b:List Int} (v:Nat),dQ a b->rd a v<=rd b v
 |[],[],v,_=>Int.le_refl _
 |x::a,y::b,0,h=>by simpa [rd] using h.1
 |x::a,y::b,v+1,h=>by
  have:=yg v h.2;simpa [rd] using this
 |[],y::b,v,h=>h.elim
 |x::a,[],v,h=>h.elim
theorem yh {a:Nat->Nat} {q:Nat} (g:a q=0) (hm:∀v,a v<=7):∀v:Nat,(de a v).length<=8 ^ (v- (if q<v then 1 else 0))
 |0=>by simp[de]
 |v+1=>by
  have b:=yh g hm v;have hlen:(de a (v+1)).length=(de a v).length*(a v+1):=by
   show (kL a v (de a v)).length=_
   unfold kL;rw[List.length_flatMap];simp only[List.length_map,List.length_range];exact H8 _ _
  rw[hlen];by_cases e:q=v
  ·subst e
   rw[g,if_pos (by omega)];rw[if_neg (by omega)] at b;simpa using b
  ·by_cases h:q<v
   ·rw[if_pos h] at b
    rw[if_pos (by omega),show v+1-1=(v-1)+1 by omega,Nat.pow_succ];exact Nat.mul_le_mul b (by have:=hm v;omega)
   ·rw[if_neg h] at b
    rw[if_neg (by omega),show v+1-0=(v-0)+1 by omega,Nat.pow_succ];exact Nat.mul_le_mul b (by have:=hm v;omega)
structure Small (n q:Nat) (E:List S83):Prop where
 right:br n E
 conn:fc n E
 len:E.length<=40
 n1:1<=n
 n5:n<=5
 q:q<n
 size:cZ E E.length<=8
namespace Small
variable {n q:Nat} {E:List S83}
theorem pZ (h:Small n q E) (v:Nat):fz E v n<=8:=by
 have h1:=yf (E:=E) (fun y a=>by have:=h.right.ok y a;simp[cu] at this;omega) v n;have b:=pX h.right E.length (aI _);rw[List.take_length] at b;have:=h.size;omega
theorem p4 (h:Small n q E) (v:Nat):gY E n q v<=7:=by
 unfold gY;split
 ·omega
 ·have:=h.pZ v;omega
theorem n9 (E:List S83) (n q:Nat):gY E n q q=0:=by simp[gY]
theorem yi (h:Small n q E) {v:Nat} (a:v<=n):(de (gY E n q) v).length<=4096:=by
 have h1:=yh (n9 E n q) h.p4 v;have b:8 ^ (v- (if q<v then 1 else 0))<=8 ^ 4:=Nat.pow_le_pow_right (by omega) (by have:=h.n5;have:=h.q;split<;>omega);omega
theorem sJ (h:Small n q E) (c:List Int):bZ n (ae E) q c=pW E n q c:=by
 rw[Bool.eq_iff_iff,jY (fun i j=>((iE h.right.cS).times i j).1),H7 h.right h.conn h.q]
theorem oa (h:Small n q E):dp n E q=(de (gY E n q) n).filter (pW E n q):=by
 unfold dp;have e:=(iE h.right.cS).times;have o:∀a b:List Int,a.length=n->dQ a b->bZ n (ae E) q b=true->bZ n (ae E) q a=true:=fun a b _ p hb=>by
  rw[jY (fun i j=>(e i j).1)] at hb⊢;exact hb.down (fun v _=>yg v p)
 rw[CF q pc (bZ n (ae E) q) (gY E n q) n o (fun l v u g k r=>by
   have h1:=(rr h.right.cS (by have:=h.n5;omega) g k r).1;unfold valOf at h1;rw[pY h.right] at h1;unfold gY;rw[if_neg k];omega) (n9 E n q) (fun v _=>by have:=h.p4 v;show _<=1000;omega) n [] (by simp) ?_]
 ·rw[<-CH]
  refine List.filter_congr fun c _=>h.sJ c
 ·by_cases w:n=1
  ·left
   rw[jY (fun i j=>(e i j).1)];rintro S ⟨v,g,m⟩ s;have:=h.q;rw[show v=q by omega,s] at m;cases m
  ·right
   have:=h.q;have:=h.n1;by_cases x:q=0
   ·exact⟨1,by simp,by omega,by omega⟩
   ·exact⟨0,by simp,by omega,by omega⟩
theorem p5 (h:Small n q E):(dp n E q).length<=4096:=by
 rw[h.oa];exact Nat.le_trans (List.length_filter_le _ _) (h.yi (aI n))
end Small
namespace Small
variable {n q:Nat} {E:List S83}
theorem Ia (h:Small n q E) (a:cw n E=0):fw n E q=0:=by
 unfold fw;rw[if_pos a,aG,if_pos ((jl h.n1 h.right).2 h.conn),if_pos ⟨by omega,by have:=h.q;omega⟩]
theorem Ib (h:Small n q E):lN n E=true:=by
 unfold lN;rw[h.right.ya h.len,h.right.cS];rfl
theorem Ic (h:Small n q E) (b:fw n E q=0):Ev (fun k=>f_.f k n E q) (gE (gB n E) q n n,(0:Int)):=by
 unfold f_.f il.f;refine Ev.bind (a:=(gE (gB n E) q n n,(0:Int))) ?_ (Ev.const _);have:=xx n E q (by have:=h.len;omega);rw[b] at this;refine Ev.bind this ?_;simp only[if_true,h.Ib,aG];exact Ev.const _
theorem Ie (h:Small n q E) (a:fw n E q=0):Ev (fun k=>eP.f k n E q) (dp n E q,(0:Int)):=by
 unfold eP.f;refine Ev.bind (h.Ic a) ?_;simp only[if_true,aG,if_pos (show (dp n E q).length<=16384 by have:=h.p5;omega)];exact Ev.const _
theorem od (h:Small n q E) {c:List Int} (e:c∈dp n E q):c.length=n/\∀v:Nat,0<=rd c v/\rd c v<=8:=by
 rw[h.oa] at e;have h1:=(List.mem_filter.1 e).1;have a:=kM _ _ _ h1;have key:∀(m:Nat) (l:List Int),l∈de (gY E n q) m->∀v:Nat,0<=rd l v/\rd l v<=8:=by
  intro m;induction m with
  |zero=>intro l a v;simp[de] at a;subst a;simp[rd]
  |succ m i=>
   intro l a v;simp only[de,kL,List.mem_flatMap,List.mem_map,List.mem_range] at a;obtain⟨p,hp,x,j,rfl⟩:=a;have g:=i p hp v;have hm:=h.p4 m;have k:=kM _ _ _ hp;simp only[rd,aG,aX] at g⊢;rcases Nat.lt_trichotomy v p.length with b|b|b
   ·rw[List.getElem?_append_left b];exact g
   ·rw[b,List.getElem?_append_right (aI _),Nat.sub_self];simp;omega
   ·rw[List.getElem?_eq_none (by simp;omega)];simp
 exact⟨a,key n c h1⟩
end Small
def lq (x:Int):Bool:=decide (-1048576<=x)&&decide (x<=1048576)
def fT:List Int->Int
 |[]=>0
 |x::l=>if lq x=true then fT l else 2
def jq (q:Int):Nat->List Int->Int
 |_,[]=>0
 |i,x::l=>if(i:Int)=q then jq q (i+1) l else if x<0 then 2 else jq q (i+1) l
def jJ (N:Int) (E:List S83) (q:Int) (c:List Int):Int:=
 if fw N E q=0 then(if(c.length:Int)=N then(if fT c=0 then jq q 0 c else fT c) else 8) else fw N E q
def lX (N:Int) (E:List S83) (q:Int) (c:List Int):Int:=if jJ N E q c=0 then(if rd c q=0 then 0 else 3) else jJ N E q c
theorem Ig (x:Int):ij.f x=some (lq x):=by
 unfold ij.f lq;by_cases h:x>= -1048576
 ·rw[if_pos h,ay (show -1048576<=x from h),Bool.true_and]
 ·rw[if_neg h,aZ (show ¬ -1048576<=x from h),Bool.false_and]
theorem yj (c:List Int) (a:c.length<=1000):∀(m i:Nat),i+m=c.length->Ev (fun k=>bq.l0 k c c.length i) (fT (c.drop i))
 |0,i,hi=>by
  refine Ev.of_succ ?_;simp only[bq.l0,if_neg (show ¬(i:Int)<c.length by omega),List.drop_eq_nil_of_le (show c.length<=i by omega),fT];exact Ev.const _
 |m+1,i,hi=>by
  refine Ev.of_succ ?_;simp only[bq.l0,if_pos (show (i:Int)<c.length by omega),if_pos (show (0:Int)<=i by omega),Ig,Option.bind_some,eA (show i<=1000000 by omega)];rw[yb (by omega),fT];by_cases h:lq (rd c i)=true
  ·simp only[if_pos h];exact yj c a m (i+1) (by omega)
  ·simp only[if_neg h];exact Ev.const _
theorem yk (q:Int) (c:List Int) (e:c.length<=1000):∀(m i:Nat),i+m=c.length->Ev (fun k=>cV.l0 k q c c.length i) (jq q i (c.drop i))
 |0,i,hi=>by
  refine Ev.of_succ ?_;simp only[cV.l0,if_neg (show ¬(i:Int)<c.length by omega),List.drop_eq_nil_of_le (show c.length<=i by omega),jq];exact Ev.const _
 |m+1,i,hi=>by
  refine Ev.of_succ ?_;have a:=yk q c e m (i+1) (by omega);simp only[cV.l0,if_pos (show (i:Int)<c.length by omega),if_pos (show (0:Int)<=i by omega),eA (show i<=1000000 by omega)];rw[yb (by omega),jq];by_cases h:(i:Int)=q
  ·simp only[if_pos h];exact a
  ·simp only[if_neg h]
   by_cases b:rd c i<0
   ·simp only[if_pos b];exact Ev.const _
   ·simp only[if_neg b];exact a
theorem sK {N:Int} {E:List S83} {q:Int} (h:fw N E q=0):1<=N/\N<=12/\0<=q/\q<N:=by
 unfold fw at h;by_cases a:cw N E=0
 ·rw[if_pos a] at h
  obtain⟨h1,e,_⟩:=jC a;by_cases hp:partsOf E N.toNat=1
  ·rw[if_pos hp] at h
   by_cases b:0<=q/\q<N
   ·exact⟨h1,e,b⟩
   ·rw[if_neg b] at h;exact absurd h (by decide)
  ·rw[if_neg hp] at h;exact absurd h (by decide)
 ·rw[if_neg a] at h;exact absurd h a
theorem Ih (c:List Int) (N:Int) (a:1<=N/\N<=12):Ev (fun k=>bq.f k c N) (if(c.length:Int)=N then fT c else 8):=by
 unfold bq.f jy.f;simp only[if_neg (show ¬N<1 by omega),if_neg (show ¬N>12 by omega),Option.bind_some,if_true];by_cases h:(c.length:Int)=N
 ·simp only[if_pos h]
  exact yj c (by omega) c.length 0 (by omega)
 ·simp only[if_neg h];exact Ev.const _
theorem Ii (N:Int) (E:List S83) (q:Int) (c:List Int) (g:E.length<=1000):Ev (fun k=>cV.f k N E q c) (jJ N E q c):=by
 unfold cV.f jJ;refine Ev.bind (xx N E q g) ?_;by_cases a:fw N E q=0
 ·have b:=sK a
  simp only[if_pos a];refine Ev.bind (Ih c N ⟨b.1,b.2.1⟩) ?_;by_cases h:(c.length:Int)=N
  ·simp only[if_pos h]
   by_cases e:fT c=0
   ·simp only[if_pos e]
    exact yk q c (by omega) c.length 0 (by omega)
   ·simp only[if_neg e];exact Ev.const _
  ·simp only[if_neg h];exact Ev.const _
 ·simp only[if_neg a];exact Ev.const _
theorem yl {N:Int} {E:List S83} {q:Int} {c:List Int} (h:jJ N E q c=0):fw N E q=0/\(c.length:Int)=N/\fT c=0/\jq q 0 c=0:=by
 unfold jJ at h;by_cases a:fw N E q=0
 ·rw[if_pos a] at h
  by_cases e:(c.length:Int)=N
  ·rw[if_pos e] at h
   by_cases b:fT c=0
   ·rw[if_pos b] at h;exact⟨a,e,b,h⟩
   ·rw[if_neg b] at h;exact absurd h b
  ·rw[if_neg e] at h;exact absurd h (by decide)
 ·rw[if_neg a] at h;exact absurd h a
theorem Ij (N:Int) (E:List S83) (q:Int) (c:List Int) (b:E.length<=1000):Ev (fun k=>gC.f k N E q c) (lX N E q c):=by
 unfold gC.f lX;refine Ev.bind (Ii N E q c b) ?_;by_cases h:jJ N E q c=0
 ·obtain⟨e,i,_,_⟩:=yl h
  have g:=sK e;simp only[if_pos h,if_pos g.2.2.1,if_pos (show q<c.length by omega)];by_cases a:rd c q=0
  ·simp only[if_pos a];exact Ev.const _
  ·simp only[if_neg a];exact Ev.const _
 ·simp only[if_neg h];exact Ev.const _
theorem ym:∀{c:List Int},fT c=0->∀x∈c, -1048576<=x/\x<=1048576
 |[],_,x,a=>absurd a (by simp)
 |y::c,h,x,a=>by
  rw[fT] at h;by_cases b:lq y=true
  ·rw[if_pos b] at h
   simp[lq] at b;rcases List.mem_cons.1 a with rfl|a
   ·exact b
   ·exact ym h x a
  ·rw[if_neg b] at h;exact absurd h (by decide)
theorem sL (q:Int):∀{c:List Int} {i:Nat},jq q i c=0->∀j:Nat,j<c.length->((i+j:Nat):Int)≠q->0<=rd c j
 |[],i,_,j,a,_=>absurd a (by simp)
 |y::c,i,h,j,a,b=>by
  rw[jq] at h;by_cases hi:(i:Int)=q
  ·rw[if_pos hi] at h
   cases j with
   |zero=>exact absurd hi b
   |succ j=>
    have:=sL q h j (by simpa using a) (by rw[show i+1+j=i+(j+1) by omega];exact b);simpa [rd,aX] using this
  ·rw[if_neg hi] at h
   by_cases e:y<0
   ·rw[if_pos e] at h;exact absurd h (by decide)
   ·rw[if_neg e] at h
    cases j with
    |zero=>simp[rd,aX];omega
    |succ j=>
     have:=sL q h j (by simpa using a) (by rw[show i+1+j=i+(j+1) by omega];exact b);simpa [rd,aX] using this
structure p6 (n q:Nat) (c:List Int):Prop where
 len:c.length=n
 pos:∀v:Nat,0<=rd c v
 up:∀v:Nat,rd c v<=1048576
 sink:rd c q=0
theorem sM {c:List Int} {v:Nat} (h:c.length<=v):rd c v=0:=by simp[rd,aX,List.getElem?_eq_none h]
theorem Ik {n q:Nat} {E:List S83} {c:List Int} (h:lX n E q c=0):fw n E q=0/\p6 n q c:=by
 unfold lX at h;by_cases he:jJ n E q c=0
 ·rw[if_pos he] at h
  by_cases b:rd c q=0
  ·obtain⟨h1,j,g,i⟩:=yl he
   refine⟨h1,⟨by omega,fun v=>?_,fun v=>?_,b⟩⟩
   ·by_cases a:v<c.length
    ·by_cases e:v=q
     ·subst e;omega
     ·exact sL q i v a (by omega)
    ·rw[sM (by omega)];exact Int.le_refl _
   ·by_cases a:v<c.length
    ·have:=ym g c[v] (List.getElem_mem _)
     simp only[rd,aG,aX,bB a,Option.getD_some];omega
    ·rw[sM (by omega)];decide
  ·rw[if_neg b] at h;exact absurd h (by decide)
 ·rw[if_neg he] at h;exact absurd h he
theorem Il {n q:Nat} {E:List S83} {c:List Int} (b:E.length<=1000) (hn:n<=12) (g:iT n E=true) (h:lX n E q c=0):Ev (fun k=>gD.f k n E q c) (bZ n (ae E) q c,(0:Int)):=by
 obtain⟨i,j⟩:=Ik h;have m:=j.len;have o:=sK i;unfold gD.f iH.f;have hb:=Ij n E q c b;rw[h] at hb;have hw:mD n E q c=true:=by simp only[mD,Bool.and_eq_true,decide_eq_true_eq];exact⟨by omega,g⟩
 refine Ev.bind (a:=((q:Int)::(jW n E q c).map Int.ofNat,gA (cN (cI q) (jW n E q c)) n,(0:Int))) ?_ ?_
 ·refine Ev.bind hb ?_
  simp only[if_true,hw,aG];exact Ev.const _
 ·simp only[if_true]
  have l:=rp (cN (cI q) (jW n E q c)) n;have e:(((gA (cN (cI q) (jW n E q c)) n).length:Int)==0)=bZ n (ae E) q c:=by
   rw[Bool.eq_iff_iff];unfold bZ;rw[show eF n (cC n (ae E) c) (cI q)=jW n E q c from rfl,<-l];simp
  rw[e];exact Ev.const _
theorem Im {l:List Int} (h:l.length<=1000):fJ.f l=some l:=if_pos (by omega)
theorem gK {l:List Int} {v:Nat} (h:v<l.length) (x:Int):rd (l.set v x) v=x:=by simp[rd,aX,List.getElem?_set,h]
theorem iz {l:List Int} {v u:Nat} (h:v≠u) (x:Int):rd (l.set v x) u=rd l u:=by simp[rd,aX,List.getElem?_set,h]
theorem sO (l:List Int) (v:Nat) (x y:Int):(l.set v x).set v y=l.set v y:=by simp
theorem yn {l:List Int} {v:Nat} (h:v<l.length):l.set v (rd l v)=l:=by
 apply List.ext_getElem
 ·simp
 ·intro i h1 a
  rw[List.getElem_set];split
  ·rename_i e;subst e;simp[rd,aX,bB h]
  ·rfl
namespace Small
variable {n q:Nat} {E:List S83}
theorem Io (h:Small n q E) {a b:List Int} (g:∀v:Nat,v<n->rd a v<=rd b v) (hb:bZ n (ae E) q b=true):bZ n (ae E) q a=true:=by
 have e:∀i j,0<=ae E i j:=fun i j=>((iE h.right.cS).times i j).1
 exact(jY e q a).2 (((jY e q b).1 hb).down g)
theorem p9 (h:Small n q E) {a:List Int} {v:Nat} (b:v<n) (e:v≠q) (g:bZ n (ae E) q a=true):rd a v<fz E v n:=by
 have:=(rr h.right.cS (by have:=h.n5;omega) b e g).1;unfold valOf at this;rwa [pY h.right v n] at this
theorem Ip (h:Small n q E) {c:List Int} (s:c.length=n) {v:Nat} (b:v<n) (g:v≠q) (j:bZ n (ae E) q c=true) (w:0<=rd c v):
  ∃M:Nat,rd c v<=M/\(M:Int)<fz E v n/\∀x:Int,bZ n (ae E) q (c.set v x)=true↔x<=M:=by
 have z:=h.pZ v;have B:=h.p9 b g j;have down:∀x y:Int,x<=y->bZ n (ae E) q (c.set v y)=true->bZ n (ae E) q (c.set v x)=true:=fun x y m o=>by
  refine h.Io (fun u hu=>?_) o;by_cases e:v=u
  ·subst e;rw[gK (by omega),gK (by omega)];exact m
  ·rw[iz e,iz e];exact Int.le_refl _
 have key:∀d:Nat,∀x:Nat,rd c v<=x->fz E v n<=x+d->bZ n (ae E) q (c.set v x)=true->∃M:Nat,x<=M/\(M:Int)<fz E v n/\bZ n (ae E) q (c.set v M)=true/\bZ n (ae E) q (c.set v ((M:Int)+1))=false:=by
  intro d;induction d with
  |zero=>
   intro x _ p a;have:=h.p9 b g a;rw[gK (by omega)] at this;omega
  |succ d r=>
   intro x h1 p a;have k:=h.p9 b g a;rw[gK (by omega)] at k;cases l:bZ n (ae E) q (c.set v ((x:Int)+1)) with
   |false=>exact⟨x,aI _,k,a,l⟩
   |true=>
    obtain⟨M,m1,m2,m3,m4⟩:=r (x+1) (by omega) (by omega) (by rw[Int.natCast_add,Int.natCast_one];exact l);exact⟨M,by omega,m2,m3,m4⟩
 obtain⟨M,m1,m2,m3,m4⟩:=key 9 (rd c v).toNat (by omega) (by omega) (by rw[show ((rd c v).toNat:Int)=rd c v by omega,yn (by omega)];exact j);refine⟨M,by omega,m2,fun x=>⟨fun i=>?_,fun i=>down x M i m3⟩⟩;by_cases hle:x<=M
 ·exact hle
 ·have:=down ((M:Int)+1) x (by omega) i
  rw[m4] at this;cases this
theorem yo (h:Small n q E) (m:fw n E q=0) {c:List Int} (b:p6 n q c) {v:Nat} (B:v<n) (o:v≠q) {x:Int} (p:0<=x/\x<=1048576):Ev (fun k=>eO.f k n E q (c.set v x)) (bZ n (ae E) q (c.set v x)):=by
 have a:=b.len;have hp:∀u:Nat,0<=rd (c.set v x) u/\rd (c.set v x) u<=1048576:=fun u=>by
  by_cases e:v=u
  ·subst e;rw[gK (by omega)];exact p
  ·rw[iz e];exact⟨b.pos u,b.up u⟩
 have he:lX n E q (c.set v x)=0:=by
  have h1:∀l:List Int,(∀y∈l,0<=y/\y<=1048576)->fT l=0:=fun l=>by
   induction l with
   |nil=>intro _;rfl
   |cons y l g=>
    intro a;have:=a y (List.mem_cons_self ..);rw[fT,if_pos (by simp[lq];omega)];exact g fun z j=>a z (List.mem_cons_of_mem _ j)
  have r:∀(l:List Int) (i:Nat),(∀y∈l,0<=y/\y<=1048576)->jq q i l=0:=fun l=>by
   induction l with
   |nil=>intro i _;rfl
   |cons y l g=>
    intro i a;have:=a y (List.mem_cons_self ..);rw[jq,if_neg (show ¬y<0 by omega),g (i+1) fun z j=>a z (List.mem_cons_of_mem _ j)];split<;>rfl
  have hm:∀y∈c.set v x,0<=y/\y<=1048576:=fun y s=>by
   obtain⟨i,hi,rfl⟩:=List.getElem_of_mem s;have:=hp i;simp only[rd,aG,aX,bB hi,Option.getD_some] at this;exact this
  have w:jJ n E q (c.set v x)=0:=by
   unfold jJ;rw[if_pos m,if_pos (by simp[a]),h1 _ hm,if_pos rfl,r _ 0 hm]
  unfold lX;rw[if_pos w,if_pos (by rw[iz o];exact b.sink)]
 unfold eO.f;refine Ev.bind (Il (by have:=h.len;omega) (by have:=h.n5;omega) h.right.cS he) ?_;cases bZ n (ae E) q (c.set v x)<;>exact Ev.const _
theorem Iq (h:Small n q E) (b:fw n E q=0) {c:List Int} (a:p6 n q c) {v:Nat} (g:v<n) (i:v≠q) {M:Nat} (h1:rd c v<=M) (r:(M:Int)<fz E v n) (j:∀x:Int,bZ n (ae E) q (c.set v x)=true↔x<=M):
  Ev (fun k=>cR.f k n E q c v) (c.set v M):=by
 have s:=a.len;have u:=h.pZ v;have w:=a.pos v;have loop:∀(m:Nat) (x:Int),rd c v+1<=x->x+m=M+1->Ev (fun k=>cR.l0 k q (c.set v x) v n E) (c.set v M):=by
  intro m;induction m with
  |zero=>
   intro x l o;refine Ev.of_succ ?_;simp only[cR.l0];refine Ev.bind (h.yo b a g i (by omega)) ?_;have:bZ n (ae E) q (c.set v x)=false:=by
    cases e:bZ n (ae E) q (c.set v x) with
    |false=>rfl
    |true=>have:=(j x).1 e;omega
   simp only[this,Bool.false_eq_true,if_false,if_pos (show (0:Int)<=v by omega),if_pos (show (v:Int)<(c.set v x).length by simp;omega),aG,sO,gK (show v<c.length by omega),iq (show -1000000000<=x-1/\x-1<=1000000000 by omega),show x-1=(M:Int) by omega,iq (show -1000000000<=(M:Int)/\(M:Int)<=1000000000 by omega)];exact Ev.const _
  |succ m p=>
   intro x l o;refine Ev.of_succ ?_;simp only[cR.l0];refine Ev.bind (h.yo b a g i (by omega)) ?_;simp only[(j x).2 (by omega),if_true,if_pos (show (0:Int)<=v by omega),if_pos (show (v:Int)<(c.set v x).length by simp;omega),aG,sO,gK (show v<c.length by omega),iq (show -1000000000<=x+1/\x+1<=1000000000 by omega)];exact p (x+1) (by omega) (by omega)
 unfold cR.f;simp only[Im (show c.length<=1000 by have:=h.n5;omega),Option.bind_some,if_pos (show (0:Int)<=v by omega),if_pos (show (v:Int)<c.length by omega),aG,iq (show -1000000000<=rd c v+1/\rd c v+1<=1000000000 by omega)];exact loop (M- (rd c v).toNat) (rd c v+1) (by omega) (by omega)
end Small
theorem Ir {p l:List Int} {v:Nat} (h:v<p.length):rd (p++l) v=rd p v:=by simp[rd,aX,List.getElem?_append_left h]
theorem Is (p:List Int) (x:Int):rd (p++[x]) p.length=x:=by simp[rd,aX]
theorem It {l:List Int} {m v:Nat} (h:v<m):rd (l.take m) v=rd l v:=by simp[rd,aX,List.getElem?_take,h]
theorem p_ (b:Nat->Nat):∀(m:Nat) (l:List Int),l∈de b m↔l.length=m/\∀v:Nat,v<m->0<=rd l v/\rd l v<=b v
 |0,l=>by
  simp only[de,List.mem_singleton];constructor
  ·rintro rfl;exact⟨rfl,fun v g=>by omega⟩
  ·rintro⟨h,_⟩;exact List.length_eq_zero_iff.1 h
 |m+1,l=>by
  simp only[de,kL,List.mem_flatMap,List.mem_map,List.mem_range];constructor
  ·rintro⟨p,hp,x,j,rfl⟩
   obtain⟨h1,a⟩:=(p_ b m p).1 hp;refine⟨by simp[h1],fun v g=>?_⟩;by_cases e:v<m
   ·rw[Ir (by omega)];exact a v e
   ·rw[show v=p.length by omega,Is];rw[h1];omega
  ·rintro⟨h1,a⟩
   refine⟨l.take m,(p_ b m _).2 ⟨by simp;omega,fun v g=>by rw[It g];exact a v (by omega)⟩,(rd l m).toNat,by have:=a m (by omega);omega,?_⟩;have k:=a m (by omega);have i:l.take (m+1)=l.take m++[l[m]]:=List.take_succ_eq_append_getElem (by omega);rw[List.take_of_length_le (by omega)] at i;rw[show ((rd l m).toNat:Int)=l[m] by
    have:rd l m=l[m]:=by simp[rd,aX,bB (show m<l.length by omega)]
    omega]
   exact i.symm
namespace Small
variable {n q:Nat} {E:List S83}
theorem jK (h:Small n q E) (c:List Int):c∈dp n E q↔c.length=n/\(∀v:Nat,0<=rd c v)/\rd c q=0/\bZ n (ae E) q c=true:=by
 rw[h.oa,List.mem_filter,p_,<-h.sJ];constructor
 ·rintro⟨⟨h1,a⟩,b⟩
  refine⟨h1,fun v=>?_,?_,b⟩
  ·by_cases e:v<n
   ·exact(a v e).1
   ·rw[sM (by omega)];exact Int.le_refl _
  ·have:=a q h.q
   rw[n9] at this;omega
 ·rintro⟨h1,a,b,i⟩
  refine⟨⟨h1,fun v e=>⟨a v,?_⟩⟩,i⟩;by_cases g:v=q
  ·subst g;rw[n9,b];exact Int.le_refl _
  ·have:=h.p9 e g i
   unfold gY;rw[if_neg g];omega
theorem Iu (h:Small n q E) {c:List Int} (a:c∈dp n E q):p6 n q c:=by
 obtain⟨h1,b,e,g⟩:=(h.jK c).1 a;exact⟨h1,b,fun v=>by have:=((h.od a).2 v).2;omega,e⟩
end Small
theorem sP {ι:Type} {P:ι->Nat->Prop}:∀(l:List ι),(∀x∈l,∃B,∀K,B<=K->P x K)->∃B,∀K,B<=K->∀x∈l,P x K
 |[],_=>⟨0,fun _ _ x a=>absurd a (by simp)⟩
 |y::l,h=>by
  obtain⟨B,b⟩:=sP l fun x a=>h x (List.mem_cons_of_mem _ a)
  obtain⟨C,hC⟩:=h y (List.mem_cons_self ..);refine⟨max B C,fun K e x a=>?_⟩;rcases List.mem_cons.1 a with rfl|a
  ·exact hC K (by omega)
  ·exact b K (by omega) x a
namespace Small
variable {n q:Nat} {E:List S83}
theorem Iv (h:Small n q E) (j:fw n E q=0):∃B,∀K,B<=K->∀c∈dp n E q,∀v∈List.range n,v≠q->∃r,cR.f K n E q c v=some r/\v<r.length/\(rd c v<rd r v↔bZ n (ae E) q (c.set v (rd c v+1))=true):=by
 refine sP _ fun c i=>sP _ fun v k=>?_
 have b:=List.mem_range.1 k;by_cases g:v=q
 ·exact⟨0,fun _ _ e=>absurd g e⟩
 ·have a:=h.Iu i
  obtain⟨M,m1,m2,m3⟩:=h.Ip a.len b g ((h.jK c).1 i).2.2.2 (a.pos v);obtain⟨B,l⟩:=h.Iq j a b g m1 m2 m3;refine⟨B,fun K m _=>⟨_,l K m,by rw[List.length_set,a.len];exact b,?_⟩⟩;rw[gK (by rw[a.len];exact b),m3];omega
end Small
section
namespace Small
variable {n q:Nat} {E:List S83}
def lY (n q:Nat) (E:List S83) (c:List Int):Bool:=(List.range n).all fun v=>decide (v=q)|| !bZ n (ae E) q (c.set v (rd c v+1))
theorem sQ {c:List Int}:lY n q E c=true↔∀v,v<n->v≠q->bZ n (ae E) q (c.set v (rd c v+1))=false:=by
 unfold lY;rw[List.all_eq_true];constructor
 ·intro h v a b
  have:=h v (List.mem_range.2 a);rw[aZ b,Bool.false_or,Bool.not_eq_true'] at this;exact this
 ·intro h v a
  by_cases e:v=q
  ·rw[ay e];rfl
  ·rw[aZ e,Bool.false_or,Bool.not_eq_true']
   exact h v (List.mem_range.1 a) e
def fj (n q:Nat) (E:List S83):List (List Int):=(dp n E q).filter fun c=>lY n q E c
theorem Iw (h:Small n q E) (u:fw n E q=0):Ev (fun k=>gF.f k n E q) (fj n q E,(0:Int)):=by
 unfold gF.f;refine Ev.bind (h.Ie u) ?_;simp only[if_true];obtain⟨B,y⟩:=h.Iv u;refine⟨B,fun K g=>?_⟩;have g:=y K g;have h1:kO K n E q (dp n E q)=true:=by
  unfold kO;refine List.all_eq_true.2 fun c b=>List.all_eq_true.2 fun v i=>?_
  have z:=(h.od b).1;by_cases a:v=q
  ·simp[a]
  ·obtain⟨r,j,m,_⟩:=g c b v (List.mem_range.2 (by have:=List.mem_range.1 i;omega)) a
   rw[j];simp[m]
 show (if kO K n E q (dp n E q)=true then some (List.filter (fun x=> !eQ x q (gT K n E q x) x.length) (dp n E q),(0:Int)) else none)=_
 rw[if_pos h1];congr 2
 refine List.filter_congr fun c b=>?_
 have z:=(h.od b).1;rw[Bool.eq_iff_iff,sQ];unfold eQ;rw[Bool.not_eq_true',List.any_eq_false];constructor
 ·intro o v i a
  obtain⟨r,j,m,p⟩:=g c b v (List.mem_range.2 i) a;have s:=o v (List.mem_range.2 (by omega));rw[show gT K n E q c v=r by unfold gT;rw[j];rfl] at s;cases e:bZ n (ae E) q (c.set v (rd c v+1)) with
  |false=>rfl
  |true=>
   have:=p.2 e;rw[ay (show (v:Int)≠q by omega),ay this] at s;exact absurd rfl s
 ·intro o v i l
  have w:v<n:=by have:=List.mem_range.1 i;omega
  rw[Bool.and_eq_true,decide_eq_true_iff,decide_eq_true_iff] at l;have a:v≠q:=fun e=>l.1 (by omega)
  obtain⟨r,j,m,p⟩:=g c b v (List.mem_range.2 w) a;rw[show gT K n E q c v=r by unfold gT;rw[j];rfl] at l;have:=p.1 l.2;rw[o v w a] at this;cases this
end Small
end
namespace Small
theorem Iy {n q:Nat} {E:List S83} (h:Small n q E) {c:List Int} (m:c∈fj n q E):∃pos:Nat->Nat,T.iw n pos/\pos q=0/\∀v:Nat,v<n->rd (c.set q (-1)) v=T.nu n (ae E) pos v:=by
 have o:=h.q;have a:=h.right.wt;obtain⟨hm,p⟩:=List.mem_filter.1 m;obtain⟨c1,c2,c3,c4⟩:=(h.jK c).1 hm;obtain⟨pos,r,b,g⟩:=T.wY a o ((nU a).2 c4);have s:=sQ.1 p;refine⟨pos,r,b,fun v i=>?_⟩;by_cases e:v=q
 ·subst e
  rw[gK (by omega),T.wZ b]
 ·rw[iz (fun k=>e k.symm)]
  have hle:=(g v i e).2;refine Classical.byContradiction fun j=>?_
  have w:rd c (v:Nat)<T.nu n (ae E) pos v:=by
   have:rd c (v:Nat)<=T.nu n (ae E) pos v:=hle;omega
  have l:bZ n (ae E) q (c.set v (rd c v+1))=true:=(nU a).1 ((T.Hx a q pos).down fun u hu j=>by
   show rd (c.set v (rd c v+1)) (u:Nat)<=_
   by_cases e2:u=v
   ·subst e2;rw[gK (by omega)];omega
   ·rw[iz (fun k=>e2 k.symm)];exact(g u hu j).2)
  rw[s v i e] at l;cases l
end Small
section
theorem mS {p l:List Int} {v:Nat} (h:v<p.length):rd (p++l) v=rd p v:=by simp[rd,aX,List.getElem?_append_left h]
theorem yp (p:List Int) (x:Int):rd (p++[x]) p.length=x:=by simp[rd,aX]
def Lex (a b:List Int):Prop:=∃i:Nat,i<a.length/\(∀j:Nat,j<i->rd a j=rd b j)/\rd a i<rd b i
theorem yq (g:Nat->Nat):∀m,(de g m).Pairwise Lex
 |0=>List.pairwise_singleton _ _
 |m+1=>by
  have h:=yq g m;simp only[de,kL];rw[List.pairwise_flatMap];constructor
  ·intro p hp
   rw[List.pairwise_map];refine List.Pairwise.imp ?_ (List.pairwise_lt_range (n:=g m+1));intro x y v;refine⟨p.length,by simp,fun j e=>by rw[mS e,mS e],?_⟩;rw[yp,yp];omega
  ·refine List.Pairwise.imp_of_mem ?_ h
   intro p r hp k l x o y q;obtain⟨a,_,rfl⟩:=List.mem_map.1 o;obtain⟨b,_,rfl⟩:=List.mem_map.1 q;have l1:=kM _ _ _ hp;have l2:=kM _ _ _ k;obtain⟨i,h1,s,u⟩:=l;refine⟨i,by simp;omega,fun j e=>?_,?_⟩
   ·rw[mS (by omega),mS (by omega)];exact s j e
   ·rw[mS (by omega),mS (by omega)];exact u
namespace Small
variable {n q:Nat} {E:List S83}
theorem Iz (h:Small n q E):(dp n E q).Pairwise Lex:=by
 rw[h.oa];exact(yq _ _).filter _
theorem IA (h:Small n q E) (x:Int):((fj n q E).map fun c=>c.set q x).Pairwise Lex:=by
 rw[List.pairwise_map];refine List.Pairwise.imp_of_mem ?_ (h.Iz.filter _);intro a b k hb l;have o:=h.q;obtain⟨p,a2,a3,_⟩:=(h.jK a).1 (List.mem_filter.1 k).1;obtain⟨r,s,b3,_⟩:=(h.jK b).1 (List.mem_filter.1 hb).1;obtain⟨i,i1,i2,i3⟩:=l;have g:q≠i:=fun e=>by subst e;omega
 refine⟨i,by rw[List.length_set];exact i1,fun j m=>?_,?_⟩
 ·by_cases e:q=j
  ·subst e;rw[gK (by omega),gK (by omega)]
  ·rw[iz e,iz e];exact i2 j m
 ·rw[iz g,iz g];exact i3
end Small
end
end Go.Proofs.YtffdiakgjakngaaGreat.P
namespace Go.Proofs.YtffdiakgjakngaaGreat.T
set_option linter.unusedVariables false
set_option linter.unusedSimpArgs false
set_option maxHeartbeats 8000000
set_option maxRecDepth 100000
structure gL (n:Nat) (t:Nat->Nat->Int) (D b:Nat->Int):Prop where
 pos:∀v,v<n->0<=b v
 low:∀v,v<n->0<b v->D v+aV n t b v<=val n t v-1
 under:∀p:Nat->Int,(∀v,v<n->0<=p v)->(∀v,v<n->0<=D v+aV n t p v)->∀v,v<n->b v<=p v
theorem gL.start (n:Nat) (t:Nat->Nat->Int) (D:Nat->Int):gL n t D (fun _=>0):=
 ⟨fun _ _=>Int.le_refl _,fun v _ h=>by omega,fun p hp _ v a=>hp v a⟩
theorem gL.step {n:Nat} {t:Nat->Nat->Int} (a:Wt n t) {D b:Nat->Int} (h:gL n t D b) {v:Nat} (g:v<n) (hd:D v+aV n t b v<0):gL n t D (fun u=>b u+one v u):=by
 have j:∀u,0<=one v u:=fun u=>by unfold one;split<;>omega
 refine⟨fun u hu=>by have:=h.pos u hu;have:=j u;show 0<=b u+one v u;omega,fun u hu hp=>?_,fun p hp i u hu=>?_⟩
 ·rw[j7]
  by_cases e:u=v
  ·subst e;rw[pr a g];omega
  ·rw[pv g e]
   have l:b u+one v u=b u:=by unfold one;rw[if_neg e];omega
   have h1:=h.low u hu (by have:0<b u+one v u:=hp;omega);have:=a.pos u v;omega
 ·have h1:=h.under p hp i
  show b u+one v u<=p u
  by_cases e:u=v
  ·subst e
   have k:one u u=1:=if_pos rfl;have m:=h1 u hu;by_cases e2:b u=p u
   ·exfalso
    have o:aV n t p u<=aV n t b u:=by
     unfold aV;refine cW fun w hw=>Int.mul_le_mul_of_nonneg_left ?_ (a.pos _ _)
     have:=h1 w hw;omega
    have:=i u hu;omega
   ·omega
  ·have k:one v u=0:=if_neg e
   have:=h1 u hu;omega
theorem gL.lost {n:Nat} {t:Nat->Nat->Int} (hn:0<n) {D b:Nat->Int} (h:gL n t D b) (g:∀v,v<n->1<=b v):¬bP n t D:=by
 rintro⟨D',⟨s,h1⟩,i⟩;obtain⟨m,hm,j⟩:=pn s hn;have:=h.under (fun u=>s m-s u) (fun u hu=>by have:=j u hu;show 0<=s m-s u;omega) (fun v a=>by
  have e:aV n t (fun u=>s m-s u) v= -aV n t s v:=by
   rw[lP n t (fun _=>s m) s v,jD];omega
  rw[e];have:=h1 v a;have:=i v a;omega) m hm
 have k:=g m hm;have:b m<=s m-s m:=this;omega
theorem gL.nX {n:Nat} {t:Nat->Nat->Int} {D b:Nat->Int} (h:∀v,v<n->0<=D v+aV n t b v):bP n t D:=
 ⟨fun v=>D v+aV n t b v,⟨fun u=> -b u,fun v _=>by rw[lO];show D v+aV n t b v=_;omega⟩,h⟩
theorem gL.sR {n:Nat} {t:Nat->Nat->Int} (i:Wt n t) (j:dB n t) {D b:Nat->Int} (h:gL n t D b) {q:Nat} (k:q<n) (hb:b q=0) {M:Int} (l:0<=M) (m:∀v,v<n->val n t v-1-D v<=M):sN b n<=n*(n*(n*M)):=by
 have h1:=nI i j k hb l (fun v a hp=>by
  have:=h.low v a hp;have:=m v a;omega)
 have e:=cW (g:=fun _=>(n:Int)*(n*M)) h1;rw[jd] at e;exact e
end Go.Proofs.YtffdiakgjakngaaGreat.T
namespace Go.Proofs.YtffdiakgjakngaaGreat.P
open Go.RowKit Go.Proofs.YtffdiakgjakngaaGreatW.PrintWords Go.Proofs.YtffdiakgjakngaaGreatW.PrintLast Go.Proofs.YtffdiakgjakngaaGreatW.PrintMore
set_option linter.unusedVariables false
set_option linter.unusedSimpArgs false
set_option maxHeartbeats 8000000
set_option maxRecDepth 100000
theorem IB {i:Nat} (h:(i:Int)<9223372036854775807):wrap64 ((i:Int)+1)=((i+1:Nat):Int):=by unfold wrap64;omega
theorem IC (N:Int) (E:List S83) (m:E.length<=9223372036854775807) (i:Nat) (hi:i<E.length):Ev (fun k=>fp.f k N E i) (d_ N (jb E i) (jc E i) (af E i)):=by
 unfold fp.f;simp only[if_pos (show (0:Int)<=(i:Int) by omega),if_pos (show (i:Int)<(E.length:Int) by omega),DE,Option.bind_some];generalize n:af E i=x;have key:∀b:Bool,b= !cu N x->Ev (fun k=>fp.j0 k i b N E x.f0 x.f1 x.f2) (d_ N (jb E i) (jc E i) x):=by
  rintro b rfl;refine Ev.of_succ ?_;simp only[fp.j0];cases h:cu N x with
  |false=>simp[d_,h];exact Ev.const _
  |true=>
   simp only[Bool.not_true,Bool.false_eq_true,if_false];have o:0<=x.f0:=by simp[cu] at h;omega
   by_cases l:x.f0>x.f1
   ·have e:d_ N (jb E i) (jc E i) x=9:=by simp[d_,h,l]
    rw[e];simp only[if_pos l];exact Ev.const _
   ·simp only[if_neg l]
    by_cases a:i=0
    ·subst a
     have e:d_ N (jb E 0) (jc E 0) x=0:=by
      unfold d_ jb jc;rw[h,if_neg (by decide),if_neg (by simp;omega)]
     rw[e];simp;exact Ev.const _
    ·simp only[if_pos (show (i:Int)>0 by omega),show wrap64 ((i:Int)-1)=((i-1:Nat):Int) by unfold wrap64;omega,if_pos (show (0:Int)<=((i-1:Nat):Int) by omega),if_pos (show ((i-1:Nat):Int)<(E.length:Int) by omega)]
     unfold jb jc;rw[if_neg a,if_neg a];generalize af E (i-1:Nat)=y;unfold d_;rw[h,if_neg (show ¬(true=false) by decide)];by_cases h1:x.f0<y.f0
     ·simp only[if_pos h1];rw[if_pos (.inl h1)];exact Ev.const _
     ·simp only[if_neg h1]
      by_cases g:x.f0=y.f0
      ·simp only[if_pos g]
       by_cases j:x.f1<=y.f1
       ·simp only[if_pos j];rw[if_pos (.inr (.inl ⟨g,j⟩))];exact Ev.const _
       ·simp only[if_neg j];rw[if_neg (by omega)];exact Ev.const _
      ·simp only[if_neg g];rw[if_neg (by omega)];exact Ev.const _
 by_cases a:0<=x.f0/\x.f0<N
 ·simp only[ay a,if_true]
  by_cases h1:0<=x.f1/\x.f1<N
  ·simp only[ay h1,if_true]
   by_cases g:x.f2<1
   ·simp only[if_pos g]
    exact key true (by simp[cu];omega)
   ·simp only[if_neg g]
    exact key _ (by unfold cu;by_cases j:x.f2>50<;>simp[j]<;>omega)
  ·simp only[aZ h1,Bool.false_eq_true,if_false]
   exact key true (by simp[cu];omega)
 ·simp only[aZ a,Bool.false_eq_true,if_false]
  exact key true (by simp[cu];omega)
theorem yr (N:Int) (E:List S83) (a:E.length<=9223372036854775807):∀(m i:Nat),i+m=E.length->Ev (fun k=>dq.l0 k i N E) (ir N (jb E i) (jc E i) (E.drop i))
 |0,i,hi=>by
  refine Ev.of_succ ?_;simp only[dq.l0,if_neg (show ¬((i:Int)<(E.length:Int)) by omega)];rw[List.drop_eq_nil_of_le (by omega)];exact Ev.const _
 |m+1,i,hi=>by
  have b:=yr N E a m (i+1) (by omega);refine Ev.of_succ ?_;simp only[dq.l0,if_pos (show (i:Int)<(E.length:Int) by omega)];rw[rz (by omega),ir];refine Ev.bind (IC N E a i (by omega)) ?_;have e:jb E (i+1)=(af E i).f0:=by simp[jb]
  have g:jc E (i+1)=(af E i).f1:=by simp[jc]
  rw[e,g] at b;by_cases h:d_ N (jb E i) (jc E i) (af E i)=0
  ·simp only[if_pos h,IB (show (i:Int)<9223372036854775807 by omega)];exact b
  ·simp only[if_neg h];exact Ev.const _
theorem sS (N:Int) (E:List S83) (a:E.length<=9223372036854775807):Ev (fun k=>dq.f k N E) (cw N E):=by
 unfold dq.f cw;have key:∀b:Bool,b=decide (N<1\/N>12)->Ev (fun k=>dq.j0 k b N E) (if N<1\/N>12 then 2 else ir N (-1) (-1) E):=by
  rintro b rfl;refine Ev.of_succ ?_;simp only[dq.j0];by_cases h:N<1\/N>12
  ·simp[h];exact Ev.const _
  ·simp only[aZ h,Bool.false_eq_true,if_false,if_neg h]
   have:=yr N E a E.length 0 (by omega);simpa [jb,jc] using this
 by_cases h:N<1
 ·simp only[if_pos h];exact key true (by simp[h])
 ·simp only[if_neg h];exact key _ (by simp[h])
def ID:List (Int×Int):=(List.range 12).flatMap fun a=>(List.range 12).map fun b:Nat=>(((a:Nat):Int),(b:Int))
theorem IE {N:Int} {E:List S83} (g:N<=12) (h:br N E):E.length<=144:=by
 have h1:(E.map fun x=>(x.f0,x.f1)).length<=ID.length:=by
  refine sw ?_ (fun p hp=>?_)
  ·rw[List.pairwise_map]
   refine h.order.imp fun {x y} a e=>?_
   injection e with i e2
   unfold jB at a;omega
  ·obtain⟨x,b,rfl⟩:=List.mem_map.1 hp
   have:=h.ok x b;simp[cu] at this;refine List.mem_flatMap.2 ⟨x.f0.toNat,List.mem_range.2 (by omega),List.mem_map.2 ⟨x.f1.toNat,List.mem_range.2 (by omega),?_⟩⟩;rw[Int.toNat_of_nonneg (by omega),Int.toNat_of_nonneg (by omega)]
 rw[List.length_map] at h1;exact h1
theorem IF {n:Nat} {f:Nat->Nat->Int} (hf:∀u v,0<=f u v) {x:S83} (o:0<=x.f0/\x.f0<n) (h1:0<=x.f1/\x.f1<n) (p:1<=x.f2):
  (∀u v,0<=dn f x u v)/\T.sN (T.val n (dn f x)) n<=T.sN (T.val n f) n+2*x.f2:=by
 unfold dn;by_cases e:x.f0=x.f1
 ·simp only[if_pos e]
  exact⟨hf,by omega⟩
 ·simp only[if_neg e]
  refine⟨fun u v=>?_,?_⟩
  ·split
   ·omega
   ·split
    ·omega
    ·exact hf u v
  ·have i:x.f0.toNat<n:=by omega
   have hb:x.f1.toNat<n:=by omega
   have h:∀a u,0<=T.one a u:=fun a u=>by unfold T.one;split<;>omega
   have hle:∀u,u<n->T.val n (fun a b=>if a=x.f1.toNat/\b=x.f0.toNat then x.f2 else if a=x.f0.toNat/\b=x.f1.toNat then x.f2 else f a b) u<=T.val n f u+(T.one x.f1.toNat u*x.f2+T.one x.f0.toNat u*x.f2):=fun u hu=>by
    unfold T.val;have k:T.one x.f1.toNat u*x.f2=T.sN (fun v=>(T.one x.f1.toNat u*x.f2)*T.one x.f0.toNat v) n:=by rw[T.eR,T.fa i,Int.mul_one]
    have e2:T.one x.f0.toNat u*x.f2=T.sN (fun v=>(T.one x.f0.toNat u*x.f2)*T.one x.f1.toNat v) n:=by rw[T.eR,T.fa hb,Int.mul_one]
    rw[k,e2,<-T.dE,<-T.dE];refine T.cW fun v q=>?_
    have r:=hf u v;have s:0<=T.one x.f1.toNat u*x.f2*T.one x.f0.toNat v:=Int.mul_nonneg (Int.mul_nonneg (h _ _) (by omega)) (h _ _);have w:0<=T.one x.f0.toNat u*x.f2*T.one x.f1.toNat v:=Int.mul_nonneg (Int.mul_nonneg (h _ _) (by omega)) (h _ _);show (if u=x.f1.toNat/\v=x.f0.toNat then x.f2 else if u=x.f0.toNat/\v=x.f1.toNat then x.f2 else f u v)<=_
    split
    ·rename_i c
     have:T.one x.f1.toNat u*x.f2*T.one x.f0.toNat v=x.f2:=by unfold T.one;rw[if_pos c.1,if_pos c.2];omega
     omega
    ·split
     ·rename_i c
      have:T.one x.f0.toNat u*x.f2*T.one x.f1.toNat v=x.f2:=by unfold T.one;rw[if_pos c.1,if_pos c.2];omega
      omega
     ·omega
   have j:=T.cW hle;rw[T.dE,T.dE] at j;have l:T.sN (fun u=>T.one x.f1.toNat u*x.f2) n=x.f2:=by
    rw[T.bL (g:=fun u=>x.f2*T.one x.f1.toNat u) (fun u _=>Int.mul_comm _ _),T.eR,T.fa hb,Int.mul_one]
   have m:T.sN (fun u=>T.one x.f0.toNat u*x.f2) n=x.f2:=by
    rw[T.bL (g:=fun u=>x.f2*T.one x.f0.toNat u) (fun u _=>Int.mul_comm _ _),T.eR,T.fa i,Int.mul_one]
   rw[l,m] at j;omega
theorem yu {n:Nat}:∀(E:List S83) (f:Nat->Nat->Int),(∀u v,0<=f u v)->(∀x∈E,cu n x=true)->T.sN (T.val n (E.foldl dn f)) n<=T.sN (T.val n f) n+2*fA E
 |[],f,_,_=>by simp[fA]
 |x::E,f,hf,h=>by
  have e:=h x (List.mem_cons_self ..);simp[cu] at e;obtain⟨a,b⟩:=IF (n:=n) hf (x:=x) (by omega) (by omega) (by omega);have i:=yu E (dn f x) a (fun y g=>h y (List.mem_cons_of_mem _ g));rw[List.foldl_cons,fA];omega
theorem IG {n:Nat} {E:List S83} (h:br n E):T.sN (T.val n (ae E)) n<=2*(cZ E E.length:Nat):=by
 have h1:=yu (n:=n) E (fun _ _=>0) (fun _ _=>Int.le_refl _) h.ok;have b:T.sN (T.val n fun _ _=>0) n=0:=T.iu fun u _=>T.j5 n
 have a:=pX h E.length (aI _);rw[List.take_length] at a;unfold ae;omega
def eC (N:Int) (E:List S83):Int:=if cw N E=0 then(if partsOf E N.toNat=1 then 0 else 13) else cw N E
theorem II (N:Int) (E:List S83) (e:E.length<=9223372036854775807):Ev (fun k=>kc.f k N E) (eC N E):=by
 unfold kc.f eC;refine Ev.bind (sS N E e) ?_;by_cases b:cw N E=0
 ·obtain⟨h1,g,h⟩:=jC b
  obtain⟨n,rfl⟩:=Int.eq_ofNat_of_zero_le (show 0<=N by omega);have i:=IE g h;simp only[if_pos b,aG];refine Ev.bind (a:=decide (partsOf E n=1)) ?_ ?_
  ·unfold mM.f
   refine Ev.bind (FP E (by omega) n (by omega)) ?_;rw[show (((partsOf E n:Nat):Int)==1)=decide (partsOf E n=1) by rw[Bool.eq_iff_iff];simp;omega];exact Ev.const _
  ·by_cases hp:partsOf E n=1
   ·simp only[ay hp,if_true,if_pos hp];exact Ev.const _
   ·simp only[aZ hp,Bool.false_eq_true,if_false,if_neg hp];exact Ev.const _
 ·simp only[if_neg b];exact Ev.const _
theorem yv {N:Int} {E:List S83} (h:eC N E=0):cw N E=0/\partsOf E N.toNat=1:=by
 unfold eC at h;by_cases a:cw N E=0
 ·rw[if_pos a] at h
  by_cases hp:partsOf E N.toNat=1
  ·exact⟨a,hp⟩
  ·rw[if_neg hp] at h;cases h
 ·rw[if_neg a] at h;exact absurd h a
def mT (N:Int) (E:List S83):Bool:=decide (E.length<=40/\N<=5/\cZ E E.length<=7)
theorem IJ {N:Int} {E:List S83} (b:cw N E=0):Ev (fun k=>ix.f k N E) (mT N E):=by
 unfold ix.f kV.f mT;refine Ev.bind (a:=decide (E.length<=40/\N<=5/\cZ E E.length<=7)) ?_ (Ev.const _);by_cases g:E.length>40
 ·simp only[if_pos (show (E.length:Int)>40 by omega)]
  rw[aZ (fun h=>by omega)];exact Ev.const _
 ·simp only[if_neg (show ¬(E.length:Int)>40 by omega)]
  refine Ev.bind (sS N E (by omega)) ?_;simp only[if_pos b];by_cases e:N<=5
  ·simp only[if_pos e,mw.f,(jC b).2.2.ya (by omega),Option.bind_some,if_true]
   rw[show decide (((cZ E E.length:Nat):Int)<=7)=decide (E.length<=40/\N<=5/\cZ E E.length<=7) by congr 1;exact propext (by omega)];exact Ev.const _
  ·simp only[if_neg e]
   rw[aZ (fun h=>by omega)];exact Ev.const _
def p' (N:Int) (c:List Int):Int:=if(c.length:Int)=N then fT c else 8
def IK (c:List Int):Bool:=c.all fun x=>decide (-100<=x/\x<=100)
structure Curve (n:Nat) (E:List S83) (d:List Int):Prop where
 check:cw n E=0
 small:∀q,q<n->Small n q E
 val:T.sN (T.val n (ae E)) n<=14
 dl:d.length=n
 low:∀v:Nat,v<n-> -100<=rd d v/\rd d v<=100
theorem IL {N:Int} {E:List S83} {d:List Int} (h:eC N E=0) (a:p' N d=0) (b:mT N E=true) (j:IK d=true):∃n:Nat,N=n/\1<=n/\Curve n E d:=by
 obtain⟨g,j2⟩:=yv h;obtain⟨g1,g2,g3⟩:=jC g;obtain⟨n,rfl⟩:=Int.eq_ofNat_of_zero_le (show 0<=N by omega);rw[aG] at j2;unfold mT at b;rw[decide_eq_true_iff] at b;have hd:d.length=n:=by
  unfold p' at a;by_cases e:(d.length:Int)=(n:Int)
  ·omega
  ·rw[if_neg e] at a;cases a
 refine⟨n,rfl,by omega,g,fun q k=>⟨g3,(jl (by omega) g3).1 j2,b.1,by omega,by omega,k,by omega⟩,?_,hd,fun v m=>?_⟩
 ·have:=IG g3
  omega
 ·have l:=List.all_eq_true.1 j
  have i:v<d.length:=by omega
  have:=l d[v] (List.getElem_mem i);rw[decide_eq_true_iff] at this;have e:rd d (v:Int)=d[v]:=by simp[rd,aX,bB i]
  rw[e];exact this
def fB (E:List S83):List S83:=E.filter fun x=>decide (x.f0≠x.f1)
theorem qa {E:List S83} {x:S83}:x∈fB E↔x∈E/\x.f0≠x.f1:=by simp[fB]
theorem IM (E:List S83):ae (fB E)=ae E:=by
 unfold ae fB;generalize (fun _ _=>(0:Int):Nat->Nat->Int)=f;induction E generalizing f with
 |nil=>rfl
 |cons x E a=>
  by_cases e:x.f0=x.f1
  ·rw[List.filter_cons_of_neg (by simp[e]),List.foldl_cons,a,show dn f x=f from if_pos e]
  ·rw[List.filter_cons_of_pos (by simp[e]),List.foldl_cons,List.foldl_cons,a]
theorem br.fB {N:Int} {E:List S83} (h:br N E):br N (fB E):=
 ⟨fun x a=>h.ok x (qa.1 a).1,fun x a=>h.le x (qa.1 a).1,h.order.sublist (List.filter_sublist ..)⟩
theorem yw {N:Int}:∀{E:List S83} {a b:Int},(∀x∈E,cu N x=true/\x.f0<=x.f1/\(a<x.f0\/a=x.f0/\b<x.f1))->E.Pairwise jB->ir N a b E=0
 |[],_,_,_,_=>rfl
 |y::E,a,b,h,hp=>by
  obtain⟨g,i⟩:=List.pairwise_cons.1 hp;obtain⟨h1,j,k⟩:=h y (List.mem_cons_self ..);have he:d_ N a b y=0:=by
   unfold d_;rw[h1,if_neg (by decide),if_neg (by omega)]
  rw[ir,if_pos he];exact yw (fun x e=>⟨(h x (List.mem_cons_of_mem _ e)).1,(h x (List.mem_cons_of_mem _ e)).2.1,g x e⟩) i
theorem IN {N:Int} {E:List S83} (h1:1<=N) (b:N<=12) (h:br N E):cw N E=0:=by
 unfold cw;rw[if_neg (by omega)];refine yw (fun x a=>⟨h.ok x a,h.le x a,?_⟩) h.order;have:=h.ok x a;simp[cu] at this;omega
theorem fc.fB {n:Nat} {E:List S83} (h:fc n E):fc n (fB E):=fun S h1 b=>by
 obtain⟨x,g,a⟩:=h S h1 b;exact⟨x,qa.2 ⟨g,fun e=>a (by rw[e])⟩,a⟩
theorem yx {p q:Nat->Nat} (h:∀v,rootOf q v=rootOf p v):∀u,bY q u=bY p u
 |0=>rfl
 |u+1=>by rw[bY,bY,yx h u,h u]
theorem yy {p q:Nat->Nat} {M m:Nat} (g:rootOf p M=M) (hm:rootOf p m=m) (a:m≠M) (h:∀v,rootOf q v=if rootOf p v=M then m else rootOf p v):∀u,bY q u+(if M<u then 1 else 0)=bY p u
 |0=>rfl
 |u+1=>by
  have b:=yy g hm a h u;rw[bY,bY,h u];rcases Nat.lt_trichotomy u M with e|e|e
  ·have e2:rootOf p u≠M:=by have:=iZ p u;omega
   rw[if_neg (by omega)] at b;rw[if_neg e2,if_neg (show ¬M<u+1 by omega)];omega
  ·subst e
   rw[if_neg (Nat.lt_irrefl _)] at b;rw[g,if_pos rfl,if_neg a,if_pos (Nat.lt_succ_self _),if_pos rfl];omega
  ·rw[if_pos e] at b
   rw[if_pos (show M<u+1 by omega)];by_cases e2:rootOf p u=M
   ·have i:m≠u:=fun j=>a (by rw[<-hm,j,e2])
    rw[if_pos e2,if_neg i,e2,if_neg (show ¬M=u by omega)];omega
   ·rw[if_neg e2]
    omega
theorem IP {n:Nat} (s:(Nat->Nat)×Nat) (x:Nat×Int×Int) (h1:x.2.1.toNat<n) (g:x.2.2.toNat<n):(fx s x).2+bY s.1 n=s.2+1+bY (fx s x).1 n:=by
 unfold fx;have a:=mJ s.1 x.2.1.toNat x.2.2.toNat;have i:=mC s.1 x.2.1.toNat;have hb:=mC s.1 x.2.2.toNat;have j:=iZ s.1 x.2.1.toNat;have lb:=iZ s.1 x.2.2.toNat;by_cases e:rootOf s.1 x.2.1.toNat=rootOf s.1 x.2.2.toNat
 ·rw[if_pos e,yx (q:=dP s.1 x.2.1.toNat x.2.2.toNat) (p:=s.1) (fun v=>by
   rw[a v,e,Nat.max_self,Nat.min_self];split
   ·rename_i h;exact h.symm
   ·rfl) n]
 ·rw[if_neg e]
  have b:=yy (p:=s.1) (q:=dP s.1 x.2.1.toNat x.2.2.toNat) (M:=max (rootOf s.1 x.2.1.toNat) (rootOf s.1 x.2.2.toNat)) (m:=min (rootOf s.1 x.2.1.toNat) (rootOf s.1 x.2.2.toNat))
   (by rw[Nat.max_def];split<;>assumption) (by rw[Nat.min_def];split<;>assumption) (by omega) a n
  rw[if_pos (by omega)] at b;dsimp only;omega
theorem yz {n:Nat}:∀(xs:List (Nat×Int×Int)) (s:(Nat->Nat)×Nat),(∀x∈xs,x.2.1.toNat<n/\x.2.2.toNat<n)->(xs.foldl fx s).2+bY s.1 n=s.2+xs.length+bY (xs.foldl fx s).1 n
 |[],s,_=>by simp
 |x::xs,s,h=>by
  have h1:=IP s x (h x (List.mem_cons_self ..)).1 (h x (List.mem_cons_self ..)).2;have b:=yz xs (fx s x) (fun y a=>h y (List.mem_cons_of_mem _ a));rw[List.foldl_cons,List.length_cons];omega
def oe (x:Nat×Int×Int):S83:=⟨x.2.1,x.2.2,1⟩
theorem yA:∀(xs:List (Nat×Int×Int)) (s:(Nat->Nat)×Nat),(xs.foldl fx s).1=(xs.map oe).foldl (fun p x=>dP p x.f0.toNat x.f1.toNat) s.1
 |[],s=>rfl
 |x::xs,s=>by rw[List.foldl_cons,List.map_cons,List.foldl_cons,yA xs (fx s x)];rfl
theorem yB:∀n,bY id n=n
 |0=>rfl
 |n+1=>by rw[bY,yB n,mI (by simp),if_pos rfl]
theorem yC {E:List S83} {y:Nat×Int×Int} (h:y∈cy E E.length):∃x∈E,y.2=(x.f0,x.f1):=by
 obtain⟨x,a,h1,b⟩:=qU E _ (aI _) y h;exact⟨x,a,Prod.ext h1 b⟩
theorem yD {E:List S83} {i:Nat} (hi:i<E.length) (hm:1<=(af E i).f2):∀{k:Nat},i<k->∃y∈cy E k,y.2=((af E i).f0,(af E i).f1)
 |0,h=>by omega
 |k+1,h=>by
  by_cases e:i=k
  ·subst e
   obtain⟨j,a⟩:∃j,(af E i).f2.toNat=j+1:=⟨(af E i).f2.toNat-1,by omega⟩;refine⟨_,List.mem_append_right _ (by rw[a];exact List.mem_append_right _ (List.mem_singleton.2 rfl)),rfl⟩
  ·obtain⟨y,b,he⟩:=yD hi hm (k:=k) (by omega)
   exact⟨y,List.mem_append_left _ b,he⟩
theorem IQ {n:Nat} {E:List S83} (e:br n E) (h:fc n E):fc n ((cy E E.length).map oe):=fun S h1 g=>by
 obtain⟨x,a,j⟩:=h S h1 g;obtain⟨i,hi,rfl⟩:=List.getElem_of_mem a;have b:af E i=E[i]:=by simp[af,aX,bB hi]
 have k:=e.ok _ a;simp[cu] at k;obtain⟨y,l,he⟩:=yD hi (by rw[b];omega) hi;rw[b] at he;refine⟨oe y,List.mem_map.2 ⟨y,l,rfl⟩,?_⟩;show S y.2.1.toNat≠S y.2.2.toNat
 rw[he];exact j
theorem IS {n:Nat} {E:List S83} (hn:1<=n) (a:br n E) (h:fc n E):(cF (cy E E.length)).2+n=(cy E E.length).length+1:=by
 have i:∀x∈cy E E.length,x.2.1.toNat<n/\x.2.2.toNat<n:=fun y b=>by
  obtain⟨x,e,he⟩:=yC b;have g:=a.ok x e;simp[cu] at g;rw[he];show x.f0.toNat<n/\x.f1.toNat<n
  omega
 have j:=yz (n:=n) (cy E E.length) (id,0) i;have hf:=yA (cy E E.length) (id,0);have h1:bY (aK ((cy E E.length).map oe)) n=1:=(pA hn (fun z k=>by
  obtain⟨y,b,rfl⟩:=List.mem_map.1 k;obtain⟨x,e,he⟩:=yC b;have g:=a.ok x e;simp[cu] at g;show 0<=y.2.1/\y.2.1<n/\0<=y.2.2/\y.2.2<n/\(1:Int)<=1/\(1:Int)<=50
  rw[he];show 0<=x.f0/\x.f0<n/\0<=x.f1/\x.f1<n/\(1:Int)<=1/\(1:Int)<=50
  omega)).2 (IQ a h)
 rw[show ((cy E E.length).foldl fx (id,0)).1=aK ((cy E E.length).map oe) from hf,h1,yB] at j;show ((cy E E.length).foldl fx (id,0)).2+n=_
 omega
theorem val_step_eq {n:Nat} {f:Nat->Nat->Int} {x:S83} (j:0<=x.f0/\x.f0<n) (h1:0<=x.f1/\x.f1<n) (a:x.f0≠x.f1) (b:f x.f0.toNat x.f1.toNat=0) (e:f x.f1.toNat x.f0.toNat=0) {u:Nat} (hu:u<n):
  T.val n (dn f x) u=T.val n f u+(T.one x.f1.toNat u*x.f2+T.one x.f0.toNat u*x.f2):=by
 unfold dn;rw[if_neg a];have g:x.f0.toNat<n:=by omega
 have hb:x.f1.toNat<n:=by omega
 have k:x.f0.toNat≠x.f1.toNat:=by omega
 unfold T.val;have i:T.one x.f1.toNat u*x.f2=T.sN (fun v=>(T.one x.f1.toNat u*x.f2)*T.one x.f0.toNat v) n:=by rw[T.eR,T.fa g,Int.mul_one]
 have e2:T.one x.f0.toNat u*x.f2=T.sN (fun v=>(T.one x.f0.toNat u*x.f2)*T.one x.f1.toNat v) n:=by rw[T.eR,T.fa hb,Int.mul_one]
 rw[i,e2,<-T.dE,<-T.dE];refine T.bL fun v l=>?_
 unfold T.one;dsimp only;by_cases c1:u=x.f1.toNat/\v=x.f0.toNat
 ·rw[if_pos c1,if_pos c1.1,if_pos c1.2,if_neg (show ¬u=x.f0.toNat by omega),c1.1,c1.2,e];omega
 ·rw[if_neg c1]
  by_cases c2:u=x.f0.toNat/\v=x.f1.toNat
  ·rw[if_pos c2,if_pos c2.1,if_pos c2.2,if_neg (show ¬u=x.f1.toNat by omega),c2.1,c2.2,b];omega
  ·rw[if_neg c2]
   by_cases c3:u=x.f1.toNat
   ·rw[if_pos c3,if_neg (fun h=>c1 ⟨c3,h⟩),if_neg (show ¬u=x.f0.toNat by omega)];omega
   ·rw[if_neg c3]
    by_cases c4:u=x.f0.toNat
    ·rw[if_pos c4,if_neg (fun h=>c2 ⟨c4,h⟩)];omega
    ·rw[if_neg c4];omega
theorem IT {n:Nat} {f:Nat->Nat->Int} {x:S83} (b:0<=x.f0/\x.f0<n) (h1:0<=x.f1/\x.f1<n) (e:x.f0≠x.f1) (h:f x.f0.toNat x.f1.toNat=0) (i:f x.f1.toNat x.f0.toNat=0):
  T.sN (T.val n (dn f x)) n=T.sN (T.val n f) n+2*x.f2:=by
 have j:x.f0.toNat<n:=by omega
 have hb:x.f1.toNat<n:=by omega
 have a:=T.bL fun u hu=>val_step_eq b h1 e h i (u:=u) hu
 rw[T.dE,T.dE] at a;have k:T.sN (fun u=>T.one x.f1.toNat u*x.f2) n=x.f2:=by
  rw[T.bL (g:=fun u=>x.f2*T.one x.f1.toNat u) (fun u _=>Int.mul_comm _ _),T.eR,T.fa hb,Int.mul_one]
 have l:T.sN (fun u=>T.one x.f0.toNat u*x.f2) n=x.f2:=by
  rw[T.bL (g:=fun u=>x.f2*T.one x.f0.toNat u) (fun u _=>Int.mul_comm _ _),T.eR,T.fa j,Int.mul_one]
 rw[k,l] at a;omega
theorem yE {n:Nat}:∀(E:List S83) (f:Nat->Nat->Int),(∀x∈E,cu n x=true/\x.f0<x.f1/\f x.f0.toNat x.f1.toNat=0/\f x.f1.toNat x.f0.toNat=0)->E.Pairwise jB->T.sN (T.val n (E.foldl dn f)) n=T.sN (T.val n f) n+2*fA E
 |[],f,_,_=>by simp[fA]
 |x::E,f,h,hp=>by
  obtain⟨e,g⟩:=List.pairwise_cons.1 hp;obtain⟨h1,r,i,j⟩:=h x (List.mem_cons_self ..);simp[cu] at h1;have k:=IT (n:=n) (f:=f) (x:=x) (by omega) (by omega) (by omega) i j;have l:=yE E (dn f x) (fun y a=>by
   obtain⟨b,m,o,p⟩:=h y (List.mem_cons_of_mem _ a);have hb:=e y a;unfold jB at hb;have q:=b;simp[cu] at q;unfold dn;rw[if_neg (show ¬x.f0=x.f1 by omega)];refine⟨b,m,?_,?_⟩
   ·show (if _ then _ else _)=_
    rw[if_neg (by omega),if_neg (by omega)];exact o
   ·show (if _ then _ else _)=_
    rw[if_neg (by omega),if_neg (by omega)];exact p) g
  rw[List.foldl_cons,l,k,fA];omega
theorem IU {n:Nat} {E:List S83} (h:br n E) (b:∀x∈E,x.f0≠x.f1):T.sN (T.val n (ae E)) n=2*(cZ E E.length:Nat):=by
 have h1:=yE (n:=n) E (fun _ _=>0) (fun x a=>⟨h.ok x a,by have:=h.le x a;have:=b x a;omega,rfl,rfl⟩) h.order;have g:T.sN (T.val n fun _ _=>0) n=0:=T.iu fun u _=>T.j5 n
 have e:=pX h E.length (aI _);rw[List.take_length] at e;unfold ae;omega
theorem IV {n:Nat} {E:List S83} (hn:1<=n) (m:n<=12) (o:E.length<=40) (e:cw n E=0) (hC:fc n E):
  ∃g:Nat,Ev (fun k=>fi.f k n (fB E)) ((g:Int),(0:Int))/\T.ee n (ae E) g:=by
 have a:=(jC e).2.2.fB;have p:(fB E).length<=E.length:=List.length_filter_le _ _;have i:=IS hn a hC.fB;refine⟨(cF (cy (fB E) (fB E).length)).2,?_,?_⟩
 ·unfold fi.f
  have h:=mF n (fB E) (by omega);rw[IN (by omega) (by omega) a] at h;refine Ev.bind h ?_;have j:nY n (fB E)=true:=by
   unfold nY e9;rw[a.cS,ay (by omega),ay (show (fB E).length<=40 by omega)];simp only[Bool.true_and,Bool.and_true];refine List.all_eq_true.2 fun x b=>?_
   have:=a.ok x b;simp[cu] at this;exact ay (by omega)
  simp only[if_true,if_pos j];exact Ev.const _
 ·have h1:=IU a (fun x b=>(qa.1 b).2)
  rw[IM] at h1;show T.sN (T.can n (ae E)) n=_
  have l:T.sN (T.can n (ae E)) n=T.sN (T.val n (ae E)) n-2*n:=by
   show T.sN (fun v=>T.val n (ae E) v-2) n=_
   rw[T.dA,T.jd];omega
  rw[o8] at i;rw[l,h1];omega
theorem IW {l:List (List Int)} {i:Nat} (h:i<l.length):l.drop i=a6 l i::l.drop (i+1):=by
 rw[List.drop_eq_getElem_cons h];simp[a6,aX,bB h]
theorem yF {n:Nat} {E:List S83} (a:E.length<=1000) (b:cw n E=0) (hp:partsOf E n=1):Ev (fun k=>dH.f k n E) 0:=by
 unfold dH.f;refine Ev.bind (sx a b hp) ?_;simp only[if_true];exact Ev.const _
theorem yG {n q:Nat} (b:q<n) (hn:n<=12) (l:List (List Int)) (e:l.length<=100000) (a:∀x∈l,x.length=n):∀(m i:Nat) (o:List (List Int)),i+m=l.length->o.length<=i->Ev (fun k=>bK.l0 k q o l l.length i) (o++(l.drop i).map (fun c=>c.set q (-1)),(0:Int))
 |0,i,o,hi,g=>by
  refine Ev.of_succ ?_;simp only[bK.l0,if_neg (show ¬((i:Int)<(l.length:Int)) by omega)];rw[List.drop_eq_nil_of_le (by omega),List.map_nil,List.append_nil];exact Ev.const _
 |m+1,i,o,hi,g=>by
  have h:a6 l i∈l:=by
   have:a6 l i=l[i]:=by simp[a6,aX,bB (show i<l.length by omega)]
   rw[this];exact List.getElem_mem _
  have hlen:=a _ h;have j:=yG b hn l e a m (i+1) (o++[(a6 l i).set q (-1)]) (by omega) (by simp;omega);refine Ev.of_succ ?_;have p:fJ.f (a6 l i)=some (a6 l i):=if_pos (by omega);simp only[bK.l0,if_pos (show (i:Int)<(l.length:Int) by omega),if_pos (show (0:Int)<=(i:Int) by omega),p,Option.bind_some,if_pos (show (0:Int)<=(q:Int) by omega),if_pos (show (q:Int)<((a6 l i).length:Int) by omega),if_pos (show o.length<5864062014805 by omega),aG,eA (show i<=1000000 by omega)];rw[IW (show i<l.length by omega),List.map_cons];simpa using j
theorem IX {n q:Nat} {E:List S83} (h:Small n q E) (a:cw n E=0):Ev (fun k=>bK.f k n E q) ((Small.fj n q E).map (fun c=>c.set q (-1)),(0:Int)):=by
 unfold bK.f;have b:=h.q;have g:=h.n5;have i:=h.len;refine Ev.bind (yF (by omega) a ((jl h.n1 h.right).2 h.conn)) ?_;simp only[if_true,if_neg (show ¬(q:Int)<0 by omega)];refine Ev.of_succ ?_;simp only[bK.j0,aZ (show ¬(q:Int)>=(n:Int) by omega),Bool.false_eq_true,if_false];refine Ev.bind (h.Iw (h.Ia a)) ?_;simp only[if_true];have j:=h.p5;have hle:(Small.fj n q E).length<=100000:=Nat.le_trans (List.length_filter_le _ _) (by omega);have:=yG b (by omega) (Small.fj n q E) hle (fun x e=>(h.od (List.mem_filter.1 e).1).1) (Small.fj n q E).length 0 [] (by omega) (by simp);rw[List.drop_zero,List.nil_append] at this;exact this
section
theorem yH (c:List Int) (a:c.length<=100000):∀(m i:Nat),i+m=c.length->Ev (fun k=>bt.l0 k c c c.length i) true
 |0,i,hi=>by
  refine Ev.of_succ ?_;simp only[bt.l0,if_neg (show ¬((i:Int)<(c.length:Int)) by omega)];exact Ev.const _
 |m+1,i,hi=>by
  have b:=yH c a m (i+1) (by omega);refine Ev.of_succ ?_;simp only[bt.l0,if_pos (show (i:Int)<(c.length:Int) by omega),if_pos (show (0:Int)<=(i:Int) by omega),if_true,eA (show i<=1000000 by omega)];exact b
theorem IY (c:List Int) (a:c.length<=100000):Ev (fun k=>bt.f k c c) true:=by
 unfold bt.f;simp only[if_true];exact yH c a c.length 0 (by omega)
theorem yI (c:List Int) (b:c.length<=12) (hb:∀v:Nat,v<c.length-> -2000<=rd c v/\rd c v<=2000):∀(m i:Nat),i+m=c.length->Ev (fun k=>fO.l0 k c (T.sN (fun v=>rd c (v:Nat)) i) i) (T.sN (fun v=>rd c (v:Nat)) c.length)
 |0,i,hi=>by
  obtain rfl:i=c.length:=by omega
  refine Ev.of_succ ?_;simp only[fO.l0,if_neg (show ¬((c.length:Int)<(c.length:Int)) by omega)];exact Ev.const _
 |m+1,i,hi=>by
  have a:=yI c b hb m (i+1) (by omega);have e:∀j,j<=c.length-> -(2000*j:Int)<=T.sN (fun v=>rd c (v:Nat)) j/\T.sN (fun v=>rd c (v:Nat)) j<=2000*j:=fun j=>by
   induction j with
   |zero=>intro _;simp[T.sN]
   |succ j g=>
    intro l;have h1:=g (by omega);have h:=hb j (by omega);rw[T.dR];omega
  have h1:=e i (by omega);have h:=hb i (by omega);refine Ev.of_succ ?_;simp only[fO.l0,if_pos (show (i:Int)<(c.length:Int) by omega),if_pos (show (0:Int)<=(i:Int) by omega),eA (show i<=1000000 by omega),iq (show -1000000000<=T.sN (fun v=>rd c (v:Nat)) i+rd c i/\T.sN (fun v=>rd c (v:Nat)) i+rd c i<=1000000000 by omega)];rw[T.dR] at a;exact a
theorem IZ (c:List Int) (a:c.length<=12) (hb:∀v:Nat,v<c.length-> -2000<=rd c v/\rd c v<=2000):Ev (fun k=>fO.f k c) (T.sN (fun v=>rd c (v:Nat)) c.length):=by
 unfold fO.f;exact yI c a hb c.length 0 (by omega)
namespace Curve
variable {n:Nat} {E:List S83} {d:List Int} (h:Curve n E d) (hn:1<=n)
include h hn
theorem facts:n<=5/\E.length<=40/\br n E/\fc n E/\partsOf E n=1:=by
 have a:=h.small 0 (by omega);exact⟨a.n5,a.len,a.right,a.conn,(jl hn a.right).2 a.conn⟩
theorem I0:∃g:Nat,Ev (fun k=>fi.f k n (fB E)) ((g:Int),(0:Int))/\T.ee n (ae E) g:=by
 obtain⟨f1,f2,f3,f4,f5⟩:=h.facts hn;exact IV hn (by omega) f2 h.check f4
end Curve
end
theorem sT (c:List Int) (a:c.length<=1000):∀(m i:Nat),i+m=c.length->(∀v:Nat,v<i->0<=rd c v)->∃r,Ev (fun k=>eH.l0 k c i) r/\(r= -1/\(∀v:Nat,v<c.length->0<=rd c v)\/∃v:Nat,v<c.length/\r=v/\rd c v<0)
 |0,i,hi,hp=>by
  refine⟨-1,Ev.of_succ ?_,.inl ⟨rfl,fun v b=>hp v (by omega)⟩⟩;simp only[eH.l0,if_neg (show ¬(i:Int)<c.length by omega)];exact Ev.const _
 |m+1,i,hi,hp=>by
  by_cases e:rd c i<0
  ·refine⟨i,Ev.of_succ ?_,.inr ⟨i,by omega,rfl,e⟩⟩
   simp only[eH.l0,if_pos (show (i:Int)<c.length by omega),if_pos (show (0:Int)<=i by omega),if_pos e];exact Ev.const _
  ·obtain⟨r,g,h⟩:=sT c a m (i+1) (by omega) (fun v b=>by
    by_cases e2:v=i
    ·subst e2;omega
    ·exact hp v (by omega))
   refine⟨r,Ev.of_succ ?_,h⟩;simp only[eH.l0,if_pos (show (i:Int)<c.length by omega),if_pos (show (0:Int)<=i by omega),if_neg e,eA (show i<=1000000 by omega)];exact g
theorem sU (o:List Bool) (b:o.length<=1000):∀(m i:Nat),i+m=o.length->(∀v:Nat,v<i->a8 o v=true)->∃r,Ev (fun k=>eI.l0 k o i) r/\(r=true↔∀v:Nat,v<o.length->a8 o v=true)
 |0,i,hi,hp=>by
  refine⟨true,Ev.of_succ ?_,⟨fun _ v g=>hp v (by omega),fun _=>rfl⟩⟩;simp only[eI.l0,if_neg (show ¬(i:Int)<o.length by omega)];exact Ev.const _
 |m+1,i,hi,hp=>by
  have a:bM false o (i:Int)=a8 o i:=by simp[bM,a8]
  by_cases e:a8 o i=true
  ·obtain⟨r,j,h⟩:=sU o b m (i+1) (by omega) (fun v g=>by
    by_cases e2:v=i
    ·subst e2;exact e
    ·exact hp v (by omega))
   refine⟨r,Ev.of_succ ?_,h⟩;simp only[eI.l0,if_pos (show (i:Int)<o.length by omega),if_pos (show (0:Int)<=i by omega),a,if_pos e,eA (show i<=1000000 by omega)];exact j
  ·refine⟨false,Ev.of_succ ?_,⟨nofun,fun h=>absurd (h i (by omega)) e⟩⟩
   simp only[eI.l0,if_pos (show (i:Int)<o.length by omega),if_pos (show (0:Int)<=i by omega),a,if_neg e];exact Ev.const _
def cL (n:Nat) (t:Nat->Nat->Int) (c:List Int) (v i:Nat):List Int:=(List.range n).map fun u=>if u=v then rd c v+T.sN (fun w=>t w v) i else if u<i then rd c u-t u v else rd c u
theorem kp (n:Nat) (t:Nat->Nat->Int) (c:List Int) (v i:Nat):(cL n t c v i).length=n:=by simp[cL]
theorem I7 {n:Nat} (t:Nat->Nat->Int) {c:List Int} (a:c.length=n) (v:Nat):cL n t c v 0=c:=by
 refine pO (kp ..) a fun u hu=>?_
 unfold cL;rw[jm _ hu];by_cases e:u=v
 ·subst e;simp[T.sN]
 ·simp[e]
theorem I8 {n:Nat} {t:Nat->Nat->Int} (c:List Int) {v:Nat} (a:t v v=0):cL n t c v (v+1)=cL n t c v v:=by
 unfold cL;refine List.map_congr_left fun u hu=>?_
 by_cases e:u=v
 ·rw[if_pos e,if_pos e,T.dR,a,Int.add_zero]
 ·rw[if_neg e,if_neg e]
  by_cases e2:u<v
  ·rw[if_pos e2,if_pos (by omega)]
  ·rw[if_neg e2,if_neg (by omega)]
theorem I9 {n:Nat} {t:Nat->Nat->Int} (c:List Int) {v i:Nat} (h:v<n) (hi:i<n) (a:i≠v):((cL n t c v i).set i (rd (cL n t c v i) i-t i v)).set v (rd ((cL n t c v i).set i (rd (cL n t c v i) i-t i v)) v+t i v)=cL n t c v (i+1):=by
 have j:rd (cL n t c v i) (i:Int)=rd c i:=by
  unfold cL;rw[jm _ hi,if_neg a,if_neg (by omega)]
 have e2:rd ((cL n t c v i).set i (rd (cL n t c v i) i-t i v)) (v:Int)=rd c v+T.sN (fun w=>t w v) i:=by
  rw[gH _ _ _ _ a];unfold cL;rw[jm _ h,if_pos rfl]
 rw[e2,j];refine pO (n:=n) (by simp[kp]) (kp ..) fun u hu=>?_
 have l:rd (cL n t c v (i+1)) (u:Int)=if u=v then rd c v+T.sN (fun w=>t w v) (i+1) else if u<i+1 then rd c u-t u v else rd c u:=by
  unfold cL;rw[jm _ hu]
 rw[l];by_cases e:u=v
 ·subst e
  rw[je _ _ _ (by simp[kp];exact hu),if_pos rfl,T.dR,Int.add_assoc]
 ·rw[gH _ _ _ _ (fun k=>e k.symm),if_neg e]
  by_cases b:u=i
  ·subst b
   rw[je _ _ _ (by rw[kp];exact hu),if_pos (by omega)]
  ·rw[gH _ _ _ _ (fun k=>b k.symm)]
   unfold cL;rw[jm _ hu,if_neg e];by_cases g:u<i
   ·rw[if_pos g,if_pos (by omega)]
   ·rw[if_neg g,if_neg (by omega)]
theorem yJ {n:Nat} {E:List S83} (hn:n<=12) (q:E.length<=1000) (a:br n E) {v:Nat} (b:v<n) {c:List Int} (hb:∀u:Nat,u<n-> -10000000<=rd c u/\rd c u<=10000000) (o:List Bool) (l:Int) {r:Bool} (h:Ev (fun k=>bD.l0 k (cL n (ae E) c v n) o (wrap64 (l+1)) n E) r):
  ∀(m i:Nat),i+m=n->Ev (fun k=>bD.l1 k (cL n (ae E) c v i) o l v i n E) r
 |0,i,hi=>by
  obtain rfl:i=n:=by omega
  refine Ev.of_succ ?_;simp only[bD.l1,if_neg (show ¬(i:Int)<(i:Int) by omega)];exact h
 |m+1,i,hi=>by
  have g:=yJ hn q a b hb o l h m (i+1) (by omega);refine Ev.of_succ ?_;by_cases e:i=v
  ·subst e
   rw[I8 _ (a.wt.self i)] at g;simp only[bD.l1,if_pos (show (i:Int)<(n:Int) by omega),if_true,eA (show i<=1000000 by omega)];exact g
  ·have p:=pN (n:Int) E (i:Int) (v:Int) q
   rw[<-iJ a i v e] at p;have z:0<=ae E i v/\ae E i v<=50:=by rw[iJ a i v e];exact nD a _ _
   have s:∀j:Nat,j<=12-> -(50*j:Int)<=T.sN (fun w=>ae E w v) j/\T.sN (fun w=>ae E w v) j<=50*j:=fun j=>by
    induction j with
    |zero=>intro _;simp[T.sN]
    |succ j x=>
     intro B;have h1:=x (by omega);have C:0<=ae E j v/\ae E j v<=50:=by
      by_cases e2:j=v
      ·subst e2;rw[a.wt.self j];omega
      ·rw[iJ a j v e2];exact nD a _ _
     rw[T.dR];omega
   have y:rd (cL n (ae E) c v i) (i:Int)=rd c i:=by
    unfold cL;rw[jm _ (show i<n by omega),if_neg e,if_neg (by omega)]
   have e2:rd ((cL n (ae E) c v i).set i (rd (cL n (ae E) c v i) i-ae E i v)) (v:Int)=rd c v+T.sN (fun w=>ae E w v) i:=by
    rw[gH _ _ _ _ e];unfold cL;rw[jm _ b,if_pos rfl]
   have w1:wrap64 (rd (cL n (ae E) c v i) (i:Int)-ae E i v)=rd (cL n (ae E) c v i) (i:Int)-ae E i v:=iq (by have:=hb i (by omega);rw[y];omega);have w2:wrap64 (rd ((cL n (ae E) c v i).set i (rd (cL n (ae E) c v i) i-ae E i v)) (v:Int)+ae E i v)=rd ((cL n (ae E) c v i).set i (rd (cL n (ae E) c v i) i-ae E i v)) (v:Int)+ae E i v:=iq (by have:=hb v b;have:=s i (by omega);rw[e2];omega);rw[<-I9 c b (by omega) e] at g;simp only[bD.l1,kp,if_pos (show (i:Int)<(n:Int) by omega),if_neg (show ¬(i:Int)=(v:Int) by omega),if_pos (show (0:Int)<=(i:Int) by omega)];refine Ev.bind p ?_;simp only[Option.bind_some,aG,w1,List.length_set,kp,if_pos (show (0:Int)<=(v:Int) by omega),if_pos (show (v:Int)<(n:Int) by omega)];refine Ev.bind p ?_;simp only[w2,eA (show i<=1000000 by omega)];exact g
structure yK (n:Nat) (E:List S83) (d:List Int) (b:Nat->Int) (c:List Int) (o:List Bool):Prop where
 g:T.gL n (ae E) (fun v=>rd d (v:Nat)) b
 cl:c.length=n
 ol:o.length=n
 c:∀v:Nat,v<n->rd c v=rd d v+T.aV n (ae E) b v
 o:∀v:Nat,v<n->(a8 o v=true↔0<b v)
theorem I_ {n:Nat} {t:Nat->Nat->Int} (g:T.Wt n t) {V B:Int} (j:T.sN (T.val n t) n<=V) (k:0<=B) {b:Nat->Int} (hb:∀v,v<n->0<=b v/\b v<=B) {v:Nat} (h:v<n): -(V*B)<=T.aV n t b v/\T.aV n t b v<=V*B:=by
 have hp:∀u,u<n->0<=T.val n t u:=fun u _=>T.dw fun w _=>g.pos _ _
 have h1:T.val n t v*B<=V*B:=Int.mul_le_mul_of_nonneg_right (Int.le_trans (T.fL h hp) j) k;have i:T.aV n t b v<=T.sN (fun u=>B*t v u) n:=T.cW fun u hu=>by
  rw[Int.mul_comm B];exact Int.mul_le_mul_of_nonneg_left (by have:=hb u hu;have:=hb v h;omega) (g.pos _ _)
 have a:T.sN (fun u=>(-B)*t v u) n<=T.aV n t b v:=T.cW fun u hu=>by
  rw[Int.mul_comm (-B)];exact Int.mul_le_mul_of_nonneg_left (by have:=hb u hu;have:=hb v h;omega) (g.pos _ _)
 rw[T.eR] at i a;rw[Int.neg_mul] at a;have e:T.sN (fun u=>t v u) n=T.val n t v:=rfl;rw[e] at i a;rw[Int.mul_comm B] at i;rw[Int.mul_comm B] at a;omega
theorem I' {n:Nat} {E:List S83} {d:List Int} (h:dT n 0 E d):∀(m:Nat) (b:Nat->Int) (c:List Int) (o:List Bool),yK n E d b c o->(∃q,q<n/\b q=0)->(400000:Int)-T.sN b n<=m->0<=T.sN b n->
  ∃r,Ev (fun k=>bD.l0 k c o (T.sN b n) n E) r/\(r=true↔T.bP n (ae E) (fun v=>rd d (v:Nat))):=by
 have aS:=h.n1;have hn:=h.n12;have l:=h.right.wt;have J:=h.right.conn h.conn;have K:∀v,v<n->0<=T.val n (ae E) v:=fun v a=>T.dw fun w _=>l.pos _ _
 have z:∀(b:Nat->Int),T.gL n (ae E) (fun v=>rd d (v:Nat)) b->(∃q,q<n/\b q=0)->T.sN b n<=378432:=fun b L ⟨q,i,C⟩=>by
  have h1:=L.sR l J i C (M:=219) (by omega) (fun v a=>by
   have N:=T.fL a K;have p:=h.val;have O:=h.d v a;show T.val n (ae E) v-1-rd d (v:Nat)<=219
   omega)
  have P:(n:Int)*219<=12*219:=by omega
  have Q:(n:Int)*((n:Int)*219)<=12*(12*219):=Int.mul_le_mul (by omega) P (by omega) (by omega);have h7:(n:Int)*((n:Int)*((n:Int)*219))<=12*(12*(12*219)):=Int.mul_le_mul (by omega) Q (Int.mul_nonneg (by omega) (by omega)) (by omega);omega
 intro m;induction m with
 |zero=>
  intro b c o hp i hm R;have:=z b hp.g i;omega
 |succ m S=>
  intro b c o hp i hm R;have U:=z b hp.g i;obtain⟨V,W,X⟩:=sT c (by rw[hp.cl];omega) c.length 0 (by omega) (fun v a=>by omega);have D:Ev (fun k=>eH.f k c) V:=by unfold eH.f;exact W
  rcases X with⟨rfl,s⟩|⟨v,a,rfl,Y⟩
  ·refine⟨true,Ev.of_succ ?_,⟨fun _=>?_,fun _=>rfl⟩⟩
   ·simp only[bD.l0,if_pos (show T.sN b n<10000000 by omega)]
    refine Ev.bind D ?_;simp only[if_pos (show (-1:Int)<0 by decide)];exact Ev.const _
   ·refine T.gL.nX (b:=b) fun v a=>?_
    have:=s v (by rw[hp.cl];exact a);rw[hp.c v a] at this;exact this
  ·rw[hp.cl] at a
   obtain⟨x,Z,aa⟩:=sU o (by rw[hp.ol];omega) o.length 0 (by omega) (fun v a=>by omega);have ab:Ev (fun k=>eI.f k o) x:=by unfold eI.f;exact Z
   obtain⟨q,i,C⟩:=i;have ad:x=false:=by
    cases x with
    |false=>rfl
    |true=>
     have:=(hp.o q i).1 (aa.1 rfl q (by rw[hp.ol];exact i));omega
   subst ad;have ag:rd d (v:Nat)+T.aV n (ae E) b v<0:=by rw[<-hp.c v a];exact Y
   have y:=hp.g.step l a ag;have ak:T.sN (fun u=>b u+T.one v u) n=T.sN b n+1:=by rw[T.dE,T.fa a]
   have am:∀u,u<n->0<=b u/\b u<=378432:=fun u hu=>⟨hp.g.pos u hu,Int.le_trans (T.fL hu hp.g.pos) U⟩
   have an:∀u:Nat,u<n-> -10000000<=rd c u/\rd c u<=10000000:=fun u hu=>by
    have h1:=I_ l h.val (B:=378432) (by omega) am hu;have N:=h.d u hu;rw[hp.c u hu];omega
   have j:yK n E d (fun u=>b u+T.one v u) (cL n (ae E) c v n) (o.set v true):=by
    refine⟨y,kp ..,by simp[hp.ol],fun u hu=>?_,fun u hu=>?_⟩
    ·unfold cL
     rw[jm _ hu,T.j7];by_cases e:u=v
     ·subst e
      rw[if_pos rfl,T.pr l hu,hp.c u hu,T.bL (g:=fun w=>ae E u w) (fun w _=>l.sym w u)];unfold T.val;omega
     ·rw[if_neg e,if_pos hu,T.pv a e,hp.c u hu]
      omega
    ·have p:=hp.o u hu
     have O:=hp.g.pos u hu;unfold a8 at p⊢;rw[aX,List.getElem?_set];show _↔0<b u+T.one v u
     unfold T.one;by_cases e:v=u
     ·subst e
      rw[if_pos rfl,if_pos (by rw[hp.ol];exact a),if_pos rfl];exact⟨fun _=>by omega,fun _=>rfl⟩
     ·rw[if_neg e,if_neg (fun k=>e k.symm),<-aX,p]
      omega
   have key:∃r,Ev (fun k=>bD.l0 k (cL n (ae E) c v n) (o.set v true) (wrap64 (T.sN b n+1)) n E) r/\(r=true↔T.bP n (ae E) (fun v=>rd d (v:Nat))):=by
    rw[iq (show -1000000000<=T.sN b n+1/\T.sN b n+1<=1000000000 by omega),<-ak];by_cases hex:∃q,q<n/\b q+T.one v q=0
    ·exact S (fun u=>b u+T.one v u) _ _ j hex (by omega) (by omega)
    ·have F:∀u,u<n->1<=b u+T.one v u:=fun u hu=>by
      have h1:=y.pos u hu;by_cases e:b u+T.one v u=0
      ·exact absurd ⟨u,hu,e⟩ hex
      ·have:0<=b u+T.one v u:=h1
       omega
     have G:=y.lost (by omega) F;obtain⟨r3,ar,av⟩:=sT (cL n (ae E) c v n) (by rw[kp];omega) (cL n (ae E) c v n).length 0 (by omega) (fun v a=>by omega);have aB:Ev (fun k=>eH.f k (cL n (ae E) c v n)) r3:=by unfold eH.f;exact ar
     obtain⟨H,aF,aL⟩:=sU (o.set v true) (by rw[j.ol];omega) (o.set v true).length 0 (by omega) (fun v a=>by omega);have aO:Ev (fun k=>eI.f k (o.set v true)) H:=by unfold eI.f;exact aF
     rcases av with⟨rfl,s⟩|⟨w,hw,rfl,a1⟩
     ·exact absurd (T.gL.nX (b:=fun u=>b u+T.one v u) fun u hu=>by
       have:=s u (by rw[j.cl];exact hu);rw[j.c u hu] at this;exact this) G
     ·have aP:H=true:=aL.2 fun u hu=>(j.o u (by rw[j.ol] at hu;exact hu)).2 (by have:=F u (by rw[j.ol] at hu;exact hu);show 0<b u+T.one v u;omega)
      subst aP;refine⟨false,Ev.of_succ ?_,⟨nofun,fun k=>absurd k G⟩⟩;simp only[bD.l0,if_pos (show T.sN (fun u=>b u+T.one v u) n<10000000 by omega)];refine Ev.bind aB ?_;simp only[if_neg (show ¬(w:Int)<0 by omega)];refine Ev.bind aO ?_;simp only[if_true];exact Ev.const _
   obtain⟨r,he,hr⟩:=key;refine⟨r,Ev.of_succ ?_,hr⟩;have I:=yJ hn h.len h.right a an (o.set v true) (T.sN b n) he n 0 (by omega);rw[I7 _ hp.cl] at I;simp only[bD.l0,if_pos (show T.sN b n<10000000 by omega)];refine Ev.bind D ?_;simp only[if_neg (show ¬(v:Int)<0 by omega)];refine Ev.bind ab ?_;simp only[Bool.false_eq_true,if_false,if_pos (show (0:Int)<=(v:Int) by omega),if_pos (show (v:Int)<(o.length:Int) by rw[hp.ol];omega),aG];exact I
theorem Ja {n:Nat} {E:List S83} {d:List Int} (h:dT n 0 E d):∃r,Ev (fun k=>bD.f k n E d) r/\(r=true↔T.bP n (ae E) (fun v=>rd d (v:Nat))):=by
 have l:=h.n1;have hn:=h.n12;have i:=h.right.wt;have b:=IZ d (by rw[h.dl];omega) (fun v a=>by have:=h.d v (by rw[<-h.dl];exact a);omega);rw[h.dl] at b;by_cases g:T.sN (fun v=>rd d (v:Nat)) n<0
 ·refine⟨false,?_,⟨nofun,fun k=>by have:=k.bb i;omega⟩⟩
  unfold bD.f;refine Ev.bind b ?_;simp only[if_pos g];exact Ev.const _
 ·have e:T.sN (fun _=>(0:Int)) n=0:=T.j5 n
  obtain⟨r,he,j⟩:=I' h 400000 (fun _=>0) d (List.replicate n false) ⟨T.gL.start _ _ _,h.dl,by simp,fun v a=>by rw[T.jD];omega,fun v a=>by simp[a8,aX,a]⟩ ⟨0,by omega,rfl⟩ (by rw[e];omega) (by rw[e];omega);rw[e] at he;refine⟨r,?_,j⟩;unfold bD.f;refine Ev.bind b ?_;simp only[if_neg g,Option.bind_some,List.length_nil,List.nil_append,Nat.zero_add,if_pos (show d.length<17592186044416 by rw[h.dl];omega),if_pos (show (0:Int)<=(n:Int) by omega),aG,if_pos (show n<=281474976710656 by omega)];exact he
section
end
end Go.Proofs.YtffdiakgjakngaaGreat.P


namespace Go.Proofs.YtffdiakgjakngaaGreat.P
open Go.RowKit Go.Proofs.YtffdiakgjakngaaGreatW.PrintWords Go.Proofs.YtffdiakgjakngaaGreatW.PrintLast Go.Proofs.YtffdiakgjakngaaGreatW.PrintMore
set_option linter.unusedVariables false
set_option linter.unusedSimpArgs false
set_option maxHeartbeats 8000000
set_option maxRecDepth 100000
section
theorem yL {f:Nat->Int} (hf:∀u,0<=f u) (j:Nat):∀e:Nat,T.sN f j<=T.sN f (j+e)
 |0=>Int.le_refl _
 |e+1=>by
  have h1:=yL hf j e;have a:=hf (j+e);rw[<-Nat.add_assoc,T.dR];omega
theorem Jb {N:Int} {E:List S83} (e:E.length<=1000):Ev (fun k=>dH.f k N E) (eC N E):=by
 by_cases b:cw N E=0
 ·obtain⟨h1,m,g⟩:=jC b
  obtain⟨n,rfl⟩:=Int.eq_ofNat_of_zero_le (show 0<=N by omega);by_cases hp:partsOf E n=1
  ·have:eC (n:Int) E=0:=by unfold eC;rw[if_pos b,aG,if_pos hp]
   rw[this];exact yF e b hp
  ·have:eC (n:Int) E=13:=by unfold eC;rw[if_pos b,aG,if_neg hp]
   rw[this];unfold dH.f;refine Ev.bind (a:=(false,(0:Int))) ?_ ?_
   ·unfold cz.f
    have i:=mF (n:Int) E e;rw[b] at i;refine Ev.bind i ?_;have j:jz (n:Int) E=true:=by
     unfold jz;rw[ay (by omega),Bool.true_and];refine List.all_eq_true.2 fun x l=>?_
     have:=g.ok x l;simp[cu] at this⊢;omega
    simp only[if_true,if_pos j,aG];rw[show decide (bY (aK E) n=1)=false from aZ (fun h=>hp ((jl (by omega) g).2 ((pA (by omega) (iE g.cS)).1 h)))];exact Ev.const _
   ·simp only[if_true,Bool.false_eq_true,if_false]
    exact Ev.const _
 ·have:eC N E=cw N E:=by unfold eC;rw[if_neg b]
  rw[this];unfold dH.f;refine Ev.bind (a:=(false,cw N E)) ?_ ?_
  ·unfold cz.f
   refine Ev.bind (mF N E e) ?_;simp only[if_neg b];exact Ev.const _
  ·simp only[if_neg b];exact Ev.const _
structure Right (n:Nat) (E:List S83):Prop where
 check:cw n E=0
 n1:1<=n
 n6:n<=6
 len:E.length<=144
 right:br n E
 conn:fc n E
 val:T.sN (T.val n (ae E)) n<=19
namespace Right
variable {n:Nat} {E:List S83} (h:Right n E)
include h
theorem Jc:∀v:Nat,v<n->0<=T.val n (ae E) v/\T.val n (ae E) v<=19:=fun v a=>by
 have e:=h.right.wt;have b:∀u,u<n->0<=T.val n (ae E) u:=fun u hu=>T.dw fun w _=>e.pos _ _
 have h1:=T.fL a b;have g:=h.val;exact⟨b v a,by omega⟩
theorem sV (v:Nat) (g:v<n):∀(m i:Nat) (s:Int),i+m=n->s=T.sN (fun u=>ae E v u) i->Ev (fun k=>eU.l0 k v s i n E) (T.val n (ae E) v)
 |0,i,s,hi,a=>by
  obtain rfl:i=n:=by omega
  subst a;refine Ev.of_succ ?_;simp only[eU.l0,if_neg (show ¬((i:Int)<(i:Int)) by omega)];exact Ev.const _
 |m+1,i,s,hi,a=>by
  have b:=h.right.wt;have h1:=h.Jc v g;have hle:∀j,j<=n->0<=T.sN (fun u=>ae E v u) j/\T.sN (fun u=>ae E v u) j<=T.val n (ae E) v:=fun j p=>by
   refine⟨T.dw fun u _=>b.pos _ _,?_⟩;have:=yL (f:=fun u=>ae E v u) (fun u=>b.pos v u) j (n-j);rw[show j+(n-j)=n by omega] at this;exact this
  have e:=T.dR (fun u=>ae E v u) i;have q:=hle (i+1) (by omega);have r:=hle i (by omega);refine Ev.of_succ ?_;by_cases o:i=v
  ·subst o
   have l:=sV i g m (i+1) s (by omega) (by rw[e,b.self,Int.add_zero];exact a);simp only[eU.l0,if_pos (show (i:Int)<(n:Int) by omega),if_true,eA (show i<=1000000 by have:=h.n6;omega)];exact l
  ·have hb:=pN (n:Int) E (i:Int) (v:Int) (by have:=h.len;omega)
   rw[<-iJ h.right i v o,b.sym i v] at hb;have l:=sV v g m (i+1) (s+ae E v i) (by omega) (by rw[e,a]);simp only[eU.l0,if_pos (show (i:Int)<(n:Int) by omega),if_neg (show ¬(i:Int)=(v:Int) by omega),eA (show i<=1000000 by have:=h.n6;omega)];refine Ev.bind hb ?_;simp only[iq (show -1000000000<=s+ae E v i/\s+ae E v i<=1000000000 by omega)];exact l
end Right
end
theorem Jd (a b:Nat) (g:a<9223372036854775808) (hb:b<9223372036854775808):Go.bits .and .i64 (a:Int) (b:Int)=((a&&& b:Nat):Int):=by
 have h:a&&& b<2 ^ 63:=Nat.and_lt_two_pow _ (by omega);have h1:(BitVec.ofInt 64 (a:Int)).toNat=a:=by
  rw[BitVec.ofInt_natCast,BitVec.toNat_ofNat];exact Nat.mod_eq_of_lt (by omega)
 have e:(BitVec.ofInt 64 (b:Int)).toNat=b:=by
  rw[BitVec.ofInt_natCast,BitVec.toNat_ofNat];exact Nat.mod_eq_of_lt (by omega)
 show IntKind.i64.wrap ((BitVec.ofInt 64 (a:Int)&&& BitVec.ofInt 64 (b:Int)).toNat:Int)=_
 rw[BitVec.toNat_and,h1,e,cH];unfold wrap64;omega
theorem oh {s u:Nat} (b:s<4096) (hu:u<64):fN s u=if s.testBit u=true then 1 else 0:=by
 unfold fN;rw[Nat.min_eq_left (by omega)];have e:((s:Int)/2 ^ u)=((s/2 ^ u:Nat):Int):=by simp
 rw[e,show (1:Int)=((1:Nat):Int) from rfl,Jd _ _ (Nat.lt_of_le_of_lt (Nat.div_le_self _ _) (by omega)) (by omega),Nat.and_one_is_mod,Nat.testBit_eq_decide_div_mod_eq];have:=Nat.mod_two_eq_zero_or_one (s/2 ^ u);by_cases h:s/2 ^ u%2=1
 ·simp[h]
 ·have a:s/2 ^ u%2=0:=by omega
  simp[a]
theorem sW {n:Nat} {E:List S83} (a:br n E) {s v:Nat} (b:s<4096):∀u,u<=12->gj (ae E) s v u=cM (ae E) (fun u=> !s.testBit u) v u
 |0,_=>rfl
 |u+1,hu=>by
  have i:=sW a (v:=v) b u (by omega);have g:=a.wt;have h:=(iE a.cS).times;have hb:=oZ h (burnt:=fun u=> !s.testBit u) (v:=v) u;have j:=h u v;rw[cM,gj,i,oh b (by omega)];by_cases e:u=v
  ·subst e
   rw[if_pos rfl,g.self];simp
  ·rw[if_neg e,g.sym v u]
   cases k:s.testBit u with
   |true=>simp
   |false=>
    simp only[Bool.false_eq_true,if_false,if_true,Bool.not_false];exact iq (by omega)
theorem Je {n q:Nat} {E:List S83} (m:br n E) (hn:n<=12) (r:q<n) {c:List Int} (x:∀v:Nat,v<n->0<=rd c v) (y:rd c q=0):gu (ae E) n q c=bZ n (ae E) q c:=by
 have h1:(List.range n).all (nQ q c)=true:=pI fun v a=>by
  unfold nQ;rw[ay (x v a),Bool.true_and,Bool.or_eq_true];by_cases e:v=q
  ·subst e;exact .inr (ay y)
  ·exact .inl (ay e)
 unfold gu;rw[h1,Bool.true_and,Bool.eq_iff_iff,jY (fun i j=>m.wt.pos i j)];have hp:2 ^ n<=4096:=Nat.pow_le_pow_right (by omega:0<2) hn;unfold pJ;rw[List.all_eq_true];constructor
 ·intro h S hS o
  obtain⟨s,g,hb⟩:=sG S n;obtain⟨v,a,p⟩:=hS;have k:=h s (List.mem_range.2 g);have l:s≠0:=fun e=>by have:=hb v a;rw[e,p] at this;simp at this
  have b:fN s q=0:=by rw[oh (by omega) (by omega),hb q r,o];rfl
  unfold mL at k;rw[aZ l,Bool.false_or,ay b,Bool.true_and,Bool.not_eq_true'] at k;unfold lT at k;rw[List.all_eq_false] at k;obtain⟨u,hu,hm⟩:=k;have hu:=List.mem_range.1 hu;unfold nP at hm;rw[Bool.not_eq_true,Bool.not_eq_false',Bool.and_eq_true,decide_eq_true_iff,decide_eq_true_iff] at hm;obtain⟨m1,m2⟩:=hm;have z:S u=true:=by
   rw[<-hb u hu];rw[oh (by omega) (by omega)] at m1;by_cases e:s.testBit u=true
   ·exact e
   ·rw[if_neg e] at m1;cases m1
  refine⟨u,hu,z,?_⟩;rw[sW m (by omega) n hn] at m2;rw[show cM (ae E) (fun u=> !S u) u n=cM (ae E) (fun u=> !s.testBit u) u n from ?_]
  ·exact m2
  ·rw[kU,kU]
   exact T.bL fun w hw=>by rw[hb w hw]
 ·intro h s g
  have g:=List.mem_range.1 g;unfold mL;by_cases l:s=0
  ·simp[l]
  ·rw[aZ l,Bool.false_or,Bool.not_eq_true',Bool.and_eq_false_iff]
   by_cases b:fN s q=0
   ·right
    have o:s.testBit q=false:=by
     rw[oh (by omega) (by omega)] at b;by_cases e:s.testBit q=true
     ·rw[if_pos e] at b;cases b
     ·exact Bool.eq_false_iff.2 e
    have hex:∃v,v<n/\s.testBit v=true:=by
     obtain⟨v,a⟩:=Nat.exists_testBit_of_ne_zero l;refine⟨v,?_,a⟩;by_cases e:v<n
     ·exact e
     ·rw[Nat.testBit_lt_two_pow (Nat.lt_of_lt_of_le g (Nat.pow_le_pow_right (by omega) (by omega)))] at a;cases a
    obtain⟨v,a,p,B⟩:=h (fun v=>s.testBit v) hex o;refine nO a ?_;unfold nP;rw[Bool.not_eq_false',Bool.and_eq_true,decide_eq_true_iff,decide_eq_true_iff];exact⟨by rw[oh (by omega) (by omega),if_pos p],by rw[sW m (by omega) n hn];exact B⟩
   ·exact .inl (aZ b)
section
attribute [local go_sem] Oper.semAt_some
end
section
def cE (P:Nat->Prop):Prop:=∃B,∀K,B<=K->P K
theorem cE.kr {α:Type} {f:Nat->Option α} {r:α} (h:Ev f r):cE fun k=>f k=some r:=h
theorem cE.and {P Q:Nat->Prop} (h:cE P) (a:cE Q):cE fun k=>P k/\Q k:=by
 obtain⟨B,h⟩:=h;obtain⟨C,a⟩:=a;exact⟨max B C,fun K b=>⟨h K (by omega),a K (by omega)⟩⟩
theorem cE.imp {P Q:Nat->Prop} (h:cE P) (hi:∀k,P k->Q k):cE Q:=by
 obtain⟨B,h⟩:=h;exact⟨B,fun K a=>hi K (h K a)⟩
theorem cE.mem {α:Type} {P:α->Nat->Prop}:∀{l:List α},(∀x∈l,cE (P x))->cE fun k=>∀x∈l,P x k
 |[],_=>⟨0,fun _ _ x b=>by simp at b⟩
 |x::l,h=>by
  refine((h x (List.mem_cons_self ..)).and (cE.mem fun y a=>h y (List.mem_cons_of_mem _ a))).imp fun k hk y a=>?_
  rcases List.mem_cons.1 a with rfl|a
  ·exact hk.1
  ·exact hk.2 y a
theorem cE.below {P:Nat->Nat->Prop} {n:Nat} (h:∀v,v<n->cE (P v)):cE fun k=>∀v,v<n->P v k:=
 (cE.mem (l:=List.range n) fun v a=>h v (List.mem_range.1 a)).imp fun k hk v a=>hk v (List.mem_range.2 a)
end
section
theorem yM {n:Nat} {E:List S83} (a:br n E) (v:Nat):fz E v n=T.val n (ae E) v:=by
 rw[<-pY a v n,kU];unfold T.val;refine T.bL fun u _=>?_
 by_cases e:u=v
 ·subst e;simp[a.wt.self]
 ·simp[e]
theorem yN {a b:List Int} (h:a.length=b.length) (l:a.length<=100000) {i:Nat} (hi:i<a.length) (he:∀j:Nat,j<i->rd a j=rd b j) (g:rd a i<rd b i):∀(m j:Nat),j+m=i->Ev (fun k=>eW.l0 k a b j) (-1)
 |0,j,n=>by
  obtain rfl:j=i:=by omega
  refine Ev.of_succ ?_;simp only[eW.l0,if_pos (show (j:Int)<(a.length:Int) by omega),if_pos (show (j:Int)<(b.length:Int) by omega),if_pos (show (0:Int)<=(j:Int) by omega),if_pos g];exact Ev.const _
 |m+1,j,n=>by
  have o:=yN h l hi he g m (j+1) (by omega);have e:=he j (by omega);refine Ev.of_succ ?_;simp only[eW.l0,if_pos (show (j:Int)<(a.length:Int) by omega),if_pos (show (j:Int)<(b.length:Int) by omega),if_pos (show (0:Int)<=(j:Int) by omega),if_neg (show ¬rd a j<rd b j by omega),if_neg (show ¬rd a j>rd b j by omega),eA (show j<=1000000 by omega)];exact o
theorem Jf {a b:List Int} (e:a.length=b.length) (g:a.length<=100000) (h:Lex a b):Ev (fun k=>eW.f k a b) (-1):=by
 obtain⟨i,h1,j,l⟩:=h;unfold eW.f;exact yN e g h1 j l i 0 (by omega)
theorem yO {n:Nat} {E:List S83} {d:List Int} (h:dT n 0 E d):Ev (fun k=>bD.f k n E d) (@decide (T.bP n (ae E) (fun v=>rd d (v:Nat))) (Classical.propDecidable _)):=by
 obtain⟨r,a,hi⟩:=Ja h;have e:r=@decide (T.bP n (ae E) (fun v=>rd d (v:Nat))) (Classical.propDecidable _):=by
  rw[Bool.eq_iff_iff,hi];exact(@decide_eq_true_iff _ (Classical.propDecidable _)).symm
 rw[<-e];exact a
section
variable {n q:Nat} {E:List S83}
theorem Jg (h:Small n q E) {v:Nat} (g:v<n):rd (eV n q (T.val n (ae E)) n) v=((gY E n q v:Nat):Int):=by
 have i:=h.right.wt;have hb:=h.pZ v;rw[yM h.right] at hb;unfold eV gY;rw[jm _ g,yM h.right];by_cases e:v=q
 ·rw[if_neg (fun k=>k.2 e),if_pos e];rfl
 ·rw[if_pos ⟨g,e⟩,if_neg e]
  have h1:1<=T.val n (ae E) v:=by
   obtain⟨a,b,m,j,l,o,p⟩:=h.right.conn h.conn (fun u=>decide (u=v)) ⟨v,g,by simp⟩ ⟨q,h.q,by simp;omega⟩;obtain rfl:a=v:=by simpa using l
   have:=T.fL (f:=fun u=>ae E a u) j (fun u _=>i.pos _ _);have r:T.val n (ae E) a=T.sN (fun u=>ae E a u) n:=rfl;omega
  rw[iq (by omega)];omega
theorem Jh (h:Small n q E):(de (gY E n q) n).filter (gu (ae E) n q)=dp n E q:=by
 rw[h.oa];refine List.filter_congr fun c b=>?_
 obtain⟨h1,a⟩:=(p_ _ _ _).1 b;have e:=a q h.q;rw[Small.n9] at e;rw[Je h.right (by have:=h.n5;omega) h.q (fun v g=>(a v g).1) (by omega),h.sJ]
theorem yP (h:Small n q E) {c:List Int} (i:bZ n (ae E) q c=true) (j:∀v:Nat,0<=rd c v) {D:Nat->Int} (b:∀v:Nat,v<n->v≠q->D v=rd c v) (k:D q<0):¬T.bP n (ae E) D:=fun hw=>by
 have g:=h.right.wt;have:=(T.nS g h.q (c:=D) ⟨fun v a e=>by rw[b v a e];exact j v,((nU g).2 i).down fun v a e=>by show D v<=rd c (v:Nat);rw[b v a e];exact Int.le_refl _⟩).1 hw;omega
def ku (x:List Int) (v:Nat):List Int:=x.set v (wrap64 (rd x v+1))
theorem qb {x:List Int} (hb:∀v:Nat, -8<=rd x v/\rd x v<=8) {v:Nat} (a:v<x.length) (u:Nat):rd (ku x v) u=rd x u+T.one v u:=by
 unfold ku T.one;have:=hb v;by_cases e:u=v
 ·subst e;rw[gK a,if_pos rfl,iq (by omega)]
 ·rw[iz (fun k=>e k.symm),if_neg e,Int.add_zero]
theorem sX (h:Small n q E) {c:List Int} (a:c∈dp n E q):dj q c=c.set q (-1):=by
 obtain⟨c1,c2,c3,c4⟩:=(h.jK c).1 a;unfold dj;rw[c3,show wrap64 (0+ -1)= -1 from by unfold wrap64;omega]
theorem sY (h:Small n q E) {c:List Int} (b:c∈dp n E q):(c.set q (-1)).length=n/\rd (c.set q (-1)) q= -1/\(∀v:Nat,v≠q->rd (c.set q (-1)) v=rd c v)/\∀v:Nat, -8<=rd (c.set q (-1)) v/\rd (c.set q (-1)) v<=8:=by
 obtain⟨c1,c2⟩:=h.od b;have g:=h.q;have a:rd (c.set q (-1)) q= -1:=gK (by omega) _;have e2:∀v:Nat,v≠q->rd (c.set q (-1)) v=rd c v:=fun v e=>iz (fun k=>e k.symm) _
 refine⟨by rw[List.length_set];exact c1,a,e2,fun v=>?_⟩;by_cases e:v=q
 ·subst e;rw[a];omega
 ·rw[e2 v e];have:=c2 v;omega
def lr (n q:Nat) (E:List S83) (x:List Int):Bool:=Small.lY n q E (x.set q 0)
theorem yQ (h:Small n q E) {c:List Int} (a:c∈dp n E q):lr n q E (dj q c)=Small.lY n q E c:=by
 obtain⟨c1,c2,c3,c4⟩:=(h.jK c).1 a;unfold lr;rw[sX h a,sO];have:=yn (l:=c) (v:=q) (by have:=h.q;omega);rw[c3] at this;rw[this]
theorem yR (h:Small n q E):((dp n E q).map (dj q)).filter (lr n q E)=(Small.fj n q E).map fun c=>c.set q (-1):=by
 rw[List.filter_map];unfold Small.fj;rw[List.filter_congr (p:=lr n q E∘dj q) (q:=fun c=>Small.lY n q E c) fun c a=>yQ h a];exact List.map_congr_left fun c a=>sX h (List.mem_filter.1 a).1
theorem Ji (h:Small n q E) {g:Int} (j:T.ee n (ae E) g) {c:List Int} (a:c∈dp n E q):Small.lY n q E c=true↔∀v:Nat,v<n->T.bP n (ae E) (fun u=>rd (ku (c.set q (-1)) v) (u:Nat)):=by
 obtain⟨c1,c2,c3,c4⟩:=(h.jK c).1 a;obtain⟨d1,d2,d3,d4⟩:=sY h a;have l:=h.right.wt;constructor
 ·intro m v b
  obtain⟨pos,o,w,p⟩:=h.Iy (List.mem_filter.2 ⟨a,m⟩);exact(T.Hy l (h.right.conn h.conn) h.n1 j o b).gG (T.bX.of_eq fun u hu=>by
   show rd (ku (c.set q (-1)) v) (u:Nat)=T.nu n (ae E) pos u+T.one v u
   rw[qb d4 (by omega),p u hu])
 ·intro hw
  refine Small.sQ.2 fun v b e=>Bool.eq_false_iff.2 fun r=>?_
  have i:∀u:Nat,rd (c.set v (rd c v+1)) u=rd c u+T.one v u:=fun u=>by
   unfold T.one;by_cases k:u=v
   ·subst k;rw[gK (by omega),if_pos rfl]
   ·rw[iz (fun s=>k s.symm),if_neg k,Int.add_zero]
  have h1:∀u:Nat,(0:Int)<=T.one v u:=fun u=>by unfold T.one;split<;>omega
  refine yP h r (fun u=>by rw[i];have:=c2 u;have:=h1 u;omega) (fun u hu k=>?_) ?_ (hw v b)
  ·show rd (ku (c.set q (-1)) v) (u:Nat)=_
   rw[qb d4 (by omega),d3 u k,i]
  ·show rd (ku (c.set q (-1)) v) (q:Nat)<0
   rw[qb d4 (by omega),d2];unfold T.one;rw[if_neg (fun k=>e k.symm)];omega
theorem Jj (h:Small n q E) (o:T.sN (T.val n (ae E)) n<=19) {g:Int} (p:T.ee n (ae E) g) {c:List Int} (a:c∈dp n E q):cE fun k=>nR k n E q (lr n q E) c:=by
 obtain⟨c1,c2,c3,c4⟩:=(h.jK c).1 a;obtain⟨d1,d2,d3,d4⟩:=sY h a;have i:=Ji h p a;rw[<-yQ h a] at i;have s:=h.n5;have hle:=h.len;have j:∀x:List Int,x.length=n->(∀v:Nat,v<n-> -200<=rd x v/\rd x v<=200)->dT n 0 E x:=fun x r hb=>⟨h.n1,by omega,h.n1,by omega,h.right,h.conn,o,r,hb⟩
 unfold nR;rw[sX h a] at i⊢;have l:¬T.bP n (ae E) (fun u=>rd (c.set q (-1)) (u:Nat)):=yP h c4 c2 (fun v b e=>d3 v e) (by show rd (c.set q (-1)) (q:Nat)<0;rw[d2];omega);generalize c.set q (-1)=x at d1 d2 d3 d4 i l⊢;have m:=yO (j x d1 (fun v _=>by have:=d4 v;omega));rw[@decide_eq_false _ (Classical.propDecidable _) l] at m;have e2:cE fun k=>∀v:Nat,v<n->bD.f k n E (ku x v)=some (@decide (T.bP n (ae E) (fun u=>rd (ku x v) (u:Nat))) (Classical.propDecidable _)):=cE.below fun v b=>yO (j _ (by unfold ku;rw[List.length_set];exact d1) (fun u _=>by
  have h1:(0:Int)<=T.one v u/\T.one v u<=1:=by unfold T.one;split<;>omega
  rw[qb d4 (by omega)];have:=d4 u;omega))
 refine((cE.kr m).and e2).imp fun k hk=>⟨false,_,hk.1,hk.2,?_⟩
 rw[i];constructor
 ·exact fun hw=>⟨rfl,fun v b=>@decide_eq_true _ (Classical.propDecidable _) (hw v b)⟩
 ·exact fun hw v b=>(@decide_eq_true_iff _ (Classical.propDecidable _)).1 (hw.2 v b)
end
end
section
attribute [local go_sem] Oper.semAt_some
end
section
attribute [local go_sem] Oper.semAt_some
end
section
attribute [local go_sem] Oper.semAt_some
end
section
attribute [local go_sem] Oper.semAt_some
end
section
attribute [local go_sem] Oper.semAt_some
end
section
attribute [local go_sem] Oper.semAt_some
end
end Go.Proofs.YtffdiakgjakngaaGreat.P
namespace Go.Proofs.YtffdiakgjakngaaGreat.T
set_option linter.unusedVariables false
set_option linter.unusedSimpArgs false
set_option maxHeartbeats 8000000
set_option maxRecDepth 100000
end Go.Proofs.YtffdiakgjakngaaGreat.T
namespace Go.Proofs.YtffdiakgjakngaaGreat.P
open Go.RowKit Go.Proofs.YtffdiakgjakngaaGreatW.PrintWords Go.Proofs.YtffdiakgjakngaaGreatW.PrintLast Go.Proofs.YtffdiakgjakngaaGreatW.PrintMore
set_option linter.unusedVariables false
set_option linter.unusedSimpArgs false
set_option maxHeartbeats 8000000
set_option maxRecDepth 100000
end Go.Proofs.YtffdiakgjakngaaGreat.P
namespace Go.Proofs.YtffdiakgjakngaaGreat.T
set_option linter.unusedVariables false
set_option linter.unusedSimpArgs false
set_option maxHeartbeats 8000000
set_option maxRecDepth 100000
end Go.Proofs.YtffdiakgjakngaaGreat.T
namespace Go.Proofs.YtffdiakgjakngaaGreat.P
open Go.RowKit Go.Proofs.YtffdiakgjakngaaGreatW.PrintWords Go.Proofs.YtffdiakgjakngaaGreatW.PrintLast Go.Proofs.YtffdiakgjakngaaGreatW.PrintMore
set_option linter.unusedVariables false
set_option linter.unusedSimpArgs false
set_option maxHeartbeats 8000000
set_option maxRecDepth 100000
section
attribute [local go_sem] Oper.semAt_some
end
end Go.Proofs.YtffdiakgjakngaaGreat.P
namespace Go.Proofs.YtffdiakgjakngaaGreat.P
open Go.RowKit Go.Proofs.YtffdiakgjakngaaGreatW.PrintWords Go.Proofs.YtffdiakgjakngaaGreatW.PrintLast Go.Proofs.YtffdiakgjakngaaGreatW.PrintMore Go.Proofs.YtffdiakgjakngaaGreat.T
set_option linter.unusedVariables false
set_option linter.unusedSimpArgs false
set_option maxHeartbeats 8000000
set_option maxRecDepth 100000
section
attribute [local go_sem] Oper.semAt_some
end
end Go.Proofs.YtffdiakgjakngaaGreat.P
namespace Go.Proofs.YtffdiakgjakngaaGreat.P
open Go.RowKit Go.Proofs.YtffdiakgjakngaaGreatW.PrintWords Go.Proofs.YtffdiakgjakngaaGreatW.PrintLast Go.Proofs.YtffdiakgjakngaaGreatW.PrintMore
set_option linter.unusedVariables false
set_option linter.unusedSimpArgs false
set_option maxHeartbeats 8000000
set_option maxRecDepth 100000
end Go.Proofs.YtffdiakgjakngaaGreat.P
namespace Go.Proofs.YtffdiakgjakngaaGreat.P
open Go Go.RowKit
set_option linter.unusedVariables false
set_option linter.unusedSimpArgs false
set_option maxHeartbeats 8000000
set_option maxRecDepth 100000
end Go.Proofs.YtffdiakgjakngaaGreat.P
namespace Go.Proofs.YtffdiakgjakngaaGreat.P
open Go.RowKit Go.Proofs.YtffdiakgjakngaaGreatW.PrintWords Go.Proofs.YtffdiakgjakngaaGreatW.PrintLast Go.Proofs.YtffdiakgjakngaaGreatW.PrintMore Go.Proofs.YtffdiakgjakngaaGreat.T
set_option linter.unusedVariables false
set_option linter.unusedSimpArgs false
set_option maxHeartbeats 8000000
set_option maxRecDepth 100000
section
attribute [local go_sem] Oper.semAt_some
end
section
attribute [local go_sem] Oper.semAt_some
end
end Go.Proofs.YtffdiakgjakngaaGreat.P
namespace Go.Proofs.YtffdiakgjakngaaGreat.P
open Go.RowKit Go.Proofs.YtffdiakgjakngaaGreatW.PrintWords Go.Proofs.YtffdiakgjakngaaGreatW.PrintLast Go.Proofs.YtffdiakgjakngaaGreatW.PrintMore
set_option linter.unusedVariables false
set_option linter.unusedSimpArgs false
set_option maxHeartbeats 8000000
set_option maxRecDepth 100000
section
attribute [local go_sem] Oper.semAt_some
end
theorem yS:∀{c:List Int},(∀x∈c, -1048576<=x/\x<=1048576)->fT c=0
 |[],_=>rfl
 |x::c,h=>by
  have h1:=h x (List.mem_cons_self ..);have a:=yS (c:=c) fun y b=>h y (List.mem_cons_of_mem _ b)
  rw[fT,if_pos (by simp[lq];omega)];exact a
theorem Jk (N:Int) (E:List S83) (i:E.length<=9223372036854775807):∃b,Ev (fun k=>ix.f k N E) b/\(b=true->E.length<=40)/\(cw N E=0->b=mT N E):=by
 by_cases g:cw N E=0
 ·refine⟨_,IJ g,fun e=>?_,fun _=>rfl⟩
  unfold mT at e;exact(aw e).1
 ·unfold ix.f kV.f
  by_cases j:E.length>40
  ·refine⟨false,Ev.bind (a:=false) ?_ (Ev.const _),nofun,fun h=>absurd h g⟩
   simp only[if_pos (show (E.length:Int)>40 by omega)];exact Ev.const _
  ·refine⟨true,Ev.bind (a:=true) ?_ (Ev.const _),fun _=>by omega,fun h=>absurd h g⟩
   simp only[if_neg (show ¬(E.length:Int)>40 by omega)];refine Ev.bind (sS N E i) ?_;simp only[if_neg g];exact Ev.const _
theorem Jl {N:Int} {E:List S83} (b:E.length<=9223372036854775807) (q:Int):Ev (fun k=>jg.f k N E q) (if eC N E=0 then(if 0<=q/\q<N then 0 else 2) else eC N E):=by
 unfold jg.f;refine Ev.bind (II N E b) ?_;by_cases h:eC N E=0
 ·simp only[if_pos h]
  unfold fK.f;by_cases a:q>=0
  ·simp only[if_pos a,Option.bind_some]
   by_cases h1:q<N
   ·simp only[ay h1,if_true,if_pos (show 0<=q/\q<N from⟨a,h1⟩)]
    exact Ev.const _
   ·simp only[aZ h1,Bool.false_eq_true,if_false,if_neg (show ¬(0<=q/\q<N) from fun k=>h1 k.2)]
    exact Ev.const _
  ·simp only[if_neg a,Option.bind_some,Bool.false_eq_true,if_false,if_neg (show ¬(0<=q/\q<N) from fun k=>a k.1)]
   exact Ev.const _
 ·simp only[if_neg h]
  exact Ev.const _
theorem Jm {N:Int} {E:List S83} (e:E.length<=1000) {q:Int} (h:eC N E≠0\/¬(0<=q/\q<N)):Ev (fun k=>bK.f k N E q) (([]:List (List Int)),if eC N E=0 then 2 else eC N E):=by
 unfold bK.f;refine Ev.bind (Jb e) ?_;by_cases a:eC N E=0
 ·simp only[if_pos a]
  by_cases b:q<0
  ·simp only[if_pos b]
   refine Ev.of_succ ?_;simp only[bK.j0,if_true];exact Ev.const _
  ·simp only[if_neg b]
   refine Ev.of_succ ?_;have h1:q>=N:=by
    rcases h with h|h
    ·exact absurd a h
    ·omega
   simp only[bK.j0,ay h1,if_true];exact Ev.const _
 ·simp only[if_neg a]
  exact Ev.const _
structure yT (k n p:Nat) (E:List S83):Prop where
 small:Small n p E
 sR:ix.f k n E=some true
 Jn:bK.f k n E p=some ((Small.fj n p E).map (fun c=>c.set p (-1)),0)
 sink:jg.f k n E p=some 0
 df:∀u v:Nat,u<n->v<n->u≠v->cT.f k n E u v=some (ae E u v)
 val:∀v:Nat,v<n->eU.f k n E v=some (T.val n (ae E) v)
 lost:∀c∈dp n E p,nR k n E p (lr n p E) c
 ord:∀a∈(Small.fj n p E).map (fun c=>c.set p (-1)),∀b∈(Small.fj n p E).map (fun c=>c.set p (-1)),Lex a b->eW.f k a b=some (-1)
 eq:∀x∈(Small.fj n p E).map (fun c=>c.set p (-1)),bt.f k x x=some true
theorem Jo (N:Int) (E:List S83) (D:E.length<=9223372036854775807) (q:Int):∃k,ix.f k N E=some false\/(∃e,ix.f k N E=some true/\bK.f k N E q=some ([],e)/\jg.f k N E q=some e/\e≠0)\/∃n p:Nat,N=n/\q=p/\yT k n p E:=by
 obtain⟨b,hb,I,J⟩:=Jk N E D;cases b with
 |false=>
  obtain⟨k,hk⟩:=hb.get;exact⟨k,.inl hk⟩
 |true=>
  have aa:=I rfl;have w:=Jl D q (N:=N);by_cases m:eC N E≠0\/¬(0<=q/\q<N)
  ·obtain⟨B,y⟩:=((cE.kr hb).and (cE.kr (Jm (by omega) m))).and (cE.kr w)
   obtain⟨⟨o,l⟩,j⟩:=y B (aI _);by_cases r:eC N E=0
   ·have K:¬(0<=q/\q<N):=by
     rcases m with h|h
     ·exact absurd r h
     ·exact h
    rw[if_pos r] at l j;rw[if_neg K] at j;exact⟨B,.inr (.inl ⟨_,o,l,j,by decide⟩)⟩
   ·rw[if_neg r] at l j
    exact⟨B,.inr (.inl ⟨_,o,l,j,r⟩)⟩
  ·have z:eC N E=0:=Classical.byContradiction fun h=>m (.inl h)
   have F:0<=q/\q<N:=Classical.byContradiction fun h=>m (.inr h)
   rw[if_pos z,if_pos F] at w;obtain⟨G,j2⟩:=yv z;obtain⟨c1,c2,c3⟩:=jC G;have H:∀x∈List.replicate N.toNat (0:Int),x=0:=fun x i=>(List.mem_replicate.1 i).2
   have L:p' N (List.replicate N.toNat 0)=0:=by
    unfold p';rw[if_pos (by simp;omega)];exact yS fun x i=>by rw[H x i];omega
   obtain⟨n,rfl,hn,hC⟩:=IL z L (J G).symm (List.all_eq_true.2 fun x i=>by rw[H x i];decide);obtain⟨g, -,M⟩:=hC.I0 hn;obtain⟨p,rfl⟩:=Int.eq_ofNat_of_zero_le F.1;have hp:p<n:=by omega
   have hS:=hC.small p hp;have hu:=IX hS hC.check;have ab:=hC.val;have h5:=hS.n5;have O:Right n E:=⟨hC.check,hn,by omega,by omega,hS.right,hS.conn,by omega⟩;have P:cE fun k=>∀u:Nat,u<n->∀v:Nat,v<n->u≠v->cT.f k n E u v=some (ae E u v):=cE.below fun u hu=>cE.below fun v s=>by
    by_cases e:u=v
    ·exact⟨0,fun _ _ h=>absurd e h⟩
    ·have h:=pN (n:Int) E (u:Int) (v:Int) (by omega)
     rw[<-iJ hS.right u v e] at h;exact(cE.kr h).imp fun k hk _=>hk
   have Q:cE fun k=>∀v:Nat,v<n->eU.f k n E v=some (T.val n (ae E) v):=cE.below fun v s=>by
    unfold eU.f;exact O.sV v s n 0 0 (by omega) rfl
   have R:cE fun k=>∀c∈dp n E p,nR k n E p (lr n p E) c:=cE.mem fun c C=>Jj hS (by omega) M C
   have hlen:∀x∈(Small.fj n p E).map (fun c=>c.set p (-1)),x.length=n:=fun x i=>by
    obtain⟨c,C,rfl⟩:=List.mem_map.1 i;exact(sY hS (List.mem_filter.1 C).1).1
   have S:cE fun k=>∀a∈(Small.fj n p E).map (fun c=>c.set p (-1)),∀b∈(Small.fj n p E).map (fun c=>c.set p (-1)),Lex a b->eW.f k a b=some (-1):=cE.mem fun a U=>cE.mem fun b hb=>by
    have l1:=hlen a U;have l2:=hlen b hb;by_cases e:Lex a b
    ·exact(cE.kr (Jf (by omega) (by omega) e)).imp fun k hk _=>hk
    ·exact⟨0,fun _ _ h=>absurd h e⟩
   have heq:cE fun k=>∀x∈(Small.fj n p E).map (fun c=>c.set p (-1)),bt.f k x x=some true:=cE.mem fun x i=>IY x (by have:=hlen x i;omega)
   obtain⟨B,y⟩:=((((cE.kr hb).and (cE.kr hu)).and ((cE.kr w).and P)).and ((Q.and R).and (S.and heq)));obtain⟨⟨⟨o,l⟩,j,V⟩,⟨W,X⟩,Y,Z⟩:=y B (aI _);exact⟨B,.inr (.inr ⟨n,p,rfl,rfl,hS,o,l,j,fun u v hu s e=>V u hu v s e,W,X,Y,Z⟩)⟩
theorem Jp {k n p:Nat} {E:List S83} (h:yT k n p E) (A0:Option Addr) (c0:Nat) (w:World) (b:Kd.C aN w A0 E.length E) (g:E.length<=c0):
  Calls Tryz.prog 45 #[.agg #[.int .i64 n,.slice A0 E.length c0],.int .i64 p] w fun e w'=>∃v,e= .returned (.tuple #[v,.int .i64 0])/\Kd.N (Kd.slice 3 (Kd.int .i64)) 25 w' w.heap.size (fun k=>w.heap.size<=k) v ((Small.fj n p E).map fun c=>c.set p (-1))/\Below w.heap.size w w':=by
 have hS:=h.small;have r:=hS.n5;have hle:=hS.p5;rw[<-yR hS];refine Fo k n p A0 c0 E (dp n E p) (lr n p E) w b g (by omega) hS.q h.sink (fun W l=>?_) (by omega) (fun c m=>((hS.jK c).1 m).1) h.lost ?_
 ·rw[<-Jh hS]
  exact Fa k n p A0 c0 E (T.val n (ae E)) (gY E n p) W (Kd.ax b l) g (by omega) hS.q h.df h.val (fun v a=>⟨Jg hS a,by have:=hS.p4 v;omega⟩) (fun v a=>by have:=hS.yi a;omega)
 ·rw[yR hS]
  intro u v o i;have j:u<((Small.fj n p E).map fun c=>c.set p (-1)).length:=by omega
  rw[aX,aX,bB i,bB j];exact h.ord _ (List.getElem_mem _) _ (List.getElem_mem _) (List.pairwise_iff_getElem.1 (hS.IA (-1)) u v j i o)
theorem Jq (N:Int) (A0:Option Addr) (c0:Nat) (E:List S83) (q:Int) (w:World) (a:Kd.C aN w A0 E.length E) (b:E.length<=c0) (j:E.length<=9223372036854775807):
  Calls Tryz.prog 9 #[.agg #[.int .i64 N,.slice A0 E.length c0],.int .i64 q] w fun e w'=>e= .returned (.bool true)/\Below w.heap.size w w':=by
 have g:∀w,Calls Tryz.prog 26 #[] w fun e w'=>e= .returned (.bool true)/\Below w.heap.size w w':=fun w=>sD.calls true w rfl
 obtain⟨k,h1|⟨e,h1,l,m,o⟩|⟨n,p,rfl,rfl,h⟩⟩:=Jo N E j q
 ·exact Fs k N A0 c0 E q w a b h1 g
 ·exact wO k N A0 c0 E q [] e w a b h1 l (fun W i=>Fm k N A0 c0 E q e W (Kd.ax a i) b m o) (fun x r=>by simp at r) (by simp) g
 ·refine wO k n A0 c0 E p _ 0 w a b h.sR h.Jn (fun W i=>Jp h A0 c0 W (Kd.ax a i) b) h.eq ?_ g
  rw[List.length_map];exact Nat.le_trans (List.length_filter_le _ _) (by have:=h.small.p5;omega)
end Go.Proofs.YtffdiakgjakngaaGreat.P


