/- TopO answers true whatever the input (text 4 of 6): own walks and plain laws; no conditions. -/
import Derived.AtR
import Derived.BigQuiet
import Derived.BigRegion
import Derived.BigRegionIn
import Derived.Deep.QuietTactic
import Derived.Deep.RegionHeld3
import Derived.Deep.RegionLaw
import Derived.Laws.CopyOwn
import Derived.RegionTactic
import Derived.Sort.QuietIn
import Derived.Test.YtffdiakgjakngaaGreatTopO3
namespace Go.Proofs.YtffdiakgjakngaaGreat.P
open Go.RowKit Go.Proofs.YtffdiakgjakngaaGreatW.PrintWords Go.Proofs.YtffdiakgjakngaaGreatW.PrintLast Go.Proofs.YtffdiakgjakngaaGreatW.PrintMore
set_option linter.unusedVariables false
set_option linter.unusedSimpArgs false
set_option maxHeartbeats 8000000
set_option maxRecDepth 100000
theorem a7.nA {N:Int} {E:List S83} (h:a7 N E) (a:E.length<=40):cJ E=true:=by
 unfold cJ;rw[aA a,Bool.true_and];refine List.all_eq_true.2 fun x b=>?_
 have:=h.ok x b;simp[bA] at this⊢;omega
theorem uB {l:List Int} {i:Nat} (h:i<l.length):l.drop i=rd l i::l.drop (i+1):=by
 rw[List.drop_eq_getElem_cons h];simp[rd,aN,br h]
def iO:Nat->Nat->Nat->List Int
 |0,_,_=>[]
 |m+1,i,d=>(if d%2=1 then[(i:Int)] else[])++iO m (i+1) (d/2)
def Ct (n:Nat):List (List Int):=(List.range (2 ^ n)).map (iO n 0)
def eP (E:List S83) (s:List Int) (v:Int):Nat->Int
 |0=>0
 |u+1=>eP E s v u+(if(u:Int)∈s then 0 else cN E v u)
theorem qe {N:Int} {E:List S83} (h:a7 N E) (s:List Int) (v:Int):∀u:Nat,0<=eP E s v u/\eP E s v u<=50*u
 |0=>by simp[eP]
 |u+1=>by
  have h1:=qe h s v u;have a:=pS h v u;simp only[eP];split<;>omega
def l8 (E:List S83) (n:Nat) (c s:List Int):Int->List Int->Bool
 |a,[]=>decide (a>0)
 |a,v::l=>if rd c v<eP E s v n then false else l8 E n c s (a+eP E s v n) l
def qf (E:List S83) (n:Nat) (q:Int) (c s:List Int):Bool:=decide (0<s.length)&& !decide (q∈s)&&l8 E n c s 0 s
theorem nB:∀{m i d:Nat} {x:Int},x∈iO m i d↔∃j:Nat,j<m/\x=((i+j:Nat):Int)/\d.testBit j=true
 |0,i,d,x=>by simp[iO]
 |m+1,i,d,x=>by
  rw[iO,List.mem_append,nB (m:=m)];constructor
  ·rintro(h|⟨j,b,h1,a⟩)
   ·split at h
    ·rename_i h1
     simp at h;exact⟨0,by omega,by simpa using h,by rw[Nat.testBit_zero];simpa using h1⟩
    ·simp at h
   ·exact⟨j+1,by omega,by rw[h1];congr 1;omega,by rw[Nat.testBit_succ];exact a⟩
  ·rintro⟨j,b,h1,a⟩
   cases j with
   |zero=>
    left
    rw[Nat.testBit_zero] at a;rw[if_pos (by simpa using a)];simpa using h1
   |succ j=>exact .inr ⟨j,by omega,by rw[h1];congr 1;omega,by rw[Nat.testBit_succ] at a;exact a⟩
def nC (E:List S83) (n:Nat) (q:Int) (c:List Int):Bool:=(Ct n).all fun s=> !qf E n q c s
theorem uC (S:Nat->Bool):∀n,∃d,d<2 ^ n/\∀j,j<n->d.testBit j=S j
 |0=>⟨0,by simp,fun j a=>by omega⟩
 |n+1=>by
  obtain⟨d,hd,h⟩:=uC (fun j=>S (j+1)) n;refine⟨(if S 0 then 1 else 0)+2*d,?_,fun j a=>?_⟩
  ·rw[Nat.pow_succ];split<;>omega
  ·cases j with
   |zero=>
    rw[Nat.testBit_zero];cases b:S 0<;>simp<;>omega
   |succ j=>
    rw[Nat.testBit_succ,show ((if S 0 then 1 else 0)+2*d)/2=d by split<;>omega];exact h j (by omega)
theorem qg {n:Nat} {E:List S83} (a:a7 n E) (s:List Int) (v:Nat) (b:(v:Int)∈s):∀u,eP E s v u=cw (ae E) (fun u=> !decide ((u:Int)∈s)) v u
 |0=>rfl
 |u+1=>by
  rw[eP,cw,qg a s v b u];congr 1
  by_cases h:(u:Int)∈s
  ·simp[h]
  ·have g:v≠u:=fun e=>by subst e;exact h b
   simp only[if_neg h,h,decide_false,Bool.not_false,if_true];exact(jZ a v u g).symm
theorem qh (E:List S83) (n:Nat) (c s:List Int):∀(l:List Int) (a:Int),l8 E n c s a l=true↔(∀v∈l,eP E s v n<=rd c v)/\0<a+(l.map fun v=>eP E s v n).sum
 |[],a=>by simp[l8]
 |v::l,a=>by
  rw[l8];by_cases h:rd c v<eP E s v n
  ·rw[if_pos h]
   simp;intro b;omega
  ·rw[if_neg h,qh E n c s l]
   simp only[List.mem_cons,forall_eq_or_imp,List.map_cons,List.sum_cons];constructor
   ·rintro⟨h1,b⟩;exact⟨⟨by omega,h1⟩,by omega⟩
   ·rintro⟨⟨_,h1⟩,b⟩;exact⟨h1,by omega⟩
theorem uD {f:Int->Int}:∀{l:List Int},(∀v∈l,0<=f v)->(∃v∈l,0<f v)->0<(l.map f).sum
 |[],_,⟨v,a,_⟩=>by simp at a
 |x::l,b,⟨v,a,h1⟩=>by
  have g:=b x (List.mem_cons_self ..);have e:∀v∈l,0<=f v:=fun v a=>b v (List.mem_cons_of_mem _ a)
  have i:0<=(l.map f).sum:=by
   clear h1 a b g;induction l with
   |nil=>simp
   |cons y l h=>
    have:=h (fun v a=>e v (List.mem_cons_of_mem _ a));have:=e y (List.mem_cons_self ..);simp only[List.map_cons,List.sum_cons];omega
  simp only[List.map_cons,List.sum_cons];rcases List.mem_cons.1 a with rfl|a
  ·omega
  ·have:=uD e ⟨v,a,h1⟩
   omega
theorem Cu {n q:Nat} {E:List S83} (l:a7 n E) (hC:eN n E) (I:q<n) (c:List Int):nC E n q c=true↔jq n (ae E) q (fun v=>rd c v):=by
 unfold nC;rw[List.all_eq_true];constructor
 ·intro h S hS B
  obtain⟨d,hd,hb⟩:=uC S n;have m:∀v:Nat,v<n->((v:Int)∈iO n 0 d↔S v=true):=fun v g=>by
   rw[nB];constructor
   ·rintro⟨j,k,h1,i⟩
    rw[hb j k] at i;rw[show v=j by omega];exact i
   ·intro h1;exact⟨v,g,by simp,by rw[hb v g];exact h1⟩
  have h1:=h (iO n 0 d) (List.mem_map.2 ⟨d,List.mem_range.2 hd,rfl⟩);generalize C:iO n 0 d=s at h1 m;have D:∀v∈s,∃j:Nat,j<n/\v=(j:Int):=fun v g=>by
   rw[<-C] at g;obtain⟨j,k,i,_⟩:=nB.1 g;exact⟨j,k,by simpa using i⟩
  obtain⟨v0,o,J⟩:=hS;have r:0<s.length:=List.length_pos_of_mem ((m v0 o).2 J);have p:¬((q:Int)∈s):=fun i=>by rw[(m q I).1 i] at B;cases B
  have T:∀v:Nat,v<n->(v:Int)∈s->eP E s v n=cw (ae E) (fun u=> !S u) v n:=fun v g w=>by
   rw[qg l s v w n];refine uk v n fun u hu=>?_
   have:=m u hu;cases F:S u with
   |true=>simp[this.2 F]
   |false=>simp[show ¬((u:Int)∈s) from fun i=>by rw[this.1 i] at F;cases F]
  unfold qf at h1;rw[aA r,aY p,Bool.true_and,Bool.not_false,Bool.true_and,Bool.not_eq_true'] at h1;have i:=mt (qh E n c s s 0).2 (by rw[h1];decide);by_cases G:∀v∈s,eP E s v n<=rd c v
  ·exfalso
   refine i ⟨G,?_⟩;rw[Int.zero_add];refine uD (fun v g=>(qe l s v n).1) ?_;obtain⟨x,K,y⟩:=hC S ⟨v0,o,J⟩ ⟨q,I,B⟩;have L:=uf l K;have U:=l.ok x K;simp[bA] at U;have M:∀(a b:Nat),a<n->b<n->S a=true->S b=false->cN E a b>0->∃v∈s,0<eP E s v n:=fun a b V N W O ak=>by
    refine⟨a,(m a V).2 W,?_⟩;have X:¬((b:Int)∈s):=fun P=>by rw[(m b N).1 P] at O;cases O
    have key:∀u,b<u->0<eP E s a u:=fun u=>by
     induction u with
     |zero=>omega
     |succ u Y=>
      intro hu;have am:=qe l s a u;have an:=pS l a u;rw[eP];by_cases e:b=u
      ·subst e;rw[if_neg X];omega
      ·have:=Y (by omega)
       split<;>omega
    exact key n N
   have Q:((x.f0.toNat:Nat):Int)=x.f0:=by omega
   have R:((x.f1.toNat:Nat):Int)=x.f1:=by omega
   cases z:S x.f0.toNat with
   |true=>
    refine M x.f0.toNat x.f1.toNat (by omega) (by omega) z ?_ (by rw[Q,R];exact L);cases H:S x.f1.toNat with
    |false=>rfl
    |true=>rw[z,H] at y;exact absurd rfl y
   |false=>
    refine M x.f1.toNat x.f0.toNat (by omega) (by omega) ?_ z (by rw[Q,R,nn];exact L);cases H:S x.f1.toNat with
    |true=>rfl
    |false=>rw[z,H] at y;exact absurd rfl y
  ·simp only[Classical.not_forall] at G
   obtain⟨v,g,P⟩:=G;obtain⟨j,k,rfl⟩:=D v g;refine⟨j,k,(m j k).1 g,?_⟩;rw[<-T j k g];show rd c j<_
   omega
 ·intro h s C
  obtain⟨d,hd,rfl⟩:=List.mem_map.1 C;generalize Z:iO n 0 d=s;have D:∀v∈s,∃j:Nat,j<n/\v=(j:Int):=fun v g=>by
   rw[<-Z] at g;obtain⟨j,k,i,_⟩:=nB.1 g;exact⟨j,k,by simpa using i⟩
  unfold qf;by_cases r:0<s.length
  ·by_cases p:(q:Int)∈s
   ·simp[p]
   ·rw[aA r,aY p,Bool.true_and,Bool.not_false,Bool.true_and,Bool.not_eq_true',Bool.eq_false_iff]
    intro hm;have h1:=((qh E n c s s 0).1 hm).1;obtain⟨v0,o⟩:=List.exists_mem_of_length_pos r;obtain⟨j0,aa,rfl⟩:=D v0 o;obtain⟨v,g,ad,ag⟩:=h (fun u=>decide ((u:Int)∈s)) ⟨j0,aa,by simpa using o⟩ (by simpa using p);have w:(v:Int)∈s:=by simpa using ad
    have i:=h1 v w;rw[qg l s v w n] at i;have ao:rd c v<cw (ae E) (fun u=> !decide ((u:Int)∈s)) v n:=ag;omega
  ·simp[show s.length=0 by omega]
end Go.Proofs.YtffdiakgjakngaaGreat.P
namespace Go.Proofs.YtffdiakgjakngaaGreat.P
open Go.RowKit Go.Proofs.YtffdiakgjakngaaGreatW.PrintWords Go.Proofs.YtffdiakgjakngaaGreatW.PrintLast Go.Proofs.YtffdiakgjakngaaGreatW.PrintMore
set_option linter.unusedVariables false
set_option linter.unusedSimpArgs false
def eQ (E:List S83) (v:Nat):Nat->Int
 |0=>0
 |u+1=>eQ E v u+(if u=v then 0 else cN E u v)
def ia (E:List S83) (n q:Nat) (v:Nat):Nat:=if v=q then 0 else(eQ E v n-1).toNat
theorem Cv {α:Type} (l:List α) (c:Nat):(l.map fun _=>c).sum=l.length*c:=by
 induction l with
 |nil=>simp
 |cons x l a=>simp only[List.map_cons,List.sum_cons,a,List.length_cons,Nat.succ_mul];omega
def eF:List S83->Int
 |[]=>0
 |x::E=>x.f2+eF E
theorem uE:∀(A B:List S83),eF (A++B)=eF A+eF B
 |[],B=>by simp[eF]
 |x::A,B=>by rw[List.cons_append,eF,eF,uE A B];omega
theorem nD {N:Int} {E:List S83} (a:a7 N E):∀k,k<=E.length->((bN E k:Nat):Int)=eF (E.take k)
 |0,_=>rfl
 |k+1,hk=>by
  have e:ab E k=E[k]:=by simp[ab,aN,br (by omega:k<E.length)]
  have:=a.ok E[k] (List.getElem_mem _);simp[bA] at this;rw[List.take_succ_eq_append_getElem (by omega),uE,<-nD a k (by omega),bN,e];simp only[eF];omega
theorem Cw {E:List S83} (h:∀x∈E,1<=x.f2) (a b:Int):0<=cN E a b:=by
 unfold cN;split
 ·rename_i x e;have:=h x (List.mem_of_find?_eq_some e);omega
 ·omega
theorem uF {x:S83} {E:List S83} (h:∀y∈x::E,1<=y.f2) (v:Nat):∀u:Nat,eQ (x::E) v u<=eQ E v u+(if(∃w:Nat,w<u/\w≠v/\x.f0=min (w:Int) v/\x.f1=max (w:Int) v) then x.f2 else 0)
 |0=>by simp[eQ]
 |u+1=>by
  have g:=uF h v u;have j:=h x (List.mem_cons_self ..);have k:=Cw (fun y i=>h y (List.mem_cons_of_mem _ i)) (u:Int) v;have l:(if(∃w:Nat,w<u/\w≠v/\x.f0=min (w:Int) v/\x.f1=max (w:Int) v) then x.f2 else 0)<=(if(∃w:Nat,w<u+1/\w≠v/\x.f0=min (w:Int) v/\x.f1=max (w:Int) v) then x.f2 else 0):=by
   by_cases h1:∃w:Nat,w<u/\w≠v/\x.f0=min (w:Int) v/\x.f1=max (w:Int) v
   ·obtain⟨w,hw,a⟩:=h1
    rw[if_pos ⟨w,hw,a⟩,if_pos ⟨w,by omega,a⟩];exact Int.le_refl _
   ·rw[if_neg h1];split<;>omega
  simp only[eQ];by_cases e:u=v
  ·rw[if_pos e,if_pos e];omega
  ·rw[if_neg e,if_neg e,tM]
   by_cases b:x.f0=min (u:Int) v/\x.f1=max (u:Int) v
   ·rw[if_pos b,if_pos (show ∃w:Nat,w<u+1/\w≠v/\x.f0=min (w:Int) v/\x.f1=max (w:Int) v from⟨u,by omega,e,b⟩)]
    rw[if_neg (show ¬∃w:Nat,w<u/\w≠v/\x.f0=min (w:Int) v/\x.f1=max (w:Int) v from by rintro⟨w,hw,m,h1,a⟩;omega)] at g;omega
   ·rw[if_neg b];omega
theorem uG:∀{E:List S83},(∀y∈E,1<=y.f2)->∀v u:Nat,eQ E v u<=eF E
 |[],_,v,u=>by
  have:∀u,eQ [] v u=0:=fun u=>by
   induction u with
   |zero=>rfl
   |succ u a=>simp[eQ,a,cN]
  simp[this,eF]
 |x::E,h,v,u=>by
  have h1:=uF h v u;have e:=uG (fun y b=>h y (List.mem_cons_of_mem _ b)) v u;have g:=h x (List.mem_cons_self ..);simp only[eF];split at h1<;>omega
theorem qi {n:Nat} {E:List S83} (a:a7 n E) (v:Nat):∀u,cw (ae E) (fun u=> !decide (u=v)) v u=eQ E v u
 |0=>rfl
 |u+1=>by
  rw[cw,eQ,qi a v u];congr 1
  by_cases h:u=v
  ·simp[h]
  ·simp only[h,decide_false,Bool.not_false,if_true,if_neg h]
   rw[jZ a v u (fun e=>h e.symm),nn];simp
theorem uH:∀{a b:List Int} (v:Nat),di a b->rd a v<=rd b v
 |[],[],v,_=>Int.le_refl _
 |x::a,y::b,0,h=>by simpa [rd] using h.1
 |x::a,y::b,v+1,h=>by
  have:=uH v h.2;simpa [rd] using this
 |[],y::b,v,h=>h.elim
 |x::a,[],v,h=>h.elim
theorem uI {a:Nat->Nat} {q:Nat} (g:a q=0) (hm:∀v,a v<=7):∀v:Nat,(dr a v).length<=8 ^ (v- (if q<v then 1 else 0))
 |0=>by simp[dr]
 |v+1=>by
  have b:=uI g hm v;have hlen:(dr a (v+1)).length=(dr a v).length*(a v+1):=by
   show (ji a v (dr a v)).length=_
   unfold ji;rw[List.length_flatMap];simp only[List.length_map,List.length_range];exact Cv _ _
  rw[hlen];by_cases e:q=v
  ·subst e
   rw[g,if_pos (by omega)];rw[if_neg (by omega)] at b;simpa using b
  ·by_cases h:q<v
   ·rw[if_pos h] at b
    rw[if_pos (by omega),show v+1-1=(v-1)+1 by omega,Nat.pow_succ];exact Nat.mul_le_mul b (by have:=hm v;omega)
   ·rw[if_neg h] at b
    rw[if_neg (by omega),show v+1-0=(v-0)+1 by omega,Nat.pow_succ];exact Nat.mul_le_mul b (by have:=hm v;omega)
structure Small (n q:Nat) (E:List S83):Prop where
 right:a7 n E
 conn:eN n E
 len:E.length<=40
 n1:1<=n
 n5:n<=5
 q:q<n
 size:bN E E.length<=8
namespace Small
variable {n q:Nat} {E:List S83}
theorem qj (h:Small n q E) (v:Nat):eQ E v n<=8:=by
 have h1:=uG (E:=E) (fun y a=>by have:=h.right.ok y a;simp[bA] at this;omega) v n;have b:=nD h.right E.length (aM _);rw[List.take_length] at b;have:=h.size;omega
theorem qk (h:Small n q E) (v:Nat):ia E n q v<=7:=by
 unfold ia;split
 ·omega
 ·have:=h.qj v;omega
theorem nE (E:List S83) (n q:Nat):ia E n q q=0:=by simp[ia]
theorem Cx (h:Small n q E) {v:Nat} (a:v<=n):(dr (ia E n q) v).length<=4096:=by
 have h1:=uI (nE E n q) h.qk v;have b:8 ^ (v- (if q<v then 1 else 0))<=8 ^ 4:=Nat.pow_le_pow_right (by omega) (by have:=h.n5;have:=h.q;split<;>omega);omega
theorem uJ (h:Small n q E) (c:List Int):bJ n (ae E) q c=nC E n q c:=by
 rw[Bool.eq_iff_iff,jr (fun i j=>((iy h.right.dZ).times i j).1),Cu h.right h.conn h.q]
theorem nF (h:Small n q E):dQ n E q=(dr (ia E n q) n).filter (nC E n q):=by
 unfold dQ;have e:=(iy h.right.dZ).times;have o:∀a b:List Int,a.length=n->di a b->bJ n (ae E) q b=true->bJ n (ae E) q a=true:=fun a b _ p hb=>by
  rw[jr (fun i j=>(e i j).1)] at hb⊢;exact hb.down (fun v _=>uH v p)
 rw[Ak q nt (bJ n (ae E) q) (ia E n q) n o (fun l v u g k r=>by
   have h1:=(qc h.right.dZ (by have:=h.n5;omega) g k r).1;unfold valOf at h1;rw[qi h.right] at h1;unfold ia;rw[if_neg k];omega) (nE E n q) (fun v _=>by have:=h.qk v;show _<=1000;omega) n [] (by simp) ?_]
 ·rw[<-Ap]
  refine List.filter_congr fun c _=>h.uJ c
 ·by_cases w:n=1
  ·left
   rw[jr (fun i j=>(e i j).1)];rintro S ⟨v,g,m⟩ s;have:=h.q;rw[show v=q by omega,s] at m;cases m
  ·right
   have:=h.q;have:=h.n1;by_cases x:q=0
   ·exact⟨1,by simp,by omega,by omega⟩
   ·exact⟨0,by simp,by omega,by omega⟩
theorem ql (h:Small n q E):(dQ n E q).length<=4096:=by
 rw[h.nF];exact Nat.le_trans (List.length_filter_le _ _) (h.Cx (aM n))
end Small
namespace Small
variable {n q:Nat} {E:List S83}
theorem Cy (h:Small n q E) (a:cE n E=0):eD n E q=0:=by
 unfold eD;rw[if_pos a,aq,if_pos ((iM h.n1 h.right).2 h.conn),if_pos ⟨by omega,by have:=h.q;omega⟩]
theorem Cz (h:Small n q E):j7 n E=true:=by
 unfold j7;rw[h.right.nA h.len,h.right.dZ];rfl
theorem CD (h:Small n q E) (b:eD n E q=0):Ev (fun k=>gO.f k n E q) (fi (fe n E) q n n,(0:Int)):=by
 unfold gO.f js.f;refine Ev.bind (a:=(fi (fe n E) q n n,(0:Int))) ?_ (Ev.const _);have:=ui n E q (by have:=h.len;omega);rw[b] at this;refine Ev.bind this ?_;simp only[if_true,h.Cz,aq];exact Ev.const _
theorem CE (h:Small n q E) (a:eD n E q=0):Ev (fun k=>hU.f k n E q) (dQ n E q,(0:Int)):=by
 unfold hU.f;refine Ev.bind (h.CD a) ?_;simp only[if_true,aq,if_pos (show (dQ n E q).length<=16384 by have:=h.ql;omega)];exact Ev.const _
theorem nG (h:Small n q E) {c:List Int} (e:c∈dQ n E q):c.length=n/\∀v:Nat,0<=rd c v/\rd c v<=8:=by
 rw[h.nF] at e;have h1:=(List.mem_filter.1 e).1;have a:=kR _ _ _ h1;have key:∀(m:Nat) (l:List Int),l∈dr (ia E n q) m->∀v:Nat,0<=rd l v/\rd l v<=8:=by
  intro m;induction m with
  |zero=>intro l a v;simp[dr] at a;subst a;simp[rd]
  |succ m i=>
   intro l a v;simp only[dr,ji,List.mem_flatMap,List.mem_map,List.mem_range] at a;obtain⟨p,hp,x,j,rfl⟩:=a;have g:=i p hp v;have hm:=h.qk m;have k:=kR _ _ _ hp;simp only[rd,aq,aN] at g⊢;rcases Nat.lt_trichotomy v p.length with b|b|b
   ·rw[List.getElem?_append_left b];exact g
   ·rw[b,List.getElem?_append_right (aM _),Nat.sub_self];simp;omega
   ·rw[List.getElem?_eq_none (by simp;omega)];simp
 exact⟨a,key n c h1⟩
end Small
def ju (x:Int):Bool:=decide (-1048576<=x)&&decide (x<=1048576)
def eR:List Int->Int
 |[]=>0
 |x::l=>if ju x=true then eR l else 2
def gP (q:Int):Nat->List Int->Int
 |_,[]=>0
 |i,x::l=>if(i:Int)=q then gP q (i+1) l else if x<0 then 2 else gP q (i+1) l
def ic (N:Int) (E:List S83) (q:Int) (c:List Int):Int:=
 if eD N E q=0 then(if(c.length:Int)=N then(if eR c=0 then gP q 0 c else eR c) else 8) else eD N E q
def j8 (N:Int) (E:List S83) (q:Int) (c:List Int):Int:=if ic N E q c=0 then(if rd c q=0 then 0 else 3) else ic N E q c
theorem CF (x:Int):gG.f x=some (ju x):=by
 unfold gG.f ju;by_cases h:x>= -1048576
 ·rw[if_pos h,aA (show -1048576<=x from h),Bool.true_and]
 ·rw[if_neg h,aY (show ¬ -1048576<=x from h),Bool.false_and]
theorem uK (c:List Int) (a:c.length<=1000):∀(m i:Nat),i+m=c.length->Ev (fun k=>cu.l0 k c c.length i) (eR (c.drop i))
 |0,i,hi=>by
  refine Ev.of_succ ?_;simp only[cu.l0,if_neg (show ¬(i:Int)<c.length by omega),List.drop_eq_nil_of_le (show c.length<=i by omega),eR];exact Ev.const _
 |m+1,i,hi=>by
  refine Ev.of_succ ?_;simp only[cu.l0,if_pos (show (i:Int)<c.length by omega),if_pos (show (0:Int)<=i by omega),CF,Option.bind_some,fh (show i<=1000000 by omega)];rw[uB (by omega),eR];by_cases h:ju (rd c i)=true
  ·simp only[if_pos h];exact uK c a m (i+1) (by omega)
  ·simp only[if_neg h];exact Ev.const _
theorem uL (q:Int) (c:List Int) (e:c.length<=1000):∀(m i:Nat),i+m=c.length->Ev (fun k=>dq.l0 k q c c.length i) (gP q i (c.drop i))
 |0,i,hi=>by
  refine Ev.of_succ ?_;simp only[dq.l0,if_neg (show ¬(i:Int)<c.length by omega),List.drop_eq_nil_of_le (show c.length<=i by omega),gP];exact Ev.const _
 |m+1,i,hi=>by
  refine Ev.of_succ ?_;have a:=uL q c e m (i+1) (by omega);simp only[dq.l0,if_pos (show (i:Int)<c.length by omega),if_pos (show (0:Int)<=i by omega),fh (show i<=1000000 by omega)];rw[uB (by omega),gP];by_cases h:(i:Int)=q
  ·simp only[if_pos h];exact a
  ·simp only[if_neg h]
   by_cases b:rd c i<0
   ·simp only[if_pos b];exact Ev.const _
   ·simp only[if_neg b];exact a
theorem qm {N:Int} {E:List S83} {q:Int} (h:eD N E q=0):1<=N/\N<=12/\0<=q/\q<N:=by
 unfold eD at h;by_cases a:cE N E=0
 ·rw[if_pos a] at h
  obtain⟨h1,e,_⟩:=iH a;by_cases hp:partsOf E N.toNat=1
  ·rw[if_pos hp] at h
   by_cases b:0<=q/\q<N
   ·exact⟨h1,e,b⟩
   ·rw[if_neg b] at h;exact absurd h (by decide)
  ·rw[if_neg hp] at h;exact absurd h (by decide)
 ·rw[if_neg a] at h;exact absurd h a
theorem CG (c:List Int) (N:Int) (a:1<=N/\N<=12):Ev (fun k=>cu.f k c N) (if(c.length:Int)=N then eR c else 8):=by
 unfold cu.f gV.f;simp only[if_neg (show ¬N<1 by omega),if_neg (show ¬N>12 by omega),Option.bind_some,if_true];by_cases h:(c.length:Int)=N
 ·simp only[if_pos h]
  exact uK c (by omega) c.length 0 (by omega)
 ·simp only[if_neg h];exact Ev.const _
theorem CH (N:Int) (E:List S83) (q:Int) (c:List Int) (g:E.length<=1000):Ev (fun k=>dq.f k N E q c) (ic N E q c):=by
 unfold dq.f ic;refine Ev.bind (ui N E q g) ?_;by_cases a:eD N E q=0
 ·have b:=qm a
  simp only[if_pos a];refine Ev.bind (CG c N ⟨b.1,b.2.1⟩) ?_;by_cases h:(c.length:Int)=N
  ·simp only[if_pos h]
   by_cases e:eR c=0
   ·simp only[if_pos e]
    exact uL q c (by omega) c.length 0 (by omega)
   ·simp only[if_neg e];exact Ev.const _
  ·simp only[if_neg h];exact Ev.const _
 ·simp only[if_neg a];exact Ev.const _
theorem uM {N:Int} {E:List S83} {q:Int} {c:List Int} (h:ic N E q c=0):eD N E q=0/\(c.length:Int)=N/\eR c=0/\gP q 0 c=0:=by
 unfold ic at h;by_cases a:eD N E q=0
 ·rw[if_pos a] at h
  by_cases e:(c.length:Int)=N
  ·rw[if_pos e] at h
   by_cases b:eR c=0
   ·rw[if_pos b] at h;exact⟨a,e,b,h⟩
   ·rw[if_neg b] at h;exact absurd h b
  ·rw[if_neg e] at h;exact absurd h (by decide)
 ·rw[if_neg a] at h;exact absurd h a
theorem CI (N:Int) (E:List S83) (q:Int) (c:List Int) (b:E.length<=1000):Ev (fun k=>gW.f k N E q c) (j8 N E q c):=by
 unfold gW.f j8;refine Ev.bind (CH N E q c b) ?_;by_cases h:ic N E q c=0
 ·obtain⟨e,i,_,_⟩:=uM h
  have g:=qm e;simp only[if_pos h,if_pos g.2.2.1,if_pos (show q<c.length by omega)];by_cases a:rd c q=0
  ·simp only[if_pos a];exact Ev.const _
  ·simp only[if_neg a];exact Ev.const _
 ·simp only[if_neg h];exact Ev.const _
theorem uN:∀{c:List Int},eR c=0->∀x∈c, -1048576<=x/\x<=1048576
 |[],_,x,a=>absurd a (by simp)
 |y::c,h,x,a=>by
  rw[eR] at h;by_cases b:ju y=true
  ·rw[if_pos b] at h
   simp[ju] at b;rcases List.mem_cons.1 a with rfl|a
   ·exact b
   ·exact uN h x a
  ·rw[if_neg b] at h;exact absurd h (by decide)
theorem qo (q:Int):∀{c:List Int} {i:Nat},gP q i c=0->∀j:Nat,j<c.length->((i+j:Nat):Int)≠q->0<=rd c j
 |[],i,_,j,a,_=>absurd a (by simp)
 |y::c,i,h,j,a,b=>by
  rw[gP] at h;by_cases hi:(i:Int)=q
  ·rw[if_pos hi] at h
   cases j with
   |zero=>exact absurd hi b
   |succ j=>
    have:=qo q h j (by simpa using a) (by rw[show i+1+j=i+(j+1) by omega];exact b);simpa [rd,aN] using this
  ·rw[if_neg hi] at h
   by_cases e:y<0
   ·rw[if_pos e] at h;exact absurd h (by decide)
   ·rw[if_neg e] at h
    cases j with
    |zero=>simp[rd,aN];omega
    |succ j=>
     have:=qo q h j (by simpa using a) (by rw[show i+1+j=i+(j+1) by omega];exact b);simpa [rd,aN] using this
structure nH (n q:Nat) (c:List Int):Prop where
 len:c.length=n
 pos:∀v:Nat,0<=rd c v
 up:∀v:Nat,rd c v<=1048576
 sink:rd c q=0
theorem nI {c:List Int} {v:Nat} (h:c.length<=v):rd c v=0:=by simp[rd,aN,List.getElem?_eq_none h]
theorem CJ {n q:Nat} {E:List S83} {c:List Int} (h:j8 n E q c=0):eD n E q=0/\nH n q c:=by
 unfold j8 at h;by_cases he:ic n E q c=0
 ·rw[if_pos he] at h
  by_cases b:rd c q=0
  ·obtain⟨h1,j,g,i⟩:=uM he
   refine⟨h1,⟨by omega,fun v=>?_,fun v=>?_,b⟩⟩
   ·by_cases a:v<c.length
    ·by_cases e:v=q
     ·subst e;omega
     ·exact qo q i v a (by omega)
    ·rw[nI (by omega)];exact Int.le_refl _
   ·by_cases a:v<c.length
    ·have:=uN g c[v] (List.getElem_mem _)
     simp only[rd,aq,aN,br a,Option.getD_some];omega
    ·rw[nI (by omega)];decide
  ·rw[if_neg b] at h;exact absurd h (by decide)
 ·rw[if_neg he] at h;exact absurd h he
theorem CK {n q:Nat} {E:List S83} {c:List Int} (b:E.length<=1000) (hn:n<=12) (g:gC n E=true) (h:j8 n E q c=0):Ev (fun k=>gX.f k n E q c) (bJ n (ae E) q c,(0:Int)):=by
 obtain⟨i,j⟩:=CJ h;have m:=j.len;have o:=qm i;unfold gX.f jW.f;have hb:=CI n E q c b;rw[h] at hb;have hw:kP n E q c=true:=by simp only[kP,Bool.and_eq_true,decide_eq_true_eq];exact⟨by omega,g⟩
 refine Ev.bind (a:=((q:Int)::(iE n E q c).map Int.ofNat,fc (bX (bT q) (iE n E q c)) n,(0:Int))) ?_ ?_
 ·refine Ev.bind hb ?_
  simp only[if_true,hw,aq];exact Ev.const _
 ·simp only[if_true]
  have l:=qb (bX (bT q) (iE n E q c)) n;have e:(((fc (bX (bT q) (iE n E q c)) n).length:Int)==0)=bJ n (ae E) q c:=by
   rw[Bool.eq_iff_iff];unfold bJ;rw[show dO n (bM n (ae E) c) (bT q)=iE n E q c from rfl,<-l];simp
  rw[e];exact Ev.const _
theorem CL {l:List Int} (h:l.length<=1000):fb.f l=some l:=if_pos (by omega)
theorem dR {l:List Int} {v:Nat} (h:v<l.length) (x:Int):rd (l.set v x) v=x:=by simp[rd,aN,List.getElem?_set,h]
theorem eh {l:List Int} {v u:Nat} (h:v≠u) (x:Int):rd (l.set v x) u=rd l u:=by simp[rd,aN,List.getElem?_set,h]
theorem uO (l:List Int) (v:Nat) (x y:Int):(l.set v x).set v y=l.set v y:=by simp
theorem CM {l:List Int} {v:Nat} (h:v<l.length):l.set v (rd l v)=l:=by
 apply List.ext_getElem
 ·simp
 ·intro i h1 a
  rw[List.getElem_set];split
  ·rename_i e;subst e;simp[rd,aN,br h]
  ·rfl
namespace Small
variable {n q:Nat} {E:List S83}
theorem CN (h:Small n q E) {a b:List Int} (g:∀v:Nat,v<n->rd a v<=rd b v) (hb:bJ n (ae E) q b=true):bJ n (ae E) q a=true:=by
 have e:∀i j,0<=ae E i j:=fun i j=>((iy h.right.dZ).times i j).1
 exact(jr e q a).2 (((jr e q b).1 hb).down g)
theorem nJ (h:Small n q E) {a:List Int} {v:Nat} (b:v<n) (e:v≠q) (g:bJ n (ae E) q a=true):rd a v<eQ E v n:=by
 have:=(qc h.right.dZ (by have:=h.n5;omega) b e g).1;unfold valOf at this;rwa [qi h.right v n] at this
theorem CO (h:Small n q E) {c:List Int} (s:c.length=n) {v:Nat} (b:v<n) (g:v≠q) (j:bJ n (ae E) q c=true) (w:0<=rd c v):
  ∃M:Nat,rd c v<=M/\(M:Int)<eQ E v n/\∀x:Int,bJ n (ae E) q (c.set v x)=true↔x<=M:=by
 have z:=h.qj v;have B:=h.nJ b g j;have down:∀x y:Int,x<=y->bJ n (ae E) q (c.set v y)=true->bJ n (ae E) q (c.set v x)=true:=fun x y m o=>by
  refine h.CN (fun u hu=>?_) o;by_cases e:v=u
  ·subst e;rw[dR (by omega),dR (by omega)];exact m
  ·rw[eh e,eh e];exact Int.le_refl _
 have key:∀d:Nat,∀x:Nat,rd c v<=x->eQ E v n<=x+d->bJ n (ae E) q (c.set v x)=true->∃M:Nat,x<=M/\(M:Int)<eQ E v n/\bJ n (ae E) q (c.set v M)=true/\bJ n (ae E) q (c.set v ((M:Int)+1))=false:=by
  intro d;induction d with
  |zero=>
   intro x _ p a;have:=h.nJ b g a;rw[dR (by omega)] at this;omega
  |succ d r=>
   intro x h1 p a;have k:=h.nJ b g a;rw[dR (by omega)] at k;cases l:bJ n (ae E) q (c.set v ((x:Int)+1)) with
   |false=>exact⟨x,aM _,k,a,l⟩
   |true=>
    obtain⟨M,m1,m2,m3,m4⟩:=r (x+1) (by omega) (by omega) (by rw[Int.natCast_add,Int.natCast_one];exact l);exact⟨M,by omega,m2,m3,m4⟩
 obtain⟨M,m1,m2,m3,m4⟩:=key 9 (rd c v).toNat (by omega) (by omega) (by rw[show ((rd c v).toNat:Int)=rd c v by omega,CM (by omega)];exact j);refine⟨M,by omega,m2,fun x=>⟨fun i=>?_,fun i=>down x M i m3⟩⟩;by_cases hle:x<=M
 ·exact hle
 ·have:=down ((M:Int)+1) x (by omega) i
  rw[m4] at this;cases this
theorem uP (h:Small n q E) (m:eD n E q=0) {c:List Int} (b:nH n q c) {v:Nat} (B:v<n) (o:v≠q) {x:Int} (p:0<=x/\x<=1048576):Ev (fun k=>fp.f k n E q (c.set v x)) (bJ n (ae E) q (c.set v x)):=by
 have a:=b.len;have hp:∀u:Nat,0<=rd (c.set v x) u/\rd (c.set v x) u<=1048576:=fun u=>by
  by_cases e:v=u
  ·subst e;rw[dR (by omega)];exact p
  ·rw[eh e];exact⟨b.pos u,b.up u⟩
 have he:j8 n E q (c.set v x)=0:=by
  have h1:∀l:List Int,(∀y∈l,0<=y/\y<=1048576)->eR l=0:=fun l=>by
   induction l with
   |nil=>intro _;rfl
   |cons y l g=>
    intro a;have:=a y (List.mem_cons_self ..);rw[eR,if_pos (by simp[ju];omega)];exact g fun z j=>a z (List.mem_cons_of_mem _ j)
  have r:∀(l:List Int) (i:Nat),(∀y∈l,0<=y/\y<=1048576)->gP q i l=0:=fun l=>by
   induction l with
   |nil=>intro i _;rfl
   |cons y l g=>
    intro i a;have:=a y (List.mem_cons_self ..);rw[gP,if_neg (show ¬y<0 by omega),g (i+1) fun z j=>a z (List.mem_cons_of_mem _ j)];split<;>rfl
  have hm:∀y∈c.set v x,0<=y/\y<=1048576:=fun y s=>by
   obtain⟨i,hi,rfl⟩:=List.getElem_of_mem s;have:=hp i;simp only[rd,aq,aN,br hi,Option.getD_some] at this;exact this
  have w:ic n E q (c.set v x)=0:=by
   unfold ic;rw[if_pos m,if_pos (by simp[a]),h1 _ hm,if_pos rfl,r _ 0 hm]
  unfold j8;rw[if_pos w,if_pos (by rw[eh o];exact b.sink)]
 unfold fp.f;refine Ev.bind (CK (by have:=h.len;omega) (by have:=h.n5;omega) h.right.dZ he) ?_;cases bJ n (ae E) q (c.set v x)<;>exact Ev.const _
theorem CP (h:Small n q E) (b:eD n E q=0) {c:List Int} (a:nH n q c) {v:Nat} (g:v<n) (i:v≠q) {M:Nat} (h1:rd c v<=M) (r:(M:Int)<eQ E v n) (j:∀x:Int,bJ n (ae E) q (c.set v x)=true↔x<=M):
  Ev (fun k=>du.f k n E q c v) (c.set v M):=by
 have s:=a.len;have u:=h.qj v;have w:=a.pos v;have loop:∀(m:Nat) (x:Int),rd c v+1<=x->x+m=M+1->Ev (fun k=>du.l0 k q (c.set v x) v n E) (c.set v M):=by
  intro m;induction m with
  |zero=>
   intro x l o;refine Ev.of_succ ?_;simp only[du.l0];refine Ev.bind (h.uP b a g i (by omega)) ?_;have:bJ n (ae E) q (c.set v x)=false:=by
    cases e:bJ n (ae E) q (c.set v x) with
    |false=>rfl
    |true=>have:=(j x).1 e;omega
   simp only[this,Bool.false_eq_true,if_false,if_pos (show (0:Int)<=v by omega),if_pos (show (v:Int)<(c.set v x).length by simp;omega),aq,uO,dR (show v<c.length by omega),fV (show -1000000000<=x-1/\x-1<=1000000000 by omega),show x-1=(M:Int) by omega,fV (show -1000000000<=(M:Int)/\(M:Int)<=1000000000 by omega)];exact Ev.const _
  |succ m p=>
   intro x l o;refine Ev.of_succ ?_;simp only[du.l0];refine Ev.bind (h.uP b a g i (by omega)) ?_;simp only[(j x).2 (by omega),if_true,if_pos (show (0:Int)<=v by omega),if_pos (show (v:Int)<(c.set v x).length by simp;omega),aq,uO,dR (show v<c.length by omega),fV (show -1000000000<=x+1/\x+1<=1000000000 by omega)];exact p (x+1) (by omega) (by omega)
 unfold du.f;simp only[CL (show c.length<=1000 by have:=h.n5;omega),Option.bind_some,if_pos (show (0:Int)<=v by omega),if_pos (show (v:Int)<c.length by omega),aq,fV (show -1000000000<=rd c v+1/\rd c v+1<=1000000000 by omega)];exact loop (M- (rd c v).toNat) (rd c v+1) (by omega) (by omega)
end Small
theorem CQ {p l:List Int} {v:Nat} (h:v<p.length):rd (p++l) v=rd p v:=by simp[rd,aN,List.getElem?_append_left h]
theorem CT (p:List Int) (x:Int):rd (p++[x]) p.length=x:=by simp[rd,aN]
theorem CU {l:List Int} {m v:Nat} (h:v<m):rd (l.take m) v=rd l v:=by simp[rd,aN,List.getElem?_take,h]
theorem qp (b:Nat->Nat):∀(m:Nat) (l:List Int),l∈dr b m↔l.length=m/\∀v:Nat,v<m->0<=rd l v/\rd l v<=b v
 |0,l=>by
  simp only[dr,List.mem_singleton];constructor
  ·rintro rfl;exact⟨rfl,fun v g=>by omega⟩
  ·rintro⟨h,_⟩;exact List.length_eq_zero_iff.1 h
 |m+1,l=>by
  simp only[dr,ji,List.mem_flatMap,List.mem_map,List.mem_range];constructor
  ·rintro⟨p,hp,x,j,rfl⟩
   obtain⟨h1,a⟩:=(qp b m p).1 hp;refine⟨by simp[h1],fun v g=>?_⟩;by_cases e:v<m
   ·rw[CQ (by omega)];exact a v e
   ·rw[show v=p.length by omega,CT];rw[h1];omega
  ·rintro⟨h1,a⟩
   refine⟨l.take m,(qp b m _).2 ⟨by simp;omega,fun v g=>by rw[CU g];exact a v (by omega)⟩,(rd l m).toNat,by have:=a m (by omega);omega,?_⟩;have k:=a m (by omega);have i:l.take (m+1)=l.take m++[l[m]]:=List.take_succ_eq_append_getElem (by omega);rw[List.take_of_length_le (by omega)] at i;rw[show ((rd l m).toNat:Int)=l[m] by
    have:rd l m=l[m]:=by simp[rd,aN,br (show m<l.length by omega)]
    omega]
   exact i.symm
namespace Small
variable {n q:Nat} {E:List S83}
theorem j9 (h:Small n q E) (c:List Int):c∈dQ n E q↔c.length=n/\(∀v:Nat,0<=rd c v)/\rd c q=0/\bJ n (ae E) q c=true:=by
 rw[h.nF,List.mem_filter,qp,<-h.uJ];constructor
 ·rintro⟨⟨h1,a⟩,b⟩
  refine⟨h1,fun v=>?_,?_,b⟩
  ·by_cases e:v<n
   ·exact(a v e).1
   ·rw[nI (by omega)];exact Int.le_refl _
  ·have:=a q h.q
   rw[nE] at this;omega
 ·rintro⟨h1,a,b,i⟩
  refine⟨⟨h1,fun v e=>⟨a v,?_⟩⟩,i⟩;by_cases g:v=q
  ·subst g;rw[nE,b];exact Int.le_refl _
  ·have:=h.nJ e g i
   unfold ia;rw[if_neg g];omega
theorem CV (h:Small n q E) {c:List Int} (a:c∈dQ n E q):nH n q c:=by
 obtain⟨h1,b,e,g⟩:=(h.j9 c).1 a;exact⟨h1,b,fun v=>by have:=((h.nG a).2 v).2;omega,e⟩
end Small
theorem qq {ι:Type} {P:ι->Nat->Prop}:∀(l:List ι),(∀x∈l,∃B,∀K,B<=K->P x K)->∃B,∀K,B<=K->∀x∈l,P x K
 |[],_=>⟨0,fun _ _ x a=>absurd a (by simp)⟩
 |y::l,h=>by
  obtain⟨B,b⟩:=qq l fun x a=>h x (List.mem_cons_of_mem _ a)
  obtain⟨C,hC⟩:=h y (List.mem_cons_self ..);refine⟨max B C,fun K e x a=>?_⟩;rcases List.mem_cons.1 a with rfl|a
  ·exact hC K (by omega)
  ·exact b K (by omega) x a
namespace Small
variable {n q:Nat} {E:List S83}
theorem CW (h:Small n q E) (j:eD n E q=0):∃B,∀K,B<=K->∀c∈dQ n E q,∀v∈List.range n,v≠q->∃r,du.f K n E q c v=some r/\v<r.length/\(rd c v<rd r v↔bJ n (ae E) q (c.set v (rd c v+1))=true):=by
 refine qq _ fun c i=>qq _ fun v k=>?_
 have b:=List.mem_range.1 k;by_cases g:v=q
 ·exact⟨0,fun _ _ e=>absurd g e⟩
 ·have a:=h.CV i
  obtain⟨M,m1,m2,m3⟩:=h.CO a.len b g ((h.j9 c).1 i).2.2.2 (a.pos v);obtain⟨B,l⟩:=h.CP j a b g m1 m2 m3;refine⟨B,fun K m _=>⟨_,l K m,by rw[List.length_set,a.len];exact b,?_⟩⟩;rw[dR (by rw[a.len];exact b),m3];omega
end Small
end Go.Proofs.YtffdiakgjakngaaGreat.P
namespace Go.Proofs.YtffdiakgjakngaaGreat.T
set_option linter.unusedVariables false
set_option linter.unusedSimpArgs false
set_option maxHeartbeats 8000000
set_option maxRecDepth 100000
theorem CX {f:Nat->Int} {n:Nat} {M:Int} (a:0<=M) (S:Nat->Bool) (h:∀v,v<n->S v=true->f v<=M):sN (fun v=>if S v=true then f v else 0) n<=n*M:=by
 rw[<-fT];refine cK fun v b=>?_
 show (if S v=true then f v else 0)<=M
 split
 ·exact h v b ‹_›
 ·exact a
theorem nK {n:Nat} {t:Nat->Nat->Int} (e:Wt n t) (g:dP n t) {q:Nat} (i:q<n) {b:Nat->Int} (hb:b q=0) {M:Int} (a:0<=M) (h:∀v,v<n->0<b v->aI n t b v<=M):∀v,v<n->b v<=n*(n*M):=by
 refine jb e g i (by omega) (Int.mul_nonneg (by omega) a) fun x l=>?_
 refine CX a (fun v=>decide (x<b v)) fun v j k=>h v j ?_
 have:=of_decide_eq_true k;omega
theorem CY {n:Nat} {t:Nat->Nat->Int} (g:Wt n t) (i:dP n t) {q:Nat} (j:q<n) {s s':Nat->Int} (l:s q=s' q) (h:∀v,v<n->aI n t s v=aI n t s' v):∀v,v<n->s v=s' v:=by
 have h1:=nK g i j (b:=fun u=>s u-s' u) (by show s q-s' q=0;omega) (M:=0) (by omega) (fun v e _=>by rw[kT,h v e];omega);have k:=nK g i j (b:=fun u=>s' u-s u) (by show s' q-s q=0;omega) (M:=0) (by omega) (fun v e _=>by rw[kT,h v e];omega);intro v e;have a:=h1 v e;have b:=k v e;simp only[Int.mul_zero] at a b;omega
theorem nL {n:Nat} {t:Nat->Nat->Int} (a:Wt n t) {q:Nat} {c:Nat->Int} (h:gJ n t q c) {v:Nat} (b:v<n) (g:v≠q):c v<val n t v:=by
 obtain⟨u,hu,i,j⟩:=h (fun u=>decide (u=v)) ⟨v,b,by simp⟩ (by simpa using fun e=>g e.symm);obtain rfl:u=v:=of_decide_eq_true i;refine Int.lt_of_lt_of_le j ?_;unfold val;refine cK fun w hw=>?_
 show (if decide (w=u)=false then t u w else 0)<=t u w
 have:=a.pos u w;split<;>omega
theorem CZ {n:Nat} {t:Nat->Nat->Int} (h:Wt n t) (i:dP n t) {q:Nat} (j:q<n) {D c s:Nat->Int} (k:fG n t q c) (l:∀v,v<n->c v=D v-aI n t s v) (o:s q=0) {B V:Int} (x:0<=B) (y:0<=V) (m:∀v,v<n-> -B<=D v/\D v<=B) (p:∀v,v<n->val n t v<=V):∀v,v<n-> -(n*(n*(B+V)))<=s v/\s v<=n*(n*(B+V)):=by
 have h1:=nK h i j (b:=s) o (M:=B+V) (by omega) (fun v g hp=>by
  have:=l v g;have:=k.1 v g (fun e=>by subst e;omega);have:=m v g;omega)
 have r:=nK h i j (b:=fun u=> -s u) (by show -s q=0;omega) (M:=B+V) (by omega) (fun v g hp=>by
  rw[lV];have:=l v g;have w:v≠q:=fun e=>by subst e;omega
  have:=nL h k.2 g w;have:=p v g;have:=m v g;omega)
 intro v g;have a:=h1 v g;have b: -s v<=_:=r v g;omega
theorem C0 (f:Nat->Int) {q n:Nat} (a:q<n):sN (fun v=>if v=q then 0 else f v) n=sN f n-f q:=by
 have h:=de (fun v=>if v=q then 0 else f v) (fun v=>if v=q then f v else 0) n;have b:sN (fun v=>if v=q then f v else 0) n=f q:=by
  rw[gY a (fun u _ hu=>if_neg hu)];simp
 have g:sN (fun v=>(if v=q then 0 else f v)+(if v=q then f v else 0)) n=sN f n:=bm fun v _=>by
  by_cases e:v=q<;>simp[e]
 have i:sN (fun v=>(if v=q then 0 else f v)+(if v=q then f v else 0)) n=sN (fun v=>if v=q then 0 else f v) n+sN (fun v=>if v=q then f v else 0) n:=h;omega
theorem uQ {f:Nat->Int} {q n:Nat} (g:q<n) {a b:Int} (i:a<=0) (hb:0<=b) (h:∀v,v<n->v≠q->a<=f v/\f v<=b):sN f n-n*b<=f q/\f q<=sN f n-n*a:=by
 have h1:=C0 f g;have j:sN (fun v=>if v=q then 0 else f v) n<=sN (fun _=>b) n:=cK fun v e=>by
  show (if v=q then 0 else f v)<=b
  split
  ·exact hb
  ·exact(h v e ‹_›).2
 have k:sN (fun _=>a) n<=sN (fun v=>if v=q then 0 else f v) n:=cK fun v e=>by
  show a<=(if v=q then 0 else f v)
  split
  ·exact i
  ·exact(h v e ‹_›).1
 rw[fT] at j k;omega
theorem l9 {f:Nat->Int} {n:Nat} {B:Int} (h:∀v,v<n-> -B<=f v/\f v<=B): -(n*B)<=sN f n/\sN f n<=n*B:=by
 have h1:sN (fun _=> -B) n<=sN f n:=cK fun v a=>(h v a).1
 have b:sN f n<=sN (fun _=>B) n:=cK fun v a=>(h v a).2
 rw[fT] at h1 b;rw[Int.mul_neg] at h1;omega
theorem qs {n:Nat} {t:Nat->Nat->Int} (b:Wt n t) (e:dP n t) {q:Nat} (g:q<n) {D c σ d s:Nat->Int} (i:fG n t q c) (j:∀v,v<n->c v=D v-aI n t σ v) (k:σ q=0) (hd:∀v,v<n->d v=D v-aI n t s v) (hp:∀v,v<n->v≠q->0<=d v):∀v,v<n->s v<=σ v+s q:=by
 have:=pK b e g i hp (s:=fun u=>s u-σ u) (fun v a=>by rw[kT,j v a,hd v a];omega);intro v a;have h:s v-σ v<=s q-σ q:=this v a;omega
theorem C1 {n:Nat} {t:Nat->Nat->Int} (b:Wt n t) {L:Nat->Bool} {d:Nat->Int} {T:Int} (e:0<=T) (h:∀v,v<n->L v=true->T*sN (fun u=>if L u=false then t v u else 0) n<=d v):∀v,v<n->(L v=true->0<=d v-T*aI n t (ind L) v)/\(L v=false->d v<=d v-T*aI n t (ind L) v):=by
 intro v g;rw[pJ];refine⟨fun a=>?_,fun a=>?_⟩
 ·rw[if_pos a]
  have:=h v g a;omega
 ·rw[if_neg (by simp[a]),Int.mul_neg]
  have:0<=T*sN (fun u=>if L u=true then t v u else 0) n:=Int.mul_nonneg e (dE fun u _=>by
   show 0<=(if L u=true then t v u else 0)
   have:=b.pos v u;split<;>omega)
  omega
def d_ (n:Nat) (t:Nat->Nat->Int) (dist:Nat->Int) (v:Nat):Int:=sN (fun u=>if dist v<dist u then t v u else 0) n
theorem k6 {n:Nat} {t:Nat->Nat->Int} (a:Wt n t) (dist:Nat->Int) (v:Nat):0<=d_ n t dist v:=dE fun u _=>by
 show 0<=(if dist v<dist u then t v u else 0)
 have:=a.pos v u;split<;>omega
theorem C2 {n:Nat} {t:Nat->Nat->Int} (a:Wt n t) (dist:Nat->Int):2*sN (d_ n t dist) n<=sN (val n t) n:=by
 have h1:sN (d_ n t dist) n=sN (fun v=>sN (fun u=>if dist u<dist v then t v u else 0) n) n:=by
  show sN (fun v=>sN (fun u=>if dist v<dist u then t v u else 0) n) n=_
  rw[lU];refine bm fun u _=>bm fun v _=>?_
  rw[a.sym v u]
 have b:sN (fun v=>d_ n t dist v+sN (fun u=>if dist u<dist v then t v u else 0) n) n<=sN (val n t) n:=by
  refine cK fun v e=>?_
  show sN (fun u=>if dist v<dist u then t v u else 0) n+sN (fun u=>if dist u<dist v then t v u else 0) n<=sN (fun u=>t v u) n
  rw[<-de];refine cK fun u hu=>?_
  show (if dist v<dist u then t v u else 0)+(if dist u<dist v then t v u else 0)<=t v u
  have:=a.pos v u;split<;>split<;>omega
 rw[de,<-h1] at b;omega
def dS (n:Nat) (t:Nat->Nat->Int) (dist:Nat->Int) (k:Int):Int:=sN (fun v=>if k<=dist v then d_ n t dist v else 0) n
theorem uR {n:Nat} {t:Nat->Nat->Int} (a:Wt n t) (dist:Nat->Int) (k:Int):0<=dS n t dist k/\dS n t dist k<=sN (d_ n t dist) n:=by
 refine⟨dE fun v _=>?_,cK fun v _=>?_⟩
 ·show 0<=(if k<=dist v then d_ n t dist v else 0)
  have:=k6 a dist v;split<;>omega
 ·show (if k<=dist v then d_ n t dist v else 0)<=_
  have:=k6 a dist v;split<;>omega
theorem C3 {n:Nat} {t:Nat->Nat->Int} (a:Wt n t) (dist:Nat->Int) (k:Int) {v:Nat} (b:v<n) (hd:dist v=k-1):dS n t dist k+d_ n t dist v<=dS n t dist (k-1):=by
 have h1:sN (fun u=>(if k<=dist u then d_ n t dist u else 0)+(if u=v then d_ n t dist u else 0)) n<=dS n t dist (k-1):=by
  refine cK fun u _=>?_
  show (if k<=dist u then d_ n t dist u else 0)+(if u=v then d_ n t dist u else 0)<=(if k-1<=dist u then d_ n t dist u else 0)
  have:=k6 a dist u;by_cases e:u=v
  ·subst e
   rw[if_neg (show ¬k<=dist u by omega),if_pos rfl,if_pos (by omega)];omega
  ·rw[if_neg e]
   split
   ·rw[if_pos (by omega)];omega
   ·split<;>omega
 rw[de] at h1;have g:sN (fun u=>if u=v then d_ n t dist u else 0) n=d_ n t dist v:=by
  rw[gY b (fun u _ hu=>if_neg hu)];simp
 unfold dS at h1⊢;omega
theorem ka (m:Nat):1+(m:Int)<=2 ^ m:=by
 induction m with
 |zero=>decide
 |succ m a=>rw[Int.pow_succ];omega
def eS (n:Nat) (t:Nat->Nat->Int) (dist:Nat->Int) (B k:Int):Int:=B*2 ^ (dS n t dist k).toNat
theorem nM {n:Nat} {t:Nat->Nat->Int} (dist:Nat->Int) {B:Int} (a:0<=B) (k:Int):B<=eS n t dist B k:=by
 unfold eS;have h:(1:Int)<=2 ^ (dS n t dist k).toNat:=by have:=ka (dS n t dist k).toNat;omega
 have:=Int.mul_le_mul_of_nonneg_left h a;omega
theorem qt {n:Nat} {t:Nat->Nat->Int} (a:Wt n t) (dist:Nat->Int) {B:Int} (e:0<=B) (g:sN (val n t) n<=19) (k:Int):eS n t dist B k<=B*512:=by
 unfold eS;have h1:=uR a dist k;have h:=C2 a dist;have b:(dS n t dist k).toNat<=9:=by omega
 refine Int.mul_le_mul_of_nonneg_left ?_ e;generalize (dS n t dist k).toNat=m at b;have:∀m:Nat,m<=9->(2:Int) ^ m<=512:=by decide
 exact this m b
theorem C4 {n:Nat} {t:Nat->Nat->Int} (e:Wt n t) (dist:Nat->Int) {B:Int} (i:0<=B) (k:Int) {v:Nat} (j:v<n) (hd:dist v=k-1):eS n t dist B k*(1+d_ n t dist v)<=eS n t dist B (k-1):=by
 unfold eS;have h1:=C3 e dist k j hd;have l:=uR e dist k;have o:=k6 e dist v;obtain⟨m,hm⟩:=Int.eq_ofNat_of_zero_le o;obtain⟨a,g⟩:=Int.eq_ofNat_of_zero_le l.1;rw[hm,g];rw[hm,g] at h1;obtain⟨b,hb⟩:∃b:Nat,dS n t dist (k-1)=((a+m+b:Nat):Int):=⟨(dS n t dist (k-1)).toNat-a-m,by omega⟩;rw[hb,Int.toNat_natCast,Int.toNat_natCast,Int.mul_assoc];refine Int.mul_le_mul_of_nonneg_left ?_ i;have p:=ka m;have h:(0:Int)<=2 ^ a:=by have:=ka a;omega
 have s:=Int.mul_le_mul_of_nonneg_left p h;have q:(1:Int)<=2 ^ b:=by have:=ka b;omega
 have r:(0:Int)<=2 ^ a*2 ^ m:=Int.mul_nonneg h (by have:=ka m;omega);have u:=Int.mul_le_mul_of_nonneg_left q r;rw[Int.pow_add,Int.pow_add];omega
theorem C5 {n:Nat} {t:Nat->Nat->Int} (a:Wt n t) (dist:Nat->Int) {B:Int} (e:0<=B) (k:Int):eS n t dist B k<=eS n t dist B (k-1):=by
 unfold eS;have h1:dS n t dist k<=dS n t dist (k-1):=cK fun v _=>by
  show (if k<=dist v then d_ n t dist v else 0)<=(if k-1<=dist v then d_ n t dist v else 0)
  have:=k6 a dist v;split
  ·rw[if_pos (by omega)];omega
  ·split<;>omega
 refine Int.mul_le_mul_of_nonneg_left ?_ e;obtain⟨b,hb⟩:∃b:Nat,(dS n t dist (k-1)).toNat=(dS n t dist k).toNat+b:=⟨(dS n t dist (k-1)).toNat- (dS n t dist k).toNat,by omega⟩;rw[hb,Int.pow_add];have g:(0:Int)<=2 ^ (dS n t dist k).toNat:=by have:=ka (dS n t dist k).toNat;omega
 have h:(1:Int)<=2 ^ b:=by have:=ka b;omega
 have:=Int.mul_le_mul_of_nonneg_left h g;omega
def bh (dist:Nat->Int) (k:Int) (u:Nat):Bool:=decide (dist u<k)
structure eG (n:Nat) (t:Nat->Nat->Int) (D dist:Nat->Int) (B k:Int) (d s:Nat->Int):Prop where
 eq:∀v,v<n->d v=D v-aI n t s v
 jv:∀v,v<n->k<dist v->0<=d v
 low:∀v,v<n-> -eS n t dist B k<=d v
 s0:∀v,v<n->0<=s v/\s v<=(n-k)*(B*512)
theorem eG.start {n:Nat} {t:Nat->Nat->Int} {D dist:Nat->Int} {B k:Int} (b:0<=B) (e:∀v,v<n-> -B<=D v) (hk:∀v,v<n->dist v<=k) (g:k<=n):eG n t D dist B k D (fun _=>0):=by
 refine⟨fun v _=>by rw[jl];omega,fun v a h=>by have:=hk v a;omega,fun v a=>?_,fun v _=>⟨Int.le_refl _,Int.mul_nonneg (by omega) (by omega)⟩⟩;have:=nM (n:=n) (t:=t) dist b k;have:=e v a;omega
theorem eG.step {n:Nat} {t:Nat->Nat->Int} (b:Wt n t) {D dist:Nat->Int} {B k:Int} (i:0<=B) (x:sN (val n t) n<=19) (o:∀u v,u<n->v<n->0<t u v->dist v<=dist u+1) {d s:Nat->Int} (h:eG n t D dist B k d s) {T:Int} (j:0<=T) (y:T<=eS n t dist B k)
  (z:∀v,v<n->dist v=k->d v<0-> -d v<=T*sN (fun u=>if bh dist k u=true then t v u else 0) n) {d' s':Nat->Int} (l:∀v,v<n->d' v=d v-T*aI n t (ind (bh dist k)) v) (p:∀v,v<n->s' v=s v+T*ind (bh dist k) v):eG n t D dist B (k-1) d' s':=by
 have g:∀v,v<n->(k<dist v->aI n t (ind (bh dist k)) v=0)/\(dist v=k->aI n t (ind (bh dist k)) v= -sN (fun u=>if bh dist k u=true then t v u else 0) n)/\(dist v<k-1->aI n t (ind (bh dist k)) v=0)/\(dist v=k-1->0<=aI n t (ind (bh dist k)) v/\aI n t (ind (bh dist k)) v<=d_ n t dist v):=by
  intro v a;rw[pJ];refine⟨fun hk=>?_,fun hk=>?_,fun hk=>?_,fun hk=>?_⟩
  ·rw[if_neg (by unfold bh;simp;omega),fs fun u hu=>?_]; · rfl
   show (if bh dist k u=true then t v u else 0)=0
   split
   ·rename_i hn
    have h1:=of_decide_eq_true hn;have m:=b.pos v u;by_cases e:0<t v u
    ·rw[b.sym] at e
     have:=o u v hu a e;omega
    ·omega
   ·rfl
  ·rw[if_neg (by unfold bh;simp;omega)]
  ·rw[if_pos (by unfold bh;simp;omega)]
   refine fs fun u hu=>?_
   show (if bh dist k u=false then t v u else 0)=0
   split
   ·rename_i hn
    have h1:=of_decide_eq_false hn;have m:=b.pos v u;by_cases e:0<t v u
    ·have:=o v u a hu e
     omega
    ·omega
   ·rfl
  ·rw[if_pos (by unfold bh;simp;omega)]
   refine⟨dE fun u _=>?_,cK fun u _=>?_⟩
   ·show 0<=(if bh dist k u=false then t v u else 0)
    have:=b.pos v u;split<;>omega
   ·show (if bh dist k u=false then t v u else 0)<=(if dist v<dist u then t v u else 0)
    have:=b.pos v u;by_cases e:bh dist k u=false
    ·have h1:=of_decide_eq_false e
     rw[if_pos e,if_pos (by omega)];omega
    ·rw[if_neg e];split<;>omega
 have G:0<=eS n t dist B k:=by have:=nM (n:=n) (t:=t) dist i k;omega
 refine⟨fun v a=>?_,fun v a hk=>?_,fun v a=>?_,fun v a=>?_⟩
 ·have e:aI n t s' v=aI n t s v+T*aI n t (ind (bh dist k)) v:=by
   rw[kU (r:=fun u=>s u+T*ind (bh dist k) u) (fun u hu=>p u hu) a,jX,tA]
  rw[l v a,h.eq v a,e];omega
 ·rw[l v a]
  by_cases e:k<dist v
  ·rw[(g v a).1 e]
   have:=h.jv v a e;omega
  ·have q:dist v=k:=by omega
   rw[(g v a).2.1 q,Int.mul_neg];have h1:0<=T*sN (fun u=>if bh dist k u=true then t v u else 0) n:=Int.mul_nonneg j (dE fun u _=>by
    show 0<=(if bh dist k u=true then t v u else 0)
    have:=b.pos v u;split<;>omega)
   by_cases C:d v<0
   ·have:=z v a q C
    omega
   ·omega
 ·rw[l v a]
  have H:=h.low v a;have hm:=C5 b dist i k;by_cases E:k<dist v
  ·rw[(g v a).1 E];omega
  by_cases e2:dist v=k
  ·rw[(g v a).2.1 e2,Int.mul_neg]
   have h1:0<=T*sN (fun u=>if bh dist k u=true then t v u else 0) n:=Int.mul_nonneg j (dE fun u _=>by
    show 0<=(if bh dist k u=true then t v u else 0)
    have:=b.pos v u;split<;>omega)
   omega
  by_cases F:dist v<k-1
  ·rw[(g v a).2.2.1 F];omega
  have w:dist v=k-1:=by omega
  obtain⟨l1,l2⟩:=(g v a).2.2.2 w;have h1:=C4 b dist i k a w;have m:=Int.mul_le_mul_of_nonneg_left l2 j;have I:=Int.mul_le_mul_of_nonneg_right y (k6 b dist v);rw[Int.mul_add] at h1;omega
 ·have h1:=h.s0 v a
  have m:=qt b dist i x k;rw[p v a];have e:(n- (k-1))*(B*512)=(n-k)*(B*512)+B*512:=by
   rw[show (n:Int)- (k-1)=(n-k)+1 by omega,Int.add_mul,Int.one_mul]
  rw[e];unfold ind;split
  ·rw[Int.mul_one];omega
  ·rw[Int.mul_zero];omega
end Go.Proofs.YtffdiakgjakngaaGreat.T
namespace Go.Proofs.YtffdiakgjakngaaGreat.P
open Go.RowKit Go.Proofs.YtffdiakgjakngaaGreatW.PrintWords Go.Proofs.YtffdiakgjakngaaGreatW.PrintLast Go.Proofs.YtffdiakgjakngaaGreatW.PrintMore
set_option linter.unusedVariables false
set_option linter.unusedSimpArgs false
set_option maxHeartbeats 8000000
set_option maxRecDepth 100000
def bK (out:List Int):Nat:=(out.filter fun x=>decide (0<=x)).length
theorem iG (out:List Int):bK out<=out.length:=List.length_filter_le ..
theorem jw (xs:List Int) (v:Nat):rd xs (v:Int)=xs.getD v 0:=by simp[rd]
theorem qu:∀(out:List Int) (u:Nat) (x:Int),u<out.length->out.getD u 0<0->0<=x->bK (out.set u x)=bK out+1
 |[],u,x,h,_,_=>by simp at h
 |y::out,0,x,_,h,a=>by
  have b:y<0:=h;simp[bK,a,Int.not_le.2 b]
 |y::out,u+1,x,hu,h,a=>by
  have:=qu out u x (by simpa using hu) (by simpa using h) a;simp only[bK,List.set_cons_succ,List.filter_cons] at this⊢;split<;>simp[this]
theorem kc (xs:List Int) (u:Nat) (x:Int) (h:u<xs.length):rd (xs.set u x) (u:Int)=x:=by
 rw[jw,aN,List.getElem?_set_self h];rfl
theorem ie (xs:List Int) (u v:Nat) (x:Int) (h:u≠v):rd (xs.set u x) (v:Int)=rd xs (v:Int):=by
 rw[jw,jw,aN,aN,List.getElem?_set_ne h]
structure Bf (n q:Nat) (nb:Nat->Nat->Prop) (out:List Int) (Q:List Nat) (D:Int) (ex:Nat->Nat->Prop):Prop where
 len:out.length=n
 q0:rd out (q:Int)=0
 lo:∀v:Nat,v<n-> -1<=rd out (v:Int)
 hi:∀v:Nat,v<n->rd out (v:Int)+1<=bK out
 qv:∀x,x∈Q->x<n/\D<=rd out (x:Int)
 l_:Q.Pairwise fun (x y:Nat)=>rd out (x:Int)<=rd out (y:Int)
 top:∀v:Nat,v<n->rd out (v:Int)<=D+1
 d0:0<=D
 back:∀v:Nat,v<n->v≠q->0<=rd out (v:Int)->∃u:Nat,u<n/\nb u v/\0<=rd out (u:Int)/\rd out (u:Int)+1=rd out (v:Int)
 jx:∀v:Nat,v<n->0<=rd out (v:Int)->v∉Q->∀u:Nat,u<n->nb v u->¬ex v u->0<=rd out (u:Int)/\rd out (u:Int)<=rd out (v:Int)+1
theorem Bf.start {n q:Nat} {nb:Nat->Nat->Prop} (b:q<n):Bf n q nb ((List.replicate n (-1)).set q 0) [q] 0 (fun _ _=>False):=by
 have h1:∀v:Nat,v<n->rd ((List.replicate n (-1)).set q 0) (v:Int)=if q=v then 0 else -1:=fun v a=>by
  split
  ·rename_i e;subst e;exact kc _ _ _ (by simpa using a)
  ·rename_i e
   rw[ie _ _ _ _ e,jw,aN,List.getElem?_replicate,if_pos a];rfl
 have g:bK ((List.replicate n (-1)).set q 0)=bK (List.replicate n (-1))+1:=qu _ q 0 (by simpa using b) (by rw[aN,List.getElem?_replicate,if_pos b];decide) (by decide);refine⟨by simp,by rw[h1 q b,if_pos rfl],fun v a=>?_,fun v a=>?_,fun x i=>?_,by simp,fun v a=>?_,by decide,fun v a j h=>?_,fun v a h hn=>?_⟩
 ·rw[h1 v a];split<;>omega
 ·rw[h1 v a,g];split<;>omega
 ·obtain rfl:=List.mem_singleton.1 i
  exact⟨b,by rw[h1 x b,if_pos rfl];omega⟩
 ·rw[h1 v a];split<;>omega
 ·rw[h1 v a,if_neg (fun e=>j e.symm)] at h;omega
 ·rw[h1 v a] at h
  by_cases e:q=v
  ·exact absurd (List.mem_singleton.2 e.symm) hn
  ·rw[if_neg e] at h;omega
theorem Bf.pop {n q:Nat} {nb:Nat->Nat->Prop} {out:List Int} {v:Nat} {Q:List Nat} {D:Int} (h:Bf n q nb out (v::Q) D (fun _ _=>False)):Bf n q nb out Q (rd out (v:Int)) (fun x _=>x=v):=by
 have j:=h.qv v (List.mem_cons_self ..);have b:=List.pairwise_cons.1 h.l_;refine⟨h.len,h.q0,h.lo,h.hi,fun x a=>⟨(h.qv x (List.mem_cons_of_mem _ a)).1,b.1 x a⟩,b.2,fun u hu=>?_,by have:=h.d0;omega,h.back,fun x a g hn u hu i hex=>?_⟩
 ·have:=h.top u hu;omega
 ·exact h.jx x a g (fun hm=>by rcases List.mem_cons.1 hm with e|e;exact hex e;exact hn e) u hu i (fun f=>f)
theorem Bf.look {n q:Nat} {nb:Nat->Nat->Prop} {out:List Int} {v u:Nat} {Q:List Nat} {ex:Nat->Prop} (h:Bf n q nb out Q (rd out (v:Int)) (fun x y=>x=v/\ex y)) (hu:u<n) (z:v<n) (G:nb v u):
  (0<=rd out (u:Int)->Bf n q nb out Q (rd out (v:Int)) (fun x y=>x=v/\ex y/\y≠u))/\
  (rd out (u:Int)<0->u≠v/\rd (out.set u (rd out (v:Int)+1)) (v:Int)=rd out (v:Int)/\bK (out.set u (rd out (v:Int)+1))=bK out+1/\Bf n q nb (out.set u (rd out (v:Int)+1)) (Q++[u]) (rd out (v:Int)) (fun x y=>x=v/\ex y/\y≠u)):=by
 have hd:=h.d0;refine⟨fun k=>⟨h.len,h.q0,h.lo,h.hi,h.qv,h.l_,h.top,hd,h.back,fun x g i hn y j l hex=>?_⟩,fun k=>?_⟩
 ·by_cases e:x=v/\ex y
  ·have:y=u:=Classical.byContradiction fun e2=>hex ⟨e.1,e.2,e2⟩
   subst this;have:=h.top y j;rw[e.1];exact⟨k,this⟩
  ·exact h.jx x g i hn y j l e
 ·have B:u≠v:=fun e=>by rw[e] at k;omega
  have C:u<out.length:=by rw[h.len];exact hu
  have r:rd (out.set u (rd out (v:Int)+1)) (v:Int)=rd out (v:Int):=ie _ _ _ _ B;have e2:∀x:Nat,x<n->rd (out.set u (rd out (v:Int)+1)) (x:Int)=if u=x then rd out (v:Int)+1 else rd out (x:Int):=fun x g=>by
   split
   ·rename_i e;subst e;exact kc _ _ _ C
   ·rename_i e;exact ie _ _ _ _ e
  have D:=qu out u (rd out (v:Int)+1) C (by rw[<-jw];exact k) (by omega);have m:∀x:Nat,x<n->0<=rd out (x:Int)->rd (out.set u (rd out (v:Int)+1)) (x:Int)=rd out (x:Int):=fun x g i=>by
   rw[e2 x g,if_neg (fun e=>by subst e;omega)]
  have o:∀x,x∈Q->rd (out.set u (rd out (v:Int)+1)) (x:Int)=rd out (x:Int):=fun x g=>m x (h.qv x g).1 (by have:=(h.qv x g).2;omega)
  refine⟨B,r,D,by rw[List.length_set];exact h.len,?_,fun x g=>?_,fun x g=>?_,fun x g=>?_,?_,fun x g=>?_,hd,fun x g H i=>?_,fun x g i hn y j l hex=>?_⟩
  ·rw[ie _ _ _ _ (fun e=>by subst e;have:=h.q0;omega)];exact h.q0
  ·rw[e2 x g];split
   ·omega
   ·exact h.lo x g
  ·rw[e2 x g,D];split
   ·have:=h.hi v z;omega
   ·have:=h.hi x g;omega
  ·rcases List.mem_append.1 g with g|g
   ·exact⟨(h.qv x g).1,by rw[o x g];exact(h.qv x g).2⟩
   ·obtain rfl:=List.mem_singleton.1 g
    exact⟨hu,by rw[e2 x hu,if_pos rfl];omega⟩
  ·refine List.pairwise_append.2 ⟨h.l_.imp_of_mem fun {a b} p hb I=>by rw[o a p,o b hb];exact I,by simp,fun a p b hb=>?_⟩
   obtain rfl:=List.mem_singleton.1 hb;rw[o a p,e2 b hu,if_pos rfl];have:=h.top a (h.qv a p).1;omega
  ·rw[e2 x g];split
   ·omega
   ·exact h.top x g
  ·by_cases e:u=x
   ·subst e
    exact⟨v,z,G,by rw[r];omega,by rw[r,e2 u hu,if_pos rfl]⟩
   ·rw[e2 x g,if_neg e] at i⊢
    obtain⟨y,s,J,w,K⟩:=h.back x g H i;exact⟨y,s,J,by rw[m y s w];exact w,by rw[m y s w];exact K⟩
  ·have L:u≠x:=fun e=>hn (List.mem_append.2 (.inr (List.mem_singleton.2 e.symm)))
   rw[e2 x g,if_neg L] at i⊢;by_cases E:y=u
   ·subst E
    rw[e2 y j,if_pos rfl];by_cases F:x=v
    ·rw[F];omega
    ·have:=h.jx x g i (fun hm=>hn (List.mem_append.2 (.inl hm))) y j l (fun f=>F f.1)
     omega
   ·have:=h.jx x g i (fun hm=>hn (List.mem_append.2 (.inl hm))) y j l (fun f=>hex ⟨f.1,f.2,E⟩)
    rw[m y j this.1];exact this
section
attribute [local go_sem] Oper.semAt_some
def dG (B:Nat->Bool) (L:List (Int×Int)):Int:=L.foldl (fun s x=>if B x.1.toNat=true then wrap64 (s+x.2) else s) 0
theorem qw (B:Nat->Bool) (L:List (Int×Int)) (x:Int×Int):dG B (L++[x])=if B x.1.toNat=true then wrap64 (dG B L+x.2) else dG B L:=by simp[dG,List.foldl_append]
end
section
attribute [local go_sem] Oper.semAt_some
theorem C6 (g n:Nat) (A0:Option Addr) (c0:Nat) (E:List S83) (q:Int) (dv Q:Value) (R:Int) (v:Nat) (lb:Array Value) (B:Nat->Bool) (w:World) (aa:Kd.C aQ w A0 E.length E) (hE:dN n E) (hn:n<=1000) (hv:v<n) (i:fF w g n (.slice A0 E.length c0) q dv Q R)
  (hB:∀(W:World) (u:Int),Below w.heap.size w W->0<=u->u<n->Calls Tryz.prog 195 (#[.int .i64 u]++lb) W fun e w'=>e= .returned (.bool (B u.toNat))/\Below W.heap.size W w'):
  Calls Tryz.prog 168 #[.pointer (some ⟨g,0,none⟩),.int .i64 v,.func (.func 195) #[] lb] w fun e w'=>e= .returned (.int .i64 (dG B (bU E v E.length)))/\Below w.heap.size w w':=by
 have a9:=zA hB;have HE:=zA hE;have ak:=zA i;clear hB hE i;refine(callsIn_wide (n:=10)).1 ?_;refine callsIn_of_wp_marks Tryz.func168 rfl trivial ?_ rfl;simp only[Tryz.ntmps168,List.size_toArray,List.length_cons,List.length_nil,Nat.reduceAdd,Nat.reduceSub,Array.replicate_succ,Array.replicate_zero,List.push_toArray,List.append_toArray,List.nil_append,List.cons_append];gi_wp2_with (refine⟨trivial,?_⟩;gi_at_call 194;refine(callsIn_wide.2 (kQ g v _)).mono ?_;rintro e w3 ⟨rfl,rfl⟩)
 obtain⟨p,am⟩:∃o:Obj,o= .cells #[.func (.func 195) #[] lb] 121:=⟨_,rfl⟩;obtain⟨on,an⟩:∃o:Obj,o= .cells #[.int .i64 0] 3:=⟨_,rfl⟩;obtain⟨r,ao⟩:∃o:Obj,o= .cells #[.pointer (some ⟨g,0,none⟩)] 135:=⟨_,rfl⟩;obtain⟨y,ap⟩:∃o:Obj,o= .cells #[.int .i64 v] 3:=⟨_,rfl⟩;have Z0:=aU w p;have S:=aU (w.alloc p) on;have T:=aU ((w.alloc p).alloc on) r;have U:=aU (((w.alloc p).alloc on).alloc r) y;simp only[World.size_alloc] at S T U;have H0:=zA ((aj (aj (aj Z0 on) r) y).trans (by rw[am]:_=some (.cells #[.func (.func 195) #[] lb] 121 (0,0))));have H1:=zA ((aj (aj S r) y).trans (by rw[an]:_=some (.cells #[.int .i64 0] 3 (0,0))));have H2:=zA ((aj T y).trans (by rw[ao]:_=some (.cells #[.pointer (some ⟨g,0,none⟩)] 135 (0,0))));have H3:=zA (U.trans (by rw[ap]:_=some (.cells #[.int .i64 v] 3 (0,0))));have z:=zA (af (af (af (af (ai w.heap.size w) p) on) r) y);have aO:Aside0 (fF ((((w.alloc p).alloc on).alloc r).alloc y) g n (.slice A0 E.length c0) q dv Q R):=⟨au ak.out z.out⟩;have bn:g<w.heap.size:=ay ak.out;have bd:=zA (Kd.al aa z.out);clear Z0 S T U;subst am an ao ap;have be:=z.out.size;have bf:((((w.alloc (.cells #[.func (.func 195) #[] lb] 121)).alloc (.cells #[.int .i64 0] 3)).alloc (.cells #[.pointer (some ⟨g,0,none⟩)] 135)).alloc (.cells #[.int .i64 v] 3)).heap.size=w.heap.size+4:=by simp
 generalize ((((w.alloc (.cells #[.func (.func 195) #[] lb] 121)).alloc (.cells #[.int .i64 0] 3)).alloc (.cells #[.pointer (some ⟨g,0,none⟩)] 135)).alloc (.cells #[.int .i64 v] 3))=j at H0 H1 H2 H3 z aO bd be bf⊢;refine fR (σ:=Unit) (α:=Int×Int) (F:=Fence.wide) (n:=10) rfl (by decide) (gf:=207) (lb:=#[.pointer (some ⟨w.heap.size+1+1,0,none⟩),.pointer (some ⟨w.heap.size+1+1+1,0,none⟩)]) rfl trivial (enters_of Tryz.func207 (by kernel_rfl) rfl)
  (fun o=>nc (w.heap.size+1+1) (w.heap.size+1+1+1) g n A0 c0 E q dv Q R v w _ aa HE.out hn hv (af (af z.out _) _) (aj (aj H2.out _) _) (aj (aj H3.out _) _) (aj (aj aO.out _) _)) (fun _=>rfl)
  (fun _=>True) ?dT ?st ?ar
  (fun _ pre W=>j.heap.size<=W.heap.size/\W.heap[w.heap.size]? =some (.cells #[.func (.func 195) #[] lb] 121 (0,0))/\W.heap[w.heap.size+1]? =some (.cells #[.int .i64 (dG B pre)] 3 (0,0))/\Below w.heap.size w W) (fun _ _ _ _=>False)
  ?is (fun _ _ _ _ _ _ h _=>h) ?ib (fun _ _ _ _ _ h _=>h) ?kt ?h0 ?a1 ?assign ?body ?done (fun _ _ _ _ _ _ _ h=>h.elim)
 case assign=>
  intro l x W K hK;gi_wp2;exact hK
 case dT=>
  intro o s W1 h;exact⟨trivial,by rw[h];exact bI.refl _ _⟩
 case st=>intro s A B _ h;exact cQ h
 case ar=>intro s x A B _ h;exact cQ h.2
 case is=>
  rintro s pre A B _ ⟨H,h1,V,X⟩ i;exact⟨Nat.le_trans H i.size,au h1 i,au V i,aC X i⟩
 case ib=>
  rintro s pre A B ⟨H,h1,V,X⟩ hb;exact⟨by rw[hb.size];exact H,hb.cells h1,hb.cells V,X.trans (hb.below w.heap.size (by omega))⟩
 case kt=>
  intro s A B C D N aP aS;refine⟨fun aG=>((N.below w.heap.size (by omega)).trans (aP.1 (by rw[N.size];exact aG))).trans (aS.below w.heap.size (by omega)),fun k hk I=>?_⟩;have a0:k≠j.heap.size+1:=by rcases hk with rfl|rfl|rfl<;>omega
  exact(aS.heap k a0).trans ((aP.2 k hk (by rw[N.size];exact I)).trans (N.heap k a0))
 case h0=>
  rintro o s W1 rfl;exact⟨by simp;omega,aj (aj H0.out _) _,aj (aj H1.out _) _,af (af z.out _) _⟩
 case body=>
  rintro l s pre ⟨u,m⟩ Wb W1 W _ ⟨H,i1,i2,i3⟩ ⟨Y,J⟩ bi b;have b1:=zA (b.cells (au i1 J));have L:=zA (b.cells (au i2 J));have b3:=zA ((aC i3 J).trans (b.below w.heap.size (by omega)));have bq:j.heap.size<=W.heap.size:=by have:=b.size;have:=J.size;omega
  clear i1 i2 i3 J b bi;simp only at Y;have bv:W.cell? ⟨w.heap.size,0,none⟩=some (.func (.func 195) #[] lb):=(ah b1.out 0).trans rfl;have O:=zA (a9.out W u b3.out Y.1 Y.2.1);have M:=zA (qw B pre (u,m));generalize dG B pre=s0 at L M;cases P:B u.toNat with
  |true=>
   rw[P] at O M;clear P;gi_wp2_with (refine⟨trivial,?_⟩;gi_at_call 195;refine(callsIn_wide.2 O.out).mono ?_;rintro e w5 ⟨rfl,G⟩;have a:=zA G;have Z:=zA (au L.out G);have c5:w5.cell? ⟨w.heap.size+1,0,none⟩=some (.int .i64 s0):=(ah Z.out 0).trans rfl;have f5:=bc Z.out 0;clear G)
   have aG:=a.out.size;refine⟨(cQ a.out).trans (eu _ _ (by show w.heap.size+1<j.heap.size;omega)),⟨fun aG=>Below.setCell (a.out.mono aG) (by show w.heap.size<=w.heap.size+1;omega) _,fun k hk I=>?_⟩,by simp;omega,?_,?_,Below.setCell (aC b3.out a.out) (by show w.heap.size<=w.heap.size+1;omega) _⟩
   ·rw[Below.heap_setCell _ _ _ _ (by rcases hk with rfl|rfl|rfl<;>(show _≠w.heap.size+1)<;>omega)]
    exact a.out.block k I
   ·rw[Below.heap_setCell _ _ _ _ (by show w.heap.size≠w.heap.size+1;omega)]
    exact au b1.out a.out
   ·have h:=bB Z.out 0 (.int .i64 (wrap64 (s0+m)))
    rw[M.out];simpa using h
  |false=>
   rw[P] at O M;clear P;gi_wp2_with (refine⟨trivial,?_⟩;gi_at_call 195;refine(callsIn_wide.2 O.out).mono ?_;rintro e w5 ⟨rfl,G⟩;have a:=zA G;clear G)
   have aG:=a.out.size;exact⟨cQ a.out,⟨fun aG=>a.out.mono aG,fun k hk I=>a.out.block k I⟩,by omega,au b1.out a.out,by rw[M.out];exact au L.out a.out,aC b3.out a.out⟩
 case done=>
  rintro s xs W W' _ rfl ⟨H,i1,i2,i3⟩ b a3;have L:=zA (b.cells i2);have b3:=zA (i3.trans (b.below w.heap.size (by omega)));have a4:=zA a3;clear i1 i2 i3 a3;have hc:W'.cell? ⟨w.heap.size+1,0,none⟩=some (.int .i64 (dG B (bU E v E.length))):=(ah L.out 0).trans rfl;gi_wp2_with fail
  have bk:Bk j.heap.size W' (W'.putObj j.heap.size (.deferred none)):=⟨_,_,a4.out,rfl,rfl⟩;exact iB (D:=j.heap.size) rfl a4.out (results_tmp rfl _ _ _) ⟨rfl,b3.out.trans (bk.below w.heap.size (by omega))⟩
end
theorem C7 (gb a cr n:Nat) (B:Nat->Bool) (ok:Nat->Prop) (base:Nat) (W:World) (u:Int) (hb:W.heap[gb]? =some (.cells #[.slice (some ⟨a,0,none⟩) n cr] 43 (0,0))) (g:Kd.bool.R 4 W base ok (.slice (some ⟨a,0,none⟩) n cr) ((List.range n).map B)) (h:0<=u) (hn:u<n):
  Calls Tryz.prog 195 #[.int .i64 u,.pointer (some ⟨gb,0,none⟩)] W fun e w'=>e= .returned (.bool (B u.toNat))/\Below W.heap.size W w':=by
 have b0:W.cell? ⟨gb,0,none⟩=some (.slice (some ⟨a,0,none⟩) n cr):=(ah hb 0).trans rfl;have b:=(Kd.bG false g u h hn).1;have e:bs false ((List.range n).map B) u=B u.toNat:=by
  obtain⟨m,rfl⟩:=Int.eq_ofNat_of_zero_le h;have:m<n:=by omega
  simp[bs,aN,List.getElem?_map,List.getElem?_range this]
 rw[e] at b;have b:W.cell? ⟨a,u.toNat,none⟩=some (.bool (B u.toNat)):=b;clear g hb e;go_enter Tryz.func195,Tryz.ntmps195
 go_wp2;go_ret;exact⟨rfl,ai _ _⟩
theorem C8 (n:Nat) (B:Nat->Bool) (v:Nat):((List.range n).map B).set v true=(List.range n).map (dB B v):=by
 refine List.ext_getElem (by simp) fun i h1 a=>?_
 rw[List.getElem_set];simp only[List.getElem_map,List.getElem_range];unfold dB;by_cases e:v=i
 ·subst e;simp
 ·rw[if_neg e,if_neg (fun h=>e h.symm)]
theorem C9 (n q:Nat):(List.replicate n false).set q true=(List.range n).map (bT q):=by
 refine List.ext_getElem (by simp) fun i h1 a=>?_
 rw[List.getElem_set];simp only[List.getElem_map,List.getElem_range,List.getElem_replicate];unfold bT;by_cases e:q=i
 ·subst e;simp
 ·rw[if_neg e,if_neg (fun h=>e h.symm)]
theorem C_ {n:Nat} {c:(Nat->Bool)->Nat->Bool} {b F:Nat->Bool} (hm:∀(b b':Nat->Bool) v,(∀u,u<n->b u=true->b' u=true)->b' v=false->c b v=true->c b' v=true) (hF:∀v,v<n->c F v=false) (hb:∀v,v<n->b v=true->F v=true):
  ∀(f:Nat) (b:Nat->Bool),(∀v,v<n->b v=true->F v=true)->∀v,v<n->bX b (eY n c f b) v=true->F v=true:=by
 intro f;induction f with
 |zero=>intro b hb v a h;exact hb v a h
 |succ f j=>
  intro b hb v a h;cases g:iA n c b with
  |none=>simp only[eY,g] at h;exact hb v a h
  |some v0=>
   have h1:=List.find?_some g;have l:=List.mem_range.1 (List.mem_of_find?_eq_some g);simp only[eY,g,p_] at h;refine j (dB b v0) (fun u hu i=>?_) v a h;unfold dB at i;by_cases e:u=v0
   ·subst e
    cases k:F u with
    |true=>rfl
    |false=>have:=hm b F u hb k (by simpa using h1);rw[hF u hu] at this;cases this
   ·rw[if_neg e] at i;exact hb u hu i
def ba (n:Nat) (t:Nat->Nat->Int) (q:Nat) (d:List Int):Nat->Bool:=bX (bT q) (dO n (bM n t d) (bT q))
theorem uS {n:Nat} {t:Nat->Nat->Int} (e:∀i j,0<=t i j) {d:List Int} (b b':Nat->Bool) (v:Nat) (h:∀u,u<n->b u=true->b' u=true) (g:b' v=false) (a:bM n t d b v=true):bM n t d b' v=true:=by
 unfold bM at a⊢;simp only[Bool.and_eq_true,decide_eq_true_eq] at a⊢;have hf:∀m,m<=n->cw t b v m<=cw t b' v m:=by
  intro m;induction m with
  |zero=>intro _;exact Int.le_refl _
  |succ m k=>
   intro hm;have h1:=k (by omega);have o:=e v m;have l:=h m (by omega);simp only[cw];by_cases hb:b m=true
   ·rw[if_pos hb,if_pos (l hb)];omega
   ·rw[if_neg hb];split<;>omega
 exact⟨by simp[g],Int.lt_of_lt_of_le a.2 (hf n (aM _))⟩
theorem C' {n:Nat} {t:Nat->Nat->Int} (k:∀i j,0<=t i j) {q:Nat} {d:List Int} {B:Nat->Bool} (l:B q=true) (m:∀v,v<n->B v=true->ba n t q d v=true) (o:∀v,v<n->bM n t d B v=false):∀v,v<n->ba n t q d v=B v:=by
 intro v a;cases g:B v with
 |true=>exact m v a g
 |false=>
  cases hF:ba n t q d v with
  |false=>rfl
  |true=>
   have h:∀u,u<n->bT q u=true->B u=true:=fun u _ hu=>by
    unfold bT at hu;by_cases e:u=q
    ·rw[e];exact l
    ·rw[if_neg e] at hu;cases hu
   have:=C_ (b:=bT q) (fun b b' v h1 p r=>uS k b b' v h1 p r) o h _ (bT q) h v a hF;rw[g] at this;cases this
theorem Da {n:Nat} {t:Nat->Nat->Int} (g:∀i j,0<=t i j) {q:Nat} {d:List Int} {B:Nat->Bool} (a:∀v,v<n->B v=true->ba n t q d v=true) {v:Nat} (m:v<n) (k:bM n t d B v=true):∀u,u<n->dB B v u=true->ba n t q d u=true:=by
 intro u hu h;unfold dB at h;by_cases e:u=v
 ·subst e
  cases hF:ba n t q d u with
  |true=>rfl
  |false=>
   have h1:=qa (n:=n) (c:=bM n t d) (fun b v h=>lM b v h) (dn n (bT q)) (bT q) (aM _) u hu;have l:=uS g B (ba n t q d) u a hF k;rw[show bM n t d (bX (bT q) (eY n (bM n t d) (dn n (bT q)) (bT q))) u=bM n t d (ba n t q d) u from rfl,l] at h1;cases h1
 ·rw[if_neg e] at h;exact a u hu h
theorem Db (g n:Nat) (A0:Option Addr) (c0:Nat) (E:List S83) (q:Nat) (Ad:Option Addr) (cd:Nat) (d:List Int) (sv:Value) (er:Int) (w:World) (cx:Kd.C aQ w A0 E.length E) (hE:dN n E) (hn:n<=1000) (hq:q<n) (aL:fF w g n (.slice A0 E.length c0) q (.slice Ad d.length cd) sv er)
  (hd:Kd.C (Kd.int .i64) w Ad d.length d) (b1:d.length=n) (b2:∀(B:Nat->Bool) (v:Nat),v<n->B v=false->dG B (bU E v E.length)=cw (ae E) B v n):
  Calls Tryz.prog 170 #[.pointer (some ⟨g,0,none⟩)] w fun e w'=>∃G cl,e= .returned (.tuple #[.slice (some ⟨G,0,none⟩) n cl,.bool ((List.range n).any fun v=> !ba n (ae E) q d v)])/\Kd.bool.R 4 w' w.heap.size (fun _=>True) (.slice (some ⟨G,0,none⟩) n cl) ((List.range n).map fun v=> !ba n (ae E) q d v)/\Below w.heap.size w w':=by
 have d7:=Tryz.underlying188;have hu:=Tryz.underlying24;have cy:=zA b2;have HE:=zA hE;have ar:=zA aL;have HD:=zA hd;have s0:w.cell? ⟨g,0,none⟩=some (.int .i64 n):=(ah aL 0).trans rfl;have b6:=b1;have c1:=zA b6;clear b2 hE aL hd b1 b6;have b_:(0:Int)<=(n:Int):=by omega
 go_enter Tryz.func170,Tryz.ntmps170
 go_wp2_with (first|((with_reducible refine aX (N:=16) rfl ?_);refine Kd.kx Kd.bool _ 4 rfl (N:=16) rfl 43 _ _ rfl (n:Int) rfl rfl Tryz.underlying43 (.bool false) 1 jT rfl (by decide) (by omega) false (ok:=fun _=>True) (okp:=fun _=>True) rfl (fun _ hk=>hk) trivial b_ (by simp;omega) (ai _ _) (aM _) ?_;intro v1 w1 H hb aO aP;rw[aq] at H;obtain⟨l,cr,K,ca,aS, -⟩:=Kd.fB H (by rw[List.length_replicate];omega);rw[List.length_replicate] at K;subst K;have cb:=zA H;have a0:=zA hb;clear H hb aO aP))
 have c2:=a0.out.size;have L:=zA (aU w1 (.cells #[.slice (some ⟨l,0,none⟩) n cr] 43));have T:=zA (Kd.aK cb.out (.cells #[.slice (some ⟨l,0,none⟩) n cr] 43));have M:=zA (af a0.out (.cells #[.slice (some ⟨l,0,none⟩) n cr] 43));have a1:=zA (au ar.out M.out);have cc:=zA (Kd.al HD.out M.out);have d8:g<w.heap.size:=ay ar.out;have c3:l<w1.heap.size:=aS;clear cb a0 aS s0;generalize w1.alloc (.cells #[.slice (some ⟨l,0,none⟩) n cr] 43)=W2 at L T M a1 cc⊢;generalize w1.heap.size=gb at L c3 c2⊢;have b0:W2.cell? ⟨gb,0,none⟩=some (.slice (some ⟨l,0,none⟩) n cr):=(ah L.out 0).trans rfl;have s2:W2.cell? ⟨g,2,none⟩=some (.int .i64 q):=(ah a1.out 2).trans rfl;obtain⟨o,hf⟩:=Kd.bG false T.out (q:Int) (by omega) (by omega);rw[aq] at o hf;have ce:W2.cell? ⟨l,q,none⟩=some (.bool (bs false (List.replicate n false) q)):=o;have d9:(0:Int)<=(q:Int):=by omega
 have eb:(q:Int)<(n:Int):=by omega
 clear o;generalize bs false (List.replicate n false) q=x0 at ce;go_region
 go_wp2;have y:=Kd.cY T.out (q:Int) true;rw[aq,C9] at y;have a2:=zA (Kd.bR y.1);have a3:=zA (dU (cZ (g:=gb) L.out y.2 (fun e=>by injection e with e;omega)));have a4:=zA (bC (Below.setCell (p:=⟨l,q,none⟩) M.out ca (.bool true)));have ht:∀i j,0<=ae E i j:=fun i j=>(HE.out.times i j).1
 have HT:=zA ht;have ci:=zA (show bT q q=true by simp[bT]);have cj:Aside0 (∀v,v<n->bT q v=true->ba n (ae E) q d v=true):=⟨fun v K h=>p9 _ h⟩;have c4:gb≠l:=by omega
 clear y T L a1 M cc b0 s2 ce hf ht;generalize (W2.setCell ⟨l,q,none⟩ (.bool true)).drew=W3 at a2 a3 a4⊢;go_loopg [6] (2*n+2) (fun kq ag wr=>∃(B:Nat->Bool) (b:Bool),ag= .bool b/\Aside0 (B q=true)/\Aside0 (∀v,v<n->B v=true->ba n (ae E) q d v=true)/\Aside0 (b=false->∀v,v<n->bM n (ae E) d B v=false)/\Aside0 (wr.heap[gb]? =some (.cells #[.slice (some ⟨l,0,none⟩) n cr] 43 (0,0)))/\Aside0 (Kd.bool.R 4 wr w.heap.size (fun _=>True) (.slice (some ⟨l,0,none⟩) n cr) ((List.range n).map B))/\Aside0 (Below w.heap.size w wr)/\Aside0 (2*dn n B+(if b=true then 1 else 0)<=kq))
 case atStart=>exact⟨bT q,true,rfl,ci,cj,⟨fun h=>by cases h⟩,a3,a2,a4,⟨by have:=sO n (bT q);simp;omega⟩⟩
 case round=>
  clear ci cj a3 a2 a4;obtain⟨B,b,rfl,I,J,bb,D,F,r,HK⟩:=hrel;have O:=zA (au ar.out r.out);have s0:wr.cell? ⟨g,0,none⟩=some (.int .i64 n):=(ah O.out 0).trans rfl;cases b with
  |true=>
   go_wp2;go_loopg [6,30] (n) (fun kq ag Z wr=>∃(v:Nat) (m:Nat->Bool) (b':Bool),ag= .bool b'/\Z= .int .i64 v/\v<=n/\Aside0 (m q=true)/\Aside0 (∀v,v<n->m v=true->ba n (ae E) q d v=true)/\Aside0 (b'=false->m=B/\∀u,u<v->bM n (ae E) d B u=false)/\Aside0 (dn n m+(if b'=true then 1 else 0)<=dn n B)/\Aside0 (wr.heap[gb]? =some (.cells #[.slice (some ⟨l,0,none⟩) n cr] 43 (0,0)))/\Aside0 (Kd.bool.R 4 wr w.heap.size (fun _=>True) (.slice (some ⟨l,0,none⟩) n cr) ((List.range n).map m))/\Aside0 (Below w.heap.size w wr)/\Aside0 (kq=n-v))
   case atStart=>exact⟨0,B,false,rfl,rfl,by omega,I,J,⟨fun _=>⟨rfl,fun u hu=>by omega⟩⟩,⟨by simp⟩,D,F,r,⟨rfl⟩⟩
   case round=>
    clear O s0 I J bb D F r;obtain⟨v,m,b',rfl,rfl,K,I,J,P,HU,D,F,r,bd⟩:=hrel;by_cases Q:v<n
    ·have c6:(0:Int)<=(v:Int):=by omega
     have c7:(v:Int)<(n:Int):=by omega
     have b0:wr.cell? ⟨gb,0,none⟩=some (.slice (some ⟨l,0,none⟩) n cr):=(ah D.out 0).trans rfl;obtain⟨o,hf⟩:=Kd.bG false F.out (v:Int) (by omega) (by omega);rw[aq] at o hf;have e1:bs false ((List.range n).map m) v=m v:=by simp[bs,aN,List.getElem?_map,List.getElem?_range Q]
     rw[e1] at o;replace o:wr.cell? ⟨l,v,none⟩=some (.bool (m v)):=o;clear e1;cases V:m v with
     |true=>
      rw[V] at o;have ad:=zA V;clear V;go_wp2_with fail
      go_quiet (fail)
      go_wp2;go_roundg (n- (v+1))
      case measure=>rw[bd.out];omega
      case rel=>exact⟨v+1,m,b',rfl,by go_num,by omega,I,J,⟨fun h=>⟨(P.out h).1,fun u hu=>by
       by_cases e:u=v
       ·subst e
        have:=(P.out h).1;have h3:=ad.out;rw[this] at h3;unfold bM;rw[h3];rfl
       ·exact(P.out h).2 u (by omega)⟩⟩,HU,⟨by repeat(first|exact D.out|apply iV|apply dU)⟩,⟨by repeat(first|exact F.out|apply Kd.cO|apply Kd.bR)⟩,⟨by repeat(first|exact r.out|apply cz|apply bC)⟩,⟨rfl⟩⟩
     |false=>
      rw[V] at o;have ad:=zA V;have O:=zA (au ar.out r.out);have s3:wr.cell? ⟨g,3,none⟩=some (.slice Ad d.length cd):=(ah O.out 3).trans rfl;have c9:=c1.out;obtain⟨a,ea,hx⟩:=Kd.cP (Kd.al HD.out r.out) v (by omega) (by omega);subst ea;rw[aq] at hx;have el:(v:Int)<(d.length:Int):=by omega
      have es:=ay D.out;have ev:=Kd.cF F.out l rfl;have ew:=ay O.out;have ex:=bS _ _ hx;clear V c9;go_wp2_with fail
      go_region_held3 (fun w'=>w'.cell? ⟨gb,0,none⟩=some (.slice (some ⟨l,0,none⟩) n cr)/\w'.cell? ⟨l,v,none⟩=some (.bool false)/\w'.cell? ⟨g,3,none⟩=some (.slice (some a) d.length cd)/\w'.cell? (a.add v)=some (.int .i64 (rd d v)))
       (first|go_keep|(go_split_ands;exact⟨(S.cell (p:=⟨gb,0,none⟩) (by simp;omega)).trans (by go_simp),(S.cell (p:=⟨l,v,none⟩) (by simp;omega)).trans (by go_simp),(S.cell (p:=⟨g,3,none⟩) (by simp;omega)).trans (by go_simp),(S.cell (p:=a.add v) (by simp;omega)).trans (by go_simp)⟩))
       (first|(go_at_call 168;refine(C6 g n A0 c0 E q _ sv er v #[.pointer (some ⟨gb,0,none⟩)] m _ (Kd.al cx zB) HE.out hn Q (zK O) (fun W u ck dd dl=>C7 gb l cr n m _ _ W u (au (zK D) ck) (Kd.b7 (zR F) ck) dd dl)).mono ?_;rintro e w5 ⟨rfl,S⟩))
      have U:=zb D S;have X:=lH F S;have an:=zS r S;have cn:=zA (cy.out m v Q ad.out);have co:bM n (ae E) d m v=decide (rd d v<dG m (bU E v E.length)):=by unfold bM;rw[ad.out,cn.out];rfl
      have bf:=zA co;rename_i hHeld;clear hHeld co S D F r O o hf b0 s3 hx;generalize dG m (bU E v E.length)=x at bf cn⊢;have b5:w5.cell? ⟨gb,0,none⟩=some (.slice (some ⟨l,0,none⟩) n cr):=(ah U.out 0).trans rfl;obtain⟨o,hf⟩:=Kd.bG false X.out (v:Int) (by omega) (by omega);rw[aq] at o hf;generalize bs false ((List.range n).map m) (v:Int)=z at o;replace o:w5.cell? ⟨l,v,none⟩=some (.bool z):=o;by_cases cq:rd d v<x
      ·have ao:decide (rd d v<x)=true:=aA cq
       have bi:Aside0 (bM n (ae E) d m v=true):=⟨bf.out.trans ao⟩;have y:=Kd.cY X.out (v:Int) true;rw[aq,C8] at y;have ds:=zA y.1;have dv:=zA (cZ (g:=gb) U.out y.2 (fun e=>by injection e with e;exact c4 e));have dx:=zA (Below.setCell (p:=⟨l,v,none⟩) an.out ca (.bool true));clear y;simp only[ao];go_wp2;go_roundg (n- (v+1))
       case measure=>rw[bd.out];omega
       case rel=>exact⟨v+1,dB m v,true,rfl,by go_num,by omega,⟨by unfold dB;split;rfl;exact I.out⟩,⟨Da HT.out J.out Q bi.out⟩,⟨fun h=>by cases h⟩,⟨by have h1:=lL Q ad.out;have h2:=HU.out;simp;split at h2<;>omega⟩,dv,ds,dx,⟨rfl⟩⟩
      ·have ao:decide (rd d v<x)=false:=aY cq
       have bi:Aside0 (bM n (ae E) d m v=false):=⟨bf.out.trans ao⟩;clear o hf b5;simp only[ao];go_wp2;go_roundg (n- (v+1))
       case measure=>rw[bd.out];omega
       case rel=>exact⟨v+1,m,b',rfl,by go_num,by omega,I,J,⟨fun h=>⟨(P.out h).1,fun u hu=>by
        by_cases e:u=v
        ·subst e
         have h3:=bi.out;rw[(P.out h).1] at h3;exact h3
        ·exact(P.out h).2 u (by omega)⟩⟩,HU,U,X,an,⟨rfl⟩⟩
    ·obtain rfl:v=n:=by omega
     go_wp2;go_roundg (2*dn v m+(if b'=true then 1 else 0))
     case measure=>
      have h1:=HK.out;have h2:=HU.out;cases b'<;>simp at h1 h2⊢ <;>omega
     case rel=>exact⟨m,b',rfl,I,J,⟨fun h u hu=>by rw[(P.out h).1];exact(P.out h).2 u hu⟩,D,F,r,⟨aM _⟩⟩
  |false=>
   go_wp2_with (first|((with_reducible refine aX (N:=61) rfl ?_);refine Kd.kx Kd.bool _ 4 rfl (N:=61) rfl 43 _ _ rfl (n:Int) rfl rfl Tryz.underlying43 (.bool false) 1 jT rfl (by decide) (by omega) false (ok:=fun _=>True) (okp:=fun _=>True) rfl (fun _ hk=>hk) trivial b_ (by simp;omega) (ai _ _) (aM _) ?_;intro v1 w5 H hb aO aP;rw[aq] at H;obtain⟨G,cl,K,d0,aS, -⟩:=Kd.fB H (by rw[List.length_replicate];omega);rw[List.length_replicate] at K;subst K;have cs:=zA H;have an:=zA (aC r.out hb);have U:=zA (au D.out hb);have X:=zA (Kd.bj (Kd.b7 (Kd.dy F.out) hb) (ok':=fun k=>k≠G) (fun k hk=>by have:=hk.2.2;omega));have d1:gb≠G:=(fun e=>by have:=ay D.out;omega);have d2:w.heap.size<=G:=Nat.le_trans r.out.size d0;have b5:w5.cell? ⟨gb,0,none⟩=some (.slice (some ⟨l,0,none⟩) n cr):=(ah U.out 0).trans rfl;clear H hb aO aP))
   have bk:=zA (C' HT.out I.out J.out (bb.out (by simp)));have d3:=r.out.size;clear O s0 I J bb D F r b5;have cv:Aside0 (Kd.bool.R 4 w5 w.heap.size (fun _=>True) (.slice (some ⟨G,0,none⟩) n cl) ((List.range n).map fun u=>if u<0 then !B u else false)):=⟨by
    have h:=Kd.bt cs.out (base':=w.heap.size) d3;rw[show (List.replicate n false:List Bool)=(List.range n).map fun u=>if u<0 then !B u else false from by
     refine List.ext_getElem (by simp) fun i h1 h2=>?_
     simp] at h
    exact h⟩
   clear cs;go_loopw [9,64] (fun d4 Z wr=>∃v:Nat,v<=n/\Z= .int .i64 v/\d4= .bool ((List.range v).any fun u=> !B u)/\Aside0 (wr.heap[gb]? =some (.cells #[.slice (some ⟨l,0,none⟩) n cr] 43 (0,0)))/\Aside0 (Kd.bool.R 4 wr w.heap.size (fun k=>k≠G) (.slice (some ⟨l,0,none⟩) n cr) ((List.range n).map B))/\Aside0 (Kd.bool.R 4 wr w.heap.size (fun _=>True) (.slice (some ⟨G,0,none⟩) n cl) ((List.range n).map fun u=>if u<v then !B u else false))/\Aside0 (Below w.heap.size w wr)) (fun _ Z _=>n- (intOf Z).toNat)
   case atStart=>exact⟨0,by omega,rfl,rfl,U,X,cv,an⟩
   case round=>
    clear U X cv an;obtain⟨v,K,rfl,rfl,D,F,HL,r⟩:=hrel;by_cases Q:v<n
    ·have c6:(0:Int)<=(v:Int):=by omega
     have c7:(v:Int)<(n:Int):=by omega
     have b0:wr.cell? ⟨gb,0,none⟩=some (.slice (some ⟨l,0,none⟩) n cr):=(ah D.out 0).trans rfl;obtain⟨o, -⟩:=Kd.bG false F.out (v:Int) (by omega) (by omega);obtain⟨hz,hf⟩:=Kd.bG false HL.out (v:Int) (by omega) (by omega);rw[aq] at o hz hf;have e1:bs false ((List.range n).map B) v=B v:=by simp[bs,aN,List.getElem?_map,List.getElem?_range Q]
     rw[e1] at o;replace o:wr.cell? ⟨l,v,none⟩=some (.bool (B v)):=o;generalize bs false ((List.range n).map fun u=>if u<v then !B u else false) (v:Int)=z at hz;replace hz:wr.cell? ⟨G,v,none⟩=some (.bool z):=hz;have y:=Kd.cY HL.out (v:Int) (!B v);rw[aq] at y;have em:(((List.range n).map fun u=>if u<v then !B u else false).set v (!B v))=(List.range n).map fun u=>if u<v+1 then !B u else false:=by
      refine List.ext_getElem (by simp) fun i h1 h2=>?_
      rw[List.getElem_set];simp only[List.getElem_map,List.getElem_range];by_cases e:v=i
      ·subst e;simp
      ·rw[if_neg e]
       by_cases h:i<v
       ·rw[if_pos h,if_pos (by omega)]
       ·rw[if_neg h,if_neg (by omega)]
     rw[em] at y;have bo:=zA y.1;have L:=zA (cZ (g:=gb) D.out y.2 (fun e=>by injection e with e;exact d1 e));have T:=zA (Kd.fO F.out y.2 (fun k hk e=>hk (by injection e)));have M:=zA (Below.setCell (p:=⟨G,v,none⟩) r.out d2 (.bool (!B v)));have Y:=(Kd.bG false bo.out (v:Int) (by omega) (by omega)).1;rw[aq] at Y;have e2:bs false ((List.range n).map fun u=>if u<v+1 then !B u else false) v= !B v:=by simp[bs,aN,List.getElem?_map,List.getElem?_range Q]
     rw[e2] at Y;have HA:=zA (show ((List.range (v+1)).any fun u=> !B u)=(((List.range v).any fun u=> !B u)|| !B v) by simp[List.range_succ,List.any_append]);replace Y:(wr.setCell ⟨G,v,none⟩ (.bool (!B v))).cell? ⟨G,v,none⟩=some (.bool (!B v)):=Y;have ey:=zA Y;clear y em e1 e2 Y;generalize hs:((List.range v).any fun u=> !B u)=s at HA⊢;clear hs;cases s with
     |true=>
      go_wp2;go_roundw
      case rel=>exact⟨v+1,by omega,by go_num,by rw[HA.out];rfl,L,T,bo,M⟩
      case measure=>exact(show n- ((v:Int)+1).toNat<n- ((v:Int)).toNat by omega)
     |false=>
      go_wp2;go_roundw
      case rel=>exact⟨v+1,by omega,by go_num,by rw[HA.out,Bool.false_or],L,T,bo,M⟩
      case measure=>exact(show n- ((v:Int)+1).toNat<n- ((v:Int)).toNat by omega)
    ·obtain rfl:v=n:=by omega
     go_wp2;go_ret2;refine⟨G,cl,?_,?_,r.out⟩
     ·rw[show ((List.range v).any fun u=> !ba v (ae E) q d u)=((List.range v).any fun u=> !B u) from by
       rw[Bool.eq_iff_iff,List.any_eq_true,List.any_eq_true];constructor
       ·rintro⟨u,hu,h⟩;exact⟨u,hu,by rw[<-bk.out u (List.mem_range.1 hu)];exact h⟩
       ·rintro⟨u,hu,h⟩;exact⟨u,hu,by rw[bk.out u (List.mem_range.1 hu)];exact h⟩]
      rfl
     ·have h:=HL.out
      rw[show ((List.range v).map fun u=>if u<v then !B u else false)=(List.range v).map fun u=> !ba v (ae E) q d u from List.map_congr_left fun u hu=>by
       have:=List.mem_range.1 hu;rw[if_pos this,bk.out u this]] at h
      exact h
section
structure SI (w0:World) (g gd gs cd cs n:Nat) (A0:Option Addr) (c0:Nat) (E:List S83) (q:Int) (d s:List Int) (W:World):Prop where
 hb:Below w0.heap.size w0 W
 st:fF W g n (.slice A0 E.length c0) q (.slice (some ⟨gd,0,none⟩) n cd) (.slice (some ⟨gs,0,none⟩) n cs) 0
 d:(Kd.int .i64).R 3 W w0.heap.size (fun _=>True) (.slice (some ⟨gd,0,none⟩) n cd) d
 s:(Kd.int .i64).R 3 W w0.heap.size (fun _=>True) (.slice (some ⟨gs,0,none⟩) n cs) s
 ne:gd≠gs/\g≠gd/\g≠gs/\w0.heap.size<=g
namespace SI
variable {w0 W W':World} {g gd gs cd cs n c0 l:Nat} {A0:Option Addr} {E:List S83} {q:Int} {d s:List Int}
theorem ld (h:SI w0 g gd gs cd cs n A0 c0 E q d s W):gd<W.heap.size/\gs<W.heap.size/\g<W.heap.size/\w0.heap.size<=gd/\w0.heap.size<=gs:=⟨Kd.cF h.d gd rfl,Kd.cF h.s gs rfl,ay h.st,Kd.ee h.d gd rfl,Kd.ee h.s gs rfl⟩
theorem below (h:SI w0 g gd gs cd cs n A0 c0 E q d s W) (hb:Below W.heap.size W W'):SI w0 g gd gs cd cs n A0 c0 E q d s W':=⟨aC h.hb hb,au h.st hb,Kd.b7 h.d hb,Kd.b7 h.s hb,h.ne⟩
theorem alloc (h:SI w0 g gd gs cd cs n A0 c0 E q d s W) (o:Obj):SI w0 g gd gs cd cs n A0 c0 E q d s (W.alloc o):=h.below (af (ai _ _) o)
theorem drewN (h:SI w0 g gd gs cd cs n A0 c0 E q d s W) (m:Nat):SI w0 g gd gs cd cs n A0 c0 E q d s (W.drewN m):=h.below (cz (ai _ _) m)
theorem bk (h:SI w0 g gd gs cd cs n A0 c0 E q d s W) (hb:Bk l W W') (a:w0.heap.size<=l):SI w0 g gd gs cd cs n A0 c0 E q d s W':=⟨h.hb.trans (hb.below _ a),hb.cells h.st,cC h.d hb,cC h.s hb,h.ne⟩
theorem fin (h:SI w0 g gd gs cd cs n A0 c0 E q d s W) {b:Nat} (hf:eZ b W W') (hb:w0.heap.size<=b):SI w0 g gd gs cd cs n A0 c0 E q d s W':=⟨h.hb.trans (hf.eA.mono hb),hf.cells h.st,hf.R h.d,hf.R h.s,h.ne⟩
theorem iP (h:SI w0 g gd gs cd cs n A0 c0 E q d s W) (p:Addr) (v:Value) (a:p.block≠g/\p.block≠gd/\p.block≠gs) (hb:w0.heap.size<=p.block):SI w0 g gd gs cd cs n A0 c0 E q d s (W.setCell p v):=
 ⟨Below.setCell h.hb hb v,aH h.st (fun e=>a.1 e.symm) v,
  Kd.bj (Kd.eX (Kd.fm rfl h.d) (fun k hk=>Below.heap_setCell _ _ _ _ (fun e=>a.2.1 (by rw[<-e];injection hk)))) (fun _ _=>trivial),
  Kd.bj (Kd.eX (Kd.fm rfl h.s) (fun k hk=>Below.heap_setCell _ _ _ _ (fun e=>a.2.2 (by rw[<-e];injection hk)))) (fun _ _=>trivial),h.ne⟩
theorem nN (h:SI w0 g gd gs cd cs n A0 c0 E q d s W) (v:Nat) (x:Int):SI w0 g gd gs cd cs n A0 c0 E q (d.set v x) s (W.setCell ⟨gd,v,none⟩ (.int .i64 x)):=by
 obtain⟨h1,i,j,b,k⟩:=h.ld;have a:=Kd.cY h.d (v:Int) x;rw[aq] at a;exact⟨Below.setCell h.hb b _,aH h.st h.ne.2.1 _,a.1,Kd.gA h.s rfl a.2 (fun e=>by cases e;exact h.ne.1 rfl),h.ne⟩
theorem nO (h:SI w0 g gd gs cd cs n A0 c0 E q d s W) (v:Nat) (x:Int):SI w0 g gd gs cd cs n A0 c0 E q d (s.set v x) (W.setCell ⟨gs,v,none⟩ (.int .i64 x)):=by
 obtain⟨h1,i,j,k,b⟩:=h.ld;have a:=Kd.cY h.s (v:Int) x;rw[aq] at a;exact⟨Below.setCell h.hb b _,aH h.st h.ne.2.2.1 _,Kd.gA h.d rfl a.2 (fun e=>by cases e;exact h.ne.1 rfl),a.1,h.ne⟩
theorem jy (h:SI w0 g gd gs cd cs n A0 c0 E q d s W) (v:Nat) (a:v<n):W.cell? ⟨gd,v,none⟩=some (.int .i64 (rd d v)):=by
 have:=(Kd.bG 0 h.d (v:Int) (by omega) (by omega)).1;rw[aq] at this;exact this
theorem cells (h:SI w0 g gd gs cd cs n A0 c0 E q d s W) (v:Nat) (a:v<n):W.cell? ⟨gs,v,none⟩=some (.int .i64 (rd s v)):=by
 have:=(Kd.bG 0 h.s (v:Int) (by omega) (by omega)).1;rw[aq] at this;exact this
theorem nP (h:SI w0 g gd gs cd cs n A0 c0 E q d s W) (v:Nat) (a:v<n):W.frozen? ⟨gd,v,none⟩=false:=by
 have:=(Kd.bG 0 h.d (v:Int) (by omega) (by omega)).2;rw[aq] at this;exact this
theorem uT (h:SI w0 g gd gs cd cs n A0 c0 E q d s W) (v:Nat) (a:v<n):W.frozen? ⟨gs,v,none⟩=false:=by
 have:=(Kd.bG 0 h.s (v:Int) (by omega) (by omega)).2;rw[aq] at this;exact this
theorem f0 (h:SI w0 g gd gs cd cs n A0 c0 E q d s W):W.cell? ⟨g,0,none⟩=some (.int .i64 n):=(ah h.st 0).trans rfl
theorem f2 (h:SI w0 g gd gs cd cs n A0 c0 E q d s W):W.cell? ⟨g,2,none⟩=some (.int .i64 q):=(ah h.st 2).trans rfl
theorem f3 (h:SI w0 g gd gs cd cs n A0 c0 E q d s W):W.cell? ⟨g,3,none⟩=some (.slice (some ⟨gd,0,none⟩) n cd):=(ah h.st 3).trans rfl
theorem f4 (h:SI w0 g gd gs cd cs n A0 c0 E q d s W):W.cell? ⟨g,4,none⟩=some (.slice (some ⟨gs,0,none⟩) n cs):=(ah h.st 4).trans rfl
theorem f5 (h:SI w0 g gd gs cd cs n A0 c0 E q d s W):W.cell? ⟨g,5,none⟩=some (.int .i64 0):=(ah h.st 5).trans rfl
end SI
end
end Go.Proofs.YtffdiakgjakngaaGreat.P


namespace Go.Proofs.YtffdiakgjakngaaGreat.P
open Go Go.RowKit
set_option linter.unusedVariables false
set_option linter.unusedSimpArgs false
set_option maxHeartbeats 8000000
set_option maxRecDepth 100000
section
section
variable {F:Fence} {n:Nat} {P:Program} {md:Region.Mode} {C:World->Prop}
def ei (o:Oper):Oper:={o with op:=.move (.const undef)}
def uU (ops:List Oper):Bool:=ops.all fun o=>match o.op with| .defer _=>false|_=>true
theorem Dc {l:List Oper} (h:uU l=true) {o:Oper} (a:o∈l):∀c,o.op≠ .defer c:=by
 intro c e;have:=List.all_eq_true.1 h o a;rw[e] at this;cases this
theorem Dd {ops:Array Oper} {i:Nat} {a:Act} {K:Act->Prop} {m:Act->World->Prop} {Q':Exit->Act->World->Prop} {w:World} (s:∀p,ops[i]? =some p->∀c,p.op≠ .defer c) (hC:C w) (h:∀a w',C w'->K a->m a w')
  (b:qOpIn F n P ops C i K a):wpOpIn F n P ops Q' i m a w:=by
 unfold qOpIn at b;unfold wpOpIn;split
 ·rename_i k;simp only[k] at b;exact h _ _ hC b
 ·rename_i o k
  simp only[k] at b;obtain⟨q,b⟩:=b;split
  ·rename_i hw
   simp only[hw,if_true] at b;obtain⟨v,h1,l⟩:=b;have g:=h1 w hC;unfold Oper.quietAtIn at g;unfold Oper.wpIn;refine⟨q w hC,?_⟩;rw[Oper.semAt_eq _ _ _ (s o k)];generalize (execOp a.eval o).run P w=r at*;cases r with
   |ok x w'=>
    cases x<;>simp only[Oper.quietUponIn] at g<;>simp only[Oper.uponIn]
    case value u=>
     obtain⟨j,e2⟩:=g;rw[j,e2];exact h _ _ hC l
    case skip=>
     obtain⟨j,e2⟩:=g;rw[j,<-e2];exact h _ _ hC l
    case enter f args=>
     obtain⟨j,hd,y⟩:=g;rw[j];exact⟨hd,y.mono fun e B ⟨he,z⟩=>by subst he;exact h _ _ z l⟩
   |halt x w'=>simp only[Oper.quietUponIn] at g
  ·rename_i hw;simp only[hw] at b;exact⟨q w hC,h _ _ hC b⟩
def De (md:Region.Mode) (l:List Oper):Bool:=(List.range l.length).all fun i=>((l[i]?).map fun o=>o.after.all fun e=> !Region.binds md e||decide (e.on<i)).getD true
def Df (md:Region.Mode) (m:Nat) (o:Oper):Bool:=(List.range m).all fun j=>o.after.any fun e=>Region.binds md e&&e.on==j
theorem uV {ops:Array Oper} (k:∀i p,ops[i]? =some p->∀e∈p.after,Region.binds md e=true->e.on<i) (a:Array Bool) (u:a.size=ops.size):∀j,j<ops.size->a.getD j true=false->Region.ready md ops a≠[]:=by
 intro j;induction j using Nat.strongRecOn with
 |ind j l=>
  intro m n he;obtain⟨o,g⟩:∃o,ops[j]? =some o:=⟨_,Array.getElem?_eq_getElem m⟩;by_cases b:∀e∈o.after,Region.binds md e=true->a.getD e.on false=true
  ·have:=mem_ready.2 ⟨n,o,g,b⟩
   rw[he] at this;cases this
  ·simp only[Classical.not_forall] at b
   obtain⟨e,h1,q,h⟩:=b;have r:=k j o g e h1 q;refine l e.on r (by omega) ?_ he;have s:e.on<a.size:=by omega
   simp[Array.getD_eq_getD_getElem?,Array.getElem?_eq_getElem s] at h⊢;exact h
theorem Dg {l1:List Oper} {o:Oper} {Qa:Act->Prop} {Q':Exit->Act->World->Prop} (E:o.dst=none) (G:∀i p,(l1++[o]).toArray[i]? =some p->i≠l1.length->∀c,p.op≠ .defer c) (B:∀i p,(l1++[o]).toArray[i]? =some p->∀e∈p.after,Region.binds md e=true->e.on<i)
  (H:∀j,j<l1.length->∃e∈o.after,Region.binds md e=true/\e.on=j) (I:∀a w,C w->Qa a->wpListIn F n P (l1++[o]).toArray Q' [o] a w):
  ∀(fuel:Nat) (b:Array Bool) (a:Act) (w:World),b.size=l1.length+1->b.getD l1.length true=false->C w->wpAnyQIn F n P md (l1++[ei o]).toArray C Qa fuel b a->wpAnyIn F n P md (l1++[o]).toArray Q' fuel b a w:=by
 have u:∀i,i≠l1.length->(l1++[ei o]).toArray[i]? =(l1++[o]).toArray[i]? :=fun i hi=>by
  rw[List.getElem?_toArray,List.getElem?_toArray];by_cases h:i<l1.length
  ·rw[List.getElem?_append_left h,List.getElem?_append_left h]
  ·rw[List.getElem?_eq_none (by simp;omega),List.getElem?_eq_none (by simp;omega)]
 have hm:(l1++[o]).toArray[l1.length]? =some o:=by simp
 have x:(l1++[ei o]).toArray[l1.length]? =some (ei o):=by simp
 have y:∀b,Region.ready md (l1++[ei o]).toArray b=Region.ready md (l1++[o]).toArray b:=fun b=>by
  unfold Region.ready;have aG:(l1++[ei o]).toArray.size=(l1++[o]).toArray.size:=by simp
  rw[aG];refine List.filter_congr fun i hi=>?_
  by_cases h:i=l1.length
  ·rw[h,hm,x];rfl
  ·rw[u i h]
 have J:∀tmps,yielded (l1++[ei o]).toArray tmps=yielded (l1++[o]).toArray tmps:=fun tmps=>by
  funext j
  unfold yielded;by_cases h:j=l1.length
  ·rw[h,hm,x];rfl
  ·rw[u j h]
 have aG:(l1++[o]).toArray.size=l1.length+1:=by simp
 have K:∀b:Array Bool,b.size=l1.length+1->l1.length∈Region.ready md (l1++[o]).toArray b->Region.ready md (l1++[o]).toArray (b.setIfInBounds l1.length true)=[]:=fun b k L=>by
  obtain⟨U,p,hp,M⟩:=mem_ready.1 L;rw[hm] at hp;obtain rfl:=aR hp;refine List.eq_nil_iff_forall_not_mem.2 fun i hi=>?_
  obtain⟨l,p,hp, -⟩:=mem_ready.1 hi;have V:i<l1.length+1:=by have:=(Array.getElem?_eq_some_iff.1 hp).1;rw[aG] at this;exact this
  by_cases he:i=l1.length
  ·subst he
   rw[Array.getD_eq_getD_getElem?,Array.getElem?_setIfInBounds_self_of_lt (by omega)] at l;cases l
  ·rw[getD_set_ne true (Ne.symm he)] at l
   obtain⟨e,h1,m,r⟩:=H i (by omega);have:=M e h1 m;rw[r] at this;have N:i<b.size:=by omega
   simp[Array.getD_eq_getD_getElem?,Array.getElem?_eq_getElem N] at this l;rw[this] at l;cases l
 intro fuel;induction fuel with
 |zero=>
  intro b a w k s hw h;have h1:Region.ready md (l1++[o]).toArray b=[]:=by rw[<-y];exact h.1
  exact absurd h1 (uV B b (by rw[aG];exact k) l1.length (by rw[aG];omega) s)
 |succ fuel O=>
  intro b a w k s hw h;refine⟨fun h1=>absurd h1 (uV B b (by rw[aG];exact k) l1.length (by rw[aG];omega) s),fun i hi=>?_⟩;have g:=h.2 i (by rw[y];exact hi);by_cases he:i=l1.length
  ·subst he
   have z:=K b k hi;unfold qOpIn at g;simp only[x] at g;have D:wpAnyQIn F n P md (l1++[ei o]).toArray C Qa fuel (b.setIfInBounds l1.length true) a:=by
    have hd:(ei o).dst=none:=E;have m:=g.2;split at m
    ·obtain⟨v, -,r⟩:=m
     rw[hd] at r;exact r
    ·rw[hd] at m;exact m
   have Q:Qa a:=by
    cases fuel with
    |zero=>exact D.2
    |succ f=>exact D.1 (by rw[y];exact z)
   have:=I a w hw Q;have R:wpOpIn F n P (l1++[o]).toArray Q' l1.length (fun a w=>Q' .normal a w) a w:=by
    unfold wpOpIn;simp only[hm];exact this
   refine wpOpIn_mono (fun a w q=>?_) R;cases fuel with
   |zero=>exact⟨z,q⟩
   |succ f=>exact⟨fun _=>q,fun i hi=>by rw[z] at hi;cases hi⟩
  ·have S:qOpIn F n P (l1++[o]).toArray C i (wpAnyQIn F n P md (l1++[ei o]).toArray C Qa fuel (b.setIfInBounds i true)) a:=by
    unfold qOpIn at g⊢;rw[u i he] at g;simp only[J] at g;exact g
   refine Dd (fun p hp=>G i p hp he) hw (fun a' w' T hk=>O _ a' w' (by simpa using k) ?_ T hk) S;rw[getD_set_ne true he];exact s
theorem nQ {id:Nat} {Q:Exit->Act->World->Prop} {a:Act} {w:World} {l:List Oper} (l1:List Oper) (o:Oper) (u:l=l1++[o]) (hm:P.follows .mixedOrders=true) (q:o.dst=none) (v:uU l1=true) (x:De .any (l1++[o])=true) (y:Df .any l1.length o=true) (k:Region.lexB .any (l1++[ei o]).toArray=true)
  (h:wpQuietIn F n P l.toArray (fun w'=>∃n,w'=w.drewN n) (fun a'=>∀w',(∃n,w'=w.drewN n)->wpListIn F n P l.toArray Q [o] a' w') l1 a):(Code.region id l.toArray true).wpIn F n P Q a w:=by
 subst u;refine wpIn_region_any hm ?_;have aG:(l1++[o]).toArray.size=l1.length+1:=by simp
 rw[aG];simp only[Region.lexB,Bool.and_eq_true] at k;refine Dg (C:=fun w'=>∃n,w'=w.drewN n) (Qa:=fun a'=>∀w',(∃n,w'=w.drewN n)->wpListIn F n P (l1++[o]).toArray Q [o] a' w') q (fun i p hp hi=>Dc v ?_) ?_ ?_ (fun a w hw m=>m w hw) _ _ a _ (by simp) (by simp[Array.getD_eq_getD_getElem?]) ⟨1,rfl⟩ ?_
 ·rw[List.getElem?_toArray] at hp
  have g:=(List.getElem?_eq_some_iff.1 hp).1;rw[List.length_append] at g;simp at g;rw[List.getElem?_append_left (by omega)] at hp;exact List.mem_of_getElem? hp
 ·intro i p hp e he hb
  rw[List.getElem?_toArray] at hp;have g:=(List.getElem?_eq_some_iff.1 hp).1;have:=List.all_eq_true.1 x i (List.mem_range.2 g);rw[hp] at this;simp only[Option.map_some,Option.getD_some] at this;have:=Array.all_eq_true_iff_forall_mem.1 this e he;simpa [hb] using this
 ·intro j r
  have:=List.all_eq_true.1 y j (List.mem_range.2 r);rw[<-Array.any_toList,List.any_eq_true] at this;obtain⟨e,he,b⟩:=this;simp only[Bool.and_eq_true,beq_iff_eq] at b;exact⟨e,Array.mem_def.2 he,b.1,b.2⟩
 ·have m:wpQuietIn F n P (l1++[ei o]).toArray (fun w'=>∃n,w'=w.drewN n) (fun a'=>∀w',(∃n,w'=w.drewN n)->wpListIn F n P (l1++[o]).toArray Q [o] a' w') (l1++[ei o]) a:=by
   have z:∀tmps,yielded (l1++[ei o]).toArray tmps=yielded (l1++[o]).toArray tmps:=fun tmps=>by
    funext j
    unfold yielded;rw[List.getElem?_toArray,List.getElem?_toArray];by_cases h:j<l1.length
    ·rw[List.getElem?_append_left h,List.getElem?_append_left h]
    ·rw[List.getElem?_append_right (by omega),List.getElem?_append_right (by omega)]
     cases r:j-l1.length<;>rfl
   have key:∀(l2:List Oper) (a:Act),wpQuietIn F n P (l1++[o]).toArray (fun w'=>∃n,w'=w.drewN n) (fun a'=>∀w',(∃n,w'=w.drewN n)->wpListIn F n P (l1++[o]).toArray Q [o] a' w') l2 a->wpQuietIn F n P (l1++[ei o]).toArray (fun w'=>∃n,w'=w.drewN n) (fun a'=>∀w',(∃n,w'=w.drewN n)->wpListIn F n P (l1++[o]).toArray Q [o] a' w') (l2++[ei o]) a:=by
    intro l2;induction l2 with
    |nil=>
     intro a h;refine⟨fun w _ f hf=>by simp[Oper.about,ei] at hf,?_⟩;have hd:(ei o).dst=none:=q;split
     ·refine BigFrame.quietIn_move (.const undef) rfl ?_
      rw[hd];exact h
     ·rw[hd];exact h
    |cons p l2 s=>
     intro a h;refine⟨h.1,?_⟩;have b:=h.2;rw[z];split at b
     ·rename_i hw
      rw[if_pos hw];exact Oper.quietIn_mono s b
     ·rename_i hw
      rw[if_neg hw];exact s _ b
   exact key l1 a h
  have:=wpAnyQIn_lex (F:=F) (n:=n) (C:=fun w'=>∃n,w'=w.drewN n) (md:=.any) k.1 (l1++[ei o]) 0 (Array.replicate (l1.length+1) false) a (by simp) (by simpa using k.2) m;simpa using this
end
end
end Go.Proofs.YtffdiakgjakngaaGreat.P
namespace Go.Proofs.YtffdiakgjakngaaGreat.P
open Go.RowKit Go.Proofs.YtffdiakgjakngaaGreatW.PrintWords Go.Proofs.YtffdiakgjakngaaGreatW.PrintLast Go.Proofs.YtffdiakgjakngaaGreatW.PrintMore
set_option linter.unusedVariables false
set_option linter.unusedSimpArgs false
set_option maxHeartbeats 8000000
set_option maxRecDepth 100000
section
attribute [local go_sem] Oper.semAt_some jN jO jP jQ mK mL mM mN
def gQ (t:Int) (v:Nat) (d:List Int) (x:Int×Int):List Int:=
 (d.set v (wrap64 (rd d v-wrap64 (x.2*t)))).set x.1.toNat (wrap64 (rd (d.set v (wrap64 (rd d v-wrap64 (x.2*t)))) x.1+wrap64 (x.2*t)))
def fj (t:Int) (v:Nat) (d:List Int) (L:List (Int×Int)):List Int:=L.foldl (gQ t v) d
theorem Dh (t:Int) (v:Nat) (d:List Int) (L:List (Int×Int)) (x:Int×Int):fj t v d (L++[x])=gQ t v (fj t v d L) x:=by simp[fj,List.foldl_append]
theorem uW (t:Int) (v:Nat) (d:List Int) (x:Int×Int):(gQ t v d x).length=d.length:=by simp[gQ]
theorem qy (t:Int) (v:Nat):∀(L:List (Int×Int)) (d:List Int),(fj t v d L).length=d.length
 |[],_=>rfl
 |x::L,d=>(qy t v L _).trans (uW t v d x)
def a_ (E:List S83) (In:Nat->Bool) (t:Int):Nat->List Int×List Int->List Int×List Int
 |0,p=>p
 |k+1,p=>if In k=true then(fj t k (a_ E In t k p).1 (bU E k E.length),(a_ E In t k p).2.set k (wrap64 (rd (a_ E In t k p).2 k+t))) else a_ E In t k p
theorem ma (E:List S83) (In:Nat->Bool) (t:Int) (p:List Int×List Int):∀k,(a_ E In t k p).1.length=p.1.length/\(a_ E In t k p).2.length=p.2.length
 |0=>⟨rfl,rfl⟩
 |k+1=>by
  have h:=ma E In t p k;unfold a_;split
  ·exact⟨(qy ..).trans h.1,by rw[List.length_set];exact h.2⟩
  ·exact h
structure FI (w0 w:World) (g gd gs gi cd cs ci n:Nat) (A0:Option Addr) (c0:Nat) (E:List S83) (q:Int) (In:Nat->Bool) (t:Int) (d s:List Int) (W:World):Prop where
 si:SI w0 g gd gs cd cs n A0 c0 E q d s W
 x1:W.heap[w.heap.size]? =some (.cells #[.pointer (some ⟨g,0,none⟩)] 135 (0,0))
 x2:W.heap[w.heap.size+1]? =some (.cells #[.int .i64 t] 3 (0,0))
 hi:Kd.bool.R 4 W w0.heap.size (fun _=>True) (.slice (some ⟨gi,0,none⟩) n ci) ((List.range n).map In)
 hf:∀k,k<w.heap.size->k≠gd->k≠gs->W.heap[k]? =w.heap[k]?
 aG:w.heap.size+2<=W.heap.size
 hw:w0.heap.size<=w.heap.size/\gd<w.heap.size/\gs<w.heap.size/\g<w.heap.size/\gd≠gi/\gs≠gi
namespace FI
variable {w0 w W W':World} {g gd gs gi cd cs ci n c0 l:Nat} {A0:Option Addr} {E:List S83} {q t:Int} {In:Nat->Bool} {d s:List Int}
theorem below (h:FI w0 w g gd gs gi cd cs ci n A0 c0 E q In t d s W) (hb:Below W.heap.size W W'):FI w0 w g gd gs gi cd cs ci n A0 c0 E q In t d s W':=⟨h.si.below hb,au h.x1 hb,au h.x2 hb,Kd.b7 h.hi hb,fun k h1 a b=>(hb.block k (by have:=h.aG;omega)).trans (h.hf k h1 a b),Nat.le_trans h.aG hb.size,h.hw⟩
theorem alloc (h:FI w0 w g gd gs gi cd cs ci n A0 c0 E q In t d s W) (o:Obj):FI w0 w g gd gs gi cd cs ci n A0 c0 E q In t d s (W.alloc o):=h.below (af (ai _ _) o)
theorem drewN (h:FI w0 w g gd gs gi cd cs ci n A0 c0 E q In t d s W) (m:Nat):FI w0 w g gd gs gi cd cs ci n A0 c0 E q In t d s (W.drewN m):=h.below (cz (ai _ _) m)
theorem drew (h:FI w0 w g gd gs gi cd cs ci n A0 c0 E q In t d s W):FI w0 w g gd gs gi cd cs ci n A0 c0 E q In t d s W.drew:=h.drewN 1
theorem bk (h:FI w0 w g gd gs gi cd cs ci n A0 c0 E q In t d s W) (hb:Bk l W W') (a:w.heap.size<=l):FI w0 w g gd gs gi cd cs ci n A0 c0 E q In t d s W':=⟨h.si.bk hb (Nat.le_trans h.hw.1 a),hb.cells h.x1,hb.cells h.x2,cC h.hi hb,fun k h1 b e=>(hb.heap k (by omega)).trans (h.hf k h1 b e),by rw[hb.size];exact h.aG,h.hw⟩
theorem nN (h:FI w0 w g gd gs gi cd cs ci n A0 c0 E q In t d s W) (v:Nat) (x:Int):FI w0 w g gd gs gi cd cs ci n A0 c0 E q In t (d.set v x) s (W.setCell ⟨gd,v,none⟩ (.int .i64 x)):=
 ⟨h.si.nN v x,aH h.x1 (by show w.heap.size≠gd;have:=h.hw;omega) _,aH h.x2 (by show w.heap.size+1≠gd;have:=h.hw;omega) _,by
  have a:=Kd.cY h.si.d (v:Int) x;rw[aq] at a;exact Kd.gA h.hi rfl a.2 (fun e=>by cases e;exact h.hw.2.2.2.2.1 rfl),fun k h1 b i=>(Below.heap_setCell _ _ _ _ b).trans (h.hf k h1 b i),by simpa using h.aG,h.hw⟩
theorem nO (h:FI w0 w g gd gs gi cd cs ci n A0 c0 E q In t d s W) (v:Nat) (x:Int):FI w0 w g gd gs gi cd cs ci n A0 c0 E q In t d (s.set v x) (W.setCell ⟨gs,v,none⟩ (.int .i64 x)):=
 ⟨h.si.nO v x,aH h.x1 (by show w.heap.size≠gs;have:=h.hw;omega) _,aH h.x2 (by show w.heap.size+1≠gs;have:=h.hw;omega) _,by
  have a:=Kd.cY h.si.s (v:Int) x;rw[aq] at a;exact Kd.gA h.hi rfl a.2 (fun e=>by cases e;exact h.hw.2.2.2.2.2 rfl),fun k h1 i b=>(Below.heap_setCell _ _ _ _ b).trans (h.hf k h1 i b),by simpa using h.aG,h.hw⟩
theorem c1 (h:FI w0 w g gd gs gi cd cs ci n A0 c0 E q In t d s W):W.cell? ⟨w.heap.size,0,none⟩=some (.pointer (some ⟨g,0,none⟩)):=(ah h.x1 0).trans rfl
theorem c2 (h:FI w0 w g gd gs gi cd cs ci n A0 c0 E q In t d s W):W.cell? ⟨w.heap.size+1,0,none⟩=some (.int .i64 t):=(ah h.x2 0).trans rfl
theorem Di (h:FI w0 w g gd gs gi cd cs ci n A0 c0 E q In t d s W) (v:Nat) (b:v<n):W.cell? ⟨gi,v,none⟩=some (.bool (In v)):=by
 have a:=(Kd.bG false h.hi (v:Int) (by omega) (by omega)).1;rw[aq,show bs false ((List.range n).map In) (v:Int)=In v from by simp[bs,aN,List.getElem?_map,List.getElem?_range b]] at a;exact a
end FI
theorem uX (g gd gs gi cd cs ci n:Nat) (A0:Option Addr) (c0:Nat) (E:List S83) (q:Int) (d s:List Int) (In:Nat->Bool) (t:Int) (w0 w:World) (d1:Kd.C aQ w0 A0 E.length E) (hE:dN n E) (hn:n<=1000) (e4:0<n)
  (h:SI w0 g gd gs cd cs n A0 c0 E q d s w) (hi:Kd.bool.R 4 w w0.heap.size (fun _=>True) (.slice (some ⟨gi,0,none⟩) n ci) ((List.range n).map In)) (b':gd≠gi/\gs≠gi) (d2:d.length=n) (d3:s.length=n)
  (ca:∀v,v<n-> -2097152<=rd (a_ E In t n (d,s)).1 v/\rd (a_ E In t n (d,s)).1 v<=2097152/\ -2097152<=rd (a_ E In t n (d,s)).2 v/\rd (a_ E In t n (d,s)).2 v<=2097152):
  Calls Tryz.prog 166 #[.pointer (some ⟨g,0,none⟩),.slice (some ⟨gi,0,none⟩) n ci,.int .i64 t] w fun e w'=>e= .returned (.tuple #[])/\SI w0 g gd gs cd cs n A0 c0 E q (a_ E In t n (d,s)).1 (a_ E In t n (d,s)).2 w'/\(∀k,k<w.heap.size->k≠gd->k≠gs->w'.heap[k]? =w.heap[k]?)/\w.heap.size<=w'.heap.size:=by
 have e5:=Tryz.underlying188;have hu:=Tryz.underlying24;have HE:=zA hE;have cc:=zA ca;clear hE ca;refine(callsIn_wide (n:=10)).1 ?_;refine callsIn_of_wp_marks Tryz.func166 rfl trivial ?_ rfl;simp only[Tryz.ntmps166,List.size_toArray,List.length_cons,List.length_nil,Nat.reduceAdd,Nat.reduceSub,Array.replicate_succ,Array.replicate_zero,List.push_toArray,List.append_toArray,List.nil_append,List.cons_append];obtain⟨q1,q2,q3,q4,q5⟩:=h.ld;have cg:=h.hb.size;have e_:g≠gd:=h.ne.2.1;have r:Aside0 (FI w0 w g gd gs gi cd cs ci n A0 c0 E q In t d s ((w.alloc (.cells #[.pointer (some ⟨g,0,none⟩)] 135)).alloc (.cells #[.int .i64 t] 3))):=⟨(h.alloc _).alloc _,aj (aU w (.cells #[.pointer (some ⟨g,0,none⟩)] 135)) (.cells #[.int .i64 t] 3),heap_alloc2_new w (.cells #[.pointer (some ⟨g,0,none⟩)] 135) (.cells #[.int .i64 t] 3),Kd.aK (Kd.aK hi (.cells #[.pointer (some ⟨g,0,none⟩)] 135)) (.cells #[.int .i64 t] 3),fun k hk _ _=>by rw[Below.heap_alloc _ _ _ (by simp;omega),Below.heap_alloc _ _ _ hk],by simp,cg,q1,q2,q3,b'.1,b'.2⟩;gi_wp2;clear h hi;generalize ((w.alloc (.cells #[.pointer (some ⟨g,0,none⟩)] 135)).alloc (.cells #[.int .i64 t] 3))=W2 at r⊢;have d7:=r.out.aG;refine po w.heap.size (fun kq tm wr=>∃(u6 u7 u14 u15 u16 u17 u18 u19 u20 u21 u22 u23 u24 u25 u26 u27 u28 u29 u30 u31 u32 u59:Value) (v:Nat),v<=n/\Aside0 (FI w0 w g gd gs gi cd cs ci n A0 c0 E q In t (a_ E In t v (d,s)).1 (a_ E In t v (d,s)).2 wr)/\Aside0 (kq=n-v)/\tm=#[.pointer (some ⟨g,0,none⟩),.slice (some ⟨gi,0,none⟩) n ci,.int .i64 t,.pointer (some ⟨w.heap.size,0,none⟩),undef,.pointer (some ⟨w.heap.size+1,0,none⟩),u6,u7,undef,undef,undef,.slice (some ⟨gi,0,none⟩) n ci,.int .i64 n,.int .i64 v,u14,u15,u16,u17,u18,u19,u20,u21,u22,u23,u24,u25,u26,u27,u28,u29,u30,u31,u32,undef,undef,undef,undef,undef,undef,undef,undef,undef,undef,undef,undef,undef,undef,undef,undef,undef,undef,undef,undef,undef,undef,undef,undef,undef,undef,u59,undef,undef,undef,undef,undef,undef,undef,undef,undef,undef,undef,undef,undef,undef,undef,undef,undef,undef,undef,undef,undef,undef,undef,undef,undef,undef,undef,undef,undef,undef,undef,undef,undef,undef,undef,undef,undef,undef,undef,undef,undef,undef,undef,undef,undef,undef,undef,undef,undef,undef,undef]) n ⟨_,_,_,_,_,_,_,_,_,_,_,_,_,_,_,_,_,_,_,_,_,_,0,by omega,r,⟨rfl⟩,rfl⟩ (w.heap.size) (by omega) (bO.nil _ _ _) ?_;clear r d7;rintro gk tm wr ⟨u6,u7,u14,u15,u16,u17,u18,u19,u20,u21,u22,u23,u24,u25,u26,u27,u28,u29,u30,u31,u32,u59,v,hv,y,HK,rfl⟩ ds b hb cj J K hJ hK;have a4:=zA cj;have HJ:=zA hJ;have aG:=y.out.aG;clear cj hJ;obtain⟨l1,l2⟩:=ma E In t (d,s) v;have L1:=zA (show (a_ E In t v (d,s)).1.length=n from l1.trans d2);have L2:=zA (show (a_ E In t v (d,s)).2.length=n from l2.trans d3);clear l1 l2;by_cases M:v<n
 ·have fd:(0:Int)<=(v:Int):=by omega
  have fn:(v:Int)<(n:Int):=by omega
  have Q:=zA (show a_ E In t (v+1) (d,s)=if In v=true then(fj t v (a_ E In t v (d,s)).1 (bU E v E.length),(a_ E In t v (d,s)).2.set v (wrap64 (rd (a_ E In t v (d,s)).2 v+t))) else a_ E In t v (d,s) from rfl);have bb:=y.out.Di v M;cases hIn:In v with
  |false=>
   rw[hIn] at bb;rw[hIn,if_neg (by decide)] at Q;have z:=zA (y.out.alloc (.cells #[.int .i64 v] 3));gi_wp2;exact jf.intro (n- (v+1)) (by rw[HK.out];omega) (HJ.out _ _ _ ⟨_,_,_,_,_,_,_,_,_,_,_,_,_,_,_,_,_,_,_,_,_,_,v+1,by omega,by rw[Q.out];exact z,⟨rfl⟩,rfl⟩) b (by simp;omega) (a4.out.below (af (ai _ _) _))
  |true=>
   rw[hIn] at bb;rw[hIn,if_pos rfl] at Q;generalize a_ E In t v (d,s)=i at y Q L1 L2;clear hIn;gi_wp2;have BV:=zA (aU wr (.cells #[.int .i64 v] 3));have z:=zA (y.out.alloc (.cells #[.int .i64 v] 3));have bd:=zA (a4.out.below (af (ai _ _) (.cells #[.int .i64 v] 3)));have cn:=zA (show (wr.alloc (.cells #[.int .i64 v] 3)).heap.size=wr.heap.size+1 from by simp);generalize wr.alloc (.cells #[.int .i64 v] 3)=W1 at BV z bd cn⊢;have y0:=z.out.c1;have y1:=z.out.c2;have y2:=(ah BV.out 0).trans rfl;have y4:=z.out.si.f4;have y5:=z.out.si.cells v M;have y6:=z.out.si.uT v M;gi_region
   gi_wp2_with (refine⟨trivial,?_⟩;gi_at_call 194;refine(callsIn_wide.2 (kQ g v _)).mono ?_;rintro e w3 ⟨rfl,rfl⟩)
   have fo:W1.heap.size=wr.heap.size+1:=cn.out;have aa:=zA ((((z.out.nO v (wrap64 (rd i.2 v+t))).alloc (.cells #[.pointer (some ⟨g,0,none⟩)] 135)).alloc (.cells #[.int .i64 v] 3)).drew);obtain⟨fq,fr,f0,f1,f2⟩:=z.out.si.ld;have ea:wr.heap.size≠gs:=by omega
   have bi:=zA (dU (aj (aj (aH (p:=⟨gs,v,none⟩) BV.out ea (.int .i64 (wrap64 (rd i.2 v+t)))) (.cells #[.pointer (some ⟨g,0,none⟩)] 135)) (.cells #[.int .i64 v] 3)));have aL:=zA (dU (aj (aU (W1.setCell ⟨gs,v,none⟩ (.int .i64 (wrap64 (rd i.2 v+t)))) (.cells #[.pointer (some ⟨g,0,none⟩)] 135)) (.cells #[.int .i64 v] 3)));have aO:=zA (dU (heap_alloc2_new (W1.setCell ⟨gs,v,none⟩ (.int .i64 (wrap64 (rd i.2 v+t)))) (.cells #[.pointer (some ⟨g,0,none⟩)] 135) (.cells #[.int .i64 v] 3)));have bn:Aside0 (bO w.heap.size b ds (((W1.setCell ⟨gs,v,none⟩ (.int .i64 (wrap64 (rd i.2 v+t)))).alloc (.cells #[.pointer (some ⟨g,0,none⟩)] 135)).alloc (.cells #[.int .i64 v] 3)).drew):=⟨by
    obtain⟨inner,ho⟩:=Kd.iw z.out.si.s;obtain⟨cells,hc⟩:=iu ho gs rfl;exact(((bd.out.set (p:=⟨gs,v,none⟩) hc _).below (af (ai _ _) _)).below (af (ai _ _) _)).below (bC (ai _ _))⟩
   have eb:((((W1.setCell ⟨gs,v,none⟩ (.int .i64 (wrap64 (rd i.2 v+t)))).alloc (.cells #[.pointer (some ⟨g,0,none⟩)] 135)).alloc (.cells #[.int .i64 v] 3)).drew).heap.size=W1.heap.size+2:=by simp
   simp only[World.size_setCell] at aL aO;clear z bd BV y0 y1 y2 y4 y5 y6;generalize (((W1.setCell ⟨gs,v,none⟩ (.int .i64 (wrap64 (rd i.2 v+t)))).alloc (.cells #[.pointer (some ⟨g,0,none⟩)] 135)).alloc (.cells #[.int .i64 v] 3)).drew=H at aa bi aL aO bn eb⊢;generalize i.2.set v (wrap64 (rd i.2 v+t))=s2 at aa Q;have bq:=aa.out.si;refine fR (σ:=Unit) (α:=Int×Int) (F:=Fence.wide) (n:=10) rfl (by decide) (gf:=207) (lb:=#[.pointer (some ⟨W1.heap.size,0,none⟩),.pointer (some ⟨W1.heap.size+1,0,none⟩)]) rfl trivial (enters_of Tryz.func207 (by kernel_rfl) rfl)
    (fun o=>nc (W1.heap.size) (W1.heap.size+1) g n A0 c0 E q (.slice (some ⟨gd,0,none⟩) n cd) (.slice (some ⟨gs,0,none⟩) n cs) 0 v w0 _ d1 HE.out hn M (af (af bq.hb _) _) (aj (aj aL.out _) _) (aj (aj aO.out _) _) (aj (aj bq.st _) _)) (fun _=>rfl)
    (fun _=>True) ?dT ?st ?ar
    (fun _ pre W=>H.heap.size<=W.heap.size/\FI w0 w g gd gs gi cd cs ci n A0 c0 E q In t (fj t v i.1 pre) s2 W/\W.heap[wr.heap.size]? =some (.cells #[.int .i64 v] 3 (0,0))/\bO w.heap.size b ds W) (fun _ _ _ _=>False)
    ?is (fun _ _ _ _ _ _ h _=>h) ?ib (fun _ _ _ _ _ h _=>h) ?kt ?h0 ?a1 ?assign ?body ?done (fun _ _ _ _ _ _ _ h=>h.elim)
   case assign=>
    intro l x W K hK;gi_wp2;exact hK
   case dT=>
    intro o s W1 h;exact⟨trivial,by rw[h];exact bI.refl _ _⟩
   case st=>intro s A B _ h;exact cQ h
   case ar=>intro s x A B _ h;exact cQ h.2
   case is=>
    rintro s pre A B _ ⟨hs,h1,h2,h3⟩ aP;exact⟨Nat.le_trans hs aP.size,h1.below aP,au h2 aP,h3.below aP⟩
   case ib=>
    rintro s pre A B ⟨hs,h1,h2,h3⟩ hb;exact⟨by rw[hb.size];exact hs,h1.bk hb (by omega),hb.cells h2,h3.bk hb (by omega)⟩
   case kt=>
    intro s A B C D aS co cq;refine⟨fun aG=>((aS.below w0.heap.size (by omega)).trans (co.1 (by rw[aS.size];exact aG))).trans (cq.below w0.heap.size (by omega)),fun k hk eg=>?_⟩;have cr:k≠H.heap.size+1:=by rcases hk with rfl|rfl|rfl<;>omega
    exact(cq.heap k cr).trans ((co.2 k hk (by rw[aS.size];exact eg)).trans (aS.heap k cr))
   case h0=>
    rintro o s W1 rfl;exact⟨by simp;omega,(aa.out.alloc _).alloc _,aj (aj bi.out _) _,(bn.out.below (af (ai _ _) _)).below (af (ai _ _) _)⟩
   case body=>
    rintro l s' pre ⟨u,m⟩ Wb Wc W _ ⟨hs,i1,i2,i3⟩ ⟨cx,ao⟩ ek N;have L:=zA ((i1.below ao).bk N (by omega));have I2:=zA (N.cells (au i2 ao));have I3:=zA ((i3.below ao).bk N (by omega));have c3:H.heap.size<=W.heap.size:=by have:=N.size;have:=ao.size;omega
    clear i1 i2 i3 ao N ek;simp only at cx;obtain⟨u0,u1,m0,m1⟩:=cx;obtain⟨u,rfl⟩:=Int.eq_ofNat_of_zero_le u0;have a0:u<n:=by omega
    have c4:=zA (Dh t v i.1 pre (u,m));have el:=zA ((qy t v pre i.1).trans L1.out);generalize fj t v i.1 pre=I at L c4 el;have z0:=L.out.c1;have z1:=L.out.c2;have z2:W.cell? ⟨wr.heap.size,0,none⟩=some (.int .i64 v):=(ah I2.out 0).trans rfl;have z3:=L.out.si.f3;have z4:=L.out.si.jy v M;have z5:=L.out.si.nP v M;clear aa bi aL aO bn bq bb;gi_wp2;refine nQ [_,_,_,_,_,_,_,_,_,_,_,_] _ rfl (by kernel_rfl) rfl (by kernel_rfl) (by kernel_rfl) (by kernel_rfl) (by kernel_rfl) ?_;repeat(gi_big_quiet_step (fail))
    refine wpQuietIn_nil ?_;rintro _ ⟨nq,rfl⟩;have G:=zA (L.out.drewN nq);have S:=zA (iV I2.out nq);have T:=zA (I3.out.below (cz (ai _ _) nq));have U:H.heap.size<=(W.drewN nq).heap.size:=by simpa using c3
    have V:=zA (cQ (nw:=H.heap.size) (cz (ai W.heap.size W) nq));have X:=zA (cz (ai w0.heap.size W) nq);have Y:Aside0 (∀k,k≠gd->(W.drewN nq).heap[k]? =W.heap[k]?):=⟨fun k _=>by simp⟩;clear z0 z1 z2 z3 z4 z5;have z4:=G.out.si.jy v M;have z5:=G.out.si.nP v M;generalize W.drewN nq=Wq at G S T U V X Y z4 z5⊢;gi_wp2;have c5:gd<H.heap.size:=by omega
    have c6:wr.heap.size≠gd:=by omega
    have O:=zA (G.out.nN v (wrap64 (rd I v-wrap64 (m*t))));have bw:=zA (aH (p:=⟨gd,v,none⟩) S.out c6 (.int .i64 (wrap64 (rd I v-wrap64 (m*t)))));have bx:Aside0 (bO w.heap.size b ds (Wq.setCell ⟨gd,v,none⟩ (.int .i64 (wrap64 (rd I v-wrap64 (m*t)))))):=⟨by
     obtain⟨inner,ho⟩:=Kd.iw G.out.si.d;obtain⟨cells,hc⟩:=iu ho gd rfl;exact T.out.set (p:=⟨gd,v,none⟩) hc _⟩
    have b0:H.heap.size<=(Wq.setCell ⟨gd,v,none⟩ (.int .i64 (wrap64 (rd I v-wrap64 (m*t))))).heap.size:=by simpa using U
    have b1:=zA (V.out.trans (eu (bo:=gd) (j:=v) Wq (.int .i64 (wrap64 (rd I v-wrap64 (m*t)))) c5));have b2:=zA (Below.setCell (p:=⟨gd,v,none⟩) X.out q4 (.int .i64 (wrap64 (rd I v-wrap64 (m*t)))));have b3:Aside0 (∀k,k≠gd->(Wq.setCell ⟨gd,v,none⟩ (.int .i64 (wrap64 (rd I v-wrap64 (m*t))))).heap[k]? =W.heap[k]?):=⟨fun k hk=>(Below.heap_setCell _ _ _ _ hk).trans (Y.out k hk)⟩;clear z4 z5 G S T U V X Y;generalize Wq.setCell ⟨gd,v,none⟩ (.int .i64 (wrap64 (rd I v-wrap64 (m*t))))=Wa at O bw bx b0 b1 b2 b3⊢;have z0:=O.out.c1;have z1:=O.out.c2;have z3:=O.out.si.f3;have z4:=O.out.si.jy u a0;have z5:=O.out.si.nP u a0;have em:(u:Int)<(n:Int):=by omega
    refine nQ [_,_,_,_,_,_,_,_,_,_,_,_] _ rfl (by kernel_rfl) rfl (by kernel_rfl) (by kernel_rfl) (by kernel_rfl) (by kernel_rfl) ?_;repeat(gi_big_quiet_step (fail))
    refine wpQuietIn_nil ?_;rintro _ ⟨P,rfl⟩;have G:=zA (O.out.drewN P);have S:=zA (iV bw.out P);have T:=zA (bx.out.below (cz (ai _ _) P));have U:H.heap.size<=(Wa.drewN P).heap.size:=by simpa using b0
    have V:=zA (b1.out.trans (cQ (nw:=H.heap.size) (cz (ai Wa.heap.size Wa) P)));have X:=zA (cz b2.out P);have Y:Aside0 (∀k,k≠gd->(Wa.drewN P).heap[k]? =W.heap[k]?):=⟨fun k hk=>by simpa using b3.out k hk⟩;clear z0 z1 z3 z4 z5 O bw bx b0 b1 b2 b3;have z4:=G.out.si.jy u a0;have z5:=G.out.si.nP u a0;generalize Wa.drewN P=Wb at G S T U V X Y z4 z5⊢;gi_wp2;have er:bO w.heap.size b ds (Wb.setCell ⟨gd,u,none⟩ (.int .i64 (wrap64 (rd (I.set v (wrap64 (rd I v-wrap64 (m*t)))) u+wrap64 (m*t))))):=by
     obtain⟨inner,ho⟩:=Kd.iw G.out.si.d;obtain⟨cells,hc⟩:=iu ho gd rfl;exact T.out.set (p:=⟨gd,u,none⟩) hc _
    refine⟨V.out.trans (eu _ _ c5),⟨fun _=>Below.setCell (p:=⟨gd,u,none⟩) X.out q4 _,fun k hk _=>(Below.heap_setCell _ _ _ _ ?_).trans (Y.out k ?_)⟩,by simpa using U,?_,aH S.out c6 _,er⟩
    ·show k≠gd
     rcases hk with rfl|rfl|rfl<;>omega
    ·rcases hk with rfl|rfl|rfl<;>omega
    ·rw[c4.out];exact G.out.nN u _
   case done=>
    rintro s' xs W W' _ rfl ⟨hs,i1,i2,i3⟩ N b4;have L:=zA (i1.bk N (by omega));have I3:=zA (i3.bk N (by omega));have es:=zA b4;have c3:H.heap.size<W'.heap.size:=(Array.getElem?_eq_some_iff.1 b4).1;clear i1 i2 i3 b4;gi_wp2;exact jf.intro (n- (v+1)) (by rw[HK.out];omega) (HJ.out _ _ _ ⟨_,_,_,_,_,_,_,_,_,_,_,_,_,_,_,_,_,_,_,_,_,_,v+1,by omega,by rw[Q.out];exact L,⟨rfl⟩,rfl⟩) (H.heap.size+1) (by omega) (I3.out.push (by omega) (by omega) es.out)
 ·obtain rfl:v=n:=by omega
  have x0:=y.out.c1;have s3:=y.out.si.f3;have s4:=y.out.si.f4;have s5:=y.out.si.f5;clear HJ hK;gi_wp2;gi_loopg [65] (v) (fun kq uv wq=>∃u:Nat,u<=v/\uv= .int .i64 u/\Aside0 (∃m,wq=wr.drewN m)/\Aside0 (kq=v-u))
  case atStart=>exact⟨0,by omega,rfl,⟨0,rfl⟩,⟨rfl⟩⟩
  case round=>
   obtain⟨u,hu,rfl,⟨⟨m,hm⟩⟩,ew⟩:=hrel;subst hm;by_cases b5:u<v
   ·have f7:(0:Int)<=(u:Int):=by omega
    have em:(u:Int)<(v:Int):=by omega
    have r:=zA (y.out.drewN m);have y6:=r.out.si.jy u b5;have y7:=r.out.si.cells u b5;obtain⟨o1,o2,o3,o4⟩:=cc.out u b5;have y0:=r.out.c1;have y3:=r.out.si.f3;have y4:=r.out.si.f4;have y5:=r.out.si.f5;have HM:Aside0 (∃m',wr.drewN m=wr.drewN m'):=⟨m,rfl⟩;clear x0 s3 s4 s5 r;generalize rd (a_ E In t v (d,s)).1 u=a at y6 o1 o2;generalize rd (a_ E In t v (d,s)).2 u=Z at y7 o3 o4;generalize wr.drewN m=wq at y0 y3 y4 y5 y6 y7 HM⊢;have f8:decide (2097152<(if(if(if a< -a then -a else a)<Z then Z else if a< -a then -a else a)< -Z then -Z else if(if a< -a then -a else a)<Z then Z else if a< -a then -a else a))=false:=by
     rw[decide_eq_false_iff_not];repeat' split
     all_goals omega
    gi_wp2;gi_quiet (fail)
    gi_wp2
    all_goals
     gi_roundg (v- (u+1))
     case measure=>rw[ew.out];omega
     case rel=>exact⟨u+1,by omega,by go_num,⟨by obtain⟨m',e3⟩:=HM.out;rw[e3];simp only[World.drewN_drewN];exact⟨_,rfl⟩⟩,⟨rfl⟩⟩
   ·obtain rfl:u=v:=by omega
    clear L1 L2 HE cc x0 s3 s4 s5;gi_wp2;refine(na (a4.out.below (cz (ai _ _) m)) fun w' b6=>?_).1;exact⟨_,results_none rfl _ _ _,rfl,(y.out.si.drewN m).fin b6 cg,fun k h1 h2 h3=>(b6.eA.block k h1).trans (y.out.hf k h1 h2 h3),by have:=b6.size;simp at this;omega⟩
end
theorem a7.ke {N:Int} {E:List S83} (h:a7 N E) {x:S83} (a:x∈E):0<=x.f0/\x.f0<=x.f1/\x.f1<N/\1<=x.f2/\x.f2<=50:=by
 have h1:=h.ok x a;have b:=h.le x a;simp[bA] at h1;omega
theorem a7.iQ {n:Nat} {E:List S83} (h:a7 n E):dN n E:=fun x a=>by
 have:=h.ke a;omega
theorem a7.take {N:Int} {E:List S83} (h:a7 N E) (k:Nat):a7 N (E.take k):=⟨fun x a=>h.ok x (List.mem_of_mem_take a),fun x a=>h.le x (List.mem_of_mem_take a),h.order.sublist (List.take_sublist _ _)⟩
theorem uY {E:List S83} (v:Nat):∀(E:List S83) (f:Nat->Nat->Int),(∀x∈E,0<=x.f0/\0<=x.f1)->f v v=0->E.foldl ct f v v=0
 |[],f,_,hf=>hf
 |x::E,f,h,hf=>by
  rw[List.foldl_cons];refine uY (E:=E) v E _ (fun y a=>h y (List.mem_cons_of_mem _ a)) ?_;have b:=h x (List.mem_cons_self ..);unfold ct;split
  ·exact hf
  ·dsimp only
   rw[if_neg (by omega),if_neg (by omega)];exact hf
theorem a7.wt {n:Nat} {E:List S83} (h:a7 n E):T.Wt n (ae E):=by
 have a:∀v,ae E v v=0:=fun v=>uY (E:=E) v E _ (fun x b=>by have:=h.ke b;omega) rfl
 refine⟨fun u v=>?_,fun u v=>?_,a⟩
 ·by_cases e:u=v
  ·subst e;rw[a];omega
  ·rw[jZ h u v e];exact(pS h _ _).1
 ·by_cases e:u=v
  ·subst e;rfl
  ·rw[jZ h u v e,jZ h v u (fun k=>e k.symm),nn]
theorem a7.Dj {N:Int} {E:List S83} (h:a7 N E) {x:S83} (a:x∈E):0<cN E x.f0 x.f1:=by
 unfold cN;have he:=h.ke a;have e:(E.find? (fv x.f0 x.f1)).isSome=true:=List.find?_isSome.2 ⟨x,a,by simp[fv];omega⟩;obtain⟨y,b⟩:=Option.isSome_iff_exists.1 e;rw[b];have:=h.ke (List.mem_of_find?_eq_some b);show 0<y.f2
 omega
theorem a7.conn {n:Nat} {E:List S83} (h:a7 n E) (j:eN n E):T.dP n (ae E):=by
 intro S h1 k;obtain⟨x,i,b⟩:=j S h1 k;have he:=h.ke i;have hb:=h.Dj i;have l:cN E x.f0 x.f1=ae E x.f0.toNat x.f1.toNat:=by
  rw[jZ h _ _ (fun e=>b (by rw[e]))];congr 1<;>omega
 rw[l] at hb;cases g:S x.f0.toNat with
 |true=>
  have a:S x.f1.toNat=false:=by cases a:S x.f1.toNat with|false=>rfl|true=>rw[g,a] at b;exact absurd rfl b
  exact⟨_,_,by omega,by omega,g,a,hb⟩
 |false=>
  have a:S x.f1.toNat=true:=by cases a:S x.f1.toNat with|true=>rfl|false=>rw[g,a] at b;exact absurd rfl b
  exact⟨_,_,by omega,by omega,a,g,by rw[h.wt.sym];exact hb⟩
def dj (φ:Nat->Int):List (Int×Int)->Int
 |[]=>0
 |x::L=>x.2*φ x.1.toNat+dj φ L
theorem uZ (φ:Nat->Int):∀A B,dj φ (A++B)=dj φ A+dj φ B
 |[],B=>by simp[dj]
 |x::A,B=>by
  simp only[List.cons_append,dj,uZ φ A B];omega
theorem qz {E:List S83} {k:Nat} (hk:k<E.length):ab E k=E[k]:=by simp[ab,aN,br hk]
theorem Dk {N:Int} {E:List S83} (h:a7 N E) {k:Nat} (hk:k<E.length):∀y∈E.take k,fW y (ab E k):=by
 intro y a;have h1:=h.order;rw[<-List.take_append_drop k E,List.pairwise_append] at h1;refine h1.2.2 y a _ ?_;rw[qz hk,List.drop_eq_getElem_cons hk];exact List.mem_cons_self ..
theorem u_ {n:Nat} {E:List S83} (h:a7 n E) (φ:Nat->Int) {v:Nat} (p:v<n):∀k,k<=E.length->dj φ (bU E v k)=T.sN (fun u=>ae (E.take k) v u*φ u) n
 |0,_=>by
  rw[T.fs (fun u _=>by simp[ae])];rfl
 |k+1,hk=>by
  have g:k<E.length:=by omega
  have q:=u_ h φ p k (by omega);have l:=h.ke (show ab E k∈E by rw[qz g];exact List.getElem_mem g);have o:=Dk h g;have C:=(h.take k).wt.self v;rw[sH E k g];simp only[bU,uZ,q];generalize ab E k=x at l o;obtain⟨a,b,m⟩:=x;simp only at l;by_cases i:a≠b/\(a=v\/b=v)
  ·rw[if_pos i]
   obtain⟨u0,r⟩:∃u0:Nat,(u0:Int)=a+b-v:=⟨(a+b-v).toNat,by omega⟩;have s:u0<n:=by omega
   have w:v≠u0:=by omega
   have z:ae (E.take k) v u0=0:=by
    rw[jZ (h.take k) v u0 w];unfold cN;rw[tN (fun y B D=>by have:=o y B;unfold fW at this;simp only at this;omega)]
   have j:∀u:Nat,u<n->ct (ae (E.take k)) ⟨a,b,m⟩ v u*φ u=ae (E.take k) v u*φ u+(if u=u0 then m*φ u else 0):=fun u hu=>by
    unfold ct;simp only[if_neg i.1];by_cases e:u=u0
    ·subst e
     rw[z,if_pos rfl];by_cases e2:v=b.toNat/\u=a.toNat
     ·rw[if_pos e2];omega
     ·rw[if_neg e2,if_pos (by omega)];omega
    ·rw[if_neg e,if_neg (by omega),if_neg (by omega)];omega
   rw[T.bm j,T.de,T.gY s (fun u _ hu=>if_neg hu),if_pos rfl];simp only[dj,<-r,aq];omega
  ·rw[if_neg i]
   have j:∀u:Nat,u<n->ct (ae (E.take k)) ⟨a,b,m⟩ v u*φ u=ae (E.take k) v u*φ u:=fun u hu=>by
    unfold ct;by_cases e:a=b
    ·simp only[if_pos e]
    ·simp only[if_neg e]
     rw[if_neg (by omega),if_neg (by omega)]
   rw[T.bm j];simp[dj]
theorem nR {n:Nat} {E:List S83} (h:a7 n E) (φ:Nat->Int) {v:Nat} (a:v<n):dj φ (bU E v E.length)=T.sN (fun u=>ae E v u*φ u) n:=by
 rw[u_ h φ a E.length (aM _),List.take_length]
theorem nS {n:Nat} {E:List S83} (h:a7 n E) {v:Nat}:∀k,k<=E.length->∀x∈bU E v k,0<=x.1/\x.1<n/\x.1≠v/\1<=x.2/\x.2<=50
 |0,_=>fun x a=>by cases a
 |k+1,hk=>fun x a=>by
  have b:k<E.length:=by omega
  have he:=h.ke (show ab E k∈E by rw[qz b];exact List.getElem_mem b);rcases List.mem_append.1 a with a|a
  ·exact nS h k (by omega) x a
  ·split at a
   ·rename_i e
    obtain rfl:=List.mem_singleton.1 a;simp only;omega
   ·cases a
theorem u' (E:List S83) (v:Int):∀k,(bU E v k).length<=k
 |0=>aM _
 |k+1=>by
  have:=u' E v k;simp only[bU,List.length_append];split<;>simp<;>omega
theorem qA (B:Nat->Bool):∀(L:List (Int×Int)) (s:Int),(∀x∈L,1<=x.2/\x.2<=50)->0<=s->s+50*L.length<=1000000000->L.foldl (fun s x=>if B x.1.toNat=true then wrap64 (s+x.2) else s) s=s+dj (T.ind B) L
 |[],s,_,_,_=>by simp[dj]
 |x::L,s,h,g,b=>by
  have i:=h x (List.mem_cons_self ..);simp only[List.length_cons] at b;rw[List.foldl_cons];simp only[dj,T.ind];by_cases e:B x.1.toNat=true
  ·rw[if_pos e,if_pos e,fV (by omega),qA B L _ (fun y a=>h y (List.mem_cons_of_mem _ a)) (by omega) (by omega)]
   unfold T.ind;omega
  ·rw[if_neg e,if_neg e,qA B L _ (fun y a=>h y (List.mem_cons_of_mem _ a)) (by omega) (by omega)]
   unfold T.ind;omega
theorem Dl (t:Nat->Int) (B:Nat->Bool) (n:Nat):T.sN (fun u=>t u*T.ind B u) n=T.sN (fun u=>if B u=true then t u else 0) n:=T.bm fun u _=>by
 unfold T.ind;split<;>simp
theorem qB {n:Nat} {E:List S83} (h:a7 n E) (e:E.length<=1000) (B:Nat->Bool) {v:Nat} (a:v<n):dG B (bU E v E.length)=T.sN (fun u=>if B u=true then ae E v u else 0) n:=by
 have h1:=u' E v E.length;unfold dG;rw[qA B _ 0 (fun x b=>(nS h _ (aM _) x b).2.2.2) (by omega) (by omega),nR h _ a,Dl,Int.zero_add]
theorem mb (t:Nat->Nat->Int) (B:Nat->Bool) (v:Nat):∀n,cw t B v n=T.sN (fun u=>if B u=true then t v u else 0) n
 |0=>rfl
 |n+1=>by
  show cw t B v n+_=T.sN _ n+_
  rw[mb t B v n]
theorem Dm {n:Nat} {E:List S83} (h:a7 n E) (a:E.length<=1000) (B:Nat->Bool) {v:Nat} (b:v<n):dG B (bU E v E.length)=cw (ae E) B v n:=by rw[qB h a B b,mb]
def Md (a b:Int):Prop:=(a-b)%18446744073709551616=0
def cS (a:Int):Prop:= -9223372036854775808<=a/\a<=9223372036854775807
theorem Md.refl (a:Int):Md a a:=by unfold Md;omega
theorem Md.wrap {a b:Int} (h:Md a b):Md (wrap64 a) b:=by unfold Md wrap64 at*;omega
theorem Md.add {a b c d:Int} (h:Md a b) (e:Md c d):Md (a+c) (b+d):=by unfold Md at*;omega
theorem Md.sub {a b c d:Int} (h:Md a b) (e:Md c d):Md (a-c) (b-d):=by unfold Md at*;omega
theorem Md.eq {a b:Int} (h:Md a b) (e:cS a) (hb:cS b):a=b:=by unfold Md cS at*;omega
theorem qC (a:Int):cS (wrap64 a):=by unfold cS wrap64;omega
theorem vd {d:List Int} (h:∀w:Nat,w<d.length->cS (rd d w)) (v:Nat) (a:Int) (b:cS a):∀w:Nat,w<d.length->cS (rd (d.set v a) w):=fun w hw=>by
 by_cases e:v=w
 ·subst e;rw[kc _ _ _ hw];exact b
 ·rw[ie _ _ _ _ e];exact h w hw
theorem ve (t:Int) {v n:Nat} (j:v<n):∀(L:List (Int×Int)) (d:List Int),d.length=n->(∀x∈L,0<=x.1/\x.1<n/\x.1≠v)->(∀w:Nat,w<n->cS (rd d w))->∀w:Nat,w<n->
  cS (rd (fj t v d L) w)/\Md (rd (fj t v d L) w) (rd d w-t*(if w=v then dj (fun _=>1) L else 0)+t*dj (fun u=>if u=w then 1 else 0) L)
 |[],d,hd,_,b=>fun w hw=>by
  refine⟨b w hw,?_⟩;simp[fj,dj];exact Md.refl _
 |x::L,d,hd,g,b=>fun w hw=>by
  have s:=g x (List.mem_cons_self ..);obtain⟨u,hu⟩:∃u:Nat,(u:Int)=x.1:=⟨x.1.toNat,by omega⟩;have k:u<n:=by omega
  have h:u≠v:=by omega
  have l:(gQ t v d x).length=n:=by rw[uW];exact hd
  have m:∀w:Nat,w<n->cS (rd (gQ t v d x) w):=by
   unfold gQ;rw[<-hd] at b⊢;have h1:=vd b v (wrap64 (rd d v-wrap64 (x.2*t))) (qC _);have o:=vd (d:=d.set v (wrap64 (rd d v-wrap64 (x.2*t)))) (by simpa using h1) x.1.toNat (wrap64 (rd (d.set v (wrap64 (rd d v-wrap64 (x.2*t)))) x.1+wrap64 (x.2*t))) (qC _);simpa using o
  obtain⟨i1,i2⟩:=ve t j L (gQ t v d x) l (fun y p=>g y (List.mem_cons_of_mem _ p)) m w hw;refine⟨i1,?_⟩;show Md (rd (fj t v (gQ t v d x) L) w) _
  have z:Md (rd (gQ t v d x) w) (rd d w-t*(if w=v then x.2 else 0)+t*(if u=w then x.2 else 0)):=by
   unfold gQ;rw[<-hu,aq];have q:rd (d.set v (wrap64 (rd d v-wrap64 (x.2*t)))) (u:Int)=rd d u:=ie _ _ _ _ (fun e=>h e.symm);have i:Md (wrap64 (x.2*t)) (t*x.2):=by rw[Int.mul_comm];exact(Md.refl _).wrap
   rw[q];by_cases a:u=w
   ·subst a
    rw[kc _ _ _ (by simpa [hd] using k),if_neg h,if_pos rfl,Int.mul_zero,Int.sub_zero];exact((Md.refl _).add i).wrap
   ·rw[ie _ _ _ _ a,if_neg a,Int.mul_zero,Int.add_zero]
    by_cases ev:w=v
    ·subst ev
     rw[kc _ _ _ (by simpa [hd] using hw),if_pos rfl];exact((Md.refl _).sub i).wrap
    ·rw[ie _ _ _ _ (fun e=>ev e.symm),if_neg ev,Int.mul_zero,Int.sub_zero]
     exact Md.refl _
  have r:rd d w-t*(if w=v then dj (fun _=>1) (x::L) else 0)+t*dj (fun u=>if u=w then 1 else 0) (x::L)=(rd d w-t*(if w=v then x.2 else 0)+t*(if u=w then x.2 else 0))-t*(if w=v then dj (fun _=>1) L else 0)+t*dj (fun u=>if u=w then 1 else 0) L:=by
   simp only[dj,<-hu,aq];by_cases ev:w=v
   ·simp only[if_pos ev]
    by_cases a:u=w
    ·simp only[if_pos a,Int.mul_one,Int.mul_add];omega
    ·simp only[if_neg a,Int.mul_one,Int.mul_zero,Int.mul_add];omega
   ·simp only[if_neg ev]
    by_cases a:u=w
    ·simp only[if_pos a,Int.mul_one,Int.mul_add,Int.mul_zero];omega
    ·simp only[if_neg a,Int.mul_zero,Int.mul_add];omega
  rw[r];unfold Md at*;omega
theorem Dn {n:Nat} {E:List S83} (h:a7 n E) (t:Int) {v:Nat} (b:v<n) (d:List Int) (hd:d.length=n) (g:∀w:Nat,w<n->cS (rd d w)):∀w:Nat,w<n->
  cS (rd (fj t v d (bU E v E.length)) w)/\Md (rd (fj t v d (bU E v E.length)) w) (rd d w-t*T.aI n (ae E) (T.one v) w):=by
 intro w hw;obtain⟨h1,a⟩:=ve t b (bU E v E.length) d hd (fun x i=>by have:=nS h _ (aM _) x i;omega) g w hw;refine⟨h1,?_⟩;rw[nR h _ b,nR h _ b] at a;have j:T.sN (fun u=>ae E v u*1) n=T.val n (ae E) v:=T.bm fun u _=>Int.mul_one _
 have e2:T.sN (fun u=>ae E v u*(if u=w then 1 else 0)) n=ae E v w:=by
  rw[T.gY hw (fun u _ hu=>by rw[if_neg hu,Int.mul_zero]),if_pos rfl,Int.mul_one]
 rw[j,e2] at a;by_cases e:w=v
 ·subst e
  rw[T.tE h.wt hw];rw[if_pos rfl,h.wt.self,Int.mul_zero,Int.add_zero] at a;exact a
 ·rw[T.tF b e,h.wt.sym w v,Int.mul_neg]
  rw[if_neg e,Int.mul_zero,Int.sub_zero] at a;rw[show rd d w- -(t*ae E v w)=rd d w+t*ae E v w by omega];exact a
theorem vf {n:Nat} {E:List S83} (h:a7 n E) (In:Nat->Bool) (t:Int) (d s:List Int) (hd:d.length=n) (g:s.length=n) (i:∀w:Nat,w<n->cS (rd d w)) (j:∀w:Nat,w<n->cS (rd s w)):∀k,k<=n->∀w:Nat,w<n->
  (cS (rd (a_ E In t k (d,s)).1 w)/\Md (rd (a_ E In t k (d,s)).1 w) (rd d w-t*T.aI n (ae E) (T.ind fun v=>In v&&decide (v<k)) w))/\(cS (rd (a_ E In t k (d,s)).2 w)/\Md (rd (a_ E In t k (d,s)).2 w) (rd s w+t*T.ind (fun v=>In v&&decide (v<k)) w))
 |0,_=>fun w hw=>by
  have e:T.ind (fun v=>In v&&decide (v<0))=fun _=>0:=by funext v;simp[T.ind]
  rw[e,T.jl,Int.mul_zero,Int.sub_zero,Int.add_zero];exact⟨⟨i w hw,Md.refl _⟩,j w hw,Md.refl _⟩
 |k+1,hk=>fun w hw=>by
  have l:k<n:=by omega
  have a:=vf h In t d s hd g i j k (by omega);obtain⟨m,o⟩:=ma E In t (d,s) k;simp only at m o;unfold a_;cases hIn:In k with
  |false=>
   rw[if_neg (by decide)];have e:∀u,(In u&&decide (u<k+1))=(In u&&decide (u<k)):=fun u=>by
    by_cases e:u=k
    ·subst e;rw[hIn];rfl
    ·rw[show decide (u<k+1)=decide (u<k) by congr 1;exact propext (by omega)]
   rw[show (fun v=>In v&&decide (v<k+1))=(fun v=>In v&&decide (v<k)) from funext e];exact a w hw
  |true=>
   rw[if_pos rfl];have e:∀u,T.ind (fun v=>In v&&decide (v<k+1)) u=T.ind (fun v=>In v&&decide (v<k)) u+T.one k u:=fun u=>by
    unfold T.ind T.one;show (if(In u&&decide (u<k+1))=true then(1:Int) else 0)=(if(In u&&decide (u<k))=true then 1 else 0)+if u=k then 1 else 0
    by_cases e:u=k
    ·subst e;simp[hIn]
    ·rw[show decide (u<k+1)=decide (u<k) by congr 1;exact propext (by omega),if_neg e];omega
   have e2:T.aI n (ae E) (T.ind fun v=>In v&&decide (v<k+1)) w=T.aI n (ae E) (T.ind fun v=>In v&&decide (v<k)) w+T.aI n (ae E) (T.one k) w:=by
    rw[<-T.jX];exact T.kU (fun u _=>e u) hw
   rw[e2,e w];obtain⟨p,j2⟩:=Dn h t l (a_ E In t k (d,s)).1 (by rw[m];exact hd) (fun w hw=>(a w hw).1.1) w hw;refine⟨⟨p,?_⟩,?_⟩
   ·have r:=(a w hw).1.2
    rw[Int.mul_add];show Md (rd (fj t k (a_ E In t k (d,s)).1 (bU E k E.length)) w) _
    unfold Md at*;omega
   ·have q:k<(a_ E In t k (d,s)).2.length:=by rw[o,g];exact l
    by_cases b:k=w
    ·subst b
     rw[kc _ _ _ q];refine⟨qC _,?_⟩;have:=(a k hw).2.2;rw[Int.mul_add,show T.one k k=1 by simp[T.one],Int.mul_one];refine Md.wrap ?_;unfold Md at*;omega
    ·rw[ie _ _ _ _ b,show T.one k w=0 by unfold T.one;rw[if_neg (fun e=>b e.symm)],Int.add_zero]
     exact(a w hw).2
theorem vg {n:Nat} {E:List S83} (h:a7 n E) (In:Nat->Bool) (t:Int) (d s:List Int) (hd:d.length=n) (g:s.length=n) (i:∀w:Nat,w<n->cS (rd d w)) (j:∀w:Nat,w<n->cS (rd s w)) {w:Nat} (hw:w<n):
  (cS (rd d w-t*T.aI n (ae E) (T.ind In) w)->rd (a_ E In t n (d,s)).1 w=rd d w-t*T.aI n (ae E) (T.ind In) w)/\(cS (rd s w+t*T.ind In w)->rd (a_ E In t n (d,s)).2 w=rd s w+t*T.ind In w):=by
 have e:∀u,u<n->T.ind (fun v=>In v&&decide (v<n)) u=T.ind In u:=fun u hu=>by
  unfold T.ind;simp[hu]
 obtain⟨⟨h1,a⟩,k,b⟩:=vf h In t d s hd g i j n (aM _) w hw;rw[T.kU e hw] at a;rw[e w hw] at b;exact⟨fun hi=>a.eq h1 hi,fun hi=>b.eq k hi⟩
theorem qD {f:Nat->Int} {n v:Nat} (b:v<n) {a:Int} (e:a<=0) (h:∀u,u<n->a<=f u):f v<=T.sN f n-n*a:=by
 have h1:=T.gZ (f:=fun u=>f u-a) b (fun u hu=>by have:=h u hu;show 0<=f u-a;omega);rw[T.ef f (fun _=>a) n,T.fT] at h1;have g:f v-a<=T.sN f n-n*a:=h1;omega
theorem mc {n:Nat} {t:Nat->Nat->Int} (e:T.Wt n t) (hn:n<=12) (l:T.sN (T.val n t) n<=19) {D dist d s:Nat->Int} (m:∀v,v<n-> -200<=D v/\D v<=200) {k:Int} (hk:0<=k) (o:k<=n) (h:T.eG n t D dist 200 k d s):∀v,v<n-> -102400<=d v/\d v<=1231200/\0<=s v/\s v<=1228800:=by
 have p:T.sN d n=T.sN D n:=by
  rw[T.bm (f:=d) (g:=fun v=>D v-T.aI n t s v) h.eq,T.ef,T.lW e];omega
 have q:=(T.l9 (f:=D) (n:=n) (B:=200) m).2;have i:∀v,v<n-> -102400<=d v:=fun v b=>by
  have h1:=h.low v b;have j:=T.qt e dist (B:=200) (by omega) l k;omega
 intro v b;have h1:=qD (f:=d) b (a:= -102400) (by omega) i;have j:=h.s0 v b;have r:((n:Int)-k)*(200*512)<=12*(200*512):=Int.mul_le_mul_of_nonneg_right (by omega) (by omega);exact⟨i v b,by omega,j.1,by omega⟩
theorem Dp {a x:Int} (b:1<=x):a<=(a+x-1)/x*x:=by
 have e:=Int.emod_lt_of_pos (a+x-1) (show 0<x by omega);have g:=Int.mul_ediv_add_emod (a+x-1) x;rw[Int.mul_comm];omega
theorem Dq {a x:Int} (b:1<=a) (e:1<=x):(a+x-1)/x<=a:=by
 refine Int.ediv_le_of_le_mul (by omega) ?_;have:=Int.mul_le_mul_of_nonneg_right (show (1:Int)<=a by omega) (show (0:Int)<=x-1 by omega);rw[show a*x=a*(x-1)+a by rw[Int.mul_sub];omega];omega
theorem Dr {n:Nat} {E:List S83} (a:a7 n E) (hn:n<=12) (b:T.sN (T.val n (ae E)) n<=19) {D dist:Nat->Int} (e:∀v,v<n-> -200<=D v/\D v<=200) (g:∀u v:Nat,u<n->v<n->0<ae E u v->dist v<=dist u+1) {k:Int} (hk:1<=k) (q:k<=n) {d s:List Int} (r:d.length=n) (y:s.length=n)
  (h:T.eG n (ae E) D dist 200 k (fun v=>rd d (v:Nat)) (fun v=>rd s (v:Nat))) {x:Int} (i:0<=x) (j:x<=T.eS n (ae E) dist 200 k) (l:∀v:Nat,v<n->dist v=k->rd d v<0-> -rd d v<=x*T.sN (fun u=>if T.bh dist k u=true then ae E v u else 0) n):
  T.eG n (ae E) D dist 200 (k-1) (fun v=>rd (a_ E (T.bh dist k) x n (d,s)).1 (v:Nat)) (fun v=>rd (a_ E (T.bh dist k) x n (d,s)).2 (v:Nat))/\
  ∀v:Nat,v<n-> -2097152<=rd (a_ E (T.bh dist k) x n (d,s)).1 v/\rd (a_ E (T.bh dist k) x n (d,s)).1 v<=2097152/\ -2097152<=rd (a_ E (T.bh dist k) x n (d,s)).2 v/\rd (a_ E (T.bh dist k) x n (d,s)).2 v<=2097152:=by
 have hb:=mc a.wt hn b e (by omega) q h;have h1:=T.eG.step a.wt (by omega) b g h i j l (d':=fun v=>rd d (v:Nat)-x*T.aI n (ae E) (T.ind (T.bh dist k)) v) (s':=fun v=>rd s (v:Nat)+x*T.ind (T.bh dist k) v) (fun _ _=>rfl) (fun _ _=>rfl);have m:=mc a.wt hn b e (show 0<=k-1 by omega) (by omega) h1;have o:=fun (w:Nat) (hw:w<n)=>vg a (T.bh dist k) x d s r y (fun w hw=>by have:=hb w hw;unfold cS;omega) (fun w hw=>by have:=hb w hw;unfold cS;omega) hw
 have z:∀w:Nat,w<n->rd (a_ E (T.bh dist k) x n (d,s)).1 w=rd d w-x*T.aI n (ae E) (T.ind (T.bh dist k)) w:=fun w hw=>(o w hw).1 (by have:=m w hw;unfold cS;omega)
 have e2:∀w:Nat,w<n->rd (a_ E (T.bh dist k) x n (d,s)).2 w=rd s w+x*T.ind (T.bh dist k) w:=fun w hw=>(o w hw).2 (by have:=m w hw;unfold cS;omega)
 have p:=T.eG.step a.wt (by omega) b g h i j l (d':=fun v=>rd (a_ E (T.bh dist k) x n (d,s)).1 (v:Nat)) (s':=fun v=>rd (a_ E (T.bh dist k) x n (d,s)).2 (v:Nat)) z e2;refine⟨p,fun v B=>?_⟩;have:=mc a.wt hn b e (show 0<=k-1 by omega) (by omega) p v B;omega
theorem Dt {n:Nat} {E:List S83} (a:a7 n E) (b:T.sN (T.val n (ae E)) n<=19) {D dist:Nat->Int} (e:∀u v:Nat,u<n->v<n->0<ae E u v->dist v<=dist u+1) {k:Int} {d s:List Int}
  (h:T.eG n (ae E) D dist 200 k (fun v=>rd d (v:Nat)) (fun v=>rd s (v:Nat))) (g:∀v:Nat,v<n->dist v=k->rd d v<0-> -rd d v<=0*T.sN (fun u=>if T.bh dist k u=true then ae E v u else 0) n):
  T.eG n (ae E) D dist 200 (k-1) (fun v=>rd d (v:Nat)) (fun v=>rd s (v:Nat)):=by
 refine T.eG.step a.wt (by omega) b e h (T:=0) (by omega) ?_ g (fun v _=>by rw[Int.zero_mul,Int.sub_zero]) (fun v _=>by rw[Int.zero_mul,Int.add_zero]);have:=T.nM (n:=n) (t:=ae E) dist (show (0:Int)<=200 by omega) k;omega
theorem Du {n:Nat} {t:Nat->Nat->Int} (a:T.Wt n t) {out:List Int} {k:Int} {v u:Nat} (hu:u<n) (h1:0<t v u) (g:rd out (u:Int)+1=rd out (v:Int)) (hk:rd out (v:Int)=k):1<=T.sN (fun u=>if T.bh (fun v=>rd out (v:Nat)) k u=true then t v u else 0) n:=by
 have b:=T.gZ (f:=fun u=>if T.bh (fun v=>rd out (v:Nat)) k u=true then t v u else 0) hu (fun w _=>by
  show 0<=(if T.bh (fun v=>rd out (v:Nat)) k w=true then t v w else 0)
  have:=a.pos v w;split<;>omega)
 have e:T.bh (fun v=>rd out (v:Nat)) k u=true:=by exact aA (show rd out (u:Int)<k by omega)
 simp only[e,if_true] at b;omega
theorem vh (n:Nat) (t:Nat->Nat->Int) (q:Nat) (d:List Int):ba n t q d q=true:=p9 _ (by simp[bT])
theorem Dv (n:Nat) (t:Nat->Nat->Int) (q:Nat) (d:List Int) {v:Nat} (a:v<n):bM n t d (ba n t q d) v=false:=
 qa (n:=n) (c:=bM n t d) (fun b v h=>lM b v h) (dn n (bT q)) (bT q) (aM _) v a
theorem vi {n:Nat} {t:Nat->Nat->Int} {q:Nat} {d:List Int} {v:Nat} (a:v<n) (h:ba n t q d v=false):T.sN (fun u=>if ba n t q d u=true then t v u else 0) n<=rd d v:=by
 have h1:=Dv n t q d a;unfold bM at h1;rw[h,mb] at h1;simp at h1;exact h1
theorem Dw {n:Nat} {t:Nat->Nat->Int} (e:T.Wt n t) {q:Nat} {d:List Int} (h:((List.range n).any fun v=> !ba n t q d v)=false):T.gJ n t q (fun v=>rd d (v:Nat)):=by
 have h1:bJ n t q d=true:=by
  unfold bJ;rw[List.all_eq_true];intro v a;rw[List.any_eq_false] at h;have:=h v a;show ba n t q d v=true
  simpa using this
 have g:=(jr (fun i j=>e.pos i j) q d).1 h1;intro S hS k;obtain⟨v,a,l,b⟩:=g S hS k;refine⟨v,a,l,?_⟩;rw[mb] at b;refine Int.lt_of_lt_of_le b (T.cK fun u _=>?_);show (if(!S u)=true then t v u else 0)<=(if S u=false then t v u else 0)
 cases S u<;>simp
theorem Dx {n:Nat} {t:Nat->Nat->Int} (g:T.dP n t) (e:T.Wt n t) {q:Nat} (i:q<n) {d:List Int} (h:((List.range n).any fun v=> !ba n t q d v)=true):∃v,v<n/\ba n t q d v=false/\0<T.sN (fun u=>if ba n t q d u=true then t v u else 0) n:=by
 obtain⟨v,j,hb⟩:=List.any_eq_true.1 h;obtain⟨a,b,k,l,h1,m,p⟩:=g (ba n t q d) ⟨q,i,vh n t q d⟩ ⟨v,List.mem_range.1 j,by simpa using hb⟩;refine⟨b,l,m,?_⟩;have o:=T.gZ (f:=fun u=>if ba n t q d u=true then t b u else 0) k (fun w _=>by
  show 0<=(if ba n t q d w=true then t b w else 0)
  have:=e.pos b w;split<;>omega)
 have r:=e.sym a b;simp only[h1,if_true] at o;omega
structure ig (n q:Nat) (t:Nat->Nat->Int) (D:Nat->Int) (d s:List Int):Prop where
 dl:d.length=n
 sl:s.length=n
 eq:∀v:Nat,v<n->rd d v=D v-T.aI n t (fun u=>rd s (u:Nat)) v
 jv:∀v:Nat,v<n->v≠q->0<=rd d v
 low: -102400<=rd d q
 s0:∀v:Nat,v<n->0<=rd s v
 sq:rd s q<=1228800
structure ec (n q:Nat) (t:Nat->Nat->Int) (D c σ:Nat->Int):Prop where
 red:T.fG n t q c
 eq:∀v,v<n->c v=D v-T.aI n t σ v
 q0:σ q=0
theorem Dy {n q:Nat} {t:Nat->Nat->Int} (a:T.Wt n t) (b:T.dP n t) (e:q<n) (D:Nat->Int):∃c σ,ec n q t D c σ:=by
 obtain⟨c,⟨s,g⟩,i⟩:=T.tG a b e D;refine⟨c,fun u=>s u-s q,i,fun v j=>?_,by show s q-s q=0;omega⟩;have h:=T.kT n t s (fun _=>s q) v;rw[T.jl] at h;rw[h,g v j];omega
theorem ec.unique {n q:Nat} {t:Nat->Nat->Int} (l:T.Wt n t) (m:T.dP n t) (o:q<n) {D c σ k i:Nat->Int} (h:ec n q t D c σ) (j:ec n q t D k i):∀v,v<n->c v=k v/\σ v=i v:=by
 have e:T.bY n t c k:=⟨fun u=>i u-σ u,fun v g=>by rw[T.kT,h.eq v g,j.eq v g];omega⟩;have h1:=T.tH l m o h.red j.red e;have p:=T.CY l m o (s:=σ) (s':=i) (by rw[h.q0,j.q0]) (fun v g=>by
  have a:=h.eq v g;have b:=j.eq v g;have c:=h1 v g;omega)
 exact fun v g=>⟨(h1 v g).symm,p v g⟩
theorem qE {n:Nat} {t:Nat->Nat->Int} (a:T.Wt n t) {v:Nat} (b:v<n):T.val n t v<=T.sN (T.val n t) n:=T.gZ b (fun u _=>T.dE fun w _=>a.pos u w)
theorem ec.bound {n q:Nat} {t:Nat->Nat->Int} (j:T.Wt n t) (r:T.dP n t) (o:q<n) (hn:n<=12) (l:T.sN (T.val n t) n<=19) {D c σ:Nat->Int} (p:∀v,v<n-> -200<=D v/\D v<=200) (h:ec n q t D c σ):∀v,v<n-> -31536<=σ v/\σ v<=31536/\ -3000<=c v/\c v<=3000/\(v≠q->0<=c v/\c v<19):=by
 have h1:=T.CZ j r o h.red h.eq h.q0 (B:=200) (V:=19) (by omega) (by omega) p (fun v i=>Int.le_trans (qE j i) l);have m:∀v,v<n->v≠q->0<=c v/\c v<=19:=fun v i k=>by
  have a:=h.red.1 v i k;have b:=T.nL j h.red.2 i k;have:=Int.le_trans (qE j i) l;omega
 have s:∀v,v<n->v≠q->0<=c v/\c v<19:=fun v i k=>by
  have a:=h.red.1 v i k;have b:=T.nL j h.red.2 i k;have:=Int.le_trans (qE j i) l;omega
 have u:=T.uQ (f:=c) o (a:=0) (b:=19) (by omega) (by omega) m;have w:T.sN c n=T.sN D n:=by
  rw[T.bm (f:=c) (g:=fun v=>D v-T.aI n t σ v) h.eq,T.ef,T.lW j];omega
 have x:=T.l9 (f:=D) (n:=n) (B:=200) p;have y:(n:Int)*(n*(200+19))<=31536:=by
  have a:(n:Int)*(200+19)<=12*(200+19):=Int.mul_le_mul_of_nonneg_right (by omega) (by omega);have b:=Int.mul_le_mul_of_nonneg_left a (show (0:Int)<=n by omega);have c:(n:Int)*(12*(200+19))<=12*(12*(200+19)):=Int.mul_le_mul_of_nonneg_right (by omega) (by omega);omega
 intro v i;have a:=h1 v i;refine⟨by omega,by omega,?_,?_,fun k=>s v i k⟩
 ·by_cases e:v=q
  ·subst e;omega
  ·have:=m v i e;omega
 ·by_cases e:v=q
  ·subst e;omega
  ·have:=m v i e;omega
theorem ig.bounds {n q:Nat} {t:Nat->Nat->Int} (j:T.Wt n t) (k:T.dP n t) (l:q<n) (hn:n<=12) (p:T.sN (T.val n t) n<=19) {D c σ:Nat->Int} (m:∀v,v<n-> -200<=D v/\D v<=200) (i:ec n q t D c σ) {d s:List Int} (h:ig n q t D d s):
  ∀v:Nat,v<n-> -102400<=rd d v/\rd d v<=1231200/\0<=rd s v/\rd s v<=σ v+rd s q/\rd s v<=1260336:=by
 have o:∀v:Nat,v<n-> -102400<=rd d v:=fun v b=>by
  by_cases e:v=q
  ·subst e;exact h.low
  ·have:=h.jv v b e;omega
 have r:T.sN (fun v=>rd d (v:Nat)) n=T.sN D n:=by
  rw[T.bm (f:=fun v=>rd d (v:Nat)) (g:=fun v=>D v-T.aI n t (fun u=>rd s (u:Nat)) v) h.eq,T.ef,T.lW j];omega
 have w:=(T.l9 (f:=D) (n:=n) (B:=200) m).2;have hle:=T.qs j k l i.red i.eq i.q0 (d:=fun v=>rd d (v:Nat)) h.eq h.jv;intro v b;have h1:rd d v<=T.sN (fun v=>rd d (v:Nat)) n-n* -102400:=qD (f:=fun v=>rd d (v:Nat)) b (a:= -102400) (by omega) o;have x:rd s v<=σ v+rd s q:=hle v b;have y:=i.bound j k l hn p m v b;have z:=h.s0 v b;have C:=h.sq;have E:=o v b;omega
def iR (n q:Nat) (σ:Nat->Int) (s:List Int):Int:=T.sN (fun v=>σ v+rd s q-rd s v) n
theorem ig.step {n q:Nat} {E:List S83} (j:a7 n E) (C:T.dP n (ae E)) (i:q<n) (hn:n<=12) (K:T.sN (T.val n (ae E)) n<=19) {D c σ:Nat->Int} (F:∀v,v<n-> -200<=D v/\D v<=200) (k:ec n q (ae E) D c σ) {d s:List Int} (h:ig n q (ae E) D d s)
  (U:((List.range n).any fun v=> !ba n (ae E) q d v)=true) {x:Int} (Z:1<=x) (V:∀v:Nat,v<n->ba n (ae E) q d v=false->x*T.sN (fun u=>if ba n (ae E) q d u=true then ae E v u else 0) n<=rd d v):
  ig n q (ae E) D (a_ E (fun v=> !ba n (ae E) q d v) x n (d,s)).1 (a_ E (fun v=> !ba n (ae E) q d v) x n (d,s)).2/\
  (∀v:Nat,v<n-> -2097152<=rd (a_ E (fun v=> !ba n (ae E) q d v) x n (d,s)).1 v/\rd (a_ E (fun v=> !ba n (ae E) q d v) x n (d,s)).1 v<=2097152/\ -2097152<=rd (a_ E (fun v=> !ba n (ae E) q d v) x n (d,s)).2 v/\rd (a_ E (fun v=> !ba n (ae E) q d v) x n (d,s)).2 v<=2097152)/\
  0<=iR n q σ (a_ E (fun v=> !ba n (ae E) q d v) x n (d,s)).2/\iR n q σ (a_ E (fun v=> !ba n (ae E) q d v) x n (d,s)).2<iR n q σ s:=by
 obtain⟨L,l⟩:∃L:Nat->Bool,L=fun v=> !ba n (ae E) q d v:=⟨_,rfl⟩
 have M:L q=false:=by rw[l];simp[vh]
 have G:=T.C1 j.wt (L:=L) (d:=fun v=>rd d (v:Nat)) (T:=x) (by omega) (fun v b N=>by
  have h1:=V v b (by rw[l] at N;simpa using N);rw[T.bm (f:=fun u=>if L u=false then ae E v u else 0) (g:=fun u=>if ba n (ae E) q d u=true then ae E v u else 0) (fun u _=>by
   have e:L u= !ba n (ae E) q d u:=by rw[l]
   rw[e];cases ba n (ae E) q d u<;>simp)]
  exact h1)
 rw[<-l];have hb:=h.bounds j.wt C i hn K F k;have H:∀v:Nat,v<n->v≠q->0<=rd d v-x*T.aI n (ae E) (T.ind L) v:=fun v b I=>by
  cases m:L v with
  |true=>exact(G v b).1 m
  |false=>have h1:=(G v b).2 m;have o:=h.jv v b I;omega
 have O: -102400<=rd d q-x*T.aI n (ae E) (T.ind L) q:=by
  have h1:=(G q i).2 M;have o:=h.low;omega
 have J:∀v:Nat,v<n-> -102400<=rd d v-x*T.aI n (ae E) (T.ind L) v:=fun v b=>by
  by_cases e:v=q
  ·subst e;exact O
  ·have:=H v b e;omega
 have heq:∀v:Nat,v<n->rd d v-x*T.aI n (ae E) (T.ind L) v=D v-T.aI n (ae E) (fun u=>rd s (u:Nat)+x*T.ind L u) v:=fun v b=>by
  rw[T.jX,T.tA,h.eq v b];omega
 have W:T.sN (fun v=>rd d (v:Nat)-x*T.aI n (ae E) (T.ind L) v) n=T.sN D n:=by
  rw[T.bm heq,T.ef,T.lW j.wt];omega
 have aa:=(T.l9 (f:=D) (n:=n) (B:=200) F).2;have P:∀v:Nat,v<n->rd d v-x*T.aI n (ae E) (T.ind L) v<=1231200:=fun v b=>by
  have h1:rd d v-x*T.aI n (ae E) (T.ind L) v<=T.sN (fun v=>rd d (v:Nat)-x*T.aI n (ae E) (T.ind L) v) n-n* -102400:=qD (f:=fun v=>rd d (v:Nat)-x*T.aI n (ae E) (T.ind L) v) b (a:= -102400) (by omega) J;rw[W] at h1;omega
 have hle:=T.qs j.wt C i k.red k.eq k.q0 (d:=fun v=>rd d (v:Nat)-x*T.aI n (ae E) (T.ind L) v) (s:=fun u=>rd s (u:Nat)+x*T.ind L u) heq H;have p:T.ind L q=0:=by unfold T.ind;rw[M];rfl
 have X:∀v,0<=T.ind L v/\T.ind L v<=1:=fun v=>by unfold T.ind;split<;>omega
 have Q:∀v,0<=x*T.ind L v:=fun v=>Int.mul_nonneg (by omega) (X v).1
 have y:∀v:Nat,v<n->0<=rd s v+x*T.ind L v/\rd s v+x*T.ind L v<=σ v+rd s q/\rd s v+x*T.ind L v<=1260336:=fun v b=>by
  have h1:rd s (v:Nat)+x*T.ind L v<=σ v+(rd s (q:Nat)+x*T.ind L q):=hle v b;rw[p,Int.mul_zero,Int.add_zero] at h1;have o:=h.s0 v b;have R:=Q v;have h4:=k.bound j.wt C i hn K F v b;have h5:=h.sq;omega
 have S:=fun (w:Nat) (hw:w<n)=>vg j L x d s h.dl h.sl (fun w hw=>by have:=hb w hw;unfold cS;omega) (fun w hw=>by have:=hb w hw;unfold cS;omega) hw
 have z:∀w:Nat,w<n->rd (a_ E L x n (d,s)).1 w=rd d w-x*T.aI n (ae E) (T.ind L) w:=fun w hw=>(S w hw).1 (by have:=J w hw;have:=P w hw;unfold cS;omega)
 have e2:∀w:Nat,w<n->rd (a_ E L x n (d,s)).2 w=rd s w+x*T.ind L w:=fun w hw=>(S w hw).2 (by have:=y w hw;unfold cS;omega)
 obtain⟨l1,l2⟩:=ma E L x (d,s) n;refine⟨⟨l1.trans h.dl,l2.trans h.sl,fun v b=>?_,fun v b I=>by rw[z v b];exact H v b I,by rw[z q i];exact O,fun v b=>by rw[e2 v b];exact(y v b).1,by rw[e2 q i,p,Int.mul_zero,Int.add_zero];exact h.sq⟩,fun v b=>?_,?_,?_⟩
 ·rw[z v b,heq v b,T.kU (s:=fun u=>rd (a_ E L x n (d,s)).2 (u:Nat)) (r:=fun u=>rd s (u:Nat)+x*T.ind L u) (fun u hu=>e2 u hu) b]
 ·rw[z v b,e2 v b]
  have:=J v b;have:=P v b;have:=y v b;omega
 ·refine T.dE fun v b=>?_
  show 0<=σ v+rd (a_ E L x n (d,s)).2 q-rd (a_ E L x n (d,s)).2 v
  rw[e2 v b,e2 q i,p,Int.mul_zero,Int.add_zero];have:=(y v b).2.1;omega
 ·obtain⟨v,b,hb⟩:=List.any_eq_true.1 U
  have Y:=List.mem_range.1 b;have m:L v=true:=by rw[l];exact hb
  have h1:iR n q σ (a_ E L x n (d,s)).2=T.sN (fun v=>(σ v+rd s q-rd s v)-x*T.ind L v) n:=by
   refine T.bm fun v b=>?_
   show σ v+rd (a_ E L x n (d,s)).2 q-rd (a_ E L x n (d,s)).2 v=_
   rw[e2 v b,e2 q i,p,Int.mul_zero,Int.add_zero];omega
  rw[h1,T.ef];have o:=T.gZ (f:=fun v=>x*T.ind L v) Y (fun u _=>Q u);have R:T.ind L v=1:=by unfold T.ind;rw[m];rfl
  simp only[R,Int.mul_one] at o;show T.sN (fun v=>σ v+rd s q-rd s v) n-T.sN (fun v=>x*T.ind L v) n<T.sN (fun v=>σ v+rd s q-rd s v) n
  omega
def dZ (x:Int):Bool:=decide (-1048576<=x/\x<=1048576)
def kf (l:List Int) (n:Int):Int:=if n<1\/n>12 then 2 else if(l.length:Int)≠n then 8 else if l.all dZ=true then 0 else 2
theorem Dz (x:Int):gG.f x=some (dZ x):=by
 unfold gG.f dZ;by_cases h1:x>= -1048576
 ·by_cases a:x<=1048576
  ·simp[h1,a]
  ·simp[h1,a]
 ·simp[h1]
theorem DA {l:List Int} {i:Nat} (h:i<l.length):l.drop i=rd l i::l.drop (i+1):=by
 rw[List.drop_eq_getElem_cons h];simp[rd,aN,br h]
theorem vj (l:List Int) (a:l.length<=1000000):∀(m i:Nat),i+m=l.length->Ev (fun k=>cu.l0 k l l.length i) (if(l.drop i).all dZ=true then 0 else 2)
 |0,i,hi=>by
  refine Ev.of_succ ?_;simp only[cu.l0,if_neg (show ¬((i:Int)<(l.length:Int)) by omega)];rw[List.drop_eq_nil_of_le (by omega)];exact Ev.const _
 |m+1,i,hi=>by
  have b:=vj l a m (i+1) (by omega);refine Ev.of_succ ?_;simp only[cu.l0,if_pos (show (i:Int)<(l.length:Int) by omega),if_pos (show (0:Int)<=(i:Int) by omega),fh (show i<=1000000 by omega),Dz,Option.bind_some];rw[DA (show i<l.length by omega),List.all_cons];cases hb:dZ (rd l i) with
  |true=>simp only[if_true,Bool.true_and];exact b
  |false=>simp;exact Ev.const _
theorem nT (l:List Int) (n:Int) (b:l.length<=1000000):Ev (fun k=>cu.f k l n) (kf l n):=by
 unfold cu.f kf;have e:gV.f n=some (if n<1\/n>12 then 2 else 0):=by
  unfold gV.f;by_cases h1:n<1
  ·simp[h1]
  ·by_cases a:n>12
   ·simp[h1,a]
   ·simp[h1,a]
 rw[e];simp only[Option.bind_some];by_cases h:n<1\/n>12
 ·simp only[if_pos h];exact Ev.const _
 ·simp only[if_neg h,if_true]
  by_cases hn:(l.length:Int)=n
  ·rw[if_neg (by simpa using hn)]
   simp only[if_pos hn];have:=vj l b l.length 0 (by omega);simpa using this
  ·rw[if_pos hn]
   simp only[if_neg hn];exact Ev.const _
theorem vk {l:List Int} {n:Int}:kf l n=0↔1<=n/\n<=12/\(l.length:Int)=n/\∀v:Nat,v<l.length-> -1048576<=rd l v/\rd l v<=1048576:=by
 unfold kf;have g:l.all dZ=true↔∀v:Nat,v<l.length-> -1048576<=rd l v/\rd l v<=1048576:=by
  rw[List.all_eq_true];constructor
  ·intro h v a
   have:=h l[v] (List.getElem_mem a);rw[show rd l (v:Int)=l[v] by simp[rd,aN,br a]];simpa [dZ] using this
  ·intro h x i
   obtain⟨v,a,rfl⟩:=List.getElem_of_mem i;have:=h v a;rw[show rd l (v:Int)=l[v] by simp[rd,aN,br a]] at this;simpa [dZ] using this
 by_cases h:n<1\/n>12
 ·rw[if_pos h];constructor
  ·intro h;cases h
  ·intro b;omega
 ·rw[if_neg h]
  by_cases hn:(l.length:Int)=n
  ·rw[if_neg (by simpa using hn)]
   by_cases e:l.all dZ=true
   ·rw[if_pos e];exact⟨fun _=>⟨by omega,by omega,hn,g.1 e⟩,fun _=>rfl⟩
   ·rw[if_neg e];constructor
    ·intro h;cases h
    ·intro b;exact absurd (g.2 b.2.2.2) e
  ·rw[if_pos hn];constructor
   ·intro h;cases h
   ·intro b;exact absurd b.2.2.1 hn
theorem vm (A0:Option Addr) (c0 n:Nat) (l:List Int) (w:World) (m:Nat) (b:l.length=n) (h1:1<=n) (hn:n<=12) (hb:∀v:Nat,v<n-> -1048576<=rd l v/\rd l v<=1048576) (g:Kd.C (Kd.int .i64) (w.drewN m) A0 l.length l) (h:l.length<=c0):
  Calls Tryz.prog 87 #[.slice A0 n c0,.int .i64 n] (w.drewN m) fun e i=>e= .returned (.int .i64 0)/\∃a,i=w.drewN a:=by
 subst b;obtain⟨k,hk⟩:=(nT l l.length (by omega)).get;rw[vk.2 ⟨by omega,by omega,rfl,hb⟩] at hk;refine(cu.calls k A0 c0 l l.length 0 _ g h hk).mono ?_;rintro e w' ⟨rfl,⟨a,rfl⟩⟩;exact⟨rfl,m+a,by rw[World.drewN_drewN]⟩
theorem k7 {n:Nat} {t:Nat->Nat->Int} (k:T.Wt n t) {q:Nat} {d:List Int}:T.gJ n t q (fun v=>rd d (v:Nat))↔bJ n t q d=true:=by
 rw[jr (fun i j=>k.pos i j) q d];have key:∀(S:Nat->Bool) (v:Nat),cw t (fun u=> !S u) v n=T.sN (fun u=>if S u=false then t v u else 0) n:=fun S v=>by
  rw[mb];refine T.bm fun u _=>?_
  cases S u<;>simp
 constructor
 ·intro h S hS b
  obtain⟨v,e,g,a⟩:=h S hS b;exact⟨v,e,g,by rw[key];exact a⟩
 ·intro h S hS b
  obtain⟨v,e,g,a⟩:=h S hS b;exact⟨v,e,g,by rw[key] at a;exact a⟩
def bP (n:Nat) (E:List S83) (d s:List Int):List Int:=(List.range n).map fun v:Nat=>rd d v-T.aI n (ae E) (fun u=>rd s (u:Nat)) v
theorem nU (f:Nat->Int) {n v:Nat} (a:v<n):rd ((List.range n).map f) (v:Int)=f v:=by
 rw[jw,aN,List.getElem?_map,List.getElem?_range a];rfl
theorem vo (n:Nat) (E:List S83) (d s:List Int) {v:Nat} (a:v<n):rd (bP n E d s) v=rd d v-T.aI n (ae E) (fun u=>rd s (u:Nat)) v:=nU _ a
theorem qF (n:Nat) (E:List S83) (d s:List Int):(bP n E d s).length=n:=by simp[bP]
theorem vp {a b:List Int} {n:Nat} (e:a.length=n) (hb:b.length=n) (h:∀v:Nat,v<n->rd a v=rd b v):a=b:=by
 refine List.ext_getElem (by rw[e,hb]) fun i h1 g=>?_
 have:=h i (by omega);rw[jw,jw,aN,aN,br h1,br g] at this;exact this
def kg (n:Nat) (E:List S83) (q:Nat) (d s:List Int):Bool:=decide (s.length=n)&&decide (rd s q=0)&&((List.range n).all fun v=>decide (v=q)||decide (0<=rd (bP n E d s) v))&&bJ n (ae E) q (bP n E d s)
def boxes (r q:Nat):Nat->List (List Int)
 |0=>[[]]
 |v+1=>(boxes r q v).flatMap fun s=>if v=q then[s++[0]] else(List.range (2*r+1)).map fun i:Nat=>s++[(i:Int)-r]
theorem vq (r q:Nat) (σ:Nat->Int) (a:σ q=0):∀n,(∀v,v<n-> -(r:Int)<=σ v/\σ v<=r)->(List.range n).map σ∈boxes r q n
 |0,_=>by simp[boxes]
 |n+1,h=>by
  unfold boxes;rw[List.mem_flatMap];refine⟨_,vq r q σ a n (fun v b=>h v (by omega)),?_⟩;rw[show (List.range (n+1)).map σ=(List.range n).map σ++[σ n] by rw[List.range_succ,List.map_append];rfl];by_cases e:n=q
  ·rw[if_pos e,e,a];exact List.mem_singleton.2 rfl
  ·rw[if_neg e,List.mem_map]
   have:=h n (by omega);exact⟨(σ n+r).toNat,List.mem_range.2 (by omega),by congr 2;omega⟩
def vr (n:Nat) (E:List S83) (q:Nat) (d:List Int) (r:Nat):Option (List Int):=(boxes r q n).find? (kg n E q d)
def fX (n:Nat) (E:List S83) (q:Nat) (d:List Int):Nat->Option (List Int)
 |0=>none
 |k+1=>match fX n E q d k with
  |some s=>some s
  |none=>vr n E q d k
theorem DB (n:Nat) (E:List S83) (q:Nat) (d:List Int) (k:Nat):bl (fX n E q d k) (fX n E q d (k+1)):=fun r h=>by
 unfold fX;rw[h]
theorem qG {n:Nat} {E:List S83} {q:Nat} {d s:List Int}:∀{k:Nat},fX n E q d k=some s->kg n E q d s=true
 |0,h=>by cases h
 |k+1,h=>by
  unfold fX at h;cases h1:fX n E q d k with
  |some s'=>rw[h1] at h;injection h with h;subst h;exact qG h1
  |none=>rw[h1] at h;exact List.find?_some h
theorem DC {n:Nat} {E:List S83} {q:Nat} {d s:List Int} {r:Nat} (a:s∈boxes r q n) (b:kg n E q d s=true):∃s',fX n E q d (r+1)=some s':=by
 unfold fX;cases h1:fX n E q d r with
 |some s'=>exact⟨s',rfl⟩
 |none=>
  have:(vr n E q d r).isSome=true:=List.find?_isSome.2 ⟨s,a,b⟩;obtain⟨s',h⟩:=Option.isSome_iff_exists.1 this;exact⟨s',h⟩
theorem qH {n:Nat} {E:List S83} (b:a7 n E) {q:Nat} {d s:List Int}:kg n E q d s=true↔s.length=n/\ec n q (ae E) (fun v=>rd d (v:Nat)) (fun v=>rd (bP n E d s) (v:Nat)) (fun v=>rd s (v:Nat)):=by
 unfold kg;simp only[Bool.and_eq_true,decide_eq_true_eq,List.all_eq_true,List.mem_range,Bool.or_eq_true];constructor
 ·rintro⟨⟨⟨h1,g⟩,i⟩,j⟩
  exact⟨h1,⟨fun v a k=>(i v a).resolve_left k,(k7 b.wt).2 j⟩,fun v a=>vo n E d s a,g⟩
 ·rintro⟨h1,h⟩
  exact⟨⟨⟨h1,h.q0⟩,fun v a=>by by_cases e:v=q;exact .inl e;exact .inr (h.red.1 v a e)⟩,(k7 b.wt).1 h.red.2⟩
theorem DD {n q:Nat} {t:Nat->Nat->Int} {D c σ g b:Nat->Int} (h:ec n q t D c σ) (j:q<n) (e:∀v,v<n->g v=c v) (i:∀v,v<n->b v=σ v):ec n q t D g b:=by
 refine⟨⟨fun v a k=>by rw[e v a];exact h.red.1 v a k,fun S hS l=>?_⟩,fun v a=>?_,by rw[i q j];exact h.q0⟩
 ·obtain⟨v,a,h1,m⟩:=h.red.2 S hS l
  exact⟨v,a,h1,by rw[e v a];exact m⟩
 ·rw[e v a,h.eq v a,T.kU (s:=b) (r:=σ) i a]
theorem DE {n:Nat} {E:List S83} (b:a7 n E) (hC:eN n E) {q:Nat} (g:q<n) (d:List Int):∃s,Ev (fX n E q d) s/\s.length=n/\ec n q (ae E) (fun v=>rd d (v:Nat)) (fun v=>rd (bP n E d s) (v:Nat)) (fun v=>rd s (v:Nat)):=by
 obtain⟨c,σ,h⟩:=Dy b.wt (b.conn hC) g (fun v=>rd d (v:Nat));obtain⟨r,j⟩:∃r:Nat,∀v,v<n-> -(r:Int)<=σ v/\σ v<=r:=by
  refine⟨(T.sN (fun v=>((σ v).natAbs:Int)) n).toNat,fun v a=>?_⟩;have h1:=T.gZ (f:=fun v=>((σ v).natAbs:Int)) a (fun u _=>by show (0:Int)<=((σ u).natAbs:Int);omega);have e:((σ v).natAbs:Int)<=T.sN (fun v=>((σ v).natAbs:Int)) n:=h1;omega
 have i:∀v,v<n->rd ((List.range n).map σ) (v:Int)=σ v:=fun v a=>nU _ a
 have k:kg n E q d ((List.range n).map σ)=true:=(qH b).2 ⟨by simp,DD h g (fun v a=>by rw[vo n E d _ a,h.eq v a,T.kU (s:=fun u=>rd ((List.range n).map σ) (u:Nat)) (r:=σ) i a]) i⟩;obtain⟨s',h1⟩:=DC (vq r q σ h.q0 n j) k;have e:=(qH b).1 (qG h1);exact⟨s',Ev.at_ (DB n E q d) h1,e.1,e.2⟩
def jz (N:Int) (E:List S83) (q:Int) (d:List Int):Bool:=decide (1<=N/\N<=12/\0<=q/\q<N/\E.length<=1000/\cE N E=0/\partsOf E N.toNat=1/\T.sN (T.val N.toNat (ae E)) N.toNat<=19/\(d.length:Int)=N)&&d.all fun x=>decide (-200<=x/\x<=200)
structure ij (n q:Nat) (E:List S83) (d:List Int):Prop where
 n1:1<=n
 n12:n<=12
 q:q<n
 len:E.length<=1000
 right:a7 n E
 conn:eN n E
 val:T.sN (T.val n (ae E)) n<=19
 dl:d.length=n
 d:∀v:Nat,v<n-> -200<=rd d v/\rd d v<=200
theorem vt {d:List Int} {B:Int}:(d.all fun x=>decide (-B<=x/\x<=B))=true↔∀v:Nat,v<d.length-> -B<=rd d v/\rd d v<=B:=by
 rw[List.all_eq_true];have e:∀(v:Nat) (a:v<d.length),rd d (v:Int)=d[v]:=fun v a=>by simp[rd,aN,br a]
 constructor
 ·intro h v a
  rw[e v a];simpa using h d[v] (List.getElem_mem a)
 ·intro h x b
  obtain⟨v,a,rfl⟩:=List.getElem_of_mem b;have:=h v a;rw[e v a] at this;simpa using this
theorem DF {N:Int} {E:List S83} {q:Int} {d:List Int} (h:jz N E q d=true):∃n a:Nat,N=n/\q=a/\ij n a E d:=by
 unfold jz at h;rw[Bool.and_eq_true,decide_eq_true_eq] at h;obtain⟨⟨h1,m,i,o,j,k,b,e,p⟩,l⟩:=h;obtain⟨n,rfl⟩:=Int.eq_ofNat_of_zero_le (show 0<=N by omega);obtain⟨a,rfl⟩:=Int.eq_ofNat_of_zero_le i;simp only[aq] at b e;have g:=(iH k).2.2;refine⟨n,a,rfl,rfl,by omega,by omega,by omega,j,g,(iM (by omega) g).1 b,e,by omega,fun v r=>vt.1 l v (by omega)⟩
theorem ij.ok {n q:Nat} {E:List S83} {d:List Int} (h:ij n q E d) (a:cE n E=0):jz n E q d=true:=by
 unfold jz;rw[Bool.and_eq_true,decide_eq_true_eq];have:=h.n1;have:=h.n12;have:=h.q;have:=h.dl;exact⟨⟨by omega,by omega,by omega,by omega,h.len,a,by simpa using (iM (by omega) h.right).2 h.conn,by simpa using h.val,by omega⟩,vt.2 fun v b=>h.d v (by omega)⟩
section
attribute [local go_sem] Oper.semAt_some
theorem DG (g n:Nat) (A0:Option Addr) (c0:Nat) (E:List S83) (q:Int) (dv Q:Value) (R:Int) (v:Nat) (lb:Array Value) (B:Nat->Bool) (w:World) (aa:Kd.C aQ w A0 E.length E) (hE:dN n E) (hn:n<=1000) (hv:v<n) (i:fF w g n (.slice A0 E.length c0) q dv Q R)
  (hB:∀(W:World) (u:Int),Below w.heap.size w W->0<=u->u<n->Calls Tryz.prog 171 (#[.int .i64 u]++lb) W fun e w'=>e= .returned (.bool (B u.toNat))/\Below W.heap.size W w'):
  Calls Tryz.prog 168 #[.pointer (some ⟨g,0,none⟩),.int .i64 v,.func (.func 171) #[] lb] w fun e w'=>e= .returned (.int .i64 (dG B (bU E v E.length)))/\Below w.heap.size w w':=by
 have a9:=zA hB;have HE:=zA hE;have ak:=zA i;clear hB hE i;refine(callsIn_wide (n:=10)).1 ?_;refine callsIn_of_wp_marks Tryz.func168 rfl trivial ?_ rfl;simp only[Tryz.ntmps168,List.size_toArray,List.length_cons,List.length_nil,Nat.reduceAdd,Nat.reduceSub,Array.replicate_succ,Array.replicate_zero,List.push_toArray,List.append_toArray,List.nil_append,List.cons_append];gi_wp2_with (refine⟨trivial,?_⟩;gi_at_call 194;refine(callsIn_wide.2 (kQ g v _)).mono ?_;rintro e w3 ⟨rfl,rfl⟩)
 obtain⟨p,am⟩:∃o:Obj,o= .cells #[.func (.func 171) #[] lb] 121:=⟨_,rfl⟩;obtain⟨on,an⟩:∃o:Obj,o= .cells #[.int .i64 0] 3:=⟨_,rfl⟩;obtain⟨r,ao⟩:∃o:Obj,o= .cells #[.pointer (some ⟨g,0,none⟩)] 135:=⟨_,rfl⟩;obtain⟨y,ap⟩:∃o:Obj,o= .cells #[.int .i64 v] 3:=⟨_,rfl⟩;have Z0:=aU w p;have S:=aU (w.alloc p) on;have T:=aU ((w.alloc p).alloc on) r;have U:=aU (((w.alloc p).alloc on).alloc r) y;simp only[World.size_alloc] at S T U;have H0:=zA ((aj (aj (aj Z0 on) r) y).trans (by rw[am]:_=some (.cells #[.func (.func 171) #[] lb] 121 (0,0))));have H1:=zA ((aj (aj S r) y).trans (by rw[an]:_=some (.cells #[.int .i64 0] 3 (0,0))));have H2:=zA ((aj T y).trans (by rw[ao]:_=some (.cells #[.pointer (some ⟨g,0,none⟩)] 135 (0,0))));have H3:=zA (U.trans (by rw[ap]:_=some (.cells #[.int .i64 v] 3 (0,0))));have z:=zA (af (af (af (af (ai w.heap.size w) p) on) r) y);have aO:Aside0 (fF ((((w.alloc p).alloc on).alloc r).alloc y) g n (.slice A0 E.length c0) q dv Q R):=⟨au ak.out z.out⟩;have bn:g<w.heap.size:=ay ak.out;have bd:=zA (Kd.al aa z.out);clear Z0 S T U;subst am an ao ap;have be:=z.out.size;have bf:((((w.alloc (.cells #[.func (.func 171) #[] lb] 121)).alloc (.cells #[.int .i64 0] 3)).alloc (.cells #[.pointer (some ⟨g,0,none⟩)] 135)).alloc (.cells #[.int .i64 v] 3)).heap.size=w.heap.size+4:=by simp
 generalize ((((w.alloc (.cells #[.func (.func 171) #[] lb] 121)).alloc (.cells #[.int .i64 0] 3)).alloc (.cells #[.pointer (some ⟨g,0,none⟩)] 135)).alloc (.cells #[.int .i64 v] 3))=j at H0 H1 H2 H3 z aO bd be bf⊢;refine fR (σ:=Unit) (α:=Int×Int) (F:=Fence.wide) (n:=10) rfl (by decide) (gf:=207) (lb:=#[.pointer (some ⟨w.heap.size+1+1,0,none⟩),.pointer (some ⟨w.heap.size+1+1+1,0,none⟩)]) rfl trivial (enters_of Tryz.func207 (by kernel_rfl) rfl)
  (fun o=>nc (w.heap.size+1+1) (w.heap.size+1+1+1) g n A0 c0 E q dv Q R v w _ aa HE.out hn hv (af (af z.out _) _) (aj (aj H2.out _) _) (aj (aj H3.out _) _) (aj (aj aO.out _) _)) (fun _=>rfl)
  (fun _=>True) ?dT ?st ?ar
  (fun _ pre W=>j.heap.size<=W.heap.size/\W.heap[w.heap.size]? =some (.cells #[.func (.func 171) #[] lb] 121 (0,0))/\W.heap[w.heap.size+1]? =some (.cells #[.int .i64 (dG B pre)] 3 (0,0))/\Below w.heap.size w W) (fun _ _ _ _=>False)
  ?is (fun _ _ _ _ _ _ h _=>h) ?ib (fun _ _ _ _ _ h _=>h) ?kt ?h0 ?a1 ?assign ?body ?done (fun _ _ _ _ _ _ _ h=>h.elim)
 case assign=>
  intro l x W K hK;gi_wp2;exact hK
 case dT=>
  intro o s W1 h;exact⟨trivial,by rw[h];exact bI.refl _ _⟩
 case st=>intro s A B _ h;exact cQ h
 case ar=>intro s x A B _ h;exact cQ h.2
 case is=>
  rintro s pre A B _ ⟨H,h1,V,X⟩ i;exact⟨Nat.le_trans H i.size,au h1 i,au V i,aC X i⟩
 case ib=>
  rintro s pre A B ⟨H,h1,V,X⟩ hb;exact⟨by rw[hb.size];exact H,hb.cells h1,hb.cells V,X.trans (hb.below w.heap.size (by omega))⟩
 case kt=>
  intro s A B C D N aP aS;refine⟨fun aG=>((N.below w.heap.size (by omega)).trans (aP.1 (by rw[N.size];exact aG))).trans (aS.below w.heap.size (by omega)),fun k hk I=>?_⟩;have a0:k≠j.heap.size+1:=by rcases hk with rfl|rfl|rfl<;>omega
  exact(aS.heap k a0).trans ((aP.2 k hk (by rw[N.size];exact I)).trans (N.heap k a0))
 case h0=>
  rintro o s W1 rfl;exact⟨by simp;omega,aj (aj H0.out _) _,aj (aj H1.out _) _,af (af z.out _) _⟩
 case body=>
  rintro l s pre ⟨u,m⟩ Wb W1 W _ ⟨H,i1,i2,i3⟩ ⟨Y,J⟩ bi b;have b1:=zA (b.cells (au i1 J));have L:=zA (b.cells (au i2 J));have b3:=zA ((aC i3 J).trans (b.below w.heap.size (by omega)));have bq:j.heap.size<=W.heap.size:=by have:=b.size;have:=J.size;omega
  clear i1 i2 i3 J b bi;simp only at Y;have bv:W.cell? ⟨w.heap.size,0,none⟩=some (.func (.func 171) #[] lb):=(ah b1.out 0).trans rfl;have O:=zA (a9.out W u b3.out Y.1 Y.2.1);have M:=zA (qw B pre (u,m));generalize dG B pre=s0 at L M;cases P:B u.toNat with
  |true=>
   rw[P] at O M;clear P;gi_wp2_with (refine⟨trivial,?_⟩;gi_at_call 171;refine(callsIn_wide.2 O.out).mono ?_;rintro e w5 ⟨rfl,G⟩;have a:=zA G;have Z:=zA (au L.out G);have c5:w5.cell? ⟨w.heap.size+1,0,none⟩=some (.int .i64 s0):=(ah Z.out 0).trans rfl;have f5:=bc Z.out 0;clear G)
   have aG:=a.out.size;refine⟨(cQ a.out).trans (eu _ _ (by show w.heap.size+1<j.heap.size;omega)),⟨fun aG=>Below.setCell (a.out.mono aG) (by show w.heap.size<=w.heap.size+1;omega) _,fun k hk I=>?_⟩,by simp;omega,?_,?_,Below.setCell (aC b3.out a.out) (by show w.heap.size<=w.heap.size+1;omega) _⟩
   ·rw[Below.heap_setCell _ _ _ _ (by rcases hk with rfl|rfl|rfl<;>(show _≠w.heap.size+1)<;>omega)]
    exact a.out.block k I
   ·rw[Below.heap_setCell _ _ _ _ (by show w.heap.size≠w.heap.size+1;omega)]
    exact au b1.out a.out
   ·have h:=bB Z.out 0 (.int .i64 (wrap64 (s0+m)))
    rw[M.out];simpa using h
  |false=>
   rw[P] at O M;clear P;gi_wp2_with (refine⟨trivial,?_⟩;gi_at_call 171;refine(callsIn_wide.2 O.out).mono ?_;rintro e w5 ⟨rfl,G⟩;have a:=zA G;clear G)
   have aG:=a.out.size;exact⟨cQ a.out,⟨fun aG=>a.out.mono aG,fun k hk I=>a.out.block k I⟩,by omega,au b1.out a.out,by rw[M.out];exact au L.out a.out,aC b3.out a.out⟩
 case done=>
  rintro s xs W W' _ rfl ⟨H,i1,i2,i3⟩ b a3;have L:=zA (b.cells i2);have b3:=zA (i3.trans (b.below w.heap.size (by omega)));have a4:=zA a3;clear i1 i2 i3 a3;have hc:W'.cell? ⟨w.heap.size+1,0,none⟩=some (.int .i64 (dG B (bU E v E.length))):=(ah L.out 0).trans rfl;gi_wp2_with fail
  have bk:Bk j.heap.size W' (W'.putObj j.heap.size (.deferred none)):=⟨_,_,a4.out,rfl,rfl⟩;exact iB (D:=j.heap.size) rfl a4.out (results_tmp rfl _ _ _) ⟨rfl,b3.out.trans (bk.below w.heap.size (by omega))⟩
end
end Go.Proofs.YtffdiakgjakngaaGreat.P


namespace Go.Proofs.YtffdiakgjakngaaGreat.P
open Go.RowKit Go.Proofs.YtffdiakgjakngaaGreatW.PrintWords Go.Proofs.YtffdiakgjakngaaGreatW.PrintLast Go.Proofs.YtffdiakgjakngaaGreatW.PrintMore
set_option linter.unusedVariables false
set_option linter.unusedSimpArgs false
set_option maxHeartbeats 8000000
set_option maxRecDepth 100000
section
attribute [local go_sem] Oper.semAt_some
theorem DH (gb a cr n:Nat) (B:Nat->Bool) (ok:Nat->Prop) (base:Nat) (W:World) (u:Int) (hb:W.heap[gb]? =some (.cells #[.slice (some ⟨a,0,none⟩) n cr] 43 (0,0))) (g:Kd.bool.R 4 W base ok (.slice (some ⟨a,0,none⟩) n cr) ((List.range n).map fun v=> !B v)) (h:0<=u) (hn:u<n):
  Calls Tryz.prog 171 #[.int .i64 u,.pointer (some ⟨gb,0,none⟩)] W fun e w'=>e= .returned (.bool (B u.toNat))/\Below W.heap.size W w':=by
 have b0:W.cell? ⟨gb,0,none⟩=some (.slice (some ⟨a,0,none⟩) n cr):=(ah hb 0).trans rfl;have b:=(Kd.bG false g u h hn).1;have e:bs false ((List.range n).map fun v=> !B v) u= !B u.toNat:=by
  obtain⟨m,rfl⟩:=Int.eq_ofNat_of_zero_le h;have:m<n:=by omega
  simp[bs,aN,List.getElem?_map,List.getElem?_range this]
 rw[e] at b;have b:W.cell? ⟨a,u.toNat,none⟩=some (.bool (!B u.toNat)):=b;clear g hb e;go_enter Tryz.func171,Tryz.ntmps171
 go_wp2;go_ret;exact⟨by simp[go_sem],ai _ _⟩
theorem vu (g n:Nat) (A0:Option Addr) (c0:Nat) (E:List S83) (q:Nat) (a:Option Addr) (cd:Nat) (d:List Int) (b:Value) (h:Int) (w:World) (k:Kd.C aQ w A0 E.length E) (i:a7 n E) (l:E.length<=1000) (hn:n<=1000) (m:q<n) (o:d.length=n) (p:fF w g n (.slice A0 E.length c0) q (.slice a n cd) b h)
  (hd:Kd.C (Kd.int .i64) w a d.length d):
  Calls Tryz.prog 170 #[.pointer (some ⟨g,0,none⟩)] w fun e w'=>∃j cl,e= .returned (.tuple #[.slice (some ⟨j,0,none⟩) n cl,.bool ((List.range n).any fun v=> !ba n (ae E) q d v)])/\Kd.bool.R 4 w' w.heap.size (fun _=>True) (.slice (some ⟨j,0,none⟩) n cl) ((List.range n).map fun v=> !ba n (ae E) q d v)/\Below w.heap.size w w':=by
 subst o;exact Db g d.length A0 c0 E q a cd d b h w k i.iQ hn m p hd rfl (fun B v r _=>Dm i l B r)
def fY (n:Nat) (t:Nat->Nat->Int) (q:Nat) (d:List Int) (v:Nat):Int:=T.sN (fun u=>if ba n t q d u=true then t v u else 0) n
theorem qI {n:Nat} {E:List S83} (a:a7 n E) (hn:n<=12) (q:Nat) (d:List Int) (v:Nat):0<=fY n (ae E) q d v/\fY n (ae E) q d v<=600:=by
 have h:=T.cK (f:=fun w=>if ba n (ae E) q d w=true then ae E v w else 0) (g:=fun _=>50) (n:=n) (fun w _=>by
  have:=a.iQ.times v w;show (if ba n (ae E) q d w=true then ae E v w else 0)<=50
  split<;>omega)
 rw[T.fT] at h;have b:0<=fY n (ae E) q d v:=T.dE fun w _=>by
  have:=a.iQ.times v w;show 0<=(if ba n (ae E) q d w=true then ae E v w else 0)
  split<;>omega
 exact⟨b,by show T.sN _ n<=600;omega⟩
theorem DJ {n q:Nat} {t:Nat->Nat->Int} (b:T.Wt n t) (e:T.dP n t) (g:q<n) {D c σ:Nat->Int} (a:ec n q t D c σ) {d s:List Int} (h:ig n q t D d s):0<=iR n q σ s:=T.dE fun v i=>by
 have h1:=T.qs b e g a.red a.eq a.q0 (d:=fun v=>rd d (v:Nat)) h.eq h.jv v i;have j:rd s v<=σ v+rd s q:=h1;show 0<=σ v+rd s q-rd s v
 omega
theorem DK (g gd gs cd cs n:Nat) (A0:Option Addr) (c0:Nat) (E:List S83) (q:Nat) (D c σ:Nat->Int) (d s:List Int) (w0 w:World) (N:Kd.C aQ w0 A0 E.length E) (F:a7 n E) (hl:E.length<=1000) (hC:eN n E) (hn:n<=12) (p:q<n) (aP:T.sN (T.val n (ae E)) n<=19)
  (hD:∀v:Nat,v<n-> -200<=D v/\D v<=200) (hr:ec n q (ae E) D c σ) (ag:ig n q (ae E) D d s) (h:SI w0 g gd gs cd cs n A0 c0 E q d s w):
  Calls Tryz.prog 111 #[.pointer (some ⟨g,0,none⟩)] w fun e w'=>e= .returned (.tuple #[])/\∃(d' s':List Int),SI w0 g gd gs cd cs n A0 c0 E q d' s' w'/\ig n q (ae E) D d' s'/\T.gJ n (ae E) q (fun v=>rd d' (v:Nat)):=by
 have co:=Tryz.underlying188;have hu:=Tryz.underlying24;have j:=zA F;have ak:=zA (F.conn hC);have HD:=zA hD;have a1:=zA hr;have k:=zA ag;have a:=zA h;have a2:=zA (DJ F.wt (F.conn hC) p hr ag);have cq:1<=n:=by omega
 clear F hC hD hr ag h;go_enter Tryz.func111,Tryz.ntmps111
 go_wp2;go_loopg [] ((iR n q σ s).toNat) (fun kq wr=>∃(d s:List Int),Aside0 (SI w0 g gd gs cd cs n A0 c0 E q d s wr)/\Aside0 (ig n q (ae E) D d s)/\Aside0 (0<=iR n q σ s/\kq=(iR n q σ s).toNat))
 case atStart=>exact⟨d,s,a,k,⟨a2.out,rfl⟩⟩
 case round=>
  clear a k a2;obtain⟨d,s,a,k,HK⟩:=hrel;have s5:=a.out.f5;have a4:=k.out.dl;have an:=zA a4;have bx:=a.out.hb.size;obtain⟨r1,r2,r3,r4,r5⟩:=a.out.ld;clear a4;cases O:(List.range n).any fun v=> !ba n (ae E) q d v with
  |false=>
   have r:=zA O;clear O;go_wp2_with (go_at_call 170;refine(vu g n A0 c0 E q _ cd d _ 0 _ (Kd.al N a.out.hb) j.out hl (by omega) p an.out a.out.st (Kd.a8 a.out.d).2.2).mono ?_;rintro e P ⟨b,cl,rfl,G,H⟩;rw[r.out];have I:=zA (a.out.below H);clear G H)
   refine bodyPost_ret (results_none rfl _ _ _) rfl ?_;exact⟨rfl,d,s,I.out.alloc _,k.out,Dw j.out.wt r.out⟩
  |true=>
   have r:=zA O;clear O;go_wp2_with (go_at_call 170;refine(vu g n A0 c0 E q _ cd d _ 0 _ (Kd.al N a.out.hb) j.out hl (by omega) p an.out a.out.st (Kd.a8 a.out.d).2.2).mono ?_;rintro e P ⟨b,cl,rfl,G,H⟩;rw[r.out];have I:=zA (a.out.below H);have ao:=zA G;have c4:=Kd.ee G b rfl;clear G H)
   have b1:=I.out.ld;have b2:=Kd.cF ao.out b rfl;have b3:gd≠b:=by omega
   have b4:gs≠b:=by omega
   have Q:=zA (aU P (.cells #[.slice (some ⟨b,0,none⟩) n cl] 43));have ap:=zA (Kd.bt (Kd.aK ao.out (.cells #[.slice (some ⟨b,0,none⟩) n cl] 43)) (base':=w0.heap.size) bx);have ar:=zA (I.out.alloc (.cells #[.slice (some ⟨b,0,none⟩) n cl] 43));clear I ao a s5 b1;generalize P.alloc (.cells #[.slice (some ⟨b,0,none⟩) n cl] 43)=W6 at Q ap ar⊢;generalize P.heap.size=gb at Q b2⊢;go_loopg [23,4] (n) (fun kq vv tv wr=>∃(v:Nat) (x:Int),v<=n/\vv= .int .i64 v/\tv= .int .i64 x/\0<=x/\Aside0 (x=0->∀u:Nat,u<v->ba n (ae E) q d u=false->fY n (ae E) q d u<=0)/\Aside0 (∀u:Nat,u<v->ba n (ae E) q d u=false->x*fY n (ae E) q d u<=rd d u)/\Aside0 (SI w0 g gd gs cd cs n A0 c0 E q d s wr)/\Aside0 (wr.heap[gb]? =some (.cells #[.slice (some ⟨b,0,none⟩) n cl] 43 (0,0)))/\Aside0 (Kd.bool.R 4 wr w0.heap.size (fun _=>True) (.slice (some ⟨b,0,none⟩) n cl) ((List.range n).map fun v=> !ba n (ae E) q d v))/\Aside0 (kq=n-v))
   case atStart=>exact⟨0,0,by omega,rfl,rfl,by omega,⟨fun _ u hu=>by omega⟩,⟨fun u hu=>by omega⟩,ar,Q,ap,⟨rfl⟩⟩
   case round=>
    clear ar Q ap;obtain⟨v,x,S,rfl,rfl,av,U,J,a,z,m,K⟩:=hrel;by_cases B:v<n
    ·have c6:(0:Int)<=(v:Int):=by omega
     have c7:(v:Int)<(n:Int):=by omega
     have i:=(Kd.bG false m.out (v:Int) (by omega) (by omega)).1;rw[aq] at i;have e1:bs false ((List.range n).map fun v=> !ba n (ae E) q d v) v= !ba n (ae E) q d v:=by simp[bs,aN,List.getElem?_map,List.getElem?_range B]
     rw[e1] at i;replace i:wr.cell? ⟨b,v,none⟩=some (.bool (!ba n (ae E) q d v)):=i;clear e1;cases hF:ba n (ae E) q d v with
     |true=>
      rw[hF] at i;replace i:wr.cell? ⟨b,v,none⟩=some (.bool false):=i;have HF:=zA hF;clear hF;go_wp2;go_roundg (n- (v+1))
      case measure=>rw[K.out];omega
      case rel=>exact⟨v+1,x,by omega,by go_num,rfl,av,⟨fun hx u hu h1=>by
       by_cases e:u=v
       ·subst e;rw[HF.out] at h1;cases h1
       ·exact U.out hx u (by omega) h1⟩,⟨fun u hu h1=>by
       by_cases e:u=v
       ·subst e;rw[HF.out] at h1;cases h1
       ·exact J.out u (by omega) h1⟩,a,z,m,⟨rfl⟩⟩
     |false=>
      rw[hF] at i;replace i:wr.cell? ⟨b,v,none⟩=some (.bool true):=i;have HF:=zA hF;have a9:=zA (show fY n (ae E) q d v<=rd d v from vi B hF);have bb:=zA (qI j.out hn q d v);have bd:=zA (show dG (ba n (ae E) q d) (bU E v E.length)=fY n (ae E) q d v from qB j.out hl (ba n (ae E) q d) B);have c8:=(k.out.bounds j.out.wt ak.out p hn aP HD.out a1.out v B).2.1;clear hF;go_wp2_with (go_at_call 168;refine(DG g n A0 c0 E q _ _ 0 v #[.pointer (some ⟨gb,0,none⟩)] (ba n (ae E) q d) _ (Kd.al N a.out.hb) j.out.iQ (by omega) B a.out.st (fun W u be b_ b'=>DH gb b cl n _ _ _ W u (au z.out be) (Kd.b7 m.out be) b_ b')).mono ?_;rintro e w8 ⟨rfl,V⟩;rw[bd.out];have l:=zA (a.out.below V);have X:=zA (au z.out V);have Y:=zA (Kd.b7 m.out V);have c2:=l.out.jy v B;have c3:=l.out.f3;clear V i a z m;obtain⟨y,i⟩:∃y,y=fY n (ae E) q d v:=⟨_,rfl⟩;rw[<-i];have Z:=bb.out;have cb:=a9.out;rw[<-i] at Z cb;obtain⟨Z,c9⟩:=Z;have L:=zA i;clear i bb a9 bd)
      ·have cc:1<=rd d v/y:=Int.le_ediv_of_mul_le (by omega) (by omega)
       have hx:=zA ‹x=0›;go_roundg (n- (v+1))
       case measure=>rw[K.out];omega
       case rel=>exact⟨v+1,rd d v/y,by omega,by go_num,rfl,by omega,⟨fun M=>by omega⟩,⟨fun u hu h1=>by
        by_cases e:u=v
        ·subst e;rw[<-L.out];exact Int.ediv_mul_le _ (by omega)
        ·have h2:=U.out hx.out u (by omega) h1
         have h3:=(qI j.out hn q d u).1;rw[show fY n (ae E) q d u=0 by omega,Int.mul_zero];have h4:fY n (ae E) q d u<=rd d u:=vi (by omega) h1;omega⟩,l,X,Y,⟨rfl⟩⟩
      ·have cc:1<=rd d v/y:=Int.le_ediv_of_mul_le (by omega) (by omega)
       have c':rd d v/y<x:=by
        rename_i o;rcases o with o|o
        ·exact absurd (by simpa using o) ‹¬x=0›
        ·exact o
       go_roundg (n- (v+1))
       case measure=>rw[K.out];omega
       case rel=>exact⟨v+1,rd d v/y,by omega,by go_num,rfl,by omega,⟨fun M=>by omega⟩,⟨fun u hu h1=>by
        by_cases e:u=v
        ·subst e;rw[<-L.out];exact Int.ediv_mul_le _ (by omega)
        ·exact Int.le_trans (Int.mul_le_mul_of_nonneg_right (by omega) (qI j.out hn q d u).1) (J.out u (by omega) h1)⟩,l,X,Y,⟨rfl⟩⟩
      ·have hle:x<=rd d v/y:=by
        rename_i o;exact o.2
       have ce:¬x=0:=‹¬x=0›;go_roundg (n- (v+1))
       case measure=>rw[K.out];omega
       case rel=>exact⟨v+1,x,by omega,by go_num,rfl,av,⟨fun M=>absurd M ce⟩,⟨fun u hu h1=>by
        by_cases e:u=v
        ·subst e;rw[<-L.out];exact Int.le_trans (Int.mul_le_mul_of_nonneg_right hle Z) (Int.ediv_mul_le _ (by omega))
        ·exact J.out u (by omega) h1⟩,l,X,Y,⟨rfl⟩⟩
      ·have cg:y<=0:=by assumption
       go_roundg (n- (v+1))
       case measure=>rw[K.out];omega
       case rel=>exact⟨v+1,x,by omega,by go_num,rfl,av,⟨fun M u hu h1=>by
        by_cases e:u=v
        ·subst e;rw[<-L.out];exact cg
        ·exact U.out M u (by omega) h1⟩,⟨fun u hu h1=>by
        by_cases e:u=v
        ·subst e;rw[<-L.out,show y=0 by omega,Int.mul_zero];omega
        ·exact J.out u (by omega) h1⟩,l,X,Y,⟨rfl⟩⟩
    ·obtain rfl:n=v:=by omega
     have b0:=cB z.out;have bg:1<=x:=by
      refine Classical.byContradiction fun bg=>?_
      obtain⟨v,S,h1,h2⟩:=Dx ak.out j.out.wt p r.out;have h3:fY n (ae E) q d v<=0:=U.out (by omega) v S h1;have h4:0<fY n (ae E) q d v:=h2;omega
     obtain⟨k1,k2,k3,k4⟩:=k.out.step j.out ak.out p hn aP HD.out a1.out r.out bg (fun v S h1=>J.out v S h1);have K1:=zA k1;have K2:=zA k2;have K3:=zA k3;have K4:=zA k4;have ck:=zA k.out.sl;clear k1 k2 k3 k4;go_wp2_with (go_at_call 166;refine(uX g gd gs b cd cs cl n A0 c0 E q d s (fun v=> !ba n (ae E) q d v) x w0 _ N j.out.iQ (by omega) (by omega) a.out m.out ⟨b3,b4⟩ an.out ck.out K2.out).mono ?_;rintro e w8 ⟨rfl,bv,cn,aG⟩;have l:=zA bv;clear bv cn a z m b0)
     go_roundg ((iR n q σ (a_ E (fun v=> !ba n (ae E) q d v) x n (d,s)).2).toNat)
     case measure=>have h1:=K3.out;have h2:=K4.out;have h3:=HK.out.2;have h4:=HK.out.1;rw[h3];omega
     case rel=>exact⟨_,_,l,K1,⟨K3.out,rfl⟩⟩
end
def me.f (a0:Int) (a:Int):Option (Int×Int):=some (IntKind.u64.wrap ((IntKind.u64.wrap ((IntKind.u64.wrap ((a0/4294967296)*(a/4294967296)))+((IntKind.u64.wrap ((IntKind.u64.wrap ((a0/4294967296)*(Go.bits .and .u64 a 4294967295)))+((IntKind.u64.wrap ((Go.bits .and .u64 a0 4294967295)*(Go.bits .and .u64 a 4294967295)))/4294967296)))/4294967296)))+((IntKind.u64.wrap ((Go.bits .and .u64 (IntKind.u64.wrap ((IntKind.u64.wrap ((a0/4294967296)*(Go.bits .and .u64 a 4294967295)))+((IntKind.u64.wrap ((Go.bits .and .u64 a0 4294967295)*(Go.bits .and .u64 a 4294967295)))/4294967296))) 4294967295)+(IntKind.u64.wrap ((Go.bits .and .u64 a0 4294967295)*(a/4294967296)))))/4294967296)),IntKind.u64.wrap (a0*a))
theorem me.calls (a0:Int) (a:Int) (b:Int) (g:Int) (w:World) (h:me.f a0 a=some (b,g)):
  Calls Tryz.prog 216 #[.int .u64 a0,.int .u64 a] w fun e w'=>e= .returned (.tuple #[.int .u64 b,.int .u64 g])/\aJ w w':=by
 have H:(some (IntKind.u64.wrap ((IntKind.u64.wrap ((IntKind.u64.wrap ((a0/4294967296)*(a/4294967296)))+((IntKind.u64.wrap ((IntKind.u64.wrap ((a0/4294967296)*(Go.bits .and .u64 a 4294967295)))+((IntKind.u64.wrap ((Go.bits .and .u64 a0 4294967295)*(Go.bits .and .u64 a 4294967295)))/4294967296)))/4294967296)))+((IntKind.u64.wrap ((Go.bits .and .u64 (IntKind.u64.wrap ((IntKind.u64.wrap ((a0/4294967296)*(Go.bits .and .u64 a 4294967295)))+((IntKind.u64.wrap ((Go.bits .and .u64 a0 4294967295)*(Go.bits .and .u64 a 4294967295)))/4294967296))) 4294967295)+(IntKind.u64.wrap ((Go.bits .and .u64 a0 4294967295)*(a/4294967296)))))/4294967296)),IntKind.u64.wrap (a0*a)))=some (b,g):=h;clear h;simp only[Option.some.injEq,Prod.mk.injEq] at H;obtain⟨rfl,rfl⟩:=H;go_enter Tryz.func216,Tryz.ntmps216
 go_wp2;go_ret2;exact⟨by first|rfl|(simp;done)|(simp[*];done),by repeat(first|exact aJ.refl _|apply aJ.step)⟩
def mf.f (a0:Int) (b:Int):Option (Int×Int):=(me.f a0 b).bind fun a=>(some (a.1,a.2))
theorem mf.calls (a0:Int) (a:Int) (b:Int) (g:Int) (w:World) (h:mf.f a0 a=some (b,g)):
  Calls Tryz.prog 206 #[.int .u64 a0,.int .u64 a] w fun e w'=>e= .returned (.tuple #[.int .u64 b,.int .u64 g])/\aJ w w':=by
 have H:((me.f a0 a).bind fun i=>(some (i.1,i.2)))=some (b,g):=h;clear h;replace H:=Option.bind_eq_some_iff.mp H;obtain⟨⟨t238,t239⟩,j,H⟩:=H;replace H:(some (t238,t239))=some (b,g):=H;have k:=zA j;clear j;simp only[Option.some.injEq,Prod.mk.injEq] at H;obtain⟨rfl,rfl⟩:=H;go_enter Tryz.func206,Tryz.ntmps206
 go_wp2_with (first|((with_reducible refine aT (f:=216) rfl ?_);refine rU (some 25) rfl rfl Tryz.func216 (by kernel_rfl) rfl #[.int .u64 a0,.int .u64 a] rfl (by(try simp only[List.map_toArray,List.map_cons,List.map_nil]);first|done|rfl|(simp only[List.length_drop,List.length_take];rfl)) ?_;(with_reducible refine(me.calls a0 a t238 t239 _ k.out).mono ?_);rintro e w' ⟨rfl,⟨nd,rfl⟩⟩;refine⟨_,rfl,?_⟩))
 go_ret2;exact⟨by first|rfl|(simp;done)|(simp[*];done),by repeat(first|exact aJ.refl _|apply aJ.step)⟩
theorem DL:∀n:Fin 1001,mf.f 1 ((n:Nat):Int)=some (0,((n:Nat):Int)):=by decide+kernel
theorem DM (n:Nat) (h:n<=1000):mf.f 1 n=some (0,(n:Int)):=DL ⟨n,by omega⟩
theorem DN (k m r:Nat) (a b:Value) (rest:List Value):Go.splice (List.replicate k a++List.replicate (m+r) b++rest) k (List.replicate m a)=List.replicate (k+m) a++List.replicate r b++rest:=by
 unfold Go.splice;have e:(List.replicate k a++List.replicate (m+r) b++rest).take k=List.replicate k a:=by
  rw[List.append_assoc,List.take_left' (by simp)]
 have e2:(List.replicate k a++List.replicate (m+r) b++rest).drop (k+(List.replicate m a).length)=List.replicate r b++rest:=by
  rw[<-List.replicate_append_replicate,<-List.append_assoc,List.append_assoc,List.length_replicate,List.drop_left' (by simp)]
 rw[e,e2,<-List.append_assoc,List.replicate_append_replicate,<-List.append_assoc]
theorem DO (gx s H n:Nat) (z:Int) (w:World) (I:w.cell? ⟨gx,s,none⟩=some (.int .i64 z)) (T:1<=n) (hn:n<=1000):
  Calls Tryz.prog 193 #[.slice (some ⟨gx,s,none⟩) 1 H,.int .i64 n] w fun e w'=>∃g c,e= .returned (.slice (some ⟨g,0,none⟩) n c)/\(Kd.int .i64).R 3 w' w.heap.size (fun _=>True) (.slice (some ⟨g,0,none⟩) n c) (List.replicate n z)/\Below w.heap.size w w':=by
 have hmul:=DM n hn;have U:(0:Int)<=(n:Int):=by omega
 go_enter Tryz.func193,Tryz.ntmps193
 go_wp2_with (first|(go_at_call 206;refine(mf.calls 1 n 0 n _ hmul).mono ?_;rintro e w1 ⟨rfl,⟨nd,rfl⟩⟩)|((with_reducible refine aX (N:=30) rfl ?_);refine Kd.kx (Kd.int .i64) _ 3 rfl (N:=30) rfl 25 _ _ rfl (n:Int) rfl rfl Tryz.underlying25 (.int .i64 0) 8 fC rfl (by decide) (by omega) 0 (ok:=fun _=>True) (okp:=fun _=>True) rfl (fun _ hk=>hk) trivial U (by simp;omega) (ai _ _) (aM _) ?_;intro v1 u x hb V W;rw[aq] at x;obtain⟨a,cr,b,p,X, -⟩:=Kd.fB x (by rw[List.length_replicate];omega);rw[List.length_replicate] at b;subst b;have l:=zA x;have q:=zA ((cz (ai w.heap.size w) nd).trans (hb.mono (by simp)));have J:u.cell? ⟨gx,s,none⟩=some (.int .i64 z):=gj hb (by simpa using I);clear x hb V W))
 have Y:=Kd.my l.out;obtain⟨Z,h|⟨g',cap,cur,b,aa,B,ad,K,C,y⟩⟩:=Y
 ·cases h.1
 ·injection b with i e2 e3
  injection i with i
  injection i with i _
  subst i e3;rw[List.length_replicate] at ad y;simp only[Nat.mul_one] at C y;obtain⟨rest,ak⟩:∃rest,cur=(List.replicate n (Value.int .i64 0)++rest).toArray:=⟨cur.toList.drop n,by
   rw[<-Array.toList_inj];show cur.toList=List.replicate n (Value.int .i64 0)++cur.toList.drop n
   rw[show List.replicate n (Value.int .i64 0)=cur.toList.take n from by rw[y];simp[bu],List.take_append_drop]⟩
  subst ak;have L:rest.length=cr-n:=by simp at C;omega
  rw[run_copy_row _ u 25 25 3 3 a 0 n cr ⟨gx,s,none⟩ 1 H _ 3 [.int .i64 z] Tryz.underlying25 (by kernel_rfl) B (by show 1=min 1 n;omega) (fun j v o=>by
   cases j with
   |zero=>injection o with o;subst o;simpa [Addr.add] using J
   |succ j=>simp at o) (by simp;omega) (fun v b=>by simp at b;subst b;rfl)]
  simp only[Result.andThen_ok,List.cons_append,List.nil_append,List.take_zero,Nat.zero_add];rw[show ([Value.int .i64 z]:List Value).length=1 from rfl];have i:Value.int .i64 z::(List.replicate n (Value.int .i64 0)++rest).drop 1=List.replicate 1 (Value.int .i64 z)++List.replicate (n-1) (Value.int .i64 0)++rest:=by
   obtain⟨n',rfl⟩:∃n',n=n'+1:=⟨n-1,by omega⟩;simp[List.replicate_succ]
  rw[i];have D:=zA (below_setRow (g:=a) q.out (by simp at p;exact p) ((List.replicate 1 (Value.int .i64 z)++List.replicate (n-1) (Value.int .i64 0)++rest).toArray));have E:=zA (setRow_heap u a _ ((List.replicate 1 (Value.int .i64 z)++List.replicate (n-1) (Value.int .i64 0)++rest).toArray) _ _ B);have M:w.heap.size<=a:=by simp at p;exact p
  clear l q J Z aa B C y i e2 I hmul;generalize u.setRow a (List.replicate 1 (Value.int .i64 z)++List.replicate (n-1) (Value.int .i64 0)++rest).toArray=W6 at D E⊢;have O:=zA L;have am:=zA K;clear L K X p;rw[show goInt ((1:Nat):Int)=Value.int .i64 1 from rfl];rw[Oper.upon_value];go_wp2;go_loopg [8] (n-1) (fun kq nv wr=>∃k:Nat,nv= .int .i64 k/\1<=k/\k<=n/\Aside0 (wr.heap[a]? =some (.cells (List.replicate k (Value.int .i64 z)++List.replicate (n-k) (Value.int .i64 0)++rest).toArray 3 (0,0)))/\Aside0 (Below w.heap.size w wr)/\Aside0 (kq=n-k))
  case atStart=>exact⟨1,rfl,by omega,T,E,D,⟨rfl⟩⟩
  case round=>
   clear D E;obtain⟨k,rfl,aS,a0,F,q,HK⟩:=hrel;by_cases a1:k<n
   ·have a2:(0:Int)<=(k:Int):=by omega
    have a3:(k:Int)<(n:Int):=by omega
    have a4:(k:Int)<=(cr:Int):=by omega
    have a5:(n:Int)<=(cr:Int):=by omega
    obtain⟨m,hm⟩:∃m,m=min k (n-k):=⟨_,rfl⟩;obtain⟨r,P⟩:∃r,n-k=m+r:=⟨n-k-m,by omega⟩;have a9:¬cr=k:=by omega
    have ar:Aside0 (∀(j:Nat) (v:Value),(List.replicate m (Value.int .i64 z))[j]? =some v->wr.drew.cell? ((⟨a,0,none⟩:Addr).add j)=some v):=⟨fun j v o=>by
     obtain⟨av,b⟩:=List.getElem?_eq_some_iff.1 o;rw[List.length_replicate] at av;rw[List.getElem_replicate] at b;subst b;have h:=cell_of_row wr a j _ _ _ F.out;rw[List.getElem?_toArray,List.append_assoc,List.getElem?_append_left (by rw[List.length_replicate];omega),List.getElem?_replicate,if_pos (by omega)] at h;by_cases e:j=0
     ·subst e;simpa [Addr.add] using h
     ·simpa [Addr.add,e] using h⟩
    have bb:(m:Int)<=1000:=by omega
    have bd:(0:Int)<=(m:Int):=by omega
    have be:(k:Int)<=1000:=by omega
    have G:=zA hm;have l:=zA P;clear hm P;go_wp2;go_region_law (refine step_copy_splice rfl (.tmp 41) (.tmp 44) 25 25 rfl 3 Tryz.underlying25 (by kernel_rfl) (some ⟨a,k,none⟩) (some ⟨a,0,none⟩) (n-k) (cr-k) k cr (by go_simp) (by go_simp) a k (List.replicate k (Value.int .i64 z)++List.replicate (n-k) (Value.int .i64 0)++rest) 3 F.out (List.replicate m (Value.int .i64 z)) (by have:=G.out;rw[List.length_replicate];show m=min k (n-k);omega) (fun _=>⟨rfl,_,rfl,ar.out⟩) (by have:=O.out;have:=G.out;simp;omega) (fun v b=>by rw[List.eq_of_mem_replicate b];rfl) w.heap.size w (bC q.out) M ?_;intro w4 Q S)
    have aF:Aside0 (w4.heap[a]? =some (.cells (List.replicate (k+m) (Value.int .i64 z)++List.replicate (n- (k+m)) (Value.int .i64 0)++rest).toArray 3 (0,0))):=⟨by
     have h:=Q;rw[l.out] at h;rw[show n- (k+m)=r from by have:=l.out;omega,<-DN k m r (.int .i64 z) (.int .i64 0) rest];first|exact h|(rw[List.append_assoc];exact h)⟩
    have aL:=zA S;clear Q S;have bf:=G.out;have bg:=l.out;go_wp2;go_roundg (n- (k+m))
    case measure=>rw[HK.out];omega
    case rel=>exact⟨k+m,(by rw[IntWalk.i64_in ((k:Int)+(m:Int)) (by omega)];go_num),by omega,by omega,aF,aL,⟨rfl⟩⟩
   ·obtain rfl:k=n:=by omega
    go_wp2;go_ret;exact⟨a,cr,rfl,Kd.lq ⟨by simp[bu],.inr ⟨a,cr,_,by simp,M,F.out,by simp;omega,am.out,by have:=O.out;simp;omega,by simp[bu]⟩⟩ (fun _ _=>trivial),q.out⟩
section
attribute [local go_sem] Oper.semAt_some
theorem bO.vw {α:Type} {d:Kd α} {e base b0 b:Nat} {ok:Nat->Prop} {ds:List Deferred} {v:Value} {xs:List α} {W w1:World} (h:bO b0 b ds W) (g:d.Q e W base ok v xs) (i:W.grownBy w1 v.ownBlock):bO b0 b ds w1:=
 h.je fun D _ hd=>(i.block D (Array.getElem?_eq_some_iff.1 hd).1 (fun e=>by
  obtain⟨cells,a⟩:=Kd.rK g D e.symm;rw[hd] at a;cases a)).trans hd
structure DI (w:World) (b3 b4 go co n lo hi:Nat) (out:List Int) (qv:Value) (Q:List Nat) (W:World):Prop where
 hb:Below w.heap.size w W
 x3:W.heap[b3]? =some (.cells #[.slice (some ⟨go,0,none⟩) n co] 25 (0,0))
 x4:W.heap[b4]? =some (.cells #[qv] 25 (0,0))
 ro:(Kd.int .i64).R 3 W w.heap.size (fun _=>True) (.slice (some ⟨go,0,none⟩) n co) out
 rq:(Kd.int .i64).Q 3 W w.heap.size (fun k=>k≠go/\(k<lo\/hi<=k)) qv (Q.map fun x:Nat=>(x:Int))
 ne:b3≠b4/\go≠b3/\go≠b4/\w.heap.size<=b3/\w.heap.size<=b4
theorem DP {α:Type} {d:Kd α} {e base l:Nat} {ok:Nat->Prop} {v:Value} {xs:List α} {A B:World} (h:d.Q e A base ok v xs) (hb:Bk l A B):d.Q e B base ok v xs:=
 Kd.ky (Kd.rE (Kd.mz h) (fun k hk=>by obtain⟨_,_,_,q,_,cells,a⟩:=hk;exact(hb.cells a).trans a.symm)) (fun k hk=>hk.1)
section
variable {F:Fence} {n:Nat} {P:Program} {ops:Array Oper} {rest:List Oper} {o:Oper} {a:Act} {Q':Exit->Act->World->Prop} {α:Type}
theorem vx (d:Kd α) {w0 W:World} (base:Nat) (j:o.guard=none) (s x:Operand) (t e:TypeId) (z:Value) (bytes:Nat)
  (g:o.op= .call {callee:=.builtin .append,args:=#[s,x],argTypes:=#[t,t]})
  (l:P.underlying t=some (.slice e)) (m:(P.info? e).map (fun i=>(i.zero,i.size,i.bytes))=some (some z,d.sz,bytes)) (q:z.cells.size=d.sz) (r:0<d.sz) (u:0<bytes)
  (v:Value) (xs:List α) (p:α) (cs:List Value) (ok okp:Nat->Prop) (w:a.eval s=v) (y:a.eval x= .slice (some ⟨W.heap.size,0,none⟩) 1 1) (hp:d.M W base okp p cs) (B:∀k,okp k->ok k/\some k≠v.ownBlock) (C:∀k,W.heap.size<=k->ok k)
  (D:d.Q e W base ok v xs) (E:Below base w0 W) (G:base<=W.heap.size) (H:(xs.length+1)*bytes<=140737488355328)
  (h:∀v1 w1,d.Q e w1 base ok v1 (xs++[p])->Below base w0 w1->W.grownBy w1 v.ownBlock->(v1.ownBlock=v.ownBlock\/∃b,v1.ownBlock=some b/\W.heap.size<=b)->wpListIn F n P ops Q' rest (a.put o.dst v1) w1):
  wpListIn F n P ops Q' (o::rest) a (W.alloc (.cells cs.toArray e)):=by
 obtain⟨v1,w1,I,h1,J,L,N⟩:=Kd.xn (P:=P) d base t o.type e z bytes l m q r u v xs p cs ok okp hp B C D E G H;refine wpListIn_plain j fun K O=>?_
 unfold Oper.wpIn;refine⟨?_,?_⟩
 ·simp[Oper.about,g,resolve,Target.leads,Sem.run_pure]
 ·rw[Oper.semAt_plain F _ _ (by rw[g];intro c R;cases R)]
  simp[execOp,g,resolve,invoke,builtin,w,y,I,Result.andThen];exact O _ _ (h v1 w1 h1 J L N)
end
theorem vy {α:Type} {d:Kd α} {e base nw:Nat} {ok:Nat->Prop} {v:Value} {xs:List α} {W w1:World} (g:d.Q e W base ok v xs) (h:W.grownBy w1 v.ownBlock):bI nw W w1:=fun k o h1 j b i=>by
 refine(h.block k (Array.getElem?_eq_some_iff.1 b).1 (fun e=>?_)).trans b;obtain⟨cells,a⟩:=Kd.rK g k e.symm;rw[b] at a;injection a with a;subst a;simp[Obj.isCells] at i
theorem Bf.k8 {n q:Nat} {nb:Nat->Nat->Prop} {out:List Int} {Q:List Nat} {D:Int} {ex a:Nat->Nat->Prop} (h:Bf n q nb out Q D ex) (hex:∀x y,ex x y->a x y):Bf n q nb out Q D a:=
 ⟨h.len,h.q0,h.lo,h.hi,h.qv,h.l_,h.top,h.d0,h.back,fun v b e hn u hu g he=>h.jx v b e hn u hu g (fun k=>he (hex v u k))⟩
def nV (v:Nat) (pre:List (Int×Int)) (x y:Nat):Prop:=x=v/\¬∃m,((y:Int),m)∈pre
theorem Bf.done {n q:Nat} {nb:Nat->Nat->Prop} {out:List Int} {Q:List Nat} {D:Int} {ex:Nat->Nat->Prop} (h:Bf n q nb out Q D ex) (hex:∀x y,nb x y->¬ex x y):Bf n q nb out Q D (fun _ _=>False):=
 ⟨h.len,h.q0,h.lo,h.hi,h.qv,h.l_,h.top,h.d0,h.back,fun v b e hn u hu a _=>h.jx v b e hn u hu a (hex v u a)⟩
namespace DI
variable {w W W':World} {b3 b4 go co n lo hi lo' hi' l:Nat} {out:List Int} {qv:Value} {Q:List Nat}
theorem below (h:DI w b3 b4 go co n lo hi out qv Q W) (hb:Below W.heap.size W W'):DI w b3 b4 go co n lo hi out qv Q W':=⟨aC h.hb hb,au h.x3 hb,au h.x4 hb,Kd.b7 h.ro hb,Kd.rF h.rq hb,h.ne⟩
theorem alloc (h:DI w b3 b4 go co n lo hi out qv Q W) (o:Obj):DI w b3 b4 go co n lo hi out qv Q (W.alloc o):=h.below (af (ai _ _) o)
theorem drewN (h:DI w b3 b4 go co n lo hi out qv Q W) (m:Nat):DI w b3 b4 go co n lo hi out qv Q (W.drewN m):=h.below (cz (ai _ _) m)
theorem bk (h:DI w b3 b4 go co n lo hi out qv Q W) (hb:Bk l W W') (a:w.heap.size<=l):DI w b3 b4 go co n lo hi out qv Q W':=⟨h.hb.trans (hb.below _ a),hb.cells h.x3,hb.cells h.x4,cC h.ro hb,DP h.rq hb,h.ne⟩
theorem ld (h:DI w b3 b4 go co n lo hi out qv Q W):go<W.heap.size/\b3<W.heap.size/\b4<W.heap.size/\w.heap.size<=go:=⟨Kd.cF h.ro go rfl,ay h.x3,ay h.x4,Kd.ee h.ro go rfl⟩
theorem vz (h:DI w b3 b4 go co n lo hi out qv Q W) (v:Nat) (x:Int):DI w b3 b4 go co n lo hi (out.set v x) qv Q (W.setCell ⟨go,v,none⟩ (.int .i64 x)):=by
 obtain⟨h1,g,i,b⟩:=h.ld;have a:=Kd.cY h.ro (v:Int) x;rw[aq] at a;exact⟨Below.setCell h.hb b _,aH h.x3 (fun e=>h.ne.2.1 e.symm) _,aH h.x4 (fun e=>h.ne.2.2.1 e.symm) _,a.1,Kd.xg h.rq a.2 (fun k hk e=>by injection e with e;exact hk.1 e),h.ne⟩
theorem vA (h:DI w b3 b4 go co n lo hi out qv Q W) {qv':Value} {Q':List Nat} (a:(Kd.int .i64).Q 3 W w.heap.size (fun k=>k≠go/\(k<lo'\/hi'<=k)) qv' (Q'.map fun x:Nat=>(x:Int))):DI w b3 b4 go co n lo' hi' out qv' Q' (W.setCell ⟨b4,0,none⟩ qv'):=by
 obtain⟨h1,b,g,i⟩:=h.ld;refine⟨Below.setCell h.hb h.ne.2.2.2.2 _,aH h.x3 h.ne.1 _,by simpa using bB h.x4 0 qv',?_,?_,h.ne⟩
 ·exact Kd.bj (Kd.eX (Kd.fm rfl h.ro) (fun k hk=>Below.heap_setCell _ _ _ _ (fun e=>by injection hk with hk;exact h.ne.2.2.1 (hk.symm.trans e)))) (fun _ _=>trivial)
 ·exact Kd.rG a h.x4 (fun q a=>by rcases List.mem_cons.1 a with rfl|h;decide;cases h) 0 qv'
theorem c3 (h:DI w b3 b4 go co n lo hi out qv Q W):W.cell? ⟨b3,0,none⟩=some (.slice (some ⟨go,0,none⟩) n co):=(ah h.x3 0).trans rfl
theorem c4 (h:DI w b3 b4 go co n lo hi out qv Q W):W.cell? ⟨b4,0,none⟩=some qv:=(ah h.x4 0).trans rfl
theorem iS (h:DI w b3 b4 go co n lo hi out qv Q W) (v:Nat) (a:v<n):W.cell? ⟨go,v,none⟩=some (.int .i64 (rd out v)):=by
 have:=(Kd.bG 0 h.ro (v:Int) (by omega) (by omega)).1;rw[aq] at this;exact this
theorem vB (h:DI w b3 b4 go co n lo hi out qv Q W) (v:Nat) (a:v<n):W.frozen? ⟨go,v,none⟩=false:=by
 have:=(Kd.bG 0 h.ro (v:Int) (by omega) (by omega)).2;rw[aq] at this;exact this
theorem free (h:DI w b3 b4 go co n lo hi out qv Q W):DI w b3 b4 go co n 0 0 out qv Q W:=⟨h.hb,h.x3,h.x4,h.ro,Kd.ky h.rq (fun k hk=>⟨hk.1,.inr (Nat.zero_le _)⟩),h.ne⟩
theorem own (h:DI w b3 b4 go co n lo hi out qv Q W):∀k,qv.ownBlock=some k->k≠go/\(k<lo\/hi<=k)/\w.heap.size<=k/\k≠b3/\k≠b4:=fun k hk=>⟨(h.rq.1 k hk).1,(h.rq.1 k hk).2,Kd.xj h.rq k hk,fun e=>Kd.rH h.rq h.x3 (by decide) (by rw[hk,e]),fun e=>Kd.rH h.rq h.x4 (by decide) (by rw[hk,e])⟩
theorem push (h:DI w b3 b4 go co n lo hi out qv Q W) {v1:Value} {w1:World} {u:Nat} (a:(Kd.int .i64).Q 3 w1 w.heap.size (fun k=>k≠go/\(k<lo\/hi<=k)) v1 (Q.map (fun x:Nat=>(x:Int))++[(u:Int)])) (b:W.grownBy w1 qv.ownBlock) (hb:Below w.heap.size w w1):DI w b3 b4 go co n lo hi out v1 (Q++[u]) (w1.setCell ⟨b4,0,none⟩ v1):=by
 have i:=cZ h.x3 b (fun e=>(h.own b3 e.symm).2.2.2.1 rfl);have g:=cZ h.x4 b (fun e=>(h.own b4 e.symm).2.2.2.2 rfl);have ro:=Kd.gA h.ro rfl b (fun e=>(h.own go e).1 rfl);refine⟨Below.setCell hb h.ne.2.2.2.2 _,aH i h.ne.1 _,by simpa using bB g 0 v1,?_,?_,h.ne⟩
 ·exact Kd.bj (Kd.eX (Kd.fm rfl ro) (fun k hk=>Below.heap_setCell _ _ _ _ (fun e=>by injection hk with hk;exact h.ne.2.2.1 (hk.symm.trans e)))) (fun _ _=>trivial)
 ·rw[List.map_append]
  exact Kd.rG a g (fun q a=>by rcases List.mem_cons.1 a with rfl|h;decide;cases h) 0 v1
end DI
def kh (E:List S83) (v u:Nat):Prop:=∃m,(((u:Nat):Int),m)∈bU E v E.length
theorem DQ (g n:Nat) (A0:Option Addr) (c0:Nat) (E:List S83) (q:Nat) (dv sv:Value) (er:Int) (w:World) (gd:Kd.C aQ w A0 E.length E) (hE:dN n E) (hn:n<=1000) (hq:q<n)
  (N:fF w g n (.slice A0 E.length c0) q dv sv er):
  Calls Tryz.prog 165 #[.pointer (some ⟨g,0,none⟩)] w fun e w'=>∃(go co:Nat) (out:List Int) (D:Int),e= .returned (.slice (some ⟨go,0,none⟩) n co)/\(Kd.int .i64).R 3 w' w.heap.size (fun _=>True) (.slice (some ⟨go,0,none⟩) n co) out/\Below w.heap.size w w'/\Bf n q (kh E) out [] D (fun _ _=>False):=by
 have h0:=Tryz.underlying188;have hu:=Tryz.underlying24;have HE:=zA hE;have c7:=zA N;have h7:=ay N;have hh:1<=n:=by omega
 have h8:(0:Int)<=(q:Int):=by omega
 have h9:(q:Int)<(n:Int):=by omega
 have hx:=(ah (aU w (.cells #[.int .i64 (-1)] 3)) 0).trans rfl;have s0:(w.alloc (.cells #[.int .i64 (-1)] 3)).cell? ⟨g,0,none⟩=some (.int .i64 n):=(ah (aj N _) 0).trans rfl;clear hE N;refine(callsIn_wide (n:=10)).1 ?_;refine callsIn_of_wp_marks Tryz.func165 rfl trivial ?_ rfl;simp only[Tryz.ntmps165,List.size_toArray,List.length_cons,List.length_nil,Nat.reduceAdd,Nat.reduceSub,Array.replicate_succ,Array.replicate_zero,List.push_toArray,List.append_toArray,List.nil_append,List.cons_append];gi_wp2_with (first|(refine⟨trivial,?_⟩;gi_at_call 193;refine(callsIn_wide.2 (DO w.heap.size 0 1 n (-1) _ hx hh hn)).mono ?_;rintro e w3 ⟨go,co,rfl,hR,hB⟩))
 have eb:=aC (af (ai w.heap.size w) _) hB;have hj:w.heap.size<=go:=by have:=Kd.ee hR go rfl;simp at this;omega
 have hm:=Kd.cF hR go rfl;have c9:Aside0 ((Kd.int .i64).R 3 (w3.alloc (.cells #[.slice (some ⟨go,0,none⟩) n co] 25)) w.heap.size (fun _=>True) (.slice (some ⟨go,0,none⟩) n co) (List.replicate n (-1))):=⟨Kd.aK (Kd.bt hR (by simp)) _⟩;have dd:=zA (af eb (.cells #[.slice (some ⟨go,0,none⟩) n co] 25));have b5:=zA (aU w3 (.cells #[.slice (some ⟨go,0,none⟩) n co] 25));have hp:w.heap.size<=w3.heap.size:=eb.size;have dl:(w3.alloc (.cells #[.slice (some ⟨go,0,none⟩) n co] 25)).heap.size=w3.heap.size+1:=by simp
 clear hR hB eb hx s0;obtain⟨b3,gm⟩:∃b,b=w3.heap.size:=⟨_,rfl⟩;rw[<-gm] at b5 hp dl hm⊢;clear gm;generalize w3.alloc (.cells #[.slice (some ⟨go,0,none⟩) n co] 25)=W1 at c9 dd b5 dl⊢;have y0:=(ah b5.out 0).trans rfl;have y1:W1.cell? ⟨g,2,none⟩=some (.int .i64 q):=(ah (au c7.out dd.out) 2).trans rfl;obtain⟨y2,y3⟩:=Kd.bG 0 c9.out (q:Int) (by omega) (by omega);rw[aq] at y2 y3;generalize bs 0 (List.replicate n (-1)) (q:Int)=xq at y2;replace y2:W1.cell? ⟨go,q,none⟩=some (.int .i64 xq):=y2;have HP:=Kd.cY c9.out (q:Int) (0:Int);rw[aq] at HP;have b_:=zA (Kd.bR HP.1);have ek:=zA (dU (cZ (g:=b3) b5.out HP.2 (fun e=>by injection e with e;omega)));have d1:=zA (bC (Below.setCell (p:=⟨go,q,none⟩) dd.out hj (.int .i64 0)));have b':(W1.setCell ⟨go,q,none⟩ (.int .i64 0)).drew.heap.size=b3+1:=by simp[dl]
 clear HP;gi_region
 replace b_:Aside0 ((Kd.int .i64).R 3 (W1.setCell ⟨go,q,none⟩ (.int .i64 0)).drew w.heap.size (fun _=>True) (.slice (some ⟨go,0,none⟩) n co) ((List.replicate n (-1)).set q 0)):=b_;clear y0 y1 y2 y3 c9 b5 dd dl;generalize (W1.setCell ⟨go,q,none⟩ (.int .i64 0)).drew=W2 at b_ ek d1 b'⊢;have y1:W2.cell? ⟨g,2,none⟩=some (.int .i64 q):=(ah (au c7.out d1.out) 2).trans rfl;gi_wp2;have el:Aside0 (DI w b3 (b3+1+1) go co n 0 0 ((List.replicate n (-1)).set q 0) (.slice (some ⟨b3+1,0,none⟩) 1 1) [q] ((W2.alloc (.cells #[.int .i64 q] 3)).alloc (.cells #[.slice (some ⟨b3+1,0,none⟩) 1 1] 25))):=⟨by
  have Z1:=aU W2 (.cells #[.int .i64 q] 3);have Z2:=aU (W2.alloc (.cells #[.int .i64 q] 3)) (.cells #[.slice (some ⟨b3+1,0,none⟩) 1 1] 25);rw[World.size_alloc,b'] at Z2;rw[b'] at Z1;refine⟨af (af d1.out _) _,aj (aj ek.out _) _,Z2,Kd.aK (Kd.aK b_.out _) _,Kd.xe (Kd.lq ⟨by simp[bu],.inr ⟨b3+1,1,_,rfl,by omega,aj Z1 _,by simp,by decide,by simp,by simp[bu]⟩⟩ (fun k hk=>by cases hk;exact⟨by show b3+1≠go;omega,.inr (Nat.zero_le _)⟩)),by omega,by omega,by omega,by omega,by omega⟩⟩
 have gr:=zA (Bf.start (nb:=kh E) hq);have gs:((W2.alloc (.cells #[.int .i64 q] 3)).alloc (.cells #[.slice (some ⟨b3+1,0,none⟩) 1 1] 25)).heap.size=b3+3:=by simp[b']
 clear b_ ek d1 b' y1;generalize (W2.alloc (.cells #[.int .i64 q] 3)).alloc (.cells #[.slice (some ⟨b3+1,0,none⟩) 1 1] 25)=W4 at el gs⊢;refine po (b3+3) (fun kq tm wr=>∃(u5 u25 u26 u27 u28 u29 u30 u31 u32 u33 u34 u35:Value) (out:List Int) (qv:Value) (Q:List Nat) (D:Int),Aside0 (DI w b3 (b3+1+1) go co n 0 0 out qv Q wr)/\Aside0 (Bf n q (kh E) out Q D (fun _ _=>False))/\b3+3<=wr.heap.size/\Aside0 (kq=2*(n-bK out)+Q.length/\kq<=2*n+1)/\tm=#[.pointer (some ⟨g,0,none⟩),undef,.slice none 0 0,.pointer (some ⟨b3,0,none⟩),.pointer (some ⟨b3+1+1,0,none⟩),u5,undef,.slice (some ⟨w.heap.size,0,none⟩) 1 1,.pointer (some ⟨g,0,none⟩),.pointer (some ⟨g,0,none⟩),.pointer (some ⟨g,0,none⟩),.pointer (some ⟨g,0,none⟩),.int .i64 n,.slice (some ⟨go,0,none⟩) n co,.slice (some ⟨go,0,none⟩) n co,.pointer (some ⟨g,0,none⟩),.pointer (some ⟨g,0,none⟩),.pointer (some ⟨g,2,none⟩),.int .i64 q,.pointer (some ⟨go,q,none⟩),.pointer (some ⟨g,0,none⟩),.pointer (some ⟨g,0,none⟩),.pointer (some ⟨g,2,none⟩),.int .i64 q,.slice (some ⟨b3+1,0,none⟩) 1 1,u25,u26,u27,u28,u29,u30,u31,u32,u33,u34,u35,undef,undef,undef,undef,undef,undef,undef,undef,undef,undef,undef,undef,undef,undef,undef,undef,undef,undef,undef,undef]) (2*(n-bK ((List.replicate n (-1)).set q 0))+1) ⟨_,_,_,_,_,_,_,_,_,_,_,_,_,_,_,_,el,gr,by omega,⟨rfl,by omega⟩,rfl⟩ (b3+3) (by omega) (bO.nil _ _ _) ?_;clear el gr gs;rintro gk tm wr ⟨u5,u25,u26,u27,u28,u29,u30,u31,u32,u33,u34,u35,out,qv,Q,D,V,HF,aG,HK,rfl⟩ ds b hb gu J K hJ Y;have gx:=zA gu;have HJ:=zA hJ;clear gu hJ;have x4:=V.out.c4;have x3:=V.out.c3;cases Q with
 |nil=>
  obtain⟨A,c,rfl, -⟩:=Kd.mA V.out.rq;have hv:((([]:List Nat).map fun x:Nat=>(x:Int)).length:Int)=0:=rfl;simp only[List.map_nil,List.length_nil] at x4;clear hv Y;gi_wp2;refine(na gx.out fun w' g5=>?_).1;exact⟨_,results_tmp rfl _ _ _,go,co,rfl,out,g5.R V.out.ro,V.out.hb.trans (g5.eA.mono (by omega)),D,HF.out⟩
 |cons v rest=>
  obtain⟨gq,oq,cq,rfl,h',ib, -⟩:=Kd.xK V.out.rq (by simp);have hw:=HF.out.qv v (List.mem_cons_self ..);have a1:=hw.1;have ca:=(Kd.xM 0 V.out.rq 0 (by omega) (by simp)).1;have g6:=Kd.ky (Kd.mz (Kd.xk (k:=1) V.out.rq (by simp))) (ok':=fun k=>k≠go/\(k<wr.heap.size\/wr.heap.size+3<=k)) (fun k hk=>⟨hk.1.1,.inl hk.2.2.1⟩);obtain⟨A',c',ha,hl⟩:=Kd.mA V.out.rq;injection ha with hz hA hC
  subst hC;have d4:=zA (aU wr (.cells #[.int .i64 v] 3));have a2:=zA (V.out.alloc (.cells #[.int .i64 v] 3));have d5:=zA (gx.out.below (af (ai _ _) (.cells #[.int .i64 v] 3)));have cb:=zA (Kd.xf g6 (.cells #[.int .i64 v] 3));simp only[List.map_cons,List.length_cons,List.length_map,List.drop_succ_cons,List.drop_zero,Nat.add_sub_cancel] at x4 ca cb hl;replace ca:wr.cell? ⟨gq,oq,none⟩=some (.int .i64 v):=ca;obtain⟨L,hL⟩:∃L,L=rest.length+1:=⟨_,rfl⟩;rw[<-hL] at x4 hl;have g7:(1:Int)<=(L:Int):=by omega
  have g8:(L:Int)<=(cq:Int):=by omega
  have g9:(0:Int)<(L:Int):=by omega
  have d7:=a2.out.c4;simp only[List.map_cons,List.length_cons,List.length_map] at d7;rw[<-hL] at d7;have g':=zA hL;clear hz hA hL g6;have he:=bc a2.out.x4 0;have hf:=zA (Bf.pop HF.out);have ih:=HF.out.len;by_cases d8:cq=1
  ·subst d8
   obtain rfl:L=1:=by omega
   obtain⟨Z,a3⟩:∃Z,Z=Value.slice (some ⟨gq,oq,none⟩) 0 0:=⟨_,rfl⟩;have a4:=zA (a2.out.vA (lo':=wr.heap.size) (hi':=wr.heap.size+3) (qv':=Z) (Q':=rest) (by have h:=cb.out;rw[if_pos rfl,show rest.length=0 by have:=g'.out;omega] at h;rw[a3];exact h));gi_wp2_with (first|(refine⟨trivial,?_⟩;gi_at_call 194;refine(callsIn_wide.2 (kQ g v _)).mono ?_;rintro e w3 ⟨rfl,rfl⟩))
   rw[<-a3];obtain⟨M,aa⟩:∃X,X=(wr.alloc (.cells #[.int .i64 v] 3)).setCell ⟨b3+1+1,0,none⟩ Z:=⟨_,rfl⟩;have cc:Aside0 (M.heap[wr.heap.size]? =some (.cells #[.int .i64 v] 3 (0,0))):=⟨by rw[aa];exact aH d4.out (show wr.heap.size≠b3+1+1 by omega) _⟩;have cd:M.heap.size=wr.heap.size+1:=by rw[aa];simp
   have ce:Aside0 (bO (b3+3) b ds M):=⟨by rw[aa];exact d5.out.set a2.out.x4 _⟩;rw[<-aa] at a4⊢;have Z1:=aU M (.cells #[.pointer (some ⟨g,0,none⟩)] 135);have Z2:=heap_alloc2_new M (.cells #[.pointer (some ⟨g,0,none⟩)] 135) (.cells #[.int .i64 v] 3);rw[cd] at Z1 Z2;have O:=zA ((a4.out.alloc (.cells #[.pointer (some ⟨g,0,none⟩)] 135)).alloc (.cells #[.int .i64 v] 3));have ar:=zA (aj (aj cc.out (.cells #[.pointer (some ⟨g,0,none⟩)] 135)) (.cells #[.int .i64 v] 3));have av:=zA ((ce.out.below (af (ai _ _) (.cells #[.pointer (some ⟨g,0,none⟩)] 135))).below (af (ai _ _) (.cells #[.int .i64 v] 3)));have a5:=zA (aj Z1 (.cells #[.int .i64 v] 3));have a9:=zA Z2;have aB:=zA (au c7.out O.out.hb);have bb:((M.alloc (.cells #[.pointer (some ⟨g,0,none⟩)] 135)).alloc (.cells #[.int .i64 v] 3)).heap.size=wr.heap.size+3:=by simp[cd]
   have ew:=Nat.le_of_eq bb;have ey:=Nat.le_of_eq bb.symm;clear bb;clear d4 d5 a2 cb a4 cc ce Z1 Z2 aa a3 V x4 d7 x3 ca he g7 g8 g9 hl;generalize (M.alloc (.cells #[.pointer (some ⟨g,0,none⟩)] 135)).alloc (.cells #[.int .i64 v] 3)=r at O ar av a5 a9 aB ew ey⊢;refine fR (σ:=Unit) (α:=Int×Int) (F:=Fence.wide) (n:=10) rfl (by decide) (gf:=207) (lb:=#[.pointer (some ⟨wr.heap.size+1,0,none⟩),.pointer (some ⟨wr.heap.size+1+1,0,none⟩)]) rfl trivial (enters_of Tryz.func207 (by kernel_rfl) rfl)
    (fun o=>px (wr.heap.size+1) (wr.heap.size+1+1) g n A0 c0 E q dv sv er v w _ gd HE.out hn a1 (af (af O.out.hb _) _) (aj (aj a5.out _) _) (aj (aj a9.out _) _) (aj (aj aB.out _) _)) (fun _=>rfl)
    (fun _=>True) ?Gc ?st1 ?Gn
    (fun _ pre W=>r.heap.size<=W.heap.size/\∃(a:List Int) (qv':Value) (Q':List Nat),DI w b3 (b3+1+1) go co n wr.heap.size (wr.heap.size+3) a qv' Q' W/\Bf n q (kh E) a Q' (rd a v) (nV v pre)/\2*(n-bK a)+Q'.length<=2*(n-bK out)+rest.length/\W.heap[wr.heap.size]? =some (.cells #[.int .i64 v] 3 (0,0))/\bO (b3+3) b ds W) (fun _ _ _ _=>False)
    ?Gm (fun _ _ _ _ _ _ h _=>h) ?Ga (fun _ _ _ _ _ h _=>h) ?Gp ?Gk ?IY ?Gs ?Gg ?Gh (fun _ _ _ _ _ _ _ h=>h.elim)
   case Gs=>
    intro l x W K Y;gi_wp2;exact Y
   case Gc=>
    intro o s W1 h;exact⟨trivial,by rw[h];exact bI.refl _ _⟩
   case st1=>intro s A B _ h;exact cQ h
   case Gn=>intro s x A B _ h;exact cQ h.2
   case Gm=>
    rintro s pre A B _ ⟨P,a,qv',Q',h1,z,h4,h5,h6⟩ N;exact⟨Nat.le_trans P N.size,a,qv',Q',h1.below N,z,h4,au h5 N,h6.below N⟩
   case Ga=>
    rintro s pre A B ⟨P,a,qv',Q',h1,z,h4,h5,h6⟩ aF;exact⟨by rw[aF.size];exact P,a,qv',Q',h1.bk aF (by omega),z,h4,aF.cells h5,h6.bk aF (by omega)⟩
   case Gp=>
    intro s A B C D aL cg ch;refine⟨fun aG=>((aL.below w.heap.size (by omega)).trans (cg.1 (by rw[aL.size];exact aG))).trans (ch.below w.heap.size (by omega)),fun k hk ci=>?_⟩;have cj:k≠r.heap.size+1:=by rcases hk with rfl|rfl|rfl<;>omega
    exact(ch.heap k cj).trans ((cg.2 k hk (by rw[aL.size];exact ci)).trans (aL.heap k cj))
   case Gk=>
    rintro o s W1 rfl;exact⟨by simp;omega,out,Z,rest,(O.out.alloc _).alloc _,hf.out.k8 (fun x y h=>⟨h,by simp⟩),aM _,aj (aj ar.out _) _,(av.out.below (af (ai _ _) _)).below (af (ai _ _) _)⟩
   case Gg=>
    rintro l s' pre ⟨u,m⟩ Wb Wc W _ ⟨P,a,qv',Q',i1,i2,i4,i5,i6⟩ ⟨⟨ck,e0⟩,ad⟩ e3 H;have G:=zA ((i1.below ad).bk H (by omega));have S:=zA i4;have I5:=zA (H.cells (au i5 ad));have I6:=zA ((i6.below ad).bk H (by omega));have aP:r.heap.size<=W.heap.size:=by have:=H.size;have:=ad.size;omega
    clear i1 i4 i5 i6 ad H e3 P;simp only at ck;obtain⟨u0,u1,m0,m1⟩:=ck;obtain⟨u,rfl⟩:=Int.eq_ofNat_of_zero_le u0;have aS:u<n:=by omega
    obtain⟨l1,l2⟩:=Bf.look (ex:=fun y=>¬∃m,((y:Int),m)∈pre) i2 aS a1 ⟨m,e0⟩;have hI:=i2.d0;have hM:rd a v<=1000:=by have h1:=i2.hi v a1;have z:=iG a;have h3:=i2.len;omega
    have e4:=zA i2.len;have z3:=G.out.c3;have z4:=G.out.iS u aS;have cn:∀(ex:Nat->Prop) (x y:Nat),(x=v/\(¬∃m,((y:Int),m)∈pre)/\y≠u)->nV v (pre++[((u:Int),m)]) x y:=fun ex x y h=>⟨h.1,fun⟨m',ak⟩=>by
     rcases List.mem_append.1 ak with ak|ak
     ·exact h.2.1 ⟨m',ak⟩
     ·have:=List.mem_singleton.1 ak
      injection this with e1 e2
      exact h.2.2 (by omega)⟩
    have cr:=zA cn;clear cn i2;by_cases bg:rd a u<0
    ·obtain⟨k1,k2,k3,k4⟩:=l2 bg
     have K2:=zA k2;have K3:=zA k3;have K4:=zA (k4.k8 (cr.out (fun _=>True)));have e':decide (rd a u<0)=true:=aA bg;clear l1 l2 k1 k2 k3 k4;gi_wp2;have z3:=G.out.c3;have z4:=G.out.iS v a1;have z5:=(ah I5.out 0).trans rfl;have fd:wrap64 (rd a v+1)=rd a v+1:=by unfold wrap64;omega
     have hO:(0:Int)<=(u:Int):=by omega
     have hP:(0:Int)<=(v:Int):=by omega
     have bn:(v:Int)<(n:Int):=by omega
     refine nQ [_,_,_,_,_,_,_,_] _ rfl (by kernel_rfl) rfl (by kernel_rfl) (by kernel_rfl) (by kernel_rfl) (by kernel_rfl) ?_;repeat(gi_big_quiet_step (fail))
     refine wpQuietIn_nil ?_;rintro _ ⟨nq,rfl⟩;have I:=zA (G.out.drewN nq);have J5:=zA (iV I5.out nq);have J6:=zA (I6.out.below (cz (ai _ _) nq));have bw:r.heap.size<=(W.drewN nq).heap.size:=by simpa using aP
     have bx:=zA (cQ (nw:=r.heap.size) (cz (ai W.heap.size W) nq));have b0:=zA (cz (ai w.heap.size W) nq);have b1:Aside0 (∀k,k≠go->(W.drewN nq).heap[k]? =W.heap[k]?):=⟨fun k _=>by simp⟩;clear z3 z4 z5 fd;have z5:=I.out.vB u aS;have z6:=I.out.iS u aS;generalize W.drewN nq=Wq at I J5 J6 bw bx b0 b1 z5 z6⊢;obtain⟨g1,g2,g3,g4⟩:=I.out.ld;obtain⟨n1,n2,n3,n4,n5⟩:=I.out.ne;have i:=zA (I.out.vz u (rd a v+1));have fq:wr.heap.size≠go:=by omega
     have fr:=zA (aH (p:=⟨go,u,none⟩) J5.out fq (.int .i64 (rd a v+1)));have ft:Aside0 (bO (b3+3) b ds (Wq.setCell ⟨go,u,none⟩ (.int .i64 (rd a v+1)))):=⟨by
      obtain⟨inner,ho⟩:=Kd.iw I.out.ro;obtain⟨cells,hc⟩:=iu ho go rfl;exact J6.out.set (p:=⟨go,u,none⟩) hc _⟩
     have f2:r.heap.size<=(Wq.setCell ⟨go,u,none⟩ (.int .i64 (rd a v+1))).heap.size:=by simpa using bw
     have f3:=zA (bx.out.trans (eu (bo:=go) (j:=u) Wq (.int .i64 (rd a v+1)) (show go<r.heap.size by omega)));have f4:Aside0 (∀k,k≠go->(Wq.setCell ⟨go,u,none⟩ (.int .i64 (rd a v+1))).heap[k]? =W.heap[k]?):=⟨fun k hk=>(Below.heap_setCell _ _ _ _ hk).trans (b1.out k hk)⟩;have f5:Aside0 (∀k,(Wq.setCell ⟨go,u,none⟩ (.int .i64 (rd a v+1))).heap.size<=k->k≠go/\(k<wr.heap.size\/wr.heap.size+3<=k)):=⟨fun k hk=>by
      simp only[World.size_setCell] at hk;omega⟩
     have f6:Aside0 (((Q'.map fun x:Nat=>(x:Int)).length+1)*8<=140737488355328):=⟨by
      have h1:=S.out;have z:=HK.out.1;have h3:=HK.out.2;rw[List.length_cons] at z;rw[List.length_map];omega⟩
     have f7:=zA (Below.setCell (p:=⟨go,u,none⟩) b0.out g4 (.int .i64 (rd a v+1)));have z4:=i.out.c4;have hV:go≠b3+1+1:=n3;clear G I5 I6 I J5 J6 bw bx b0 b1 aP O ar av aB;gi_wp2_with (gi_at_builtin;go_loud (refine vx (Kd.int .i64) (w0:=w) w.heap.size rfl (.tmp 51) (.tmp 53) 25 3 (.int .i64 0) 8 rfl Tryz.underlying25 fC rfl (by decide) (by omega) qv' (Q'.map fun x:Nat=>(x:Int)) (u:Int) [.int .i64 u] (fun k=>k≠go/\(k<wr.heap.size\/wr.heap.size+3<=k)) (fun _=>False) rfl (by rw[World.size_setCell];rfl) rfl (fun _ hk=>hk.elim) f5.out i.out.rq i.out.hb i.out.hb.size f6.out ?_;intro v1 hW T c2 a0 f8;obtain⟨A1,c1,bn, -⟩:=Kd.mA T;obtain⟨nx,c6⟩:∃nx,nx=((Q'.map fun x:Nat=>(x:Int))++[(u:Int)]).length:=⟨_,rfl⟩;rw[<-c6] at bn;clear c6;subst bn;have f9:=zA (i.out.push T a0 c2);have X4:=zA (cZ i.out.x4 a0 (fun e=>(i.out.own _ e.symm).2.2.2.2 rfl));have d8:=cB X4.out;have hY:=bc X4.out 0;have f':=zA a0;clear T a0 f8 c2))
     have U:=f'.out;have T:=i.out.own;have Y:∀k,(k=wr.heap.size\/k=wr.heap.size+1\/k=wr.heap.size+1+1\/k=g)->some k≠qv'.ownBlock:=fun k hk e=>by
      have:=T k e.symm;rcases hk with rfl|rfl|rfl|rfl<;>omega
     have hZ:=U.size;refine⟨(f3.out.trans (vy i.out.rq U)).trans (eu _ _ (show b3+1+1<r.heap.size by omega)),⟨fun _=>Below.setCell (p:=⟨b3+1+1,0,none⟩) (f7.out.grown U i.out.hb.size (fun k e=>(T k e).2.2.1)) n5 _,fun k hk ci=>?_⟩,?_,_,_,Q'++[u],f9.out,?_,?_,aH (cZ fr.out U (Y _ (.inl rfl))) (show wr.heap.size≠b3+1+1 by omega) _,(ft.out.vw i.out.rq U).set X4.out _⟩
     ·refine(Below.heap_setCell _ _ _ _ (show k≠b3+1+1 by rcases hk with rfl|rfl|rfl<;>omega)).trans ((U.block k ?_ (Y k (hk.elim (fun h=>.inr (.inl h)) (fun h=>.inr (.inr h))))).trans (f4.out k (by rcases hk with rfl|rfl|rfl<;>omega)))
      have h1:=f2;rcases hk with rfl|rfl|rfl<;>omega
     ·simp only[World.size_setCell];omega
     ·rw[K2.out];exact K4.out
     ·rw[K3.out,List.length_append]
      have h1:=S.out;have z:=iG (a.set u (rd a v+1));rw[K3.out,List.length_set,e4.out] at z;simp only[List.length_cons,List.length_nil];omega
    ·have K4:=zA ((l1 (by omega)).k8 (cr.out (fun _=>True)))
     have e':decide (rd a u<0)=false:=aY bg;clear l1 l2 O ar av a5 a9 aB;gi_wp2;exact⟨bI.refl _ _,⟨fun _=>ai _ _,fun _ _ _=>rfl⟩,aP,a,qv',Q',G.out,K4.out,S.out,I5.out,I6.out⟩
   case Gh=>
    rintro s' xs W W' _ rfl ⟨P,a,qv',Q',i1,i2,i4,i5,i6⟩ H b4;have G:=zA (i1.bk H (by omega)).free;have I2:=zA (Bf.done i2 (fun x y gb hex=>hex.2 (by rw[<-hex.1];exact gb)));have S:=zA i4;have I6:=zA (i6.bk H (by omega));have gc:=zA b4;have aP:r.heap.size<W'.heap.size:=(Array.getElem?_eq_some_iff.1 b4).1;clear i1 i2 i4 i5 i6 b4;gi_wp2;exact jf.intro (2*(n-bK a)+Q'.length) (by rw[HK.out.1];have:=S.out;simp only[List.length_cons];omega) (HJ.out _ _ _ ⟨_,_,_,_,_,_,_,_,_,_,_,_,a,qv',Q',_,G,I2,by omega,⟨rfl,by have h1:=S.out;have z:=HK.out.1;have h3:=HK.out.2;rw[List.length_cons] at z;omega⟩,rfl⟩) (r.heap.size+1) (by omega) (I6.out.push (by omega) (by omega) gc.out)
  ·obtain⟨Z,a3⟩:∃Z,Z=Value.slice (some ⟨gq,oq+1,none⟩) (L-1) (cq-1):=⟨_,rfl⟩
   have a4:=zA (a2.out.vA (lo':=wr.heap.size) (hi':=wr.heap.size+3) (qv':=Z) (Q':=rest) (by have h:=cb.out;rw[if_neg d8,show rest.length=L-1 by have:=g'.out;omega] at h;rw[a3];exact h));gi_wp2_with (first|(refine⟨trivial,?_⟩;gi_at_call 194;refine(callsIn_wide.2 (kQ g v _)).mono ?_;rintro e w3 ⟨rfl,rfl⟩))
   rw[<-a3];obtain⟨M,aa⟩:∃X,X=(wr.alloc (.cells #[.int .i64 v] 3)).setCell ⟨b3+1+1,0,none⟩ Z:=⟨_,rfl⟩;have cc:Aside0 (M.heap[wr.heap.size]? =some (.cells #[.int .i64 v] 3 (0,0))):=⟨by rw[aa];exact aH d4.out (show wr.heap.size≠b3+1+1 by omega) _⟩;have cd:M.heap.size=wr.heap.size+1:=by rw[aa];simp
   have ce:Aside0 (bO (b3+3) b ds M):=⟨by rw[aa];exact d5.out.set a2.out.x4 _⟩;rw[<-aa] at a4⊢;have Z1:=aU M (.cells #[.pointer (some ⟨g,0,none⟩)] 135);have Z2:=heap_alloc2_new M (.cells #[.pointer (some ⟨g,0,none⟩)] 135) (.cells #[.int .i64 v] 3);rw[cd] at Z1 Z2;have O:=zA ((a4.out.alloc (.cells #[.pointer (some ⟨g,0,none⟩)] 135)).alloc (.cells #[.int .i64 v] 3));have ar:=zA (aj (aj cc.out (.cells #[.pointer (some ⟨g,0,none⟩)] 135)) (.cells #[.int .i64 v] 3));have av:=zA ((ce.out.below (af (ai _ _) (.cells #[.pointer (some ⟨g,0,none⟩)] 135))).below (af (ai _ _) (.cells #[.int .i64 v] 3)));have a5:=zA (aj Z1 (.cells #[.int .i64 v] 3));have a9:=zA Z2;have aB:=zA (au c7.out O.out.hb);have bb:((M.alloc (.cells #[.pointer (some ⟨g,0,none⟩)] 135)).alloc (.cells #[.int .i64 v] 3)).heap.size=wr.heap.size+3:=by simp[cd]
   have ew:=Nat.le_of_eq bb;have ey:=Nat.le_of_eq bb.symm;clear bb;clear d4 d5 a2 cb a4 cc ce Z1 Z2 aa a3 V x4 d7 x3 ca he g7 g8 g9 hl;generalize (M.alloc (.cells #[.pointer (some ⟨g,0,none⟩)] 135)).alloc (.cells #[.int .i64 v] 3)=r at O ar av a5 a9 aB ew ey⊢;refine fR (σ:=Unit) (α:=Int×Int) (F:=Fence.wide) (n:=10) rfl (by decide) (gf:=207) (lb:=#[.pointer (some ⟨wr.heap.size+1,0,none⟩),.pointer (some ⟨wr.heap.size+1+1,0,none⟩)]) rfl trivial (enters_of Tryz.func207 (by kernel_rfl) rfl)
    (fun o=>px (wr.heap.size+1) (wr.heap.size+1+1) g n A0 c0 E q dv sv er v w _ gd HE.out hn a1 (af (af O.out.hb _) _) (aj (aj a5.out _) _) (aj (aj a9.out _) _) (aj (aj aB.out _) _)) (fun _=>rfl)
    (fun _=>True) ?Gd ?st2 ?Gq
    (fun _ pre W=>r.heap.size<=W.heap.size/\∃(a:List Int) (qv':Value) (Q':List Nat),DI w b3 (b3+1+1) go co n wr.heap.size (wr.heap.size+3) a qv' Q' W/\Bf n q (kh E) a Q' (rd a v) (nV v pre)/\2*(n-bK a)+Q'.length<=2*(n-bK out)+rest.length/\W.heap[wr.heap.size]? =some (.cells #[.int .i64 v] 3 (0,0))/\bO (b3+3) b ds W) (fun _ _ _ _=>False)
    ?Gb (fun _ _ _ _ _ _ h _=>h) ?Gi (fun _ _ _ _ _ h _=>h) ?Gl ?Gr ?a12 ?Ge ?Gj ?Gf (fun _ _ _ _ _ _ _ h=>h.elim)
   case Ge=>
    intro l x W K Y;gi_wp2;exact Y
   case Gd=>
    intro o s W1 h;exact⟨trivial,by rw[h];exact bI.refl _ _⟩
   case st2=>intro s A B _ h;exact cQ h
   case Gq=>intro s x A B _ h;exact cQ h.2
   case Gb=>
    rintro s pre A B _ ⟨P,a,qv',Q',h1,z,h4,h5,h6⟩ N;exact⟨Nat.le_trans P N.size,a,qv',Q',h1.below N,z,h4,au h5 N,h6.below N⟩
   case Gi=>
    rintro s pre A B ⟨P,a,qv',Q',h1,z,h4,h5,h6⟩ aF;exact⟨by rw[aF.size];exact P,a,qv',Q',h1.bk aF (by omega),z,h4,aF.cells h5,h6.bk aF (by omega)⟩
   case Gl=>
    intro s A B C D aL cg ch;refine⟨fun aG=>((aL.below w.heap.size (by omega)).trans (cg.1 (by rw[aL.size];exact aG))).trans (ch.below w.heap.size (by omega)),fun k hk ci=>?_⟩;have cj:k≠r.heap.size+1:=by rcases hk with rfl|rfl|rfl<;>omega
    exact(ch.heap k cj).trans ((cg.2 k hk (by rw[aL.size];exact ci)).trans (aL.heap k cj))
   case Gr=>
    rintro o s W1 rfl;exact⟨by simp;omega,out,Z,rest,(O.out.alloc _).alloc _,hf.out.k8 (fun x y h=>⟨h,by simp⟩),aM _,aj (aj ar.out _) _,(av.out.below (af (ai _ _) _)).below (af (ai _ _) _)⟩
   case Gj=>
    rintro l s' pre ⟨u,m⟩ Wb Wc W _ ⟨P,a,qv',Q',i1,i2,i4,i5,i6⟩ ⟨⟨ck,e0⟩,ad⟩ e3 H;have G:=zA ((i1.below ad).bk H (by omega));have S:=zA i4;have I5:=zA (H.cells (au i5 ad));have I6:=zA ((i6.below ad).bk H (by omega));have aP:r.heap.size<=W.heap.size:=by have:=H.size;have:=ad.size;omega
    clear i1 i4 i5 i6 ad H e3 P;simp only at ck;obtain⟨u0,u1,m0,m1⟩:=ck;obtain⟨u,rfl⟩:=Int.eq_ofNat_of_zero_le u0;have aS:u<n:=by omega
    obtain⟨l1,l2⟩:=Bf.look (ex:=fun y=>¬∃m,((y:Int),m)∈pre) i2 aS a1 ⟨m,e0⟩;have hI:=i2.d0;have hM:rd a v<=1000:=by have h1:=i2.hi v a1;have z:=iG a;have h3:=i2.len;omega
    have e4:=zA i2.len;have z3:=G.out.c3;have z4:=G.out.iS u aS;have cn:∀(ex:Nat->Prop) (x y:Nat),(x=v/\(¬∃m,((y:Int),m)∈pre)/\y≠u)->nV v (pre++[((u:Int),m)]) x y:=fun ex x y h=>⟨h.1,fun⟨m',ak⟩=>by
     rcases List.mem_append.1 ak with ak|ak
     ·exact h.2.1 ⟨m',ak⟩
     ·have:=List.mem_singleton.1 ak
      injection this with e1 e2
      exact h.2.2 (by omega)⟩
    have cr:=zA cn;clear cn i2;by_cases bg:rd a u<0
    ·obtain⟨k1,k2,k3,k4⟩:=l2 bg
     have K2:=zA k2;have K3:=zA k3;have K4:=zA (k4.k8 (cr.out (fun _=>True)));have e':decide (rd a u<0)=true:=aA bg;clear l1 l2 k1 k2 k3 k4;gi_wp2;have z3:=G.out.c3;have z4:=G.out.iS v a1;have z5:=(ah I5.out 0).trans rfl;have fd:wrap64 (rd a v+1)=rd a v+1:=by unfold wrap64;omega
     have hO:(0:Int)<=(u:Int):=by omega
     have hP:(0:Int)<=(v:Int):=by omega
     have bn:(v:Int)<(n:Int):=by omega
     refine nQ [_,_,_,_,_,_,_,_] _ rfl (by kernel_rfl) rfl (by kernel_rfl) (by kernel_rfl) (by kernel_rfl) (by kernel_rfl) ?_;repeat(gi_big_quiet_step (fail))
     refine wpQuietIn_nil ?_;rintro _ ⟨nq,rfl⟩;have I:=zA (G.out.drewN nq);have J5:=zA (iV I5.out nq);have J6:=zA (I6.out.below (cz (ai _ _) nq));have bw:r.heap.size<=(W.drewN nq).heap.size:=by simpa using aP
     have bx:=zA (cQ (nw:=r.heap.size) (cz (ai W.heap.size W) nq));have b0:=zA (cz (ai w.heap.size W) nq);have b1:Aside0 (∀k,k≠go->(W.drewN nq).heap[k]? =W.heap[k]?):=⟨fun k _=>by simp⟩;clear z3 z4 z5 fd;have z5:=I.out.vB u aS;have z6:=I.out.iS u aS;generalize W.drewN nq=Wq at I J5 J6 bw bx b0 b1 z5 z6⊢;obtain⟨g1,g2,g3,g4⟩:=I.out.ld;obtain⟨n1,n2,n3,n4,n5⟩:=I.out.ne;have i:=zA (I.out.vz u (rd a v+1));have fq:wr.heap.size≠go:=by omega
     have fr:=zA (aH (p:=⟨go,u,none⟩) J5.out fq (.int .i64 (rd a v+1)));have ft:Aside0 (bO (b3+3) b ds (Wq.setCell ⟨go,u,none⟩ (.int .i64 (rd a v+1)))):=⟨by
      obtain⟨inner,ho⟩:=Kd.iw I.out.ro;obtain⟨cells,hc⟩:=iu ho go rfl;exact J6.out.set (p:=⟨go,u,none⟩) hc _⟩
     have f2:r.heap.size<=(Wq.setCell ⟨go,u,none⟩ (.int .i64 (rd a v+1))).heap.size:=by simpa using bw
     have f3:=zA (bx.out.trans (eu (bo:=go) (j:=u) Wq (.int .i64 (rd a v+1)) (show go<r.heap.size by omega)));have f4:Aside0 (∀k,k≠go->(Wq.setCell ⟨go,u,none⟩ (.int .i64 (rd a v+1))).heap[k]? =W.heap[k]?):=⟨fun k hk=>(Below.heap_setCell _ _ _ _ hk).trans (b1.out k hk)⟩;have f5:Aside0 (∀k,(Wq.setCell ⟨go,u,none⟩ (.int .i64 (rd a v+1))).heap.size<=k->k≠go/\(k<wr.heap.size\/wr.heap.size+3<=k)):=⟨fun k hk=>by
      simp only[World.size_setCell] at hk;omega⟩
     have f6:Aside0 (((Q'.map fun x:Nat=>(x:Int)).length+1)*8<=140737488355328):=⟨by
      have h1:=S.out;have z:=HK.out.1;have h3:=HK.out.2;rw[List.length_cons] at z;rw[List.length_map];omega⟩
     have f7:=zA (Below.setCell (p:=⟨go,u,none⟩) b0.out g4 (.int .i64 (rd a v+1)));have z4:=i.out.c4;have hV:go≠b3+1+1:=n3;clear G I5 I6 I J5 J6 bw bx b0 b1 aP O ar av aB;gi_wp2_with (gi_at_builtin;go_loud (refine vx (Kd.int .i64) (w0:=w) w.heap.size rfl (.tmp 51) (.tmp 53) 25 3 (.int .i64 0) 8 rfl Tryz.underlying25 fC rfl (by decide) (by omega) qv' (Q'.map fun x:Nat=>(x:Int)) (u:Int) [.int .i64 u] (fun k=>k≠go/\(k<wr.heap.size\/wr.heap.size+3<=k)) (fun _=>False) rfl (by rw[World.size_setCell];rfl) rfl (fun _ hk=>hk.elim) f5.out i.out.rq i.out.hb i.out.hb.size f6.out ?_;intro v1 hW T c2 a0 f8;obtain⟨A1,c1,bn, -⟩:=Kd.mA T;obtain⟨nx,c6⟩:∃nx,nx=((Q'.map fun x:Nat=>(x:Int))++[(u:Int)]).length:=⟨_,rfl⟩;rw[<-c6] at bn;clear c6;subst bn;have f9:=zA (i.out.push T a0 c2);have X4:=zA (cZ i.out.x4 a0 (fun e=>(i.out.own _ e.symm).2.2.2.2 rfl));have d8:=cB X4.out;have hY:=bc X4.out 0;have f':=zA a0;clear T a0 f8 c2))
     have U:=f'.out;have T:=i.out.own;have Y:∀k,(k=wr.heap.size\/k=wr.heap.size+1\/k=wr.heap.size+1+1\/k=g)->some k≠qv'.ownBlock:=fun k hk e=>by
      have:=T k e.symm;rcases hk with rfl|rfl|rfl|rfl<;>omega
     have hZ:=U.size;refine⟨(f3.out.trans (vy i.out.rq U)).trans (eu _ _ (show b3+1+1<r.heap.size by omega)),⟨fun _=>Below.setCell (p:=⟨b3+1+1,0,none⟩) (f7.out.grown U i.out.hb.size (fun k e=>(T k e).2.2.1)) n5 _,fun k hk ci=>?_⟩,?_,_,_,Q'++[u],f9.out,?_,?_,aH (cZ fr.out U (Y _ (.inl rfl))) (show wr.heap.size≠b3+1+1 by omega) _,(ft.out.vw i.out.rq U).set X4.out _⟩
     ·refine(Below.heap_setCell _ _ _ _ (show k≠b3+1+1 by rcases hk with rfl|rfl|rfl<;>omega)).trans ((U.block k ?_ (Y k (hk.elim (fun h=>.inr (.inl h)) (fun h=>.inr (.inr h))))).trans (f4.out k (by rcases hk with rfl|rfl|rfl<;>omega)))
      have h1:=f2;rcases hk with rfl|rfl|rfl<;>omega
     ·simp only[World.size_setCell];omega
     ·rw[K2.out];exact K4.out
     ·rw[K3.out,List.length_append]
      have h1:=S.out;have z:=iG (a.set u (rd a v+1));rw[K3.out,List.length_set,e4.out] at z;simp only[List.length_cons,List.length_nil];omega
    ·have K4:=zA ((l1 (by omega)).k8 (cr.out (fun _=>True)))
     have e':decide (rd a u<0)=false:=aY bg;clear l1 l2 O ar av a5 a9 aB;gi_wp2;exact⟨bI.refl _ _,⟨fun _=>ai _ _,fun _ _ _=>rfl⟩,aP,a,qv',Q',G.out,K4.out,S.out,I5.out,I6.out⟩
   case Gf=>
    rintro s' xs W W' _ rfl ⟨P,a,qv',Q',i1,i2,i4,i5,i6⟩ H b4;have G:=zA (i1.bk H (by omega)).free;have I2:=zA (Bf.done i2 (fun x y gb hex=>hex.2 (by rw[<-hex.1];exact gb)));have S:=zA i4;have I6:=zA (i6.bk H (by omega));have gc:=zA b4;have aP:r.heap.size<W'.heap.size:=(Array.getElem?_eq_some_iff.1 b4).1;clear i1 i2 i4 i5 i6 b4;gi_wp2;exact jf.intro (2*(n-bK a)+Q'.length) (by rw[HK.out.1];have:=S.out;simp only[List.length_cons];omega) (HJ.out _ _ _ ⟨_,_,_,_,_,_,_,_,_,_,_,_,a,qv',Q',_,G,I2,by omega,⟨rfl,by have h1:=S.out;have z:=HK.out.1;have h3:=HK.out.2;rw[List.length_cons] at z;omega⟩,rfl⟩) (r.heap.size+1) (by omega) (I6.out.push (by omega) (by omega) gc.out)
end
section
attribute [local go_sem] jN jO jP jQ mK mL mM mN
def fk (xs:List Int):Nat->Int
 |0=>rd xs 0
 |k+1=>if fk xs k<rd xs ((k+1:Nat):Int) then rd xs ((k+1:Nat):Int) else fk xs k
theorem DR (A:Option Addr) (c:Nat) (xs:List Int) (w:World) (h:Kd.C (Kd.int .i64) w A xs.length xs) (h1:1<=xs.length):
  Calls Tryz.prog 167 #[.slice A xs.length c] w fun e w'=>e= .returned (.int .i64 (fk xs (xs.length-1)))/\Below w.heap.size w w':=by
 have v:xs.length<=9223372036854775807:=Kd.lr h;have b:=zA (ai w.heap.size w);have m:=zA h;obtain⟨a,n,g⟩:=Kd.cP h 0 (by omega) (by omega);subst n;have g:w.cell? a=some (.int .i64 (rd xs 0)):=by simpa [Addr.add] using g
 have x:(1:Int)<=(xs.length:Int):=by omega
 have B:((xs.length:Nat):Int)<=9223372036854775807:=by omega
 clear h;go_enter Tryz.func167,Tryz.ntmps167
 go_wp2;clear g;go_loopg [3,4] (xs.length-1) (fun o p q wr=>∃i:Nat,p= .int .i64 (fk xs (i-1))/\q= .int .i64 i/\1<=i/\i<=xs.length/\Aside0 (Below w.heap.size w wr)/\Aside0 (o=xs.length-i))
 case atStart=>exact⟨1,rfl,rfl,aM _,h1,b,⟨rfl⟩⟩
 case round=>
  clear b;obtain⟨i,rfl,rfl,D,E,b,r⟩:=hrel;by_cases F:i<xs.length
  ·have s:(0:Int)<=(i:Int):=by omega
   have u:(i:Int)<(xs.length:Int):=by omega
   obtain⟨a',k,g⟩:=Kd.cP (Kd.al m.out b.out) (i:Int) s u;injection k with k
   subst k;rw[aq] at g;have l:Aside0 (fk xs (i+1-1)=if fk xs (i-1)<rd xs (i:Int) then rd xs (i:Int) else fk xs (i-1)):=⟨by
    obtain⟨j,rfl⟩:∃j,i=j+1:=⟨i-1,by omega⟩;rfl⟩
   generalize fk xs (i-1)=y at l⊢;generalize rd xs (i:Int)=z at g l;go_wp2
   all_goals
    go_roundg (xs.length- (i+1))
    case measure=>rw[r.out];omega
    case rel=>exact⟨i+1,(by rw[l.out];first|rw[if_pos (by assumption)]|rw[if_neg (by assumption)]|rw[if_neg (by omega)]),by go_num,by omega,by omega,b,⟨rfl⟩⟩
  ·obtain rfl:i=xs.length:=by omega
   go_wp2;go_ret;exact⟨rfl,b.out⟩
end
section
attribute [local go_sem] Oper.semAt_some
theorem DS (g n:Nat) (A0:Option Addr) (c0:Nat) (E:List S83) (q:Int) (dv Q:Value) (R:Int) (v:Nat) (lb:Array Value) (B:Nat->Bool) (w:World) (aa:Kd.C aQ w A0 E.length E) (hE:dN n E) (hn:n<=1000) (hv:v<n) (i:fF w g n (.slice A0 E.length c0) q dv Q R)
  (hB:∀(W:World) (u:Int),Below w.heap.size w W->0<=u->u<n->Calls Tryz.prog 169 (#[.int .i64 u]++lb) W fun e w'=>e= .returned (.bool (B u.toNat))/\Below W.heap.size W w'):
  Calls Tryz.prog 168 #[.pointer (some ⟨g,0,none⟩),.int .i64 v,.func (.func 169) #[] lb] w fun e w'=>e= .returned (.int .i64 (dG B (bU E v E.length)))/\Below w.heap.size w w':=by
 have a9:=zA hB;have HE:=zA hE;have ak:=zA i;clear hB hE i;refine(callsIn_wide (n:=10)).1 ?_;refine callsIn_of_wp_marks Tryz.func168 rfl trivial ?_ rfl;simp only[Tryz.ntmps168,List.size_toArray,List.length_cons,List.length_nil,Nat.reduceAdd,Nat.reduceSub,Array.replicate_succ,Array.replicate_zero,List.push_toArray,List.append_toArray,List.nil_append,List.cons_append];gi_wp2_with (refine⟨trivial,?_⟩;gi_at_call 194;refine(callsIn_wide.2 (kQ g v _)).mono ?_;rintro e w3 ⟨rfl,rfl⟩)
 obtain⟨p,am⟩:∃o:Obj,o= .cells #[.func (.func 169) #[] lb] 121:=⟨_,rfl⟩;obtain⟨on,an⟩:∃o:Obj,o= .cells #[.int .i64 0] 3:=⟨_,rfl⟩;obtain⟨r,ao⟩:∃o:Obj,o= .cells #[.pointer (some ⟨g,0,none⟩)] 135:=⟨_,rfl⟩;obtain⟨y,ap⟩:∃o:Obj,o= .cells #[.int .i64 v] 3:=⟨_,rfl⟩;have Z0:=aU w p;have S:=aU (w.alloc p) on;have T:=aU ((w.alloc p).alloc on) r;have U:=aU (((w.alloc p).alloc on).alloc r) y;simp only[World.size_alloc] at S T U;have H0:=zA ((aj (aj (aj Z0 on) r) y).trans (by rw[am]:_=some (.cells #[.func (.func 169) #[] lb] 121 (0,0))));have H1:=zA ((aj (aj S r) y).trans (by rw[an]:_=some (.cells #[.int .i64 0] 3 (0,0))));have H2:=zA ((aj T y).trans (by rw[ao]:_=some (.cells #[.pointer (some ⟨g,0,none⟩)] 135 (0,0))));have H3:=zA (U.trans (by rw[ap]:_=some (.cells #[.int .i64 v] 3 (0,0))));have z:=zA (af (af (af (af (ai w.heap.size w) p) on) r) y);have aO:Aside0 (fF ((((w.alloc p).alloc on).alloc r).alloc y) g n (.slice A0 E.length c0) q dv Q R):=⟨au ak.out z.out⟩;have bn:g<w.heap.size:=ay ak.out;have bd:=zA (Kd.al aa z.out);clear Z0 S T U;subst am an ao ap;have be:=z.out.size;have bf:((((w.alloc (.cells #[.func (.func 169) #[] lb] 121)).alloc (.cells #[.int .i64 0] 3)).alloc (.cells #[.pointer (some ⟨g,0,none⟩)] 135)).alloc (.cells #[.int .i64 v] 3)).heap.size=w.heap.size+4:=by simp
 generalize ((((w.alloc (.cells #[.func (.func 169) #[] lb] 121)).alloc (.cells #[.int .i64 0] 3)).alloc (.cells #[.pointer (some ⟨g,0,none⟩)] 135)).alloc (.cells #[.int .i64 v] 3))=j at H0 H1 H2 H3 z aO bd be bf⊢;refine fR (σ:=Unit) (α:=Int×Int) (F:=Fence.wide) (n:=10) rfl (by decide) (gf:=207) (lb:=#[.pointer (some ⟨w.heap.size+1+1,0,none⟩),.pointer (some ⟨w.heap.size+1+1+1,0,none⟩)]) rfl trivial (enters_of Tryz.func207 (by kernel_rfl) rfl)
  (fun o=>nc (w.heap.size+1+1) (w.heap.size+1+1+1) g n A0 c0 E q dv Q R v w _ aa HE.out hn hv (af (af z.out _) _) (aj (aj H2.out _) _) (aj (aj H3.out _) _) (aj (aj aO.out _) _)) (fun _=>rfl)
  (fun _=>True) ?dT ?st ?ar
  (fun _ pre W=>j.heap.size<=W.heap.size/\W.heap[w.heap.size]? =some (.cells #[.func (.func 169) #[] lb] 121 (0,0))/\W.heap[w.heap.size+1]? =some (.cells #[.int .i64 (dG B pre)] 3 (0,0))/\Below w.heap.size w W) (fun _ _ _ _=>False)
  ?is (fun _ _ _ _ _ _ h _=>h) ?ib (fun _ _ _ _ _ h _=>h) ?kt ?h0 ?a1 ?assign ?body ?done (fun _ _ _ _ _ _ _ h=>h.elim)
 case assign=>
  intro l x W K hK;gi_wp2;exact hK
 case dT=>
  intro o s W1 h;exact⟨trivial,by rw[h];exact bI.refl _ _⟩
 case st=>intro s A B _ h;exact cQ h
 case ar=>intro s x A B _ h;exact cQ h.2
 case is=>
  rintro s pre A B _ ⟨H,h1,V,X⟩ i;exact⟨Nat.le_trans H i.size,au h1 i,au V i,aC X i⟩
 case ib=>
  rintro s pre A B ⟨H,h1,V,X⟩ hb;exact⟨by rw[hb.size];exact H,hb.cells h1,hb.cells V,X.trans (hb.below w.heap.size (by omega))⟩
 case kt=>
  intro s A B C D N aP aS;refine⟨fun aG=>((N.below w.heap.size (by omega)).trans (aP.1 (by rw[N.size];exact aG))).trans (aS.below w.heap.size (by omega)),fun k hk I=>?_⟩;have a0:k≠j.heap.size+1:=by rcases hk with rfl|rfl|rfl<;>omega
  exact(aS.heap k a0).trans ((aP.2 k hk (by rw[N.size];exact I)).trans (N.heap k a0))
 case h0=>
  rintro o s W1 rfl;exact⟨by simp;omega,aj (aj H0.out _) _,aj (aj H1.out _) _,af (af z.out _) _⟩
 case body=>
  rintro l s pre ⟨u,m⟩ Wb W1 W _ ⟨H,i1,i2,i3⟩ ⟨Y,J⟩ bi b;have b1:=zA (b.cells (au i1 J));have L:=zA (b.cells (au i2 J));have b3:=zA ((aC i3 J).trans (b.below w.heap.size (by omega)));have bq:j.heap.size<=W.heap.size:=by have:=b.size;have:=J.size;omega
  clear i1 i2 i3 J b bi;simp only at Y;have bv:W.cell? ⟨w.heap.size,0,none⟩=some (.func (.func 169) #[] lb):=(ah b1.out 0).trans rfl;have O:=zA (a9.out W u b3.out Y.1 Y.2.1);have M:=zA (qw B pre (u,m));generalize dG B pre=s0 at L M;cases P:B u.toNat with
  |true=>
   rw[P] at O M;clear P;gi_wp2_with (refine⟨trivial,?_⟩;gi_at_call 169;refine(callsIn_wide.2 O.out).mono ?_;rintro e w5 ⟨rfl,G⟩;have a:=zA G;have Z:=zA (au L.out G);have c5:w5.cell? ⟨w.heap.size+1,0,none⟩=some (.int .i64 s0):=(ah Z.out 0).trans rfl;have f5:=bc Z.out 0;clear G)
   have aG:=a.out.size;refine⟨(cQ a.out).trans (eu _ _ (by show w.heap.size+1<j.heap.size;omega)),⟨fun aG=>Below.setCell (a.out.mono aG) (by show w.heap.size<=w.heap.size+1;omega) _,fun k hk I=>?_⟩,by simp;omega,?_,?_,Below.setCell (aC b3.out a.out) (by show w.heap.size<=w.heap.size+1;omega) _⟩
   ·rw[Below.heap_setCell _ _ _ _ (by rcases hk with rfl|rfl|rfl<;>(show _≠w.heap.size+1)<;>omega)]
    exact a.out.block k I
   ·rw[Below.heap_setCell _ _ _ _ (by show w.heap.size≠w.heap.size+1;omega)]
    exact au b1.out a.out
   ·have h:=bB Z.out 0 (.int .i64 (wrap64 (s0+m)))
    rw[M.out];simpa using h
  |false=>
   rw[P] at O M;clear P;gi_wp2_with (refine⟨trivial,?_⟩;gi_at_call 169;refine(callsIn_wide.2 O.out).mono ?_;rintro e w5 ⟨rfl,G⟩;have a:=zA G;clear G)
   have aG:=a.out.size;exact⟨cQ a.out,⟨fun aG=>a.out.mono aG,fun k hk I=>a.out.block k I⟩,by omega,au b1.out a.out,by rw[M.out];exact au L.out a.out,aC b3.out a.out⟩
 case done=>
  rintro s xs W W' _ rfl ⟨H,i1,i2,i3⟩ b a3;have L:=zA (b.cells i2);have b3:=zA (i3.trans (b.below w.heap.size (by omega)));have a4:=zA a3;clear i1 i2 i3 a3;have hc:W'.cell? ⟨w.heap.size+1,0,none⟩=some (.int .i64 (dG B (bU E v E.length))):=(ah L.out 0).trans rfl;gi_wp2_with fail
  have bk:Bk j.heap.size W' (W'.putObj j.heap.size (.deferred none)):=⟨_,_,a4.out,rfl,rfl⟩;exact iB (D:=j.heap.size) rfl a4.out (results_tmp rfl _ _ _) ⟨rfl,b3.out.trans (bk.below w.heap.size (by omega))⟩
end
end Go.Proofs.YtffdiakgjakngaaGreat.P


