/- RiemannrochLoses answers true whatever the input (text 4 of 7): own walks and plain laws; no conditions. -/
import Derived.AtR
import Derived.BigQuiet
import Derived.BigRegion
import Derived.BigRegionIn
import Derived.Deep.QuietTactic
import Derived.Deep.RegionHeld3
import Derived.Deep.RegionLaw
import Derived.Laws.CopyOwn
import Derived.RegionTactic
import Derived.Sort.LoopGhostIn
import Derived.Sort.QuietIn
import Derived.Test.YtffdiakgjakngaaGreatLoses3
namespace Go.Proofs.YtffdiakgjakngaaGreat.P
open Go.RowKit Go.Proofs.YtffdiakgjakngaaGreatW.PrintWords Go.Proofs.YtffdiakgjakngaaGreatW.PrintLast Go.Proofs.YtffdiakgjakngaaGreatW.PrintMore
set_option linter.unusedVariables false
set_option linter.unusedSimpArgs false
set_option maxHeartbeats 8000000
set_option maxRecDepth 100000
theorem br.vF {N:Int} {E:List S83} (h:br N E) (a:E.length<=40):eZ E=true:=by
 unfold eZ;rw[az a,Bool.true_and];refine List.all_eq_true.2 fun x b=>?_
 have:=h.ok x b;simp[bX] at this⊢;omega
theorem o_ {l:List Int} {i:Nat} (h:i<l.length):l.drop i=rd l i::l.drop (i+1):=by
 rw[List.drop_eq_getElem_cons h];simp[rd,a7,bK h]
def jW:Nat->Nat->Nat->List Int
 |0,_,_=>[]
 |m+1,i,d=>(if d%2=1 then[(i:Int)] else[])++jW m (i+1) (d/2)
def DO (n:Nat):List (List Int):=(List.range (2 ^ n)).map (jW n 0)
def fG (E:List S83) (s:List Int) (v:Int):Nat->Int
 |0=>0
 |u+1=>fG E s v u+(if(u:Int)∈s then 0 else db E v u)
theorem rj {N:Int} {E:List S83} (h:br N E) (s:List Int) (v:Int):∀u:Nat,0<=fG E s v u/\fG E s v u<=50*u
 |0=>by simp[fG]
 |u+1=>by
  have h1:=rj h s v u;have a:=qB h v u;simp only[fG];split<;>omega
def nA (E:List S83) (n:Nat) (c s:List Int):Int->List Int->Bool
 |a,[]=>decide (a>0)
 |a,v::l=>if rd c v<fG E s v n then false else nA E n c s (a+fG E s v n) l
def rl (E:List S83) (n:Nat) (q:Int) (c s:List Int):Bool:=decide (0<s.length)&& !decide (q∈s)&&nA E n c s 0 s
theorem pa:∀{m i d:Nat} {x:Int},x∈jW m i d↔∃j:Nat,j<m/\x=((i+j:Nat):Int)/\d.testBit j=true
 |0,i,d,x=>by simp[jW]
 |m+1,i,d,x=>by
  rw[jW,List.mem_append,pa (m:=m)];constructor
  ·rintro(h|⟨j,b,h1,a⟩)
   ·split at h
    ·rename_i h1
     simp at h;exact⟨0,by omega,by simpa using h,by rw[Nat.testBit_zero];simpa using h1⟩
    ·simp at h
   ·exact⟨j+1,by omega,by rw[h1];congr 1;omega,by rw[Nat.testBit_succ];exact a⟩
  ·rintro⟨j,b,h1,a⟩
   cases j with
   |zero=>
    left
    rw[Nat.testBit_zero] at a;rw[if_pos (by simpa using a)];simpa using h1
   |succ j=>exact .inr ⟨j,by omega,by rw[h1];congr 1;omega,by rw[Nat.testBit_succ] at a;exact a⟩
def pc (E:List S83) (n:Nat) (q:Int) (c:List Int):Bool:=(DO n).all fun s=> !rl E n q c s
theorem vG (S:Nat->Bool):∀n,∃d,d<2 ^ n/\∀j,j<n->d.testBit j=S j
 |0=>⟨0,by simp,fun j a=>by omega⟩
 |n+1=>by
  obtain⟨d,hd,h⟩:=vG (fun j=>S (j+1)) n;refine⟨(if S 0 then 1 else 0)+2*d,?_,fun j a=>?_⟩
  ·rw[Nat.pow_succ];split<;>omega
  ·cases j with
   |zero=>
    rw[Nat.testBit_zero];cases b:S 0<;>simp<;>omega
   |succ j=>
    rw[Nat.testBit_succ,show ((if S 0 then 1 else 0)+2*d)/2=d by split<;>omega];exact h j (by omega)
theorem rp {n:Nat} {E:List S83} (a:br n E) (s:List Int) (v:Nat) (b:(v:Int)∈s):∀u,fG E s v u=cW (af E) (fun u=> !decide ((u:Int)∈s)) v u
 |0=>rfl
 |u+1=>by
  rw[fG,cW,rp a s v b u];congr 1
  by_cases h:(u:Int)∈s
  ·simp[h]
  ·have g:v≠u:=fun e=>by subst e;exact h b
   simp only[if_neg h,h,decide_false,Bool.not_false,if_true];exact(lh a v u g).symm
theorem rr (E:List S83) (n:Nat) (c s:List Int):∀(l:List Int) (a:Int),nA E n c s a l=true↔(∀v∈l,fG E s v n<=rd c v)/\0<a+(l.map fun v=>fG E s v n).sum
 |[],a=>by simp[nA]
 |v::l,a=>by
  rw[nA];by_cases h:rd c v<fG E s v n
  ·rw[if_pos h]
   simp;intro b;omega
  ·rw[if_neg h,rr E n c s l]
   simp only[List.mem_cons,forall_eq_or_imp,List.map_cons,List.sum_cons];constructor
   ·rintro⟨h1,b⟩;exact⟨⟨by omega,h1⟩,by omega⟩
   ·rintro⟨⟨_,h1⟩,b⟩;exact⟨h1,by omega⟩
theorem vH {f:Int->Int}:∀{l:List Int},(∀v∈l,0<=f v)->(∃v∈l,0<f v)->0<(l.map f).sum
 |[],_,⟨v,a,_⟩=>by simp at a
 |x::l,b,⟨v,a,h1⟩=>by
  have g:=b x (List.mem_cons_self ..);have e:∀v∈l,0<=f v:=fun v a=>b v (List.mem_cons_of_mem _ a)
  have i:0<=(l.map f).sum:=by
   clear h1 a b g;induction l with
   |nil=>simp
   |cons y l h=>
    have:=h (fun v a=>e v (List.mem_cons_of_mem _ a));have:=e y (List.mem_cons_self ..);simp only[List.map_cons,List.sum_cons];omega
  simp only[List.map_cons,List.sum_cons];rcases List.mem_cons.1 a with rfl|a
  ·omega
  ·have:=vH e ⟨v,a,h1⟩
   omega
theorem DP {n q:Nat} {E:List S83} (l:br n E) (hC:fl n E) (I:q<n) (c:List Int):pc E n q c=true↔ky n (af E) q (fun v=>rd c v):=by
 unfold pc;rw[List.all_eq_true];constructor
 ·intro h S hS B
  obtain⟨d,hd,hb⟩:=vG S n;have m:∀v:Nat,v<n->((v:Int)∈jW n 0 d↔S v=true):=fun v g=>by
   rw[pa];constructor
   ·rintro⟨j,k,h1,i⟩
    rw[hb j k] at i;rw[show v=j by omega];exact i
   ·intro h1;exact⟨v,g,by simp,by rw[hb v g];exact h1⟩
  have h1:=h (jW n 0 d) (List.mem_map.2 ⟨d,List.mem_range.2 hd,rfl⟩);generalize C:jW n 0 d=s at h1 m;have D:∀v∈s,∃j:Nat,j<n/\v=(j:Int):=fun v g=>by
   rw[<-C] at g;obtain⟨j,k,i,_⟩:=pa.1 g;exact⟨j,k,by simpa using i⟩
  obtain⟨v0,o,J⟩:=hS;have r:0<s.length:=List.length_pos_of_mem ((m v0 o).2 J);have p:¬((q:Int)∈s):=fun i=>by rw[(m q I).1 i] at B;cases B
  have T:∀v:Nat,v<n->(v:Int)∈s->fG E s v n=cW (af E) (fun u=> !S u) v n:=fun v g w=>by
   rw[rp l s v w n];refine uU v n fun u hu=>?_
   have:=m u hu;cases F:S u with
   |true=>simp[this.2 F]
   |false=>simp[show ¬((u:Int)∈s) from fun i=>by rw[this.1 i] at F;cases F]
  unfold rl at h1;rw[az r,a6 p,Bool.true_and,Bool.not_false,Bool.true_and,Bool.not_eq_true'] at h1;have i:=mt (rr E n c s s 0).2 (by rw[h1];decide);by_cases G:∀v∈s,fG E s v n<=rd c v
  ·exfalso
   refine i ⟨G,?_⟩;rw[Int.zero_add];refine vH (fun v g=>(rj l s v n).1) ?_;obtain⟨x,K,y⟩:=hC S ⟨v0,o,J⟩ ⟨q,I,B⟩;have L:=uI l K;have U:=l.ok x K;simp[bX] at U;have M:∀(a b:Nat),a<n->b<n->S a=true->S b=false->db E a b>0->∃v∈s,0<fG E s v n:=fun a b V N W O ag=>by
    refine⟨a,(m a V).2 W,?_⟩;have X:¬((b:Int)∈s):=fun P=>by rw[(m b N).1 P] at O;cases O
    have key:∀u,b<u->0<fG E s a u:=fun u=>by
     induction u with
     |zero=>omega
     |succ u Y=>
      intro hu;have ak:=rj l s a u;have am:=qB l a u;rw[fG];by_cases e:b=u
      ·subst e;rw[if_neg X];omega
      ·have:=Y (by omega)
       split<;>omega
    exact key n N
   have Q:((x.f0.toNat:Nat):Int)=x.f0:=by omega
   have R:((x.f1.toNat:Nat):Int)=x.f1:=by omega
   cases z:S x.f0.toNat with
   |true=>
    refine M x.f0.toNat x.f1.toNat (by omega) (by omega) z ?_ (by rw[Q,R];exact L);cases H:S x.f1.toNat with
    |false=>rfl
    |true=>rw[z,H] at y;exact absurd rfl y
   |false=>
    refine M x.f1.toNat x.f0.toNat (by omega) (by omega) ?_ z (by rw[Q,R,oR];exact L);cases H:S x.f1.toNat with
    |true=>rfl
    |false=>rw[z,H] at y;exact absurd rfl y
  ·simp only[Classical.not_forall] at G
   obtain⟨v,g,P⟩:=G;obtain⟨j,k,rfl⟩:=D v g;refine⟨j,k,(m j k).1 g,?_⟩;rw[<-T j k g];show rd c j<_
   omega
 ·intro h s C
  obtain⟨d,hd,rfl⟩:=List.mem_map.1 C;generalize Z:jW n 0 d=s;have D:∀v∈s,∃j:Nat,j<n/\v=(j:Int):=fun v g=>by
   rw[<-Z] at g;obtain⟨j,k,i,_⟩:=pa.1 g;exact⟨j,k,by simpa using i⟩
  unfold rl;by_cases r:0<s.length
  ·by_cases p:(q:Int)∈s
   ·simp[p]
   ·rw[az r,a6 p,Bool.true_and,Bool.not_false,Bool.true_and,Bool.not_eq_true',Bool.eq_false_iff]
    intro hm;have h1:=((rr E n c s s 0).1 hm).1;obtain⟨v0,o⟩:=List.exists_mem_of_length_pos r;obtain⟨j0,aa,rfl⟩:=D v0 o;obtain⟨v,g,ab,ad⟩:=h (fun u=>decide ((u:Int)∈s)) ⟨j0,aa,by simpa using o⟩ (by simpa using p);have w:(v:Int)∈s:=by simpa using ab
    have i:=h1 v w;rw[rp l s v w n] at i;have an:rd c v<cW (af E) (fun u=> !decide ((u:Int)∈s)) v n:=ad;omega
  ·simp[show s.length=0 by omega]
end Go.Proofs.YtffdiakgjakngaaGreat.P
namespace Go.Proofs.YtffdiakgjakngaaGreat.P
open Go.RowKit Go.Proofs.YtffdiakgjakngaaGreatW.PrintWords Go.Proofs.YtffdiakgjakngaaGreatW.PrintLast Go.Proofs.YtffdiakgjakngaaGreatW.PrintMore
set_option linter.unusedVariables false
set_option linter.unusedSimpArgs false
def fH (E:List S83) (v:Nat):Nat->Int
 |0=>0
 |u+1=>fH E v u+(if u=v then 0 else db E u v)
def jB (E:List S83) (n q:Nat) (v:Nat):Nat:=if v=q then 0 else(fH E v n-1).toNat
theorem DQ {α:Type} (l:List α) (c:Nat):(l.map fun _=>c).sum=l.length*c:=by
 induction l with
 |nil=>simp
 |cons x l a=>simp only[List.map_cons,List.sum_cons,a,List.length_cons,Nat.succ_mul];omega
def eS:List S83->Int
 |[]=>0
 |x::E=>x.f2+eS E
theorem vI:∀(A B:List S83),eS (A++B)=eS A+eS B
 |[],B=>by simp[eS]
 |x::A,B=>by rw[List.cons_append,eS,eS,vI A B];omega
theorem nB {N:Int} {E:List S83} (a:br N E):∀k,k<=E.length->((cR E k:Nat):Int)=eS (E.take k)
 |0,_=>rfl
 |k+1,hk=>by
  have e:ae E k=E[k]:=by simp[ae,a7,bK (by omega:k<E.length)]
  have:=a.ok E[k] (List.getElem_mem _);simp[bX] at this;rw[List.take_succ_eq_append_getElem (by omega),vI,<-nB a k (by omega),cR,e];simp only[eS];omega
theorem DR {E:List S83} (h:∀x∈E,1<=x.f2) (a b:Int):0<=db E a b:=by
 unfold db;split
 ·rename_i x e;have:=h x (List.mem_of_find?_eq_some e);omega
 ·omega
theorem vJ {x:S83} {E:List S83} (h:∀y∈x::E,1<=y.f2) (v:Nat):∀u:Nat,fH (x::E) v u<=fH E v u+(if(∃w:Nat,w<u/\w≠v/\x.f0=min (w:Int) v/\x.f1=max (w:Int) v) then x.f2 else 0)
 |0=>by simp[fH]
 |u+1=>by
  have g:=vJ h v u;have j:=h x (List.mem_cons_self ..);have k:=DR (fun y i=>h y (List.mem_cons_of_mem _ i)) (u:Int) v;have l:(if(∃w:Nat,w<u/\w≠v/\x.f0=min (w:Int) v/\x.f1=max (w:Int) v) then x.f2 else 0)<=(if(∃w:Nat,w<u+1/\w≠v/\x.f0=min (w:Int) v/\x.f1=max (w:Int) v) then x.f2 else 0):=by
   by_cases h1:∃w:Nat,w<u/\w≠v/\x.f0=min (w:Int) v/\x.f1=max (w:Int) v
   ·obtain⟨w,hw,a⟩:=h1
    rw[if_pos ⟨w,hw,a⟩,if_pos ⟨w,by omega,a⟩];exact Int.le_refl _
   ·rw[if_neg h1];split<;>omega
  simp only[fH];by_cases e:u=v
  ·rw[if_pos e,if_pos e];omega
  ·rw[if_neg e,if_neg e,uf]
   by_cases b:x.f0=min (u:Int) v/\x.f1=max (u:Int) v
   ·rw[if_pos b,if_pos (show ∃w:Nat,w<u+1/\w≠v/\x.f0=min (w:Int) v/\x.f1=max (w:Int) v from⟨u,by omega,e,b⟩)]
    rw[if_neg (show ¬∃w:Nat,w<u/\w≠v/\x.f0=min (w:Int) v/\x.f1=max (w:Int) v from by rintro⟨w,hw,m,h1,a⟩;omega)] at g;omega
   ·rw[if_neg b];omega
theorem vK:∀{E:List S83},(∀y∈E,1<=y.f2)->∀v u:Nat,fH E v u<=eS E
 |[],_,v,u=>by
  have:∀u,fH [] v u=0:=fun u=>by
   induction u with
   |zero=>rfl
   |succ u a=>simp[fH,a,db]
  simp[this,eS]
 |x::E,h,v,u=>by
  have h1:=vJ h v u;have e:=vK (fun y b=>h y (List.mem_cons_of_mem _ b)) v u;have g:=h x (List.mem_cons_self ..);simp only[eS];split at h1<;>omega
theorem ru {n:Nat} {E:List S83} (a:br n E) (v:Nat):∀u,cW (af E) (fun u=> !decide (u=v)) v u=fH E v u
 |0=>rfl
 |u+1=>by
  rw[cW,fH,ru a v u];congr 1
  by_cases h:u=v
  ·simp[h]
  ·simp only[h,decide_false,Bool.not_false,if_true,if_neg h]
   rw[lh a v u (fun e=>h e.symm),oR];simp
theorem vL:∀{a b:List Int} (v:Nat),dJ a b->rd a v<=rd b v
 |[],[],v,_=>Int.le_refl _
 |x::a,y::b,0,h=>by simpa [rd] using h.1
 |x::a,y::b,v+1,h=>by
  have:=vL v h.2;simpa [rd] using this
 |[],y::b,v,h=>h.elim
 |x::a,[],v,h=>h.elim
theorem vM {a:Nat->Nat} {q:Nat} (g:a q=0) (hm:∀v,a v<=7):∀v:Nat,(et a v).length<=8 ^ (v- (if q<v then 1 else 0))
 |0=>by simp[et]
 |v+1=>by
  have b:=vM g hm v;have hlen:(et a (v+1)).length=(et a v).length*(a v+1):=by
   show (lu a v (et a v)).length=_
   unfold lu;rw[List.length_flatMap];simp only[List.length_map,List.length_range];exact DQ _ _
  rw[hlen];by_cases e:q=v
  ·subst e
   rw[g,if_pos (by omega)];rw[if_neg (by omega)] at b;simpa using b
  ·by_cases h:q<v
   ·rw[if_pos h] at b
    rw[if_pos (by omega),show v+1-1=(v-1)+1 by omega,Nat.pow_succ];exact Nat.mul_le_mul b (by have:=hm v;omega)
   ·rw[if_neg h] at b
    rw[if_neg (by omega),show v+1-0=(v-0)+1 by omega,Nat.pow_succ];exact Nat.mul_le_mul b (by have:=hm v;omega)
structure Small (n q:Nat) (E:List S83):Prop where
 right:br n E
 conn:fl n E
 len:E.length<=40
 n1:1<=n
 n5:n<=5
 q:q<n
 size:cR E E.length<=8
namespace Small
variable {n q:Nat} {E:List S83}
theorem ry (h:Small n q E) (v:Nat):fH E v n<=8:=by
 have h1:=vK (E:=E) (fun y a=>by have:=h.right.ok y a;simp[bX] at this;omega) v n;have b:=nB h.right E.length (aI _);rw[List.take_length] at b;have:=h.size;omega
theorem rz (h:Small n q E) (v:Nat):jB E n q v<=7:=by
 unfold jB;split
 ·omega
 ·have:=h.ry v;omega
theorem pd (E:List S83) (n q:Nat):jB E n q q=0:=by simp[jB]
theorem DS (h:Small n q E) {v:Nat} (a:v<=n):(et (jB E n q) v).length<=4096:=by
 have h1:=vM (pd E n q) h.rz v;have b:8 ^ (v- (if q<v then 1 else 0))<=8 ^ 4:=Nat.pow_le_pow_right (by omega) (by have:=h.n5;have:=h.q;split<;>omega);omega
theorem vN (h:Small n q E) (c:List Int):cp n (af E) q c=pc E n q c:=by
 rw[Bool.eq_iff_iff,kz (fun i j=>((jy h.right.cI).times i j).1),DP h.right h.conn h.q]
theorem rA (h:Small n q E):e7 n E q=(et (jB E n q) n).filter (pc E n q):=by
 unfold e7;have e:=(jy h.right.cI).times;have o:∀a b:List Int,a.length=n->dJ a b->cp n (af E) q b=true->cp n (af E) q a=true:=fun a b _ p hb=>by
  rw[kz (fun i j=>(e i j).1)] at hb⊢;exact hb.down (fun v _=>vL v p)
 rw[C5 q o6 (cp n (af E) q) (jB E n q) n o (fun l v u g k r=>by
   have h1:=(ri h.right.cI (by have:=h.n5;omega) g k r).1;unfold valOf at h1;rw[ru h.right] at h1;unfold jB;rw[if_neg k];omega) (pd E n q) (fun v _=>by have:=h.rz v;show _<=1000;omega) n [] (by simp) ?_]
 ·rw[<-C7]
  refine List.filter_congr fun c _=>h.vN c
 ·by_cases w:n=1
  ·left
   rw[kz (fun i j=>(e i j).1)];rintro S ⟨v,g,m⟩ s;have:=h.q;rw[show v=q by omega,s] at m;cases m
  ·right
   have:=h.q;have:=h.n1;by_cases x:q=0
   ·exact⟨1,by simp,by omega,by omega⟩
   ·exact⟨0,by simp,by omega,by omega⟩
theorem rB (h:Small n q E):(e7 n E q).length<=4096:=by
 rw[h.rA];exact Nat.le_trans (List.length_filter_le _ _) (h.DS (aI n))
end Small
namespace Small
variable {n q:Nat} {E:List S83}
theorem DT (h:Small n q E) (a:cz n E=0):fm n E q=0:=by
 unfold fm;rw[if_pos a,aM,if_pos ((jz h.n1 h.right).2 h.conn),if_pos ⟨by omega,by have:=h.q;omega⟩]
theorem DU (h:Small n q E):lr n E=true:=by
 unfold lr;rw[h.right.vF h.len,h.right.cI];rfl
theorem DV (h:Small n q E) (b:fm n E q=0):Ev (fun k=>fP.f k n E q) (f_ (fY n E) q n n,(0:Int)):=by
 unfold fP.f ia.f;refine Ev.bind (a:=(f_ (fY n E) q n n,(0:Int))) ?_ (Ev.const _);have:=uL n E q (by have:=h.len;omega);rw[b] at this;refine Ev.bind this ?_;simp only[if_true,h.DU,aM];exact Ev.const _
theorem DW (h:Small n q E) (a:fm n E q=0):Ev (fun k=>eQ.f k n E q) (e7 n E q,(0:Int)):=by
 unfold eQ.f;refine Ev.bind (h.DV a) ?_;simp only[if_true,aM,if_pos (show (e7 n E q).length<=16384 by have:=h.rB;omega)];exact Ev.const _
theorem nC (h:Small n q E) {c:List Int} (e:c∈e7 n E q):c.length=n/\∀v:Nat,0<=rd c v/\rd c v<=8:=by
 rw[h.rA] at e;have h1:=(List.mem_filter.1 e).1;have a:=oZ _ _ _ h1;have key:∀(m:Nat) (l:List Int),l∈et (jB E n q) m->∀v:Nat,0<=rd l v/\rd l v<=8:=by
  intro m;induction m with
  |zero=>intro l a v;simp[et] at a;subst a;simp[rd]
  |succ m i=>
   intro l a v;simp only[et,lu,List.mem_flatMap,List.mem_map,List.mem_range] at a;obtain⟨p,hp,x,j,rfl⟩:=a;have g:=i p hp v;have hm:=h.rz m;have k:=oZ _ _ _ hp;simp only[rd,aM,a7] at g⊢;rcases Nat.lt_trichotomy v p.length with b|b|b
   ·rw[List.getElem?_append_left b];exact g
   ·rw[b,List.getElem?_append_right (aI _),Nat.sub_self];simp;omega
   ·rw[List.getElem?_eq_none (by simp;omega)];simp
 exact⟨a,key n c h1⟩
end Small
def ja (x:Int):Bool:=decide (-1048576<=x)&&decide (x<=1048576)
def dK:List Int->Int
 |[]=>0
 |x::l=>if ja x=true then dK l else 2
def jb (q:Int):Nat->List Int->Int
 |_,[]=>0
 |i,x::l=>if(i:Int)=q then jb q (i+1) l else if x<0 then 2 else jb q (i+1) l
def jC (N:Int) (E:List S83) (q:Int) (c:List Int):Int:=
 if fm N E q=0 then(if(c.length:Int)=N then(if dK c=0 then jb q 0 c else dK c) else 8) else fm N E q
def lz (N:Int) (E:List S83) (q:Int) (c:List Int):Int:=if jC N E q c=0 then(if rd c q=0 then 0 else 3) else jC N E q c
theorem DX (x:Int):hU.f x=some (ja x):=by
 unfold hU.f ja;by_cases h:x>= -1048576
 ·rw[if_pos h,az (show -1048576<=x from h),Bool.true_and]
 ·rw[if_neg h,a6 (show ¬ -1048576<=x from h),Bool.false_and]
theorem DY (x:Int):ly.f x=some (ja x):=by
 unfold ly.f ja;by_cases h:x>= -1048576
 ·rw[if_pos h,az (show -1048576<=x from h),Bool.true_and]
 ·rw[if_neg h,a6 (show ¬ -1048576<=x from h),Bool.false_and]
theorem vO (c:List Int) (a:c.length<=1000):∀(m i:Nat),i+m=c.length->Ev (fun k=>bs.l0 k c c.length i) (dK (c.drop i))
 |0,i,hi=>by
  refine Ev.of_succ ?_;simp only[bs.l0,if_neg (show ¬(i:Int)<c.length by omega),List.drop_eq_nil_of_le (show c.length<=i by omega),dK];exact Ev.const _
 |m+1,i,hi=>by
  refine Ev.of_succ ?_;simp only[bs.l0,if_pos (show (i:Int)<c.length by omega),if_pos (show (0:Int)<=i by omega),DX,Option.bind_some,d_ (show i<=1000000 by omega)];rw[o_ (by omega),dK];by_cases h:ja (rd c i)=true
  ·simp only[if_pos h];exact vO c a m (i+1) (by omega)
  ·simp only[if_neg h];exact Ev.const _
theorem vP (c:List Int) (a:c.length<=1000):∀(m i:Nat),i+m=c.length->Ev (fun k=>c_.l0 k c c.length i) (dK (c.drop i))
 |0,i,hi=>by
  refine Ev.of_succ ?_;simp only[c_.l0,if_neg (show ¬(i:Int)<c.length by omega),List.drop_eq_nil_of_le (show c.length<=i by omega),dK];exact Ev.const _
 |m+1,i,hi=>by
  refine Ev.of_succ ?_;simp only[c_.l0,if_pos (show (i:Int)<c.length by omega),if_pos (show (0:Int)<=i by omega),DY,Option.bind_some,d_ (show i<=1000000 by omega)];rw[o_ (by omega),dK];by_cases h:ja (rd c i)=true
  ·simp only[if_pos h];exact vP c a m (i+1) (by omega)
  ·simp only[if_neg h];exact Ev.const _
theorem vQ (q:Int) (c:List Int) (e:c.length<=1000):∀(m i:Nat),i+m=c.length->Ev (fun k=>cP.l0 k q c c.length i) (jb q i (c.drop i))
 |0,i,hi=>by
  refine Ev.of_succ ?_;simp only[cP.l0,if_neg (show ¬(i:Int)<c.length by omega),List.drop_eq_nil_of_le (show c.length<=i by omega),jb];exact Ev.const _
 |m+1,i,hi=>by
  refine Ev.of_succ ?_;have a:=vQ q c e m (i+1) (by omega);simp only[cP.l0,if_pos (show (i:Int)<c.length by omega),if_pos (show (0:Int)<=i by omega),d_ (show i<=1000000 by omega)];rw[o_ (by omega),jb];by_cases h:(i:Int)=q
  ·simp only[if_pos h];exact a
  ·simp only[if_neg h]
   by_cases b:rd c i<0
   ·simp only[if_pos b];exact Ev.const _
   ·simp only[if_neg b];exact a
theorem rC {N:Int} {E:List S83} {q:Int} (h:fm N E q=0):1<=N/\N<=12/\0<=q/\q<N:=by
 unfold fm at h;by_cases a:cz N E=0
 ·rw[if_pos a] at h
  obtain⟨h1,e,_⟩:=gE a;by_cases hp:partsOf E N.toNat=1
  ·rw[if_pos hp] at h
   by_cases b:0<=q/\q<N
   ·exact⟨h1,e,b⟩
   ·rw[if_neg b] at h;exact absurd h (by decide)
  ·rw[if_neg hp] at h;exact absurd h (by decide)
 ·rw[if_neg a] at h;exact absurd h a
theorem DZ (c:List Int) (N:Int) (a:1<=N/\N<=12):Ev (fun k=>bs.f k c N) (if(c.length:Int)=N then dK c else 8):=by
 unfold bs.f jA.f;simp only[if_neg (show ¬N<1 by omega),if_neg (show ¬N>12 by omega),Option.bind_some,if_true];by_cases h:(c.length:Int)=N
 ·simp only[if_pos h]
  exact vO c (by omega) c.length 0 (by omega)
 ·simp only[if_neg h];exact Ev.const _
theorem mC (c:List Int) (N:Int) (a:1<=N/\N<=12):Ev (fun k=>c_.f k c N) (if(c.length:Int)=N then dK c else 8):=by
 unfold c_.f;simp only[if_neg (show ¬N<1 by omega)];refine Ev.of_succ ?_;simp only[c_.j0,a6 (show ¬N>12 by omega),Bool.false_eq_true,if_false];by_cases h:(c.length:Int)=N
 ·simp only[if_pos h]
  subst h;exact vP c (by omega) c.length 0 (by omega)
 ·simp only[if_neg h];exact Ev.const _
theorem D0 (N:Int) (E:List S83) (q:Int) (c:List Int) (g:E.length<=1000):Ev (fun k=>cP.f k N E q c) (jC N E q c):=by
 unfold cP.f jC;refine Ev.bind (uL N E q g) ?_;by_cases a:fm N E q=0
 ·have b:=rC a
  simp only[if_pos a];refine Ev.bind (DZ c N ⟨b.1,b.2.1⟩) ?_;by_cases h:(c.length:Int)=N
  ·simp only[if_pos h]
   by_cases e:dK c=0
   ·simp only[if_pos e]
    exact vQ q c (by omega) c.length 0 (by omega)
   ·simp only[if_neg e];exact Ev.const _
  ·simp only[if_neg h];exact Ev.const _
 ·simp only[if_neg a];exact Ev.const _
theorem vR {N:Int} {E:List S83} {q:Int} {c:List Int} (h:jC N E q c=0):fm N E q=0/\(c.length:Int)=N/\dK c=0/\jb q 0 c=0:=by
 unfold jC at h;by_cases a:fm N E q=0
 ·rw[if_pos a] at h
  by_cases e:(c.length:Int)=N
  ·rw[if_pos e] at h
   by_cases b:dK c=0
   ·rw[if_pos b] at h;exact⟨a,e,b,h⟩
   ·rw[if_neg b] at h;exact absurd h b
  ·rw[if_neg e] at h;exact absurd h (by decide)
 ·rw[if_neg a] at h;exact absurd h a
theorem D3 (N:Int) (E:List S83) (q:Int) (c:List Int) (b:E.length<=1000):Ev (fun k=>fX.f k N E q c) (lz N E q c):=by
 unfold fX.f lz;refine Ev.bind (D0 N E q c b) ?_;by_cases h:jC N E q c=0
 ·obtain⟨e,i,_,_⟩:=vR h
  have g:=rC e;simp only[if_pos h,if_pos g.2.2.1,if_pos (show q<c.length by omega)];by_cases a:rd c q=0
  ·simp only[if_pos a];exact Ev.const _
  ·simp only[if_neg a];exact Ev.const _
 ·simp only[if_neg h];exact Ev.const _
theorem vS:∀{c:List Int},dK c=0->∀x∈c, -1048576<=x/\x<=1048576
 |[],_,x,a=>absurd a (by simp)
 |y::c,h,x,a=>by
  rw[dK] at h;by_cases b:ja y=true
  ·rw[if_pos b] at h
   simp[ja] at b;rcases List.mem_cons.1 a with rfl|a
   ·exact b
   ·exact vS h x a
  ·rw[if_neg b] at h;exact absurd h (by decide)
theorem rD (q:Int):∀{c:List Int} {i:Nat},jb q i c=0->∀j:Nat,j<c.length->((i+j:Nat):Int)≠q->0<=rd c j
 |[],i,_,j,a,_=>absurd a (by simp)
 |y::c,i,h,j,a,b=>by
  rw[jb] at h;by_cases hi:(i:Int)=q
  ·rw[if_pos hi] at h
   cases j with
   |zero=>exact absurd hi b
   |succ j=>
    have:=rD q h j (by simpa using a) (by rw[show i+1+j=i+(j+1) by omega];exact b);simpa [rd,a7] using this
  ·rw[if_neg hi] at h
   by_cases e:y<0
   ·rw[if_pos e] at h;exact absurd h (by decide)
   ·rw[if_neg e] at h
    cases j with
    |zero=>simp[rd,a7];omega
    |succ j=>
     have:=rD q h j (by simpa using a) (by rw[show i+1+j=i+(j+1) by omega];exact b);simpa [rd,a7] using this
structure pg (n q:Nat) (c:List Int):Prop where
 len:c.length=n
 pos:∀v:Nat,0<=rd c v
 up:∀v:Nat,rd c v<=1048576
 sink:rd c q=0
theorem rE {c:List Int} {v:Nat} (h:c.length<=v):rd c v=0:=by simp[rd,a7,List.getElem?_eq_none h]
theorem D4 {n q:Nat} {E:List S83} {c:List Int} (h:lz n E q c=0):fm n E q=0/\pg n q c:=by
 unfold lz at h;by_cases he:jC n E q c=0
 ·rw[if_pos he] at h
  by_cases b:rd c q=0
  ·obtain⟨h1,j,g,i⟩:=vR he
   refine⟨h1,⟨by omega,fun v=>?_,fun v=>?_,b⟩⟩
   ·by_cases a:v<c.length
    ·by_cases e:v=q
     ·subst e;omega
     ·exact rD q i v a (by omega)
    ·rw[rE (by omega)];exact Int.le_refl _
   ·by_cases a:v<c.length
    ·have:=vS g c[v] (List.getElem_mem _)
     simp only[rd,aM,a7,bK a,Option.getD_some];omega
    ·rw[rE (by omega)];decide
  ·rw[if_neg b] at h;exact absurd h (by decide)
 ·rw[if_neg he] at h;exact absurd h he
theorem D5 {n q:Nat} {E:List S83} {c:List Int} (b:E.length<=1000) (hn:n<=12) (g:iR n E=true) (h:lz n E q c=0):Ev (fun k=>fZ.f k n E q c) (cp n (af E) q c,(0:Int)):=by
 obtain⟨i,j⟩:=D4 h;have m:=j.len;have o:=rC i;unfold fZ.f iA.f;have hb:=D3 n E q c b;rw[h] at hb;have hw:mu n E q c=true:=by simp only[mu,Bool.and_eq_true,decide_eq_true_eq];exact⟨by omega,g⟩
 refine Ev.bind (a:=((q:Int)::(jU n E q c).map Int.ofNat,fW (cJ (cD q) (jU n E q c)) n,(0:Int))) ?_ ?_
 ·refine Ev.bind hb ?_
  simp only[if_true,hw,aM];exact Ev.const _
 ·simp only[if_true]
  have l:=rh (cJ (cD q) (jU n E q c)) n;have e:(((fW (cJ (cD q) (jU n E q c)) n).length:Int)==0)=cp n (af E) q c:=by
   rw[Bool.eq_iff_iff];unfold cp;rw[show eF n (cA n (af E) c) (cD q)=jU n E q c from rfl,<-l];simp
  rw[e];exact Ev.const _
theorem D6 {l:List Int} (h:l.length<=1000):fF.f l=some l:=if_pos (by omega)
theorem jc {l:List Int} {v:Nat} (h:v<l.length) (x:Int):rd (l.set v x) v=x:=by simp[rd,a7,List.getElem?_set,h]
theorem lA {l:List Int} {v u:Nat} (h:v≠u) (x:Int):rd (l.set v x) u=rd l u:=by simp[rd,a7,List.getElem?_set,h]
theorem vT (l:List Int) (v:Nat) (x y:Int):(l.set v x).set v y=l.set v y:=by simp
theorem D7 {l:List Int} {v:Nat} (h:v<l.length):l.set v (rd l v)=l:=by
 apply List.ext_getElem
 ·simp
 ·intro i h1 a
  rw[List.getElem_set];split
  ·rename_i e;subst e;simp[rd,a7,bK h]
  ·rfl
namespace Small
variable {n q:Nat} {E:List S83}
theorem D8 (h:Small n q E) {a b:List Int} (g:∀v:Nat,v<n->rd a v<=rd b v) (hb:cp n (af E) q b=true):cp n (af E) q a=true:=by
 have e:∀i j,0<=af E i j:=fun i j=>((jy h.right.cI).times i j).1
 exact(kz e q a).2 (((kz e q b).1 hb).down g)
theorem ph (h:Small n q E) {a:List Int} {v:Nat} (b:v<n) (e:v≠q) (g:cp n (af E) q a=true):rd a v<fH E v n:=by
 have:=(ri h.right.cI (by have:=h.n5;omega) b e g).1;unfold valOf at this;rwa [ru h.right v n] at this
theorem D9 (h:Small n q E) {c:List Int} (s:c.length=n) {v:Nat} (b:v<n) (g:v≠q) (j:cp n (af E) q c=true) (w:0<=rd c v):
  ∃M:Nat,rd c v<=M/\(M:Int)<fH E v n/\∀x:Int,cp n (af E) q (c.set v x)=true↔x<=M:=by
 have z:=h.ry v;have B:=h.ph b g j;have down:∀x y:Int,x<=y->cp n (af E) q (c.set v y)=true->cp n (af E) q (c.set v x)=true:=fun x y m o=>by
  refine h.D8 (fun u hu=>?_) o;by_cases e:v=u
  ·subst e;rw[jc (by omega),jc (by omega)];exact m
  ·rw[lA e,lA e];exact Int.le_refl _
 have key:∀d:Nat,∀x:Nat,rd c v<=x->fH E v n<=x+d->cp n (af E) q (c.set v x)=true->∃M:Nat,x<=M/\(M:Int)<fH E v n/\cp n (af E) q (c.set v M)=true/\cp n (af E) q (c.set v ((M:Int)+1))=false:=by
  intro d;induction d with
  |zero=>
   intro x _ p a;have:=h.ph b g a;rw[jc (by omega)] at this;omega
  |succ d r=>
   intro x h1 p a;have k:=h.ph b g a;rw[jc (by omega)] at k;cases l:cp n (af E) q (c.set v ((x:Int)+1)) with
   |false=>exact⟨x,aI _,k,a,l⟩
   |true=>
    obtain⟨M,m1,m2,m3,m4⟩:=r (x+1) (by omega) (by omega) (by rw[Int.natCast_add,Int.natCast_one];exact l);exact⟨M,by omega,m2,m3,m4⟩
 obtain⟨M,m1,m2,m3,m4⟩:=key 9 (rd c v).toNat (by omega) (by omega) (by rw[show ((rd c v).toNat:Int)=rd c v by omega,D7 (by omega)];exact j);refine⟨M,by omega,m2,fun x=>⟨fun i=>?_,fun i=>down x M i m3⟩⟩;by_cases hle:x<=M
 ·exact hle
 ·have:=down ((M:Int)+1) x (by omega) i
  rw[m4] at this;cases this
theorem vU (h:Small n q E) (m:fm n E q=0) {c:List Int} (b:pg n q c) {v:Nat} (B:v<n) (o:v≠q) {x:Int} (p:0<=x/\x<=1048576):Ev (fun k=>eP.f k n E q (c.set v x)) (cp n (af E) q (c.set v x)):=by
 have a:=b.len;have hp:∀u:Nat,0<=rd (c.set v x) u/\rd (c.set v x) u<=1048576:=fun u=>by
  by_cases e:v=u
  ·subst e;rw[jc (by omega)];exact p
  ·rw[lA e];exact⟨b.pos u,b.up u⟩
 have he:lz n E q (c.set v x)=0:=by
  have h1:∀l:List Int,(∀y∈l,0<=y/\y<=1048576)->dK l=0:=fun l=>by
   induction l with
   |nil=>intro _;rfl
   |cons y l g=>
    intro a;have:=a y (List.mem_cons_self ..);rw[dK,if_pos (by simp[ja];omega)];exact g fun z j=>a z (List.mem_cons_of_mem _ j)
  have r:∀(l:List Int) (i:Nat),(∀y∈l,0<=y/\y<=1048576)->jb q i l=0:=fun l=>by
   induction l with
   |nil=>intro i _;rfl
   |cons y l g=>
    intro i a;have:=a y (List.mem_cons_self ..);rw[jb,if_neg (show ¬y<0 by omega),g (i+1) fun z j=>a z (List.mem_cons_of_mem _ j)];split<;>rfl
  have hm:∀y∈c.set v x,0<=y/\y<=1048576:=fun y s=>by
   obtain⟨i,hi,rfl⟩:=List.getElem_of_mem s;have:=hp i;simp only[rd,aM,a7,bK hi,Option.getD_some] at this;exact this
  have w:jC n E q (c.set v x)=0:=by
   unfold jC;rw[if_pos m,if_pos (by simp[a]),h1 _ hm,if_pos rfl,r _ 0 hm]
  unfold lz;rw[if_pos w,if_pos (by rw[lA o];exact b.sink)]
 unfold eP.f;refine Ev.bind (D5 (by have:=h.len;omega) (by have:=h.n5;omega) h.right.cI he) ?_;cases cp n (af E) q (c.set v x)<;>exact Ev.const _
theorem D_ (h:Small n q E) (b:fm n E q=0) {c:List Int} (a:pg n q c) {v:Nat} (g:v<n) (i:v≠q) {M:Nat} (h1:rd c v<=M) (r:(M:Int)<fH E v n) (j:∀x:Int,cp n (af E) q (c.set v x)=true↔x<=M):
  Ev (fun k=>cM.f k n E q c v) (c.set v M):=by
 have s:=a.len;have u:=h.ry v;have w:=a.pos v;have loop:∀(m:Nat) (x:Int),rd c v+1<=x->x+m=M+1->Ev (fun k=>cM.l0 k q (c.set v x) v n E) (c.set v M):=by
  intro m;induction m with
  |zero=>
   intro x l o;refine Ev.of_succ ?_;simp only[cM.l0];refine Ev.bind (h.vU b a g i (by omega)) ?_;have:cp n (af E) q (c.set v x)=false:=by
    cases e:cp n (af E) q (c.set v x) with
    |false=>rfl
    |true=>have:=(j x).1 e;omega
   simp only[this,Bool.false_eq_true,if_false,if_pos (show (0:Int)<=v by omega),if_pos (show (v:Int)<(c.set v x).length by simp;omega),aM,vT,jc (show v<c.length by omega),gX (show -1000000000<=x-1/\x-1<=1000000000 by omega),show x-1=(M:Int) by omega,gX (show -1000000000<=(M:Int)/\(M:Int)<=1000000000 by omega)];exact Ev.const _
  |succ m p=>
   intro x l o;refine Ev.of_succ ?_;simp only[cM.l0];refine Ev.bind (h.vU b a g i (by omega)) ?_;simp only[(j x).2 (by omega),if_true,if_pos (show (0:Int)<=v by omega),if_pos (show (v:Int)<(c.set v x).length by simp;omega),aM,vT,jc (show v<c.length by omega),gX (show -1000000000<=x+1/\x+1<=1000000000 by omega)];exact p (x+1) (by omega) (by omega)
 unfold cM.f;simp only[D6 (show c.length<=1000 by have:=h.n5;omega),Option.bind_some,if_pos (show (0:Int)<=v by omega),if_pos (show (v:Int)<c.length by omega),aM,gX (show -1000000000<=rd c v+1/\rd c v+1<=1000000000 by omega)];exact loop (M- (rd c v).toNat) (rd c v+1) (by omega) (by omega)
end Small
theorem Ea {p l:List Int} {v:Nat} (h:v<p.length):rd (p++l) v=rd p v:=by simp[rd,a7,List.getElem?_append_left h]
theorem Eb (p:List Int) (x:Int):rd (p++[x]) p.length=x:=by simp[rd,a7]
theorem Ec {l:List Int} {m v:Nat} (h:v<m):rd (l.take m) v=rd l v:=by simp[rd,a7,List.getElem?_take,h]
theorem rF (b:Nat->Nat):∀(m:Nat) (l:List Int),l∈et b m↔l.length=m/\∀v:Nat,v<m->0<=rd l v/\rd l v<=b v
 |0,l=>by
  simp only[et,List.mem_singleton];constructor
  ·rintro rfl;exact⟨rfl,fun v g=>by omega⟩
  ·rintro⟨h,_⟩;exact List.length_eq_zero_iff.1 h
 |m+1,l=>by
  simp only[et,lu,List.mem_flatMap,List.mem_map,List.mem_range];constructor
  ·rintro⟨p,hp,x,j,rfl⟩
   obtain⟨h1,a⟩:=(rF b m p).1 hp;refine⟨by simp[h1],fun v g=>?_⟩;by_cases e:v<m
   ·rw[Ea (by omega)];exact a v e
   ·rw[show v=p.length by omega,Eb];rw[h1];omega
  ·rintro⟨h1,a⟩
   refine⟨l.take m,(rF b m _).2 ⟨by simp;omega,fun v g=>by rw[Ec g];exact a v (by omega)⟩,(rd l m).toNat,by have:=a m (by omega);omega,?_⟩;have k:=a m (by omega);have i:l.take (m+1)=l.take m++[l[m]]:=List.take_succ_eq_append_getElem (by omega);rw[List.take_of_length_le (by omega)] at i;rw[show ((rd l m).toNat:Int)=l[m] by
    have:rd l m=l[m]:=by simp[rd,a7,bK (show m<l.length by omega)]
    omega]
   exact i.symm
namespace Small
variable {n q:Nat} {E:List S83}
theorem rG (h:Small n q E) (c:List Int):c∈e7 n E q↔c.length=n/\(∀v:Nat,0<=rd c v)/\rd c q=0/\cp n (af E) q c=true:=by
 rw[h.rA,List.mem_filter,rF,<-h.vN];constructor
 ·rintro⟨⟨h1,a⟩,b⟩
  refine⟨h1,fun v=>?_,?_,b⟩
  ·by_cases e:v<n
   ·exact(a v e).1
   ·rw[rE (by omega)];exact Int.le_refl _
  ·have:=a q h.q
   rw[pd] at this;omega
 ·rintro⟨h1,a,b,i⟩
  refine⟨⟨h1,fun v e=>⟨a v,?_⟩⟩,i⟩;by_cases g:v=q
  ·subst g;rw[pd,b];exact Int.le_refl _
  ·have:=h.ph e g i
   unfold jB;rw[if_neg g];omega
theorem Ed (h:Small n q E) {c:List Int} (a:c∈e7 n E q):pg n q c:=by
 obtain⟨h1,b,e,g⟩:=(h.rG c).1 a;exact⟨h1,b,fun v=>by have:=((h.nC a).2 v).2;omega,e⟩
end Small
theorem rH {ι:Type} {P:ι->Nat->Prop}:∀(l:List ι),(∀x∈l,∃B,∀K,B<=K->P x K)->∃B,∀K,B<=K->∀x∈l,P x K
 |[],_=>⟨0,fun _ _ x a=>absurd a (by simp)⟩
 |y::l,h=>by
  obtain⟨B,b⟩:=rH l fun x a=>h x (List.mem_cons_of_mem _ a)
  obtain⟨C,hC⟩:=h y (List.mem_cons_self ..);refine⟨max B C,fun K e x a=>?_⟩;rcases List.mem_cons.1 a with rfl|a
  ·exact hC K (by omega)
  ·exact b K (by omega) x a
namespace Small
variable {n q:Nat} {E:List S83}
theorem Ee (h:Small n q E) (j:fm n E q=0):∃B,∀K,B<=K->∀c∈e7 n E q,∀v∈List.range n,v≠q->∃r,cM.f K n E q c v=some r/\v<r.length/\(rd c v<rd r v↔cp n (af E) q (c.set v (rd c v+1))=true):=by
 refine rH _ fun c i=>rH _ fun v k=>?_
 have b:=List.mem_range.1 k;by_cases g:v=q
 ·exact⟨0,fun _ _ e=>absurd g e⟩
 ·have a:=h.Ed i
  obtain⟨M,m1,m2,m3⟩:=h.D9 a.len b g ((h.rG c).1 i).2.2.2 (a.pos v);obtain⟨B,l⟩:=h.D_ j a b g m1 m2 m3;refine⟨B,fun K m _=>⟨_,l K m,by rw[List.length_set,a.len];exact b,?_⟩⟩;rw[jc (by rw[a.len];exact b),m3];omega
end Small
end Go.Proofs.YtffdiakgjakngaaGreat.P
namespace Go.Proofs.YtffdiakgjakngaaGreat.T
set_option linter.unusedVariables false
set_option linter.unusedSimpArgs false
set_option maxHeartbeats 8000000
set_option maxRecDepth 100000
theorem Ef {f:Nat->Int} {n:Nat} {M:Int} (a:0<=M) (S:Nat->Bool) (h:∀v,v<n->S v=true->f v<=M):sN (fun v=>if S v=true then f v else 0) n<=n*M:=by
 rw[<-iq];refine cX fun v b=>?_
 show (if S v=true then f v else 0)<=M
 split
 ·exact h v b ‹_›
 ·exact a
theorem pk {n:Nat} {t:Nat->Nat->Int} (e:Wt n t) (g:du n t) {q:Nat} (i:q<n) {b:Nat->Int} (hb:b q=0) {M:Int} (a:0<=M) (h:∀v,v<n->0<b v->aU n t b v<=M):∀v,v<n->b v<=n*(n*M):=by
 refine ko e g i (by omega) (Int.mul_nonneg (by omega) a) fun x l=>?_
 refine Ef a (fun v=>decide (x<b v)) fun v j k=>h v j ?_
 have:=of_decide_eq_true k;omega
theorem Eg {n:Nat} {t:Nat->Nat->Int} (g:Wt n t) (i:du n t) {q:Nat} (j:q<n) {s s':Nat->Int} (l:s q=s' q) (h:∀v,v<n->aU n t s v=aU n t s' v):∀v,v<n->s v=s' v:=by
 have h1:=pk g i j (b:=fun u=>s u-s' u) (by show s q-s' q=0;omega) (M:=0) (by omega) (fun v e _=>by rw[mc,h v e];omega);have k:=pk g i j (b:=fun u=>s' u-s u) (by show s' q-s q=0;omega) (M:=0) (by omega) (fun v e _=>by rw[mc,h v e];omega);intro v e;have a:=h1 v e;have b:=k v e;simp only[Int.mul_zero] at a b;omega
theorem nD {n:Nat} {t:Nat->Nat->Int} (a:Wt n t) {q:Nat} {c:Nat->Int} (h:ir n t q c) {v:Nat} (b:v<n) (g:v≠q):c v<val n t v:=by
 obtain⟨u,hu,i,j⟩:=h (fun u=>decide (u=v)) ⟨v,b,by simp⟩ (by simpa using fun e=>g e.symm);obtain rfl:u=v:=of_decide_eq_true i;refine Int.lt_of_lt_of_le j ?_;unfold val;refine cX fun w hw=>?_
 show (if decide (w=u)=false then t u w else 0)<=t u w
 have:=a.pos u w;split<;>omega
theorem Eh {n:Nat} {t:Nat->Nat->Int} (h:Wt n t) (i:du n t) {q:Nat} (j:q<n) {D c s:Nat->Int} (k:iu n t q c) (l:∀v,v<n->c v=D v-aU n t s v) (o:s q=0) {B V:Int} (x:0<=B) (y:0<=V) (m:∀v,v<n-> -B<=D v/\D v<=B) (p:∀v,v<n->val n t v<=V):∀v,v<n-> -(n*(n*(B+V)))<=s v/\s v<=n*(n*(B+V)):=by
 have h1:=pk h i j (b:=s) o (M:=B+V) (by omega) (fun v g hp=>by
  have:=l v g;have:=k.1 v g (fun e=>by subst e;omega);have:=m v g;omega)
 have r:=pk h i j (b:=fun u=> -s u) (by show -s q=0;omega) (M:=B+V) (by omega) (fun v g hp=>by
  rw[ma];have:=l v g;have w:v≠q:=fun e=>by subst e;omega
  have:=nD h k.2 g w;have:=p v g;have:=m v g;omega)
 intro v g;have a:=h1 v g;have b: -s v<=_:=r v g;omega
theorem Ei (f:Nat->Int) {q n:Nat} (a:q<n):sN (fun v=>if v=q then 0 else f v) n=sN f n-f q:=by
 have h:=dA (fun v=>if v=q then 0 else f v) (fun v=>if v=q then f v else 0) n;have b:sN (fun v=>if v=q then f v else 0) n=f q:=by
  rw[jM a (fun u _ hu=>if_neg hu)];simp
 have g:sN (fun v=>(if v=q then 0 else f v)+(if v=q then f v else 0)) n=sN f n:=bP fun v _=>by
  by_cases e:v=q<;>simp[e]
 have i:sN (fun v=>(if v=q then 0 else f v)+(if v=q then f v else 0)) n=sN (fun v=>if v=q then 0 else f v) n+sN (fun v=>if v=q then f v else 0) n:=h;omega
theorem vV {f:Nat->Int} {q n:Nat} (g:q<n) {a b:Int} (i:a<=0) (hb:0<=b) (h:∀v,v<n->v≠q->a<=f v/\f v<=b):sN f n-n*b<=f q/\f q<=sN f n-n*a:=by
 have h1:=Ei f g;have j:sN (fun v=>if v=q then 0 else f v) n<=sN (fun _=>b) n:=cX fun v e=>by
  show (if v=q then 0 else f v)<=b
  split
  ·exact hb
  ·exact(h v e ‹_›).2
 have k:sN (fun _=>a) n<=sN (fun v=>if v=q then 0 else f v) n:=cX fun v e=>by
  show a<=(if v=q then 0 else f v)
  split
  ·exact i
  ·exact(h v e ‹_›).1
 rw[iq] at j k;omega
theorem nE {f:Nat->Int} {n:Nat} {B:Int} (h:∀v,v<n-> -B<=f v/\f v<=B): -(n*B)<=sN f n/\sN f n<=n*B:=by
 have h1:sN (fun _=> -B) n<=sN f n:=cX fun v a=>(h v a).1
 have b:sN f n<=sN (fun _=>B) n:=cX fun v a=>(h v a).2
 rw[iq] at h1 b;rw[Int.mul_neg] at h1;omega
theorem rI {n:Nat} {t:Nat->Nat->Int} (b:Wt n t) (e:du n t) {q:Nat} (g:q<n) {D c σ d s:Nat->Int} (i:iu n t q c) (j:∀v,v<n->c v=D v-aU n t σ v) (k:σ q=0) (hd:∀v,v<n->d v=D v-aU n t s v) (hp:∀v,v<n->v≠q->0<=d v):∀v,v<n->s v<=σ v+s q:=by
 have:=qw b e g i hp (s:=fun u=>s u-σ u) (fun v a=>by rw[mc,j v a,hd v a];omega);intro v a;have h:s v-σ v<=s q-σ q:=this v a;omega
theorem Ej {n:Nat} {t:Nat->Nat->Int} (b:Wt n t) {L:Nat->Bool} {d:Nat->Int} {T:Int} (e:0<=T) (h:∀v,v<n->L v=true->T*sN (fun u=>if L u=false then t v u else 0) n<=d v):∀v,v<n->(L v=true->0<=d v-T*aU n t (ind L) v)/\(L v=false->d v<=d v-T*aU n t (ind L) v):=by
 intro v g;rw[qu];refine⟨fun a=>?_,fun a=>?_⟩
 ·rw[if_pos a]
  have:=h v g a;omega
 ·rw[if_neg (by simp[a]),Int.mul_neg]
  have:0<=T*sN (fun u=>if L u=true then t v u else 0) n:=Int.mul_nonneg e (dy fun u _=>by
   show 0<=(if L u=true then t v u else 0)
   have:=b.pos v u;split<;>omega)
  omega
def eT (n:Nat) (t:Nat->Nat->Int) (dist:Nat->Int) (v:Nat):Int:=sN (fun u=>if dist v<dist u then t v u else 0) n
theorem mD {n:Nat} {t:Nat->Nat->Int} (a:Wt n t) (dist:Nat->Int) (v:Nat):0<=eT n t dist v:=dy fun u _=>by
 show 0<=(if dist v<dist u then t v u else 0)
 have:=a.pos v u;split<;>omega
theorem Ek {n:Nat} {t:Nat->Nat->Int} (a:Wt n t) (dist:Nat->Int):2*sN (eT n t dist) n<=sN (val n t) n:=by
 have h1:sN (eT n t dist) n=sN (fun v=>sN (fun u=>if dist u<dist v then t v u else 0) n) n:=by
  show sN (fun v=>sN (fun u=>if dist v<dist u then t v u else 0) n) n=_
  rw[mZ];refine bP fun u _=>bP fun v _=>?_
  rw[a.sym v u]
 have b:sN (fun v=>eT n t dist v+sN (fun u=>if dist u<dist v then t v u else 0) n) n<=sN (val n t) n:=by
  refine cX fun v e=>?_
  show sN (fun u=>if dist v<dist u then t v u else 0) n+sN (fun u=>if dist u<dist v then t v u else 0) n<=sN (fun u=>t v u) n
  rw[<-dA];refine cX fun u hu=>?_
  show (if dist v<dist u then t v u else 0)+(if dist u<dist v then t v u else 0)<=t v u
  have:=a.pos v u;split<;>split<;>omega
 rw[dA,<-h1] at b;omega
def eG (n:Nat) (t:Nat->Nat->Int) (dist:Nat->Int) (k:Int):Int:=sN (fun v=>if k<=dist v then eT n t dist v else 0) n
theorem vW {n:Nat} {t:Nat->Nat->Int} (a:Wt n t) (dist:Nat->Int) (k:Int):0<=eG n t dist k/\eG n t dist k<=sN (eT n t dist) n:=by
 refine⟨dy fun v _=>?_,cX fun v _=>?_⟩
 ·show 0<=(if k<=dist v then eT n t dist v else 0)
  have:=mD a dist v;split<;>omega
 ·show (if k<=dist v then eT n t dist v else 0)<=_
  have:=mD a dist v;split<;>omega
theorem El {n:Nat} {t:Nat->Nat->Int} (a:Wt n t) (dist:Nat->Int) (k:Int) {v:Nat} (b:v<n) (hd:dist v=k-1):eG n t dist k+eT n t dist v<=eG n t dist (k-1):=by
 have h1:sN (fun u=>(if k<=dist u then eT n t dist u else 0)+(if u=v then eT n t dist u else 0)) n<=eG n t dist (k-1):=by
  refine cX fun u _=>?_
  show (if k<=dist u then eT n t dist u else 0)+(if u=v then eT n t dist u else 0)<=(if k-1<=dist u then eT n t dist u else 0)
  have:=mD a dist u;by_cases e:u=v
  ·subst e
   rw[if_neg (show ¬k<=dist u by omega),if_pos rfl,if_pos (by omega)];omega
  ·rw[if_neg e]
   split
   ·rw[if_pos (by omega)];omega
   ·split<;>omega
 rw[dA] at h1;have g:sN (fun u=>if u=v then eT n t dist u else 0) n=eT n t dist v:=by
  rw[jM b (fun u _ hu=>if_neg hu)];simp
 unfold eG at h1⊢;omega
theorem lB (m:Nat):1+(m:Int)<=2 ^ m:=by
 induction m with
 |zero=>decide
 |succ m a=>rw[Int.pow_succ];omega
def fI (n:Nat) (t:Nat->Nat->Int) (dist:Nat->Int) (B k:Int):Int:=B*2 ^ (eG n t dist k).toNat
theorem pn {n:Nat} {t:Nat->Nat->Int} (dist:Nat->Int) {B:Int} (a:0<=B) (k:Int):B<=fI n t dist B k:=by
 unfold fI;have h:(1:Int)<=2 ^ (eG n t dist k).toNat:=by have:=lB (eG n t dist k).toNat;omega
 have:=Int.mul_le_mul_of_nonneg_left h a;omega
theorem rJ {n:Nat} {t:Nat->Nat->Int} (a:Wt n t) (dist:Nat->Int) {B:Int} (e:0<=B) (g:sN (val n t) n<=19) (k:Int):fI n t dist B k<=B*512:=by
 unfold fI;have h1:=vW a dist k;have h:=Ek a dist;have b:(eG n t dist k).toNat<=9:=by omega
 refine Int.mul_le_mul_of_nonneg_left ?_ e;generalize (eG n t dist k).toNat=m at b;have:∀m:Nat,m<=9->(2:Int) ^ m<=512:=by decide
 exact this m b
theorem Em {n:Nat} {t:Nat->Nat->Int} (e:Wt n t) (dist:Nat->Int) {B:Int} (i:0<=B) (k:Int) {v:Nat} (j:v<n) (hd:dist v=k-1):fI n t dist B k*(1+eT n t dist v)<=fI n t dist B (k-1):=by
 unfold fI;have h1:=El e dist k j hd;have l:=vW e dist k;have o:=mD e dist v;obtain⟨m,hm⟩:=Int.eq_ofNat_of_zero_le o;obtain⟨a,g⟩:=Int.eq_ofNat_of_zero_le l.1;rw[hm,g];rw[hm,g] at h1;obtain⟨b,hb⟩:∃b:Nat,eG n t dist (k-1)=((a+m+b:Nat):Int):=⟨(eG n t dist (k-1)).toNat-a-m,by omega⟩;rw[hb,Int.toNat_natCast,Int.toNat_natCast,Int.mul_assoc];refine Int.mul_le_mul_of_nonneg_left ?_ i;have p:=lB m;have h:(0:Int)<=2 ^ a:=by have:=lB a;omega
 have s:=Int.mul_le_mul_of_nonneg_left p h;have q:(1:Int)<=2 ^ b:=by have:=lB b;omega
 have r:(0:Int)<=2 ^ a*2 ^ m:=Int.mul_nonneg h (by have:=lB m;omega);have u:=Int.mul_le_mul_of_nonneg_left q r;rw[Int.pow_add,Int.pow_add];omega
theorem En {n:Nat} {t:Nat->Nat->Int} (a:Wt n t) (dist:Nat->Int) {B:Int} (e:0<=B) (k:Int):fI n t dist B k<=fI n t dist B (k-1):=by
 unfold fI;have h1:eG n t dist k<=eG n t dist (k-1):=cX fun v _=>by
  show (if k<=dist v then eT n t dist v else 0)<=(if k-1<=dist v then eT n t dist v else 0)
  have:=mD a dist v;split
  ·rw[if_pos (by omega)];omega
  ·split<;>omega
 refine Int.mul_le_mul_of_nonneg_left ?_ e;obtain⟨b,hb⟩:∃b:Nat,(eG n t dist (k-1)).toNat=(eG n t dist k).toNat+b:=⟨(eG n t dist (k-1)).toNat- (eG n t dist k).toNat,by omega⟩;rw[hb,Int.pow_add];have g:(0:Int)<=2 ^ (eG n t dist k).toNat:=by have:=lB (eG n t dist k).toNat;omega
 have h:(1:Int)<=2 ^ b:=by have:=lB b;omega
 have:=Int.mul_le_mul_of_nonneg_left h g;omega
def bF (dist:Nat->Int) (k:Int) (u:Nat):Bool:=decide (dist u<k)
structure fp (n:Nat) (t:Nat->Nat->Int) (D dist:Nat->Int) (B k:Int) (d s:Nat->Int):Prop where
 eq:∀v,v<n->d v=D v-aU n t s v
 kB:∀v,v<n->k<dist v->0<=d v
 low:∀v,v<n-> -fI n t dist B k<=d v
 s0:∀v,v<n->0<=s v/\s v<=(n-k)*(B*512)
theorem fp.start {n:Nat} {t:Nat->Nat->Int} {D dist:Nat->Int} {B k:Int} (b:0<=B) (e:∀v,v<n-> -B<=D v) (hk:∀v,v<n->dist v<=k) (g:k<=n):fp n t D dist B k D (fun _=>0):=by
 refine⟨fun v _=>by rw[kr];omega,fun v a h=>by have:=hk v a;omega,fun v a=>?_,fun v _=>⟨Int.le_refl _,Int.mul_nonneg (by omega) (by omega)⟩⟩;have:=pn (n:=n) (t:=t) dist b k;have:=e v a;omega
theorem fp.step {n:Nat} {t:Nat->Nat->Int} (b:Wt n t) {D dist:Nat->Int} {B k:Int} (i:0<=B) (x:sN (val n t) n<=19) (o:∀u v,u<n->v<n->0<t u v->dist v<=dist u+1) {d s:Nat->Int} (h:fp n t D dist B k d s) {T:Int} (j:0<=T) (y:T<=fI n t dist B k)
  (z:∀v,v<n->dist v=k->d v<0-> -d v<=T*sN (fun u=>if bF dist k u=true then t v u else 0) n) {d' s':Nat->Int} (l:∀v,v<n->d' v=d v-T*aU n t (ind (bF dist k)) v) (p:∀v,v<n->s' v=s v+T*ind (bF dist k) v):fp n t D dist B (k-1) d' s':=by
 have g:∀v,v<n->(k<dist v->aU n t (ind (bF dist k)) v=0)/\(dist v=k->aU n t (ind (bF dist k)) v= -sN (fun u=>if bF dist k u=true then t v u else 0) n)/\(dist v<k-1->aU n t (ind (bF dist k)) v=0)/\(dist v=k-1->0<=aU n t (ind (bF dist k)) v/\aU n t (ind (bF dist k)) v<=eT n t dist v):=by
  intro v a;rw[qu];refine⟨fun hk=>?_,fun hk=>?_,fun hk=>?_,fun hk=>?_⟩
  ·rw[if_neg (by unfold bF;simp;omega),gV fun u hu=>?_]; · rfl
   show (if bF dist k u=true then t v u else 0)=0
   split
   ·rename_i hn
    have h1:=of_decide_eq_true hn;have m:=b.pos v u;by_cases e:0<t v u
    ·rw[b.sym] at e
     have:=o u v hu a e;omega
    ·omega
   ·rfl
  ·rw[if_neg (by unfold bF;simp;omega)]
  ·rw[if_pos (by unfold bF;simp;omega)]
   refine gV fun u hu=>?_
   show (if bF dist k u=false then t v u else 0)=0
   split
   ·rename_i hn
    have h1:=of_decide_eq_false hn;have m:=b.pos v u;by_cases e:0<t v u
    ·have:=o v u a hu e
     omega
    ·omega
   ·rfl
  ·rw[if_pos (by unfold bF;simp;omega)]
   refine⟨dy fun u _=>?_,cX fun u _=>?_⟩
   ·show 0<=(if bF dist k u=false then t v u else 0)
    have:=b.pos v u;split<;>omega
   ·show (if bF dist k u=false then t v u else 0)<=(if dist v<dist u then t v u else 0)
    have:=b.pos v u;by_cases e:bF dist k u=false
    ·have h1:=of_decide_eq_false e
     rw[if_pos e,if_pos (by omega)];omega
    ·rw[if_neg e];split<;>omega
 have G:0<=fI n t dist B k:=by have:=pn (n:=n) (t:=t) dist i k;omega
 refine⟨fun v a=>?_,fun v a hk=>?_,fun v a=>?_,fun v a=>?_⟩
 ·have e:aU n t s' v=aU n t s v+T*aU n t (ind (bF dist k)) v:=by
   rw[me (r:=fun u=>s u+T*ind (bF dist k) u) (fun u hu=>p u hu) a,kZ,tO]
  rw[l v a,h.eq v a,e];omega
 ·rw[l v a]
  by_cases e:k<dist v
  ·rw[(g v a).1 e]
   have:=h.kB v a e;omega
  ·have q:dist v=k:=by omega
   rw[(g v a).2.1 q,Int.mul_neg];have h1:0<=T*sN (fun u=>if bF dist k u=true then t v u else 0) n:=Int.mul_nonneg j (dy fun u _=>by
    show 0<=(if bF dist k u=true then t v u else 0)
    have:=b.pos v u;split<;>omega)
   by_cases C:d v<0
   ·have:=z v a q C
    omega
   ·omega
 ·rw[l v a]
  have H:=h.low v a;have hm:=En b dist i k;by_cases E:k<dist v
  ·rw[(g v a).1 E];omega
  by_cases e2:dist v=k
  ·rw[(g v a).2.1 e2,Int.mul_neg]
   have h1:0<=T*sN (fun u=>if bF dist k u=true then t v u else 0) n:=Int.mul_nonneg j (dy fun u _=>by
    show 0<=(if bF dist k u=true then t v u else 0)
    have:=b.pos v u;split<;>omega)
   omega
  by_cases F:dist v<k-1
  ·rw[(g v a).2.2.1 F];omega
  have w:dist v=k-1:=by omega
  obtain⟨l1,l2⟩:=(g v a).2.2.2 w;have h1:=Em b dist i k a w;have m:=Int.mul_le_mul_of_nonneg_left l2 j;have I:=Int.mul_le_mul_of_nonneg_right y (mD b dist v);rw[Int.mul_add] at h1;omega
 ·have h1:=h.s0 v a
  have m:=rJ b dist i x k;rw[p v a];have e:(n- (k-1))*(B*512)=(n-k)*(B*512)+B*512:=by
   rw[show (n:Int)- (k-1)=(n-k)+1 by omega,Int.add_mul,Int.one_mul]
  rw[e];unfold ind;split
  ·rw[Int.mul_one];omega
  ·rw[Int.mul_zero];omega
end Go.Proofs.YtffdiakgjakngaaGreat.T
namespace Go.Proofs.YtffdiakgjakngaaGreat.P
open Go.RowKit Go.Proofs.YtffdiakgjakngaaGreatW.PrintWords Go.Proofs.YtffdiakgjakngaaGreatW.PrintLast Go.Proofs.YtffdiakgjakngaaGreatW.PrintMore
set_option linter.unusedVariables false
set_option linter.unusedSimpArgs false
set_option maxHeartbeats 8000000
set_option maxRecDepth 100000
section
attribute [local go_sem] Oper.semAt_some
def ic (w:World) (g:Nat) (N:Int) (ev:Value) (q:Int) (dv a:Value) (e:Int):Prop:=w.heap[g]? =some (.cells #[.int .i64 N,ev,.int .i64 q,dv,a,.int .i64 e] 188 (0,0))
theorem mE (g:Nat) (v:Int) (w:World):Calls Tryz.prog 194 #[.pointer (some ⟨g,0,none⟩),.int .i64 v] w fun e w'=>e= .returned (.func (.func 207) #[] #[.pointer (some ⟨w.heap.size,0,none⟩),.pointer (some ⟨w.heap.size+1,0,none⟩)])/\w'=(w.alloc (.cells #[.pointer (some ⟨g,0,none⟩)] 135)).alloc (.cells #[.int .i64 v] 3):=by
 go_enter Tryz.func194,Tryz.ntmps194
 go_wp2;go_ret;exact⟨rfl,rfl⟩
def cE (E:List S83) (v:Int):Nat->List (Int×Int)
 |0=>[]
 |k+1=>cE E v k++(if(ae E k).f0≠(ae E k).f1/\((ae E k).f0=v\/(ae E k).f1=v) then[((ae E k).f0+(ae E k).f1-v,(ae E k).f2)] else[])
def vX (base a b c:Nat) (X Y:World):Prop:=(base<=X.heap.size->Below base X Y)/\∀k,(k=a\/k=b\/k=c)->k<X.heap.size->Y.heap[k]? =X.heap[k]?
theorem vY (E:List S83) (v:Int):∀(m k:Nat),∀x∈cE E v k,x∈cE E v (k+m)
 |0,k,x,a=>a
 |m+1,k,x,a=>List.mem_append.2 (.inl (vY E v m k x a))
theorem rK (l bv g n:Nat) (A0:Option Addr) (c0:Nat) (E:List S83) (q:Int) (dv V:Value) (Z:Int) (v:Nat) (w0 W:World) (aa:Kd.C aN w0 A0 E.length E) (hE:ep n E) (hn:n<=1000) (hv:v<n) (hB:Below w0.heap.size w0 W)
  (M:W.heap[l]? =some (.cells #[.pointer (some ⟨g,0,none⟩)] 135 (0,0))) (z:W.heap[bv]? =some (.cells #[.int .i64 v] 3 (0,0))) (N:ic W g n (.slice A0 E.length c0) q dv V Z):
  iV (σ:=Unit) Fence.wide 9 Tryz.prog 207 #[.pointer (some ⟨l,0,none⟩),.pointer (some ⟨bv,0,none⟩)] (fun x:Int×Int=>#[.int .i64 x.1,.int .i64 x.2]) (fun _ W W1=>W1=W) (fun _ A B=>Below A.heap.size A B) (fun _ x A B=>((0<=x.1/\x.1<n/\1<=x.2/\x.2<=50)/\x∈cE E v E.length)/\Below A.heap.size A B)
   (fun _ X Y=>vX w0.heap.size l bv g X Y)
   (fun _ xs W'=>xs=cE E v E.length) (fun _ _ _=>True) (fun pre=>∃k,k<E.length/\pre=cE E v k) W:=by
 intro lp J Jx ag ak am ap;have a9:=zA ag;have b':=zA ak;have hY:=zA ap;have ar:=am () W rfl;clear ag ak am ap;have ca:=Tryz.underlying188;have hu:=Tryz.underlying24;have cb:=Tryz.underlying83;refine callsIn_of_wp Tryz.func207 rfl trivial ?_ rfl;simp only[Tryz.ntmps207,List.size_toArray,List.length_cons,List.length_nil,Nat.reduceAdd,Nat.reduceSub,Array.replicate_succ,Array.replicate_zero,List.push_toArray,List.append_toArray,List.nil_append,List.cons_append];have b0:W.cell? ⟨l,0,none⟩=some (.pointer (some ⟨g,0,none⟩)):=(aj M 0).trans rfl;have s1:W.cell? ⟨g,1,none⟩=some (.slice A0 E.length c0):=(aj N 1).trans rfl;have av:=zA M;have aB:=zA z;have p:=zA N;clear M z N;gi_wp2;clear b0 s1;gi_loopg [13] (E.length) (fun kq i wr=>∃k:Nat,i= .int .i64 k/\k<=E.length/\Aside0 (J () (cE E v k) wr)/\Aside0 (wr.heap[l]? =some (.cells #[.pointer (some ⟨g,0,none⟩)] 135 (0,0)))/\Aside0 (wr.heap[bv]? =some (.cells #[.int .i64 v] 3 (0,0)))/\Aside0 (ic wr g n (.slice A0 E.length c0) q dv V Z)/\Aside0 (Below w0.heap.size w0 wr)/\Aside0 (kq=E.length-k))
 case atStart=>exact⟨0,rfl,Nat.zero_le _,⟨ar⟩,av,aB,p,⟨hB⟩,⟨rfl⟩⟩
 case round=>
  clear ar hB av aB p;have cc:E.length<=9223372036854775807:=Kd.mM aa;obtain⟨k,rfl,hk,O,HX,P,p,r,Q⟩:=hrel;by_cases aL:k<E.length
  ·obtain⟨e0,D,e2,F,e4,e5⟩:=hE.get k aL
   have G:=Lib.hid (show cE E v (k+1)=cE E v k++(if(ae E k).f0≠(ae E k).f1/\((ae E k).f0=v\/(ae E k).f1=v) then[((ae E k).f0+(ae E k).f1-v,(ae E k).f2)] else[]) from rfl);obtain⟨ad,rfl,s,u,w⟩:=dE aa k (by omega) (by omega);rw[aM] at s u w;generalize ae E k=x at e0 D e2 F e4 e5 s u w G;obtain⟨a,b,m⟩:=x;simp only at e0 D e2 F e4 e5 s u w;have cd:(0:Int)<=(k:Int):=by omega
   have ce:(k:Int)<(E.length:Int):=by omega
   have cf:(0:Int)<=(v:Int):=by omega
   have ch:(v:Int)<=1000:=by omega
   have s:=iL r.out s;have u:=iL r.out u;have w:=iL r.out w;have v0:(wr.alloc (.cells #[.int .i64 a,.int .i64 b,.int .i64 m] 83)).cell? ⟨bv,0,none⟩=some (.int .i64 v):=(aj (au P.out _) 0).trans rfl;have R:=zA (a9.out () _ _ _ O.out (ao (aq wr.heap.size wr) (.cells #[.int .i64 a,.int .i64 b,.int .i64 m] 83)));have H:=zA (au HX.out (.cells #[.int .i64 a,.int .i64 b,.int .i64 m] 83));have I:=zA (au P.out (.cells #[.int .i64 a,.int .i64 b,.int .i64 m] 83));have K:=zA (au p.out (.cells #[.int .i64 a,.int .i64 b,.int .i64 m] 83));have L:=zA (ao r.out (.cells #[.int .i64 a,.int .i64 b,.int .i64 m] 83));have an:a<=1000:=by omega
   have bn:b<=1000:=by omega
   have HE:=zA (And.intro D F);clear D F O HX P p r;by_cases o:a=b
   ·have bg:(a != b)=false:=by simpa using o
    have S:=zA o;clear o;gi_wp2;refine⟨(fun _ h=>(by cases h)),?_⟩;gi_wp2;gi_roundg (E.length- (k+1))
    case measure=>rw[Q.out];omega
    case rel=>exact⟨k+1,by go_num,by omega,⟨by rw[G.out,if_neg (fun h=>h.1 S.out),List.append_nil];exact R.out⟩,H,I,K,L,⟨rfl⟩⟩
   ·have bg:(a != b)=true:=by simpa using o
    have S:=zA o;clear o;by_cases j:a=v\/b=v
    ·have a0:=zA (show cE E v (k+1)=cE E v k++[(a+b-v,m)] from by rw[G.out,if_pos ⟨S.out,j⟩])
     obtain⟨fn,tmps,ck,cl,T,a1⟩:=hY.out () (cE E v k) (a+b-v,m) _ _ R.out ⟨⟨by have:=HE.out;show 0<=a+b- (v:Int)/\a+b- (v:Int)<n/\1<=m/\m<=50;omega,by have h:=vY E v (E.length- (k+1)) (k+1) (a+b-v,m) (by rw[a0.out];simp);rw[show k+1+(E.length- (k+1))=E.length by omega] at h;exact h⟩,aq _ _⟩ ⟨k,aL,rfl⟩;have bi:=zA a1;simp only at T;clear a1;have bk:(a==(v:Int))=true\/((a==(v:Int))=false/\(b==(v:Int))=true):=by
      by_cases h:a=v
      ·left;simpa using h
      ·right;refine⟨by simpa using h,?_⟩
       rcases j with U|U
       ·exact absurd U h
       ·simpa using U
     clear j;rcases bk with a2|⟨a2,z⟩
     all_goals
      gi_wp2;refine bi.out.mono ?_;rintro e W3 (⟨rfl,a3,y⟩|⟨rfl,a4⟩)
      ·have bo:=zA a3
       have bw:=zA ((y.2 l (.inl rfl) (aA H.out)).trans H.out);have b1:=zA ((y.2 bv (.inr (.inl rfl)) (aA I.out)).trans I.out);have b2:=zA ((y.2 g (.inr (.inr rfl)) (aA K.out)).trans K.out);have b3:=zA (L.out.trans (y.1 L.out.size));clear a3 y T v0;gi_wp2;gi_roundg (E.length- (k+1))
       case measure=>rw[Q.out];omega
       case rel=>exact⟨k+1,by go_num,by omega,⟨by rw[a0.out];exact bo.out⟩,bw,b1,b2,b3,⟨rfl⟩⟩
      ·have b4:=zA a4
       clear a4 T v0;gi_wp2;refine bodyPost_ret (results_none rfl _ _ _) rfl ?_;exact⟨⟨_,rfl⟩,.inr ⟨(),_,trivial,b4.out⟩⟩
    ·have a2:(a==(v:Int))=false:=by simp;exact fun h=>j (.inl h)
     have z:(b==(v:Int))=false:=by simp;exact fun h=>j (.inr h)
     have b5:=zA j;clear j;gi_wp2;refine⟨(fun _ h=>(by cases h)),?_⟩;gi_wp2;gi_roundg (E.length- (k+1))
     case measure=>rw[Q.out];omega
     case rel=>exact⟨k+1,by go_num,by omega,⟨by rw[G.out,if_neg (fun h=>b5.out h.2),List.append_nil];exact R.out⟩,H,I,K,L,⟨rfl⟩⟩
  ·obtain rfl:k=E.length:=by omega
   gi_wp2;go_end0;exact⟨⟨_,rfl⟩,.inl ⟨(),_,rfl,O.out⟩⟩
theorem po (b bv g n:Nat) (A0:Option Addr) (c0:Nat) (E:List S83) (q:Int) (dv h:Value) (i:Int) (v:Nat) (w0 W:World) (l:Kd.C aN w0 A0 E.length E) (m:ep n E) (hn:n<=1000) (o:v<n) (p:Below w0.heap.size w0 W)
  (r:W.heap[b]? =some (.cells #[.pointer (some ⟨g,0,none⟩)] 135 (0,0))) (u:W.heap[bv]? =some (.cells #[.int .i64 v] 3 (0,0))) (w:ic W g n (.slice A0 E.length c0) q dv h i):
  iV (σ:=Unit) Fence.wide 9 Tryz.prog 207 #[.pointer (some ⟨b,0,none⟩),.pointer (some ⟨bv,0,none⟩)] (fun x:Int×Int=>#[.int .i64 x.1,.int .i64 x.2]) (fun _ W W1=>W1=W) (fun _ A B=>Below A.heap.size A B) (fun _ x A B=>(0<=x.1/\x.1<n/\1<=x.2/\x.2<=50)/\Below A.heap.size A B)
   (fun _ X Y=>vX w0.heap.size b bv g X Y)
   (fun _ xs W'=>xs=cE E v E.length) (fun _ _ _=>True) (fun pre=>∃k,k<E.length/\pre=cE E v k) W:=fun y J Jx z D F G=>rK b bv g n A0 c0 E q dv h i v w0 W l m hn o p r u w y J Jx (fun s pre A B a e=>z s pre A B a e) (fun s pre A B a e=>D s pre A B a e) F (fun s pre x H W1 a j I=>G s pre x H W1 a ⟨j.1.1,j.2⟩ I)
end
def b9 (out:List Int):Nat:=(out.filter fun x=>decide (0<=x)).length
theorem jN (out:List Int):b9 out<=out.length:=List.length_filter_le ..
theorem kC (xs:List Int) (v:Nat):rd xs (v:Int)=xs.getD v 0:=by simp[rd]
theorem rL:∀(out:List Int) (u:Nat) (x:Int),u<out.length->out.getD u 0<0->0<=x->b9 (out.set u x)=b9 out+1
 |[],u,x,h,_,_=>by simp at h
 |y::out,0,x,_,h,a=>by
  have b:y<0:=h;simp[b9,a,Int.not_le.2 b]
 |y::out,u+1,x,hu,h,a=>by
  have:=rL out u x (by simpa using hu) (by simpa using h) a;simp only[b9,List.set_cons_succ,List.filter_cons] at this⊢;split<;>simp[this]
theorem jX (xs:List Int) (u:Nat) (x:Int) (h:u<xs.length):rd (xs.set u x) (u:Int)=x:=by
 rw[kC,a7,List.getElem?_set_self h];rfl
theorem jd (xs:List Int) (u v:Nat) (x:Int) (h:u≠v):rd (xs.set u x) (v:Int)=rd xs (v:Int):=by
 rw[kC,kC,a7,a7,List.getElem?_set_ne h]
structure Bf (n q:Nat) (nb:Nat->Nat->Prop) (out:List Int) (Q:List Nat) (D:Int) (ex:Nat->Nat->Prop):Prop where
 len:out.length=n
 q0:rd out (q:Int)=0
 lo:∀v:Nat,v<n-> -1<=rd out (v:Int)
 hi:∀v:Nat,v<n->rd out (v:Int)+1<=b9 out
 qv:∀x,x∈Q->x<n/\D<=rd out (x:Int)
 nF:Q.Pairwise fun (x y:Nat)=>rd out (x:Int)<=rd out (y:Int)
 top:∀v:Nat,v<n->rd out (v:Int)<=D+1
 d0:0<=D
 back:∀v:Nat,v<n->v≠q->0<=rd out (v:Int)->∃u:Nat,u<n/\nb u v/\0<=rd out (u:Int)/\rd out (u:Int)+1=rd out (v:Int)
 kD:∀v:Nat,v<n->0<=rd out (v:Int)->v∉Q->∀u:Nat,u<n->nb v u->¬ex v u->0<=rd out (u:Int)/\rd out (u:Int)<=rd out (v:Int)+1
theorem Bf.start {n q:Nat} {nb:Nat->Nat->Prop} (b:q<n):Bf n q nb ((List.replicate n (-1)).set q 0) [q] 0 (fun _ _=>False):=by
 have h1:∀v:Nat,v<n->rd ((List.replicate n (-1)).set q 0) (v:Int)=if q=v then 0 else -1:=fun v a=>by
  split
  ·rename_i e;subst e;exact jX _ _ _ (by simpa using a)
  ·rename_i e
   rw[jd _ _ _ _ e,kC,a7,List.getElem?_replicate,if_pos a];rfl
 have g:b9 ((List.replicate n (-1)).set q 0)=b9 (List.replicate n (-1))+1:=rL _ q 0 (by simpa using b) (by rw[a7,List.getElem?_replicate,if_pos b];decide) (by decide);refine⟨by simp,by rw[h1 q b,if_pos rfl],fun v a=>?_,fun v a=>?_,fun x i=>?_,by simp,fun v a=>?_,by decide,fun v a j h=>?_,fun v a h hn=>?_⟩
 ·rw[h1 v a];split<;>omega
 ·rw[h1 v a,g];split<;>omega
 ·obtain rfl:=List.mem_singleton.1 i
  exact⟨b,by rw[h1 x b,if_pos rfl];omega⟩
 ·rw[h1 v a];split<;>omega
 ·rw[h1 v a,if_neg (fun e=>j e.symm)] at h;omega
 ·rw[h1 v a] at h
  by_cases e:q=v
  ·exact absurd (List.mem_singleton.2 e.symm) hn
  ·rw[if_neg e] at h;omega
theorem Bf.pop {n q:Nat} {nb:Nat->Nat->Prop} {out:List Int} {v:Nat} {Q:List Nat} {D:Int} (h:Bf n q nb out (v::Q) D (fun _ _=>False)):Bf n q nb out Q (rd out (v:Int)) (fun x _=>x=v):=by
 have j:=h.qv v (List.mem_cons_self ..);have b:=List.pairwise_cons.1 h.nF;refine⟨h.len,h.q0,h.lo,h.hi,fun x a=>⟨(h.qv x (List.mem_cons_of_mem _ a)).1,b.1 x a⟩,b.2,fun u hu=>?_,by have:=h.d0;omega,h.back,fun x a g hn u hu i hex=>?_⟩
 ·have:=h.top u hu;omega
 ·exact h.kD x a g (fun hm=>by rcases List.mem_cons.1 hm with e|e;exact hex e;exact hn e) u hu i (fun f=>f)
theorem Bf.look {n q:Nat} {nb:Nat->Nat->Prop} {out:List Int} {v u:Nat} {Q:List Nat} {ex:Nat->Prop} (h:Bf n q nb out Q (rd out (v:Int)) (fun x y=>x=v/\ex y)) (hu:u<n) (z:v<n) (G:nb v u):
  (0<=rd out (u:Int)->Bf n q nb out Q (rd out (v:Int)) (fun x y=>x=v/\ex y/\y≠u))/\
  (rd out (u:Int)<0->u≠v/\rd (out.set u (rd out (v:Int)+1)) (v:Int)=rd out (v:Int)/\b9 (out.set u (rd out (v:Int)+1))=b9 out+1/\Bf n q nb (out.set u (rd out (v:Int)+1)) (Q++[u]) (rd out (v:Int)) (fun x y=>x=v/\ex y/\y≠u)):=by
 have hd:=h.d0;refine⟨fun k=>⟨h.len,h.q0,h.lo,h.hi,h.qv,h.nF,h.top,hd,h.back,fun x g i hn y j l hex=>?_⟩,fun k=>?_⟩
 ·by_cases e:x=v/\ex y
  ·have:y=u:=Classical.byContradiction fun e2=>hex ⟨e.1,e.2,e2⟩
   subst this;have:=h.top y j;rw[e.1];exact⟨k,this⟩
  ·exact h.kD x g i hn y j l e
 ·have B:u≠v:=fun e=>by rw[e] at k;omega
  have C:u<out.length:=by rw[h.len];exact hu
  have r:rd (out.set u (rd out (v:Int)+1)) (v:Int)=rd out (v:Int):=jd _ _ _ _ B;have e2:∀x:Nat,x<n->rd (out.set u (rd out (v:Int)+1)) (x:Int)=if u=x then rd out (v:Int)+1 else rd out (x:Int):=fun x g=>by
   split
   ·rename_i e;subst e;exact jX _ _ _ C
   ·rename_i e;exact jd _ _ _ _ e
  have D:=rL out u (rd out (v:Int)+1) C (by rw[<-kC];exact k) (by omega);have m:∀x:Nat,x<n->0<=rd out (x:Int)->rd (out.set u (rd out (v:Int)+1)) (x:Int)=rd out (x:Int):=fun x g i=>by
   rw[e2 x g,if_neg (fun e=>by subst e;omega)]
  have o:∀x,x∈Q->rd (out.set u (rd out (v:Int)+1)) (x:Int)=rd out (x:Int):=fun x g=>m x (h.qv x g).1 (by have:=(h.qv x g).2;omega)
  refine⟨B,r,D,by rw[List.length_set];exact h.len,?_,fun x g=>?_,fun x g=>?_,fun x g=>?_,?_,fun x g=>?_,hd,fun x g H i=>?_,fun x g i hn y j l hex=>?_⟩
  ·rw[jd _ _ _ _ (fun e=>by subst e;have:=h.q0;omega)];exact h.q0
  ·rw[e2 x g];split
   ·omega
   ·exact h.lo x g
  ·rw[e2 x g,D];split
   ·have:=h.hi v z;omega
   ·have:=h.hi x g;omega
  ·rcases List.mem_append.1 g with g|g
   ·exact⟨(h.qv x g).1,by rw[o x g];exact(h.qv x g).2⟩
   ·obtain rfl:=List.mem_singleton.1 g
    exact⟨hu,by rw[e2 x hu,if_pos rfl];omega⟩
  ·refine List.pairwise_append.2 ⟨h.nF.imp_of_mem fun {a b} p hb I=>by rw[o a p,o b hb];exact I,by simp,fun a p b hb=>?_⟩
   obtain rfl:=List.mem_singleton.1 hb;rw[o a p,e2 b hu,if_pos rfl];have:=h.top a (h.qv a p).1;omega
  ·rw[e2 x g];split
   ·omega
   ·exact h.top x g
  ·by_cases e:u=x
   ·subst e
    exact⟨v,z,G,by rw[r];omega,by rw[r,e2 u hu,if_pos rfl]⟩
   ·rw[e2 x g,if_neg e] at i⊢
    obtain⟨y,s,J,w,K⟩:=h.back x g H i;exact⟨y,s,J,by rw[m y s w];exact w,by rw[m y s w];exact K⟩
  ·have L:u≠x:=fun e=>hn (List.mem_append.2 (.inr (List.mem_singleton.2 e.symm)))
   rw[e2 x g,if_neg L] at i⊢;by_cases E:y=u
   ·subst E
    rw[e2 y j,if_pos rfl];by_cases F:x=v
    ·rw[F];omega
    ·have:=h.kD x g i (fun hm=>hn (List.mem_append.2 (.inl hm))) y j l (fun f=>F f.1)
     omega
   ·have:=h.kD x g i (fun hm=>hn (List.mem_append.2 (.inl hm))) y j l (fun f=>hex ⟨f.1,f.2,E⟩)
    rw[m y j this.1];exact this
end Go.Proofs.YtffdiakgjakngaaGreat.P
namespace Go.Proofs.YtffdiakgjakngaaGreat.P
open Go Go.RowKit Go.Proofs.YtffdiakgjakngaaGreatW.PrintWords Go.Proofs.YtffdiakgjakngaaGreatW.PrintLast Go.Proofs.YtffdiakgjakngaaGreatW.PrintMore
set_option linter.unusedVariables false
set_option linter.unusedSimpArgs false
set_option maxHeartbeats 8000000
set_option maxRecDepth 100000
def cK (b0 b:Nat) (ds:List Deferred) (w:World):Prop:=∃a:List Nat,ds=a.map (fun D=>{target:=.collected D,args:=#[]})/\a.Nodup/\∀D,D∈a->b0<=D/\D<b/\w.heap[D]? =some (.deferred (some []))
theorem cK.nil (b0 b:Nat) (w:World):cK b0 b [] w:=⟨[],rfl,List.nodup_nil,fun _ h=>by cases h⟩
theorem cK.i' {b0 b:Nat} {ds:List Deferred} {w w':World} (h:cK b0 b ds w) (hk:∀D,D<b->w.heap[D]? =some (.deferred (some []))->w'.heap[D]? =some (.deferred (some []))):cK b0 b ds w':=by
 obtain⟨g,h1,i,a⟩:=h;exact⟨g,h1,i,fun D e=>⟨(a D e).1,(a D e).2.1,hk D (a D e).2.1 (a D e).2.2⟩⟩
theorem cK.below {b0 b:Nat} {ds:List Deferred} {w w':World} (h:cK b0 b ds w) (hb:Below w.heap.size w w'):cK b0 b ds w':=
 h.i' fun D _ a=>(hb.block D (Array.getElem?_eq_some_iff.1 a).1).trans a
theorem cK.bk {b0 b l:Nat} {ds:List Deferred} {w w':World} (h:cK b0 b ds w) (hb:Bk l w w') (a:b<=l):cK b0 b ds w':=
 h.i' fun D e hd=>(hb.heap D (by omega)).trans hd
theorem cK.set {b0 b:Nat} {ds:List Deferred} {w:World} (h:cK b0 b ds w) {p:Addr} {cs:Array Value} {t:TypeId} {fr:Nat×Nat} (hp:w.heap[p.block]? =some (.cells cs t fr)) (v:Value):cK b0 b ds (w.setCell p v):=
 h.i' fun D _ hd=>by
  rw[Below.heap_setCell _ _ _ _ (fun e=>by rw[e,hp] at hd;cases hd)];exact hd
theorem cK.push {b0 b D:Nat} {ds:List Deferred} {w:World} (h:cK b0 b ds w) (e:b0<=D) (hb:b<=D) (hd:w.heap[D]? =some (.deferred (some []))):cK b0 (D+1) ({target:=.collected D,args:=#[]}::ds) w:=by
 obtain⟨g,h1,i,a⟩:=h;refine⟨D::g,by rw[h1];rfl,List.nodup_cons.2 ⟨fun hm=>by have:=(a D hm).2.1;omega,i⟩,fun D' j=>?_⟩;rcases List.mem_cons.1 j with rfl|hm
 ·exact⟨e,by omega,hd⟩
 ·have:=a D' hm
  exact⟨this.1,by omega,this.2.2⟩
inductive fQ (b:Nat):World->World->Prop
 |refl (w:World):fQ b w w
 |step {w w':World} (D:Nat) (h:w.heap[D]? =some (.deferred (some []))) (hb:b<=D) (a:fQ b (w.putObj D (.deferred none)) w'):fQ b w w'
theorem fQ.fs {b:Nat} {w w':World} (h:fQ b w w'):Below b w w':=by
 induction h with
 |refl w=>exact aq _ _
 |step D h hb _ a=>exact(Bk.below (l:=D) ⟨_,_,h,rfl,rfl⟩ b hb).trans a
theorem fQ.cells {b:Nat} {w w':World} (h:fQ b w w') {k:Nat} {cs:Array Value} {t:TypeId} {fr:Nat×Nat} (hk:w.heap[k]? =some (.cells cs t fr)):w'.heap[k]? =some (.cells cs t fr):=by
 induction h with
 |refl w=>exact hk
 |step D h hb _ a=>exact a (Bk.cells (l:=D) ⟨_,_,h,rfl,rfl⟩ hk)
theorem fQ.size {b:Nat} {w w':World} (h:fQ b w w'):w'.heap.size=w.heap.size:=by
 induction h with
 |refl w=>rfl
 |step D h hb _ a=>rw[a];simp[World.putObj]
theorem fQ.R {α:Type} {d:Kd α} {e base b:Nat} {ok:Nat->Prop} {v:Value} {xs:List α} {A B:World} (h:fQ b A B) (g:d.R e A base ok v xs):d.R e B base ok v xs:=
 Kd.bb (Kd.fB (Kd.eV g) (fun k hk=>by obtain⟨_,_,_,q,_,cells,a⟩:=hk;exact(h.cells a).trans a.symm)) (fun k hk=>hk.1)
theorem vZ {F:Fence} {n:Nat} {P:Program} {fn:Func} {R:Ending->World->Prop} {tm:Array Value} {b0:Nat}:∀(a:List Nat) (w:World),a.Nodup->(∀D,D∈a->b0<=D/\w.heap[D]? =some (.deferred (some [])))->
  (∀w',fQ b0 w w'->∃v,(results fn tm).run P w'= .ok v w'/\R (.returned v) w')->LeavesInM F n P fn tm R (a.map (fun D=>{target:=.collected D,args:=#[]})) .returning w
 |[],w,_,_,h=>by
  obtain⟨v,h1,k⟩:=h w (fQ.refl w);exact⟨_,h1,k⟩
 |D::a,w,hn,g,h=>by
  have b:=g D (List.mem_cons_self ..);have i:=List.nodup_cons.1 hn;refine⟨by simp,.inl ⟨_,_,rfl,run_takeDeferred b.2,vZ a _ i.2 (fun D' j=>?_) fun w' l=>h w' (fQ.step D b.2 b.1 l)⟩⟩;have h1:=g D' (List.mem_cons_of_mem _ j);exact⟨h1.1,(World.putObj_heap_other (fun e=>i.1 (by rw[<-e];exact j))).trans h1.2⟩
theorem v_ {F:Fence} {n:Nat} {P:Program} {fn:Func} {R:Ending->World->Prop} {tm:Array Value} {ds:List Deferred} {b0 b:Nat} {w:World} (g:cK b0 b ds w)
  (h:∀w',fQ b0 w w'->∃v,(results fn tm).run P w'= .ok v w'/\R (.returned v) w'):bodyPostM F n P fn R .ret {tmps:=tm,defers:=ds} w/\bodyPostM F n P fn R .normal {tmps:=tm,defers:=ds} w:=by
 obtain⟨i,rfl,j,a⟩:=g;have:=vZ (F:=F) (n:=n) (P:=P) (fn:=fn) (R:=R) (tm:=tm) i w j (fun D e=>⟨(a D e).1,(a D e).2.2⟩) h;exact⟨this,this⟩
def lC (b0:Nat) (J:Nat->Array Value->World->Prop) (n:Nat) (a:Act) (w:World):Prop:=(∃n',n'<n/\J n' a.tmps w)/\∃b,b<=w.heap.size/\cK b0 b a.defers w
theorem lC.intro {b0:Nat} {J:Nat->Array Value->World->Prop} {n:Nat} {tm:Array Value} {ds:List Deferred} {w:World} (k:Nat) (h1:k<n) (a:J k tm w) (b:Nat) (hb:b<=w.heap.size) (e:cK b0 b ds w):lC b0 J n {tmps:=tm,defers:=ds} w:=⟨⟨k,h1,a⟩,b,hb,e⟩
theorem wa {F:Fence} {g:Nat} {P:Program} {Q:Exit->Act->World->Prop} {tm:Array Value} {ds:List Deferred} {w:World} {c:Code} (b0:Nat) (I:Nat->Array Value->World->Prop) (h:Nat) (j:I h tm w) (b:Nat) (hb:b<=w.heap.size) (e:cK b0 b ds w)
  (round:∀n tm w,I n tm w->∀ds b,b<=w.heap.size->cK b0 b ds w->∀(J:Nat->Array Value->World->Prop) (K:Act->World->Prop),(∀k i w',I k i w'->J k i w')->(∀a' w',lC b0 J n a' w'->K a' w')->c.wpIn F g P (Exit.then K Q) {tmps:=tm,defers:=ds} w):
  (Code.loop c).wpIn F g P Q {tmps:=tm,defers:=ds} w:=by
 refine wpIn_loop_ghost (fun k a w=>I k a.tmps w/\∃b,b<=w.heap.size/\cK b0 b a.defers w) h ⟨j,b,hb,e⟩ ?_;rintro n ⟨tm,ds⟩ w ⟨l,b,hb,e⟩;exact round n tm w l ds b hb e I _ (fun _ _ _ q=>q) fun a' w' ⟨⟨n',h1,m⟩,o⟩=>⟨n',h1,m,o⟩
end Go.Proofs.YtffdiakgjakngaaGreat.P
namespace Go.Proofs.YtffdiakgjakngaaGreat.P
open Go.RowKit Go.Proofs.YtffdiakgjakngaaGreatW.PrintWords Go.Proofs.YtffdiakgjakngaaGreatW.PrintLast Go.Proofs.YtffdiakgjakngaaGreatW.PrintMore
set_option linter.unusedVariables false
set_option linter.unusedSimpArgs false
set_option maxHeartbeats 8000000
set_option maxRecDepth 100000
section
attribute [local go_sem] Oper.semAt_some
def ef (B:Nat->Bool) (L:List (Int×Int)):Int:=L.foldl (fun s x=>if B x.1.toNat=true then wrap64 (s+x.2) else s) 0
theorem rM (B:Nat->Bool) (L:List (Int×Int)) (x:Int×Int):ef B (L++[x])=if B x.1.toNat=true then wrap64 (ef B L+x.2) else ef B L:=by simp[ef,List.foldl_append]
end
section
attribute [local go_sem] Oper.semAt_some
theorem Eo (g n:Nat) (A0:Option Addr) (c0:Nat) (E:List S83) (q:Int) (dv Q:Value) (R:Int) (v:Nat) (lb:Array Value) (B:Nat->Bool) (w:World) (aa:Kd.C aN w A0 E.length E) (hE:ep n E) (hn:n<=1000) (hv:v<n) (i:ic w g n (.slice A0 E.length c0) q dv Q R)
  (hB:∀(W:World) (u:Int),Below w.heap.size w W->0<=u->u<n->Calls Tryz.prog 195 (#[.int .i64 u]++lb) W fun e w'=>e= .returned (.bool (B u.toNat))/\Below W.heap.size W w'):
  Calls Tryz.prog 168 #[.pointer (some ⟨g,0,none⟩),.int .i64 v,.func (.func 195) #[] lb] w fun e w'=>e= .returned (.int .i64 (ef B (cE E v E.length)))/\Below w.heap.size w w':=by
 have a9:=zA hB;have HE:=zA hE;have ag:=zA i;clear hB hE i;refine(callsIn_wide (n:=10)).1 ?_;refine callsIn_of_wp_marks Tryz.func168 rfl trivial ?_ rfl;simp only[Tryz.ntmps168,List.size_toArray,List.length_cons,List.length_nil,Nat.reduceAdd,Nat.reduceSub,Array.replicate_succ,Array.replicate_zero,List.push_toArray,List.append_toArray,List.nil_append,List.cons_append];gi_wp2_with (refine⟨trivial,?_⟩;gi_at_call 194;refine(callsIn_wide.2 (mE g v _)).mono ?_;rintro e w3 ⟨rfl,rfl⟩)
 obtain⟨p,ak⟩:∃o:Obj,o= .cells #[.func (.func 195) #[] lb] 121:=⟨_,rfl⟩;obtain⟨on,am⟩:∃o:Obj,o= .cells #[.int .i64 0] 3:=⟨_,rfl⟩;obtain⟨r,an⟩:∃o:Obj,o= .cells #[.pointer (some ⟨g,0,none⟩)] 135:=⟨_,rfl⟩;obtain⟨y,ap⟩:∃o:Obj,o= .cells #[.int .i64 v] 3:=⟨_,rfl⟩;have Z0:=bc w p;have S:=bc (w.alloc p) on;have T:=bc ((w.alloc p).alloc on) r;have U:=bc (((w.alloc p).alloc on).alloc r) y;simp only[World.size_alloc] at S T U;have H0:=zA ((au (au (au Z0 on) r) y).trans (by rw[ak]:_=some (.cells #[.func (.func 195) #[] lb] 121 (0,0))));have H1:=zA ((au (au S r) y).trans (by rw[am]:_=some (.cells #[.int .i64 0] 3 (0,0))));have H2:=zA ((au T y).trans (by rw[an]:_=some (.cells #[.pointer (some ⟨g,0,none⟩)] 135 (0,0))));have H3:=zA (U.trans (by rw[ap]:_=some (.cells #[.int .i64 v] 3 (0,0))));have z:=zA (ao (ao (ao (ao (aq w.heap.size w) p) on) r) y);have aO:Aside0 (ic ((((w.alloc p).alloc on).alloc r).alloc y) g n (.slice A0 E.length c0) q dv Q R):=⟨aE ag.out z.out⟩;have bo:g<w.heap.size:=aA ag.out;have be:=zA (Kd.aw aa z.out);clear Z0 S T U;subst ak am an ap;have bf:=z.out.size;have bg:((((w.alloc (.cells #[.func (.func 195) #[] lb] 121)).alloc (.cells #[.int .i64 0] 3)).alloc (.cells #[.pointer (some ⟨g,0,none⟩)] 135)).alloc (.cells #[.int .i64 v] 3)).heap.size=w.heap.size+4:=by simp
 generalize ((((w.alloc (.cells #[.func (.func 195) #[] lb] 121)).alloc (.cells #[.int .i64 0] 3)).alloc (.cells #[.pointer (some ⟨g,0,none⟩)] 135)).alloc (.cells #[.int .i64 v] 3))=j at H0 H1 H2 H3 z aO be bf bg⊢;refine iz (σ:=Unit) (α:=Int×Int) (F:=Fence.wide) (n:=10) rfl (by decide) (gf:=207) (lb:=#[.pointer (some ⟨w.heap.size+1+1,0,none⟩),.pointer (some ⟨w.heap.size+1+1+1,0,none⟩)]) rfl trivial (enters_of Tryz.func207 (by kernel_rfl) rfl)
  (fun o=>po (w.heap.size+1+1) (w.heap.size+1+1+1) g n A0 c0 E q dv Q R v w _ aa HE.out hn hv (ao (ao z.out _) _) (au (au H2.out _) _) (au (au H3.out _) _) (au (au aO.out _) _)) (fun _=>rfl)
  (fun _=>True) ?en ?st ?ar
  (fun _ pre W=>j.heap.size<=W.heap.size/\W.heap[w.heap.size]? =some (.cells #[.func (.func 195) #[] lb] 121 (0,0))/\W.heap[w.heap.size+1]? =some (.cells #[.int .i64 (ef B pre)] 3 (0,0))/\Below w.heap.size w W) (fun _ _ _ _=>False)
  ?is (fun _ _ _ _ _ _ h _=>h) ?ib (fun _ _ _ _ _ h _=>h) ?kt ?h0 ?a1 ?assign ?body ?done (fun _ _ _ _ _ _ _ h=>h.elim)
 case assign=>
  intro l x W K hK;gi_wp2;exact hK
 case en=>
  intro o s W1 h;exact⟨trivial,by rw[h];exact ct.refl _ _⟩
 case st=>intro s A B _ h;exact cZ h
 case ar=>intro s x A B _ h;exact cZ h.2
 case is=>
  rintro s pre A B _ ⟨H,h1,V,X⟩ i;exact⟨Nat.le_trans H i.size,aE h1 i,aE V i,aZ X i⟩
 case ib=>
  rintro s pre A B ⟨H,h1,V,X⟩ hb;exact⟨by rw[hb.size];exact H,hb.cells h1,hb.cells V,X.trans (hb.below w.heap.size (by omega))⟩
 case kt=>
  intro s A B C D N aP aS;refine⟨fun aY=>((N.below w.heap.size (by omega)).trans (aP.1 (by rw[N.size];exact aY))).trans (aS.below w.heap.size (by omega)),fun k hk I=>?_⟩;have a0:k≠j.heap.size+1:=by rcases hk with rfl|rfl|rfl<;>omega
  exact(aS.heap k a0).trans ((aP.2 k hk (by rw[N.size];exact I)).trans (N.heap k a0))
 case h0=>
  rintro o s W1 rfl;exact⟨by simp;omega,au (au H0.out _) _,au (au H1.out _) _,ao (ao z.out _) _⟩
 case body=>
  rintro l s pre ⟨u,m⟩ Wb W1 W _ ⟨H,i1,i2,i3⟩ ⟨Y,J⟩ bk b;have b1:=zA (b.cells (aE i1 J));have L:=zA (b.cells (aE i2 J));have b3:=zA ((aZ i3 J).trans (b.below w.heap.size (by omega)));have bw:j.heap.size<=W.heap.size:=by have:=b.size;have:=J.size;omega
  clear i1 i2 i3 J b bk;simp only at Y;have bx:W.cell? ⟨w.heap.size,0,none⟩=some (.func (.func 195) #[] lb):=(aj b1.out 0).trans rfl;have O:=zA (a9.out W u b3.out Y.1 Y.2.1);have M:=zA (rM B pre (u,m));generalize ef B pre=s0 at L M;cases P:B u.toNat with
  |true=>
   rw[P] at O M;clear P;gi_wp2_with (refine⟨trivial,?_⟩;gi_at_call 195;refine(callsIn_wide.2 O.out).mono ?_;rintro e w5 ⟨rfl,G⟩;have a:=zA G;have Z:=zA (aE L.out G);have c5:w5.cell? ⟨w.heap.size+1,0,none⟩=some (.int .i64 s0):=(aj Z.out 0).trans rfl;have f5:=bt Z.out 0;clear G)
   have aY:=a.out.size;refine⟨(cZ a.out).trans (eO _ _ (by show w.heap.size+1<j.heap.size;omega)),⟨fun aY=>Below.setCell (a.out.mono aY) (by show w.heap.size<=w.heap.size+1;omega) _,fun k hk I=>?_⟩,by simp;omega,?_,?_,Below.setCell (aZ b3.out a.out) (by show w.heap.size<=w.heap.size+1;omega) _⟩
   ·rw[Below.heap_setCell _ _ _ _ (by rcases hk with rfl|rfl|rfl<;>(show _≠w.heap.size+1)<;>omega)]
    exact a.out.block k I
   ·rw[Below.heap_setCell _ _ _ _ (by show w.heap.size≠w.heap.size+1;omega)]
    exact aE b1.out a.out
   ·have h:=bQ Z.out 0 (.int .i64 (wrap64 (s0+m)))
    rw[M.out];simpa using h
  |false=>
   rw[P] at O M;clear P;gi_wp2_with (refine⟨trivial,?_⟩;gi_at_call 195;refine(callsIn_wide.2 O.out).mono ?_;rintro e w5 ⟨rfl,G⟩;have a:=zA G;clear G)
   have aY:=a.out.size;exact⟨cZ a.out,⟨fun aY=>a.out.mono aY,fun k hk I=>a.out.block k I⟩,by omega,aE b1.out a.out,by rw[M.out];exact aE L.out a.out,aZ b3.out a.out⟩
 case done=>
  rintro s xs W W' _ rfl ⟨H,i1,i2,i3⟩ b a3;have L:=zA (b.cells i2);have b3:=zA (i3.trans (b.below w.heap.size (by omega)));have a4:=zA a3;clear i1 i2 i3 a3;have hc:W'.cell? ⟨w.heap.size+1,0,none⟩=some (.int .i64 (ef B (cE E v E.length))):=(aj L.out 0).trans rfl;gi_wp2_with fail
  have bn:Bk j.heap.size W' (W'.putObj j.heap.size (.deferred none)):=⟨_,_,a4.out,rfl,rfl⟩;exact iW (D:=j.heap.size) rfl a4.out (results_tmp rfl _ _ _) ⟨rfl,b3.out.trans (bn.below w.heap.size (by omega))⟩
end
end Go.Proofs.YtffdiakgjakngaaGreat.P


namespace Go.Proofs.YtffdiakgjakngaaGreat.P
open Go.RowKit Go.Proofs.YtffdiakgjakngaaGreatW.PrintWords Go.Proofs.YtffdiakgjakngaaGreatW.PrintLast Go.Proofs.YtffdiakgjakngaaGreatW.PrintMore
set_option linter.unusedVariables false
set_option linter.unusedSimpArgs false
set_option maxHeartbeats 8000000
set_option maxRecDepth 100000
theorem Ep (gb a cr n:Nat) (B:Nat->Bool) (ok:Nat->Prop) (base:Nat) (W:World) (u:Int) (hb:W.heap[gb]? =some (.cells #[.slice (some ⟨a,0,none⟩) n cr] 43 (0,0))) (g:Kd.bool.R 4 W base ok (.slice (some ⟨a,0,none⟩) n cr) ((List.range n).map B)) (h:0<=u) (hn:u<n):
  Calls Tryz.prog 195 #[.int .i64 u,.pointer (some ⟨gb,0,none⟩)] W fun e w'=>e= .returned (.bool (B u.toNat))/\Below W.heap.size W w':=by
 have b0:W.cell? ⟨gb,0,none⟩=some (.slice (some ⟨a,0,none⟩) n cr):=(aj hb 0).trans rfl;have b:=(Kd.b7 false g u h hn).1;have e:bW false ((List.range n).map B) u=B u.toNat:=by
  obtain⟨m,rfl⟩:=Int.eq_ofNat_of_zero_le h;have:m<n:=by omega
  simp[bW,a7,List.getElem?_map,List.getElem?_range this]
 rw[e] at b;have b:W.cell? ⟨a,u.toNat,none⟩=some (.bool (B u.toNat)):=b;clear g hb e;go_enter Tryz.func195,Tryz.ntmps195
 go_wp2;go_ret;exact⟨rfl,aq _ _⟩
theorem Er (n:Nat) (B:Nat->Bool) (v:Nat):((List.range n).map B).set v true=(List.range n).map (ee B v):=by
 refine List.ext_getElem (by simp) fun i h1 a=>?_
 rw[List.getElem_set];simp only[List.getElem_map,List.getElem_range];unfold ee;by_cases e:v=i
 ·subst e;simp
 ·rw[if_neg e,if_neg (fun h=>e h.symm)]
theorem Es (n q:Nat):(List.replicate n false).set q true=(List.range n).map (cD q):=by
 refine List.ext_getElem (by simp) fun i h1 a=>?_
 rw[List.getElem_set];simp only[List.getElem_map,List.getElem_range,List.getElem_replicate];unfold cD;by_cases e:q=i
 ·subst e;simp
 ·rw[if_neg e,if_neg (fun h=>e h.symm)]
theorem Et {n:Nat} {c:(Nat->Bool)->Nat->Bool} {b F:Nat->Bool} (hm:∀(b b':Nat->Bool) v,(∀u,u<n->b u=true->b' u=true)->b' v=false->c b v=true->c b' v=true) (hF:∀v,v<n->c F v=false) (hb:∀v,v<n->b v=true->F v=true):
  ∀(f:Nat) (b:Nat->Bool),(∀v,v<n->b v=true->F v=true)->∀v,v<n->cJ b (fN n c f b) v=true->F v=true:=by
 intro f;induction f with
 |zero=>intro b hb v a h;exact hb v a h
 |succ f j=>
  intro b hb v a h;cases g:jT n c b with
  |none=>simp only[fN,g] at h;exact hb v a h
  |some v0=>
   have h1:=List.find?_some g;have l:=List.mem_range.1 (List.mem_of_find?_eq_some g);simp only[fN,g,qU] at h;refine j (ee b v0) (fun u hu i=>?_) v a h;unfold ee at i;by_cases e:u=v0
   ·subst e
    cases k:F u with
    |true=>rfl
    |false=>have:=hm b F u hb k (by simpa using h1);rw[hF u hu] at this;cases this
   ·rw[if_neg e] at i;exact hb u hu i
def bC (n:Nat) (t:Nat->Nat->Int) (q:Nat) (d:List Int):Nat->Bool:=cJ (cD q) (eF n (cA n t d) (cD q))
theorem we {n:Nat} {t:Nat->Nat->Int} (e:∀i j,0<=t i j) {d:List Int} (b b':Nat->Bool) (v:Nat) (h:∀u,u<n->b u=true->b' u=true) (g:b' v=false) (a:cA n t d b v=true):cA n t d b' v=true:=by
 unfold cA at a⊢;simp only[Bool.and_eq_true,decide_eq_true_eq] at a⊢;have hf:∀m,m<=n->cW t b v m<=cW t b' v m:=by
  intro m;induction m with
  |zero=>intro _;exact Int.le_refl _
  |succ m k=>
   intro hm;have h1:=k (by omega);have o:=e v m;have l:=h m (by omega);simp only[cW];by_cases hb:b m=true
   ·rw[if_pos hb,if_pos (l hb)];omega
   ·rw[if_neg hb];split<;>omega
 exact⟨by simp[g],Int.lt_of_lt_of_le a.2 (hf n (aI _))⟩
theorem Eu {n:Nat} {t:Nat->Nat->Int} (k:∀i j,0<=t i j) {q:Nat} {d:List Int} {B:Nat->Bool} (l:B q=true) (m:∀v,v<n->B v=true->bC n t q d v=true) (o:∀v,v<n->cA n t d B v=false):∀v,v<n->bC n t q d v=B v:=by
 intro v a;cases g:B v with
 |true=>exact m v a g
 |false=>
  cases hF:bC n t q d v with
  |false=>rfl
  |true=>
   have h:∀u,u<n->cD q u=true->B u=true:=fun u _ hu=>by
    unfold cD at hu;by_cases e:u=q
    ·rw[e];exact l
    ·rw[if_neg e] at hu;cases hu
   have:=Et (b:=cD q) (fun b b' v h1 p r=>we k b b' v h1 p r) o h _ (cD q) h v a hF;rw[g] at this;cases this
theorem Ew {n:Nat} {t:Nat->Nat->Int} (g:∀i j,0<=t i j) {q:Nat} {d:List Int} {B:Nat->Bool} (a:∀v,v<n->B v=true->bC n t q d v=true) {v:Nat} (m:v<n) (k:cA n t d B v=true):∀u,u<n->ee B v u=true->bC n t q d u=true:=by
 intro u hu h;unfold ee at h;by_cases e:u=v
 ·subst e
  cases hF:bC n t q d u with
  |true=>rfl
  |false=>
   have h1:=qV (n:=n) (c:=cA n t d) (fun b v h=>np b v h) (dS n (cD q)) (cD q) (aI _) u hu;have l:=we g B (bC n t q d) u a hF k;rw[show cA n t d (cJ (cD q) (fN n (cA n t d) (dS n (cD q)) (cD q))) u=cA n t d (bC n t q d) u from rfl,l] at h1;cases h1
 ·rw[if_neg e] at h;exact a u hu h
theorem Ex (g n:Nat) (A0:Option Addr) (c0:Nat) (E:List S83) (q:Nat) (Ad:Option Addr) (cd:Nat) (d:List Int) (sv:Value) (er:Int) (w:World) (c2:Kd.C aN w A0 E.length E) (hE:ep n E) (hn:n<=1000) (hq:q<n) (aL:ic w g n (.slice A0 E.length c0) q (.slice Ad d.length cd) sv er)
  (hd:Kd.C (Kd.int .i64) w Ad d.length d) (b3:d.length=n) (b4:∀(B:Nat->Bool) (v:Nat),v<n->B v=false->ef B (cE E v E.length)=cW (af E) B v n):
  Calls Tryz.prog 170 #[.pointer (some ⟨g,0,none⟩)] w fun e w'=>∃G cl,e= .returned (.tuple #[.slice (some ⟨G,0,none⟩) n cl,.bool ((List.range n).any fun v=> !bC n (af E) q d v)])/\Kd.bool.R 4 w' w.heap.size (fun _=>True) (.slice (some ⟨G,0,none⟩) n cl) ((List.range n).map fun v=> !bC n (af E) q d v)/\Below w.heap.size w w':=by
 have eb:=Tryz.underlying188;have hu:=Tryz.underlying24;have c3:=zA b4;have HE:=zA hE;have ar:=zA aL;have HD:=zA hd;have s0:w.cell? ⟨g,0,none⟩=some (.int .i64 n):=(aj aL 0).trans rfl;have ca:=b3;have c4:=zA ca;clear b4 hE aL hd b3 ca;have cb:(0:Int)<=(n:Int):=by omega
 go_enter Tryz.func170,Tryz.ntmps170
 go_wp2_with (first|((with_reducible refine aJ (N:=16) rfl ?_);refine Kd.kg Kd.bool _ 4 rfl (N:=16) rfl 43 _ _ rfl (n:Int) rfl rfl Tryz.underlying43 (.bool false) 1 mX rfl (by decide) (by omega) false (ok:=fun _=>True) (okp:=fun _=>True) rfl (fun _ hk=>hk) trivial cb (by simp;omega) (aq _ _) (aI _) ?_;intro v1 w1 H hb aO aP;rw[aM] at H;obtain⟨l,cr,K,cc,aS, -⟩:=Kd.fK H (by rw[List.length_replicate];omega);rw[List.length_replicate] at K;subst K;have ce:=zA H;have a0:=zA hb;clear H hb aO aP))
 have c5:=a0.out.size;have L:=zA (bc w1 (.cells #[.slice (some ⟨l,0,none⟩) n cr] 43));have T:=zA (Kd.aR ce.out (.cells #[.slice (some ⟨l,0,none⟩) n cr] 43));have M:=zA (ao a0.out (.cells #[.slice (some ⟨l,0,none⟩) n cr] 43));have a1:=zA (aE ar.out M.out);have cf:=zA (Kd.aw HD.out M.out);have ed:g<w.heap.size:=aA ar.out;have c6:l<w1.heap.size:=aS;clear ce a0 aS s0;generalize w1.alloc (.cells #[.slice (some ⟨l,0,none⟩) n cr] 43)=W2 at L T M a1 cf⊢;generalize w1.heap.size=gb at L c6 c5⊢;have b0:W2.cell? ⟨gb,0,none⟩=some (.slice (some ⟨l,0,none⟩) n cr):=(aj L.out 0).trans rfl;have s2:W2.cell? ⟨g,2,none⟩=some (.int .i64 q):=(aj a1.out 2).trans rfl;obtain⟨o,hf⟩:=Kd.b7 false T.out (q:Int) (by omega) (by omega);rw[aM] at o hf;have ch:W2.cell? ⟨l,q,none⟩=some (.bool (bW false (List.replicate n false) q)):=o;have eg:(0:Int)<=(q:Int):=by omega
 have ek:(q:Int)<(n:Int):=by omega
 clear o;generalize bW false (List.replicate n false) q=x0 at ch;go_region
 go_wp2;have y:=Kd.dt T.out (q:Int) true;rw[aM,Es] at y;have a2:=zA (Kd.bq y.1);have a3:=zA (fA (da (g:=gb) L.out y.2 (fun e=>by injection e with e;omega)));have a4:=zA (bZ (Below.setCell (p:=⟨l,q,none⟩) M.out cc (.bool true)));have ht:∀i j,0<=af E i j:=fun i j=>(HE.out.times i j).1
 have HT:=zA ht;have ck:=zA (show cD q q=true by simp[cD]);have cn:Aside0 (∀v,v<n->cD q v=true->bC n (af E) q d v=true):=⟨fun v K h=>qT _ h⟩;have c7:gb≠l:=by omega
 clear y T L a1 M cf b0 s2 ch hf ht;generalize (W2.setCell ⟨l,q,none⟩ (.bool true)).drew=W3 at a2 a3 a4⊢;go_loopg [6] (2*n+2) (fun kq ag wr=>∃(B:Nat->Bool) (b:Bool),ag= .bool b/\Aside0 (B q=true)/\Aside0 (∀v,v<n->B v=true->bC n (af E) q d v=true)/\Aside0 (b=false->∀v,v<n->cA n (af E) d B v=false)/\Aside0 (wr.heap[gb]? =some (.cells #[.slice (some ⟨l,0,none⟩) n cr] 43 (0,0)))/\Aside0 (Kd.bool.R 4 wr w.heap.size (fun _=>True) (.slice (some ⟨l,0,none⟩) n cr) ((List.range n).map B))/\Aside0 (Below w.heap.size w wr)/\Aside0 (2*dS n B+(if b=true then 1 else 0)<=kq))
 case atStart=>exact⟨cD q,true,rfl,ck,cn,⟨fun h=>by cases h⟩,a3,a2,a4,⟨by have:=uO n (cD q);simp;omega⟩⟩
 case round=>
  clear ck cn a3 a2 a4;obtain⟨B,b,rfl,I,J,bd,D,F,r,HK⟩:=hrel;have O:=zA (aE ar.out r.out);have s0:wr.cell? ⟨g,0,none⟩=some (.int .i64 n):=(aj O.out 0).trans rfl;cases b with
  |true=>
   go_wp2;go_loopg [6,30] (n) (fun kq ag Z wr=>∃(v:Nat) (m:Nat->Bool) (b':Bool),ag= .bool b'/\Z= .int .i64 v/\v<=n/\Aside0 (m q=true)/\Aside0 (∀v,v<n->m v=true->bC n (af E) q d v=true)/\Aside0 (b'=false->m=B/\∀u,u<v->cA n (af E) d B u=false)/\Aside0 (dS n m+(if b'=true then 1 else 0)<=dS n B)/\Aside0 (wr.heap[gb]? =some (.cells #[.slice (some ⟨l,0,none⟩) n cr] 43 (0,0)))/\Aside0 (Kd.bool.R 4 wr w.heap.size (fun _=>True) (.slice (some ⟨l,0,none⟩) n cr) ((List.range n).map m))/\Aside0 (Below w.heap.size w wr)/\Aside0 (kq=n-v))
   case atStart=>exact⟨0,B,false,rfl,rfl,by omega,I,J,⟨fun _=>⟨rfl,fun u hu=>by omega⟩⟩,⟨by simp⟩,D,F,r,⟨rfl⟩⟩
   case round=>
    clear O s0 I J bd D F r;obtain⟨v,m,b',rfl,rfl,K,I,J,P,HU,D,F,r,be⟩:=hrel;by_cases Q:v<n
    ·have c9:(0:Int)<=(v:Int):=by omega
     have c':(v:Int)<(n:Int):=by omega
     have b0:wr.cell? ⟨gb,0,none⟩=some (.slice (some ⟨l,0,none⟩) n cr):=(aj D.out 0).trans rfl;obtain⟨o,hf⟩:=Kd.b7 false F.out (v:Int) (by omega) (by omega);rw[aM] at o hf;have e1:bW false ((List.range n).map m) v=m v:=by simp[bW,a7,List.getElem?_map,List.getElem?_range Q]
     rw[e1] at o;replace o:wr.cell? ⟨l,v,none⟩=some (.bool (m v)):=o;clear e1;cases V:m v with
     |true=>
      rw[V] at o;have ab:=zA V;clear V;go_wp2_with fail
      go_quiet (fail)
      go_wp2;go_roundg (n- (v+1))
      case measure=>rw[be.out];omega
      case rel=>exact⟨v+1,m,b',rfl,by go_num,by omega,I,J,⟨fun h=>⟨(P.out h).1,fun u hu=>by
       by_cases e:u=v
       ·subst e
        have:=(P.out h).1;have h3:=ab.out;rw[this] at h3;unfold cA;rw[h3];rfl
       ·exact(P.out h).2 u (by omega)⟩⟩,HU,⟨by repeat(first|exact D.out|apply iM|apply fA)⟩,⟨by repeat(first|exact F.out|apply Kd.bD|apply Kd.bq)⟩,⟨by repeat(first|exact r.out|apply bY|apply bZ)⟩,⟨rfl⟩⟩
     |false=>
      rw[V] at o;have ab:=zA V;have O:=zA (aE ar.out r.out);have s3:wr.cell? ⟨g,3,none⟩=some (.slice Ad d.length cd):=(aj O.out 3).trans rfl;have dk:=c4.out;obtain⟨a,ea,hx⟩:=Kd.bU (Kd.aw HD.out r.out) v (by omega) (by omega);subst ea;rw[aM] at hx;have ev:(v:Int)<(d.length:Int):=by omega
      have ew:=aA D.out;have ex:=Kd.a_ F.out l rfl;have ey:=aA O.out;have e0:=a8 _ _ hx;clear V dk;go_wp2_with fail
      go_region_held3 (fun w'=>w'.cell? ⟨gb,0,none⟩=some (.slice (some ⟨l,0,none⟩) n cr)/\w'.cell? ⟨l,v,none⟩=some (.bool false)/\w'.cell? ⟨g,3,none⟩=some (.slice (some a) d.length cd)/\w'.cell? (a.add v)=some (.int .i64 (rd d v)))
       (first|go_keep|(go_split_ands;exact⟨(S.cell (p:=⟨gb,0,none⟩) (by simp;omega)).trans (by go_simp),(S.cell (p:=⟨l,v,none⟩) (by simp;omega)).trans (by go_simp),(S.cell (p:=⟨g,3,none⟩) (by simp;omega)).trans (by go_simp),(S.cell (p:=a.add v) (by simp;omega)).trans (by go_simp)⟩))
       (first|(go_at_call 168;refine(Eo g n A0 c0 E q _ sv er v #[.pointer (some ⟨gb,0,none⟩)] m _ (Kd.aw c2 zB) HE.out hn Q (zK O) (fun W u co ds dv=>Ep gb l cr n m _ _ W u (aE (zK D) co) (Kd.cT (zR F) co) ds dv)).mono ?_;rintro e w5 ⟨rfl,S⟩))
      have U:=zb D S;have X:=bz F S;have am:=zS r S;have cq:=zA (c3.out m v Q ab.out);have cs:cA n (af E) d m v=decide (rd d v<ef m (cE E v E.length)):=by unfold cA;rw[ab.out,cq.out];rfl
      have bg:=zA cs;rename_i hHeld;clear hHeld cs S D F r O o hf b0 s3 hx;generalize ef m (cE E v E.length)=x at bg cq⊢;have b5:w5.cell? ⟨gb,0,none⟩=some (.slice (some ⟨l,0,none⟩) n cr):=(aj U.out 0).trans rfl;obtain⟨o,hf⟩:=Kd.b7 false X.out (v:Int) (by omega) (by omega);rw[aM] at o hf;generalize bW false ((List.range n).map m) (v:Int)=z at o;replace o:w5.cell? ⟨l,v,none⟩=some (.bool z):=o;by_cases cv:rd d v<x
      ·have an:decide (rd d v<x)=true:=az cv
       have bk:Aside0 (cA n (af E) d m v=true):=⟨bg.out.trans an⟩;have y:=Kd.dt X.out (v:Int) true;rw[aM,Er] at y;have d0:=zA y.1;have d1:=zA (da (g:=gb) U.out y.2 (fun e=>by injection e with e;exact c7 e));have d2:=zA (Below.setCell (p:=⟨l,v,none⟩) am.out cc (.bool true));clear y;simp only[an];go_wp2;go_roundg (n- (v+1))
       case measure=>rw[be.out];omega
       case rel=>exact⟨v+1,ee m v,true,rfl,by go_num,by omega,⟨by unfold ee;split;rfl;exact I.out⟩,⟨Ew HT.out J.out Q bk.out⟩,⟨fun h=>by cases h⟩,⟨by have h1:=nn Q ab.out;have h2:=HU.out;simp;split at h2<;>omega⟩,d1,d0,d2,⟨rfl⟩⟩
      ·have an:decide (rd d v<x)=false:=a6 cv
       have bk:Aside0 (cA n (af E) d m v=false):=⟨bg.out.trans an⟩;clear o hf b5;simp only[an];go_wp2;go_roundg (n- (v+1))
       case measure=>rw[be.out];omega
       case rel=>exact⟨v+1,m,b',rfl,by go_num,by omega,I,J,⟨fun h=>⟨(P.out h).1,fun u hu=>by
        by_cases e:u=v
        ·subst e
         have h3:=bk.out;rw[(P.out h).1] at h3;exact h3
        ·exact(P.out h).2 u (by omega)⟩⟩,HU,U,X,am,⟨rfl⟩⟩
    ·obtain rfl:v=n:=by omega
     go_wp2;go_roundg (2*dS v m+(if b'=true then 1 else 0))
     case measure=>
      have h1:=HK.out;have h2:=HU.out;cases b'<;>simp at h1 h2⊢ <;>omega
     case rel=>exact⟨m,b',rfl,I,J,⟨fun h u hu=>by rw[(P.out h).1];exact(P.out h).2 u hu⟩,D,F,r,⟨aI _⟩⟩
  |false=>
   go_wp2_with (first|((with_reducible refine aJ (N:=61) rfl ?_);refine Kd.kg Kd.bool _ 4 rfl (N:=61) rfl 43 _ _ rfl (n:Int) rfl rfl Tryz.underlying43 (.bool false) 1 mX rfl (by decide) (by omega) false (ok:=fun _=>True) (okp:=fun _=>True) rfl (fun _ hk=>hk) trivial cb (by simp;omega) (aq _ _) (aI _) ?_;intro v1 w5 H hb aO aP;rw[aM] at H;obtain⟨G,cl,K,d3,aS, -⟩:=Kd.fK H (by rw[List.length_replicate];omega);rw[List.length_replicate] at K;subst K;have cx:=zA H;have am:=zA (aZ r.out hb);have U:=zA (aE D.out hb);have X:=zA (Kd.bb (Kd.cT (Kd.eV F.out) hb) (ok':=fun k=>k≠G) (fun k hk=>by have:=hk.2.2;omega));have d4:gb≠G:=(fun e=>by have:=aA D.out;omega);have d5:w.heap.size<=G:=Nat.le_trans r.out.size d3;have b5:w5.cell? ⟨gb,0,none⟩=some (.slice (some ⟨l,0,none⟩) n cr):=(aj U.out 0).trans rfl;clear H hb aO aP))
   have bn:=zA (Eu HT.out I.out J.out (bd.out (by simp)));have d6:=r.out.size;clear O s0 I J bd D F r b5;have c1:Aside0 (Kd.bool.R 4 w5 w.heap.size (fun _=>True) (.slice (some ⟨G,0,none⟩) n cl) ((List.range n).map fun u=>if u<0 then !B u else false)):=⟨by
    have h:=Kd.bj cx.out (base':=w.heap.size) d6;rw[show (List.replicate n false:List Bool)=(List.range n).map fun u=>if u<0 then !B u else false from by
     refine List.ext_getElem (by simp) fun i h1 h2=>?_
     simp] at h
    exact h⟩
   clear cx;go_loopw [9,64] (fun d7 Z wr=>∃v:Nat,v<=n/\Z= .int .i64 v/\d7= .bool ((List.range v).any fun u=> !B u)/\Aside0 (wr.heap[gb]? =some (.cells #[.slice (some ⟨l,0,none⟩) n cr] 43 (0,0)))/\Aside0 (Kd.bool.R 4 wr w.heap.size (fun k=>k≠G) (.slice (some ⟨l,0,none⟩) n cr) ((List.range n).map B))/\Aside0 (Kd.bool.R 4 wr w.heap.size (fun _=>True) (.slice (some ⟨G,0,none⟩) n cl) ((List.range n).map fun u=>if u<v then !B u else false))/\Aside0 (Below w.heap.size w wr)) (fun _ Z _=>n- (intOf Z).toNat)
   case atStart=>exact⟨0,by omega,rfl,rfl,U,X,c1,am⟩
   case round=>
    clear U X c1 am;obtain⟨v,K,rfl,rfl,D,F,HL,r⟩:=hrel;by_cases Q:v<n
    ·have c9:(0:Int)<=(v:Int):=by omega
     have c':(v:Int)<(n:Int):=by omega
     have b0:wr.cell? ⟨gb,0,none⟩=some (.slice (some ⟨l,0,none⟩) n cr):=(aj D.out 0).trans rfl;obtain⟨o, -⟩:=Kd.b7 false F.out (v:Int) (by omega) (by omega);obtain⟨hz,hf⟩:=Kd.b7 false HL.out (v:Int) (by omega) (by omega);rw[aM] at o hz hf;have e1:bW false ((List.range n).map B) v=B v:=by simp[bW,a7,List.getElem?_map,List.getElem?_range Q]
     rw[e1] at o;replace o:wr.cell? ⟨l,v,none⟩=some (.bool (B v)):=o;generalize bW false ((List.range n).map fun u=>if u<v then !B u else false) (v:Int)=z at hz;replace hz:wr.cell? ⟨G,v,none⟩=some (.bool z):=hz;have y:=Kd.dt HL.out (v:Int) (!B v);rw[aM] at y;have em:(((List.range n).map fun u=>if u<v then !B u else false).set v (!B v))=(List.range n).map fun u=>if u<v+1 then !B u else false:=by
      refine List.ext_getElem (by simp) fun i h1 h2=>?_
      rw[List.getElem_set];simp only[List.getElem_map,List.getElem_range];by_cases e:v=i
      ·subst e;simp
      ·rw[if_neg e]
       by_cases h:i<v
       ·rw[if_pos h,if_pos (by omega)]
       ·rw[if_neg h,if_neg (by omega)]
     rw[em] at y;have bv:=zA y.1;have L:=zA (da (g:=gb) D.out y.2 (fun e=>by injection e with e;exact d4 e));have T:=zA (Kd.lR F.out y.2 (fun k hk e=>hk (by injection e)));have M:=zA (Below.setCell (p:=⟨G,v,none⟩) r.out d5 (.bool (!B v)));have Y:=(Kd.b7 false bv.out (v:Int) (by omega) (by omega)).1;rw[aM] at Y;have e2:bW false ((List.range n).map fun u=>if u<v+1 then !B u else false) v= !B v:=by simp[bW,a7,List.getElem?_map,List.getElem?_range Q]
     rw[e2] at Y;have HA:=zA (show ((List.range (v+1)).any fun u=> !B u)=(((List.range v).any fun u=> !B u)|| !B v) by simp[List.range_succ,List.any_append]);replace Y:(wr.setCell ⟨G,v,none⟩ (.bool (!B v))).cell? ⟨G,v,none⟩=some (.bool (!B v)):=Y;have e3:=zA Y;clear y em e1 e2 Y;generalize hs:((List.range v).any fun u=> !B u)=s at HA⊢;clear hs;cases s with
     |true=>
      go_wp2;go_roundw
      case rel=>exact⟨v+1,by omega,by go_num,by rw[HA.out];rfl,L,T,bv,M⟩
      case measure=>exact(show n- ((v:Int)+1).toNat<n- ((v:Int)).toNat by omega)
     |false=>
      go_wp2;go_roundw
      case rel=>exact⟨v+1,by omega,by go_num,by rw[HA.out,Bool.false_or],L,T,bv,M⟩
      case measure=>exact(show n- ((v:Int)+1).toNat<n- ((v:Int)).toNat by omega)
    ·obtain rfl:v=n:=by omega
     go_wp2;go_ret2;refine⟨G,cl,?_,?_,r.out⟩
     ·rw[show ((List.range v).any fun u=> !bC v (af E) q d u)=((List.range v).any fun u=> !B u) from by
       rw[Bool.eq_iff_iff,List.any_eq_true,List.any_eq_true];constructor
       ·rintro⟨u,hu,h⟩;exact⟨u,hu,by rw[<-bn.out u (List.mem_range.1 hu)];exact h⟩
       ·rintro⟨u,hu,h⟩;exact⟨u,hu,by rw[bn.out u (List.mem_range.1 hu)];exact h⟩]
      rfl
     ·have h:=HL.out
      rw[show ((List.range v).map fun u=>if u<v then !B u else false)=(List.range v).map fun u=> !bC v (af E) q d u from List.map_congr_left fun u hu=>by
       have:=List.mem_range.1 hu;rw[if_pos this,bn.out u this]] at h
      exact h
section
structure SI (w0:World) (g gd gs cd cs n:Nat) (A0:Option Addr) (c0:Nat) (E:List S83) (q:Int) (d s:List Int) (W:World):Prop where
 hb:Below w0.heap.size w0 W
 st:ic W g n (.slice A0 E.length c0) q (.slice (some ⟨gd,0,none⟩) n cd) (.slice (some ⟨gs,0,none⟩) n cs) 0
 d:(Kd.int .i64).R 3 W w0.heap.size (fun _=>True) (.slice (some ⟨gd,0,none⟩) n cd) d
 s:(Kd.int .i64).R 3 W w0.heap.size (fun _=>True) (.slice (some ⟨gs,0,none⟩) n cs) s
 ne:gd≠gs/\g≠gd/\g≠gs/\w0.heap.size<=g
namespace SI
variable {w0 W W':World} {g gd gs cd cs n c0 l:Nat} {A0:Option Addr} {E:List S83} {q:Int} {d s:List Int}
theorem ld (h:SI w0 g gd gs cd cs n A0 c0 E q d s W):gd<W.heap.size/\gs<W.heap.size/\g<W.heap.size/\w0.heap.size<=gd/\w0.heap.size<=gs:=⟨Kd.a_ h.d gd rfl,Kd.a_ h.s gs rfl,aA h.st,Kd.dY h.d gd rfl,Kd.dY h.s gs rfl⟩
theorem below (h:SI w0 g gd gs cd cs n A0 c0 E q d s W) (hb:Below W.heap.size W W'):SI w0 g gd gs cd cs n A0 c0 E q d s W':=⟨aZ h.hb hb,aE h.st hb,Kd.cT h.d hb,Kd.cT h.s hb,h.ne⟩
theorem alloc (h:SI w0 g gd gs cd cs n A0 c0 E q d s W) (o:Obj):SI w0 g gd gs cd cs n A0 c0 E q d s (W.alloc o):=h.below (ao (aq _ _) o)
theorem drewN (h:SI w0 g gd gs cd cs n A0 c0 E q d s W) (m:Nat):SI w0 g gd gs cd cs n A0 c0 E q d s (W.drewN m):=h.below (bY (aq _ _) m)
theorem bk (h:SI w0 g gd gs cd cs n A0 c0 E q d s W) (hb:Bk l W W') (a:w0.heap.size<=l):SI w0 g gd gs cd cs n A0 c0 E q d s W':=⟨h.hb.trans (hb.below _ a),hb.cells h.st,df h.d hb,df h.s hb,h.ne⟩
theorem fin (h:SI w0 g gd gs cd cs n A0 c0 E q d s W) {b:Nat} (hf:fQ b W W') (hb:w0.heap.size<=b):SI w0 g gd gs cd cs n A0 c0 E q d s W':=⟨h.hb.trans (hf.fs.mono hb),hf.cells h.st,hf.R h.d,hf.R h.s,h.ne⟩
theorem iC (h:SI w0 g gd gs cd cs n A0 c0 E q d s W) (p:Addr) (v:Value) (a:p.block≠g/\p.block≠gd/\p.block≠gs) (hb:w0.heap.size<=p.block):SI w0 g gd gs cd cs n A0 c0 E q d s (W.setCell p v):=
 ⟨Below.setCell h.hb hb v,aD h.st (fun e=>a.1 e.symm) v,
  Kd.bb (Kd.fB (Kd.gS rfl h.d) (fun k hk=>Below.heap_setCell _ _ _ _ (fun e=>a.2.1 (by rw[<-e];injection hk)))) (fun _ _=>trivial),
  Kd.bb (Kd.fB (Kd.gS rfl h.s) (fun k hk=>Below.heap_setCell _ _ _ _ (fun e=>a.2.2 (by rw[<-e];injection hk)))) (fun _ _=>trivial),h.ne⟩
theorem pq (h:SI w0 g gd gs cd cs n A0 c0 E q d s W) (v:Nat) (x:Int):SI w0 g gd gs cd cs n A0 c0 E q (d.set v x) s (W.setCell ⟨gd,v,none⟩ (.int .i64 x)):=by
 obtain⟨h1,i,j,b,k⟩:=h.ld;have a:=Kd.dt h.d (v:Int) x;rw[aM] at a;exact⟨Below.setCell h.hb b _,aD h.st h.ne.2.1 _,a.1,Kd.iO h.s rfl a.2 (fun e=>by cases e;exact h.ne.1 rfl),h.ne⟩
theorem pr (h:SI w0 g gd gs cd cs n A0 c0 E q d s W) (v:Nat) (x:Int):SI w0 g gd gs cd cs n A0 c0 E q d (s.set v x) (W.setCell ⟨gs,v,none⟩ (.int .i64 x)):=by
 obtain⟨h1,i,j,k,b⟩:=h.ld;have a:=Kd.dt h.s (v:Int) x;rw[aM] at a;exact⟨Below.setCell h.hb b _,aD h.st h.ne.2.2.1 _,Kd.iO h.d rfl a.2 (fun e=>by cases e;exact h.ne.1 rfl),a.1,h.ne⟩
theorem kE (h:SI w0 g gd gs cd cs n A0 c0 E q d s W) (v:Nat) (a:v<n):W.cell? ⟨gd,v,none⟩=some (.int .i64 (rd d v)):=by
 have:=(Kd.b7 0 h.d (v:Int) (by omega) (by omega)).1;rw[aM] at this;exact this
theorem cells (h:SI w0 g gd gs cd cs n A0 c0 E q d s W) (v:Nat) (a:v<n):W.cell? ⟨gs,v,none⟩=some (.int .i64 (rd s v)):=by
 have:=(Kd.b7 0 h.s (v:Int) (by omega) (by omega)).1;rw[aM] at this;exact this
theorem pv (h:SI w0 g gd gs cd cs n A0 c0 E q d s W) (v:Nat) (a:v<n):W.frozen? ⟨gd,v,none⟩=false:=by
 have:=(Kd.b7 0 h.d (v:Int) (by omega) (by omega)).2;rw[aM] at this;exact this
theorem wg (h:SI w0 g gd gs cd cs n A0 c0 E q d s W) (v:Nat) (a:v<n):W.frozen? ⟨gs,v,none⟩=false:=by
 have:=(Kd.b7 0 h.s (v:Int) (by omega) (by omega)).2;rw[aM] at this;exact this
theorem f0 (h:SI w0 g gd gs cd cs n A0 c0 E q d s W):W.cell? ⟨g,0,none⟩=some (.int .i64 n):=(aj h.st 0).trans rfl
theorem f2 (h:SI w0 g gd gs cd cs n A0 c0 E q d s W):W.cell? ⟨g,2,none⟩=some (.int .i64 q):=(aj h.st 2).trans rfl
theorem f3 (h:SI w0 g gd gs cd cs n A0 c0 E q d s W):W.cell? ⟨g,3,none⟩=some (.slice (some ⟨gd,0,none⟩) n cd):=(aj h.st 3).trans rfl
theorem f4 (h:SI w0 g gd gs cd cs n A0 c0 E q d s W):W.cell? ⟨g,4,none⟩=some (.slice (some ⟨gs,0,none⟩) n cs):=(aj h.st 4).trans rfl
theorem f5 (h:SI w0 g gd gs cd cs n A0 c0 E q d s W):W.cell? ⟨g,5,none⟩=some (.int .i64 0):=(aj h.st 5).trans rfl
end SI
end
end Go.Proofs.YtffdiakgjakngaaGreat.P
namespace Go.Proofs.YtffdiakgjakngaaGreat.P
open Go Go.RowKit
set_option linter.unusedVariables false
set_option linter.unusedSimpArgs false
set_option maxHeartbeats 8000000
set_option maxRecDepth 100000
section
section
variable {F:Fence} {n:Nat} {P:Program} {md:Region.Mode} {C:World->Prop}
def e8 (o:Oper):Oper:={o with op:=.move (.const undef)}
def rN (ops:List Oper):Bool:=ops.all fun o=>match o.op with| .defer _=>false|_=>true
theorem wh {l:List Oper} (h:rN l=true) {o:Oper} (a:o∈l):∀c,o.op≠ .defer c:=by
 intro c e;have:=List.all_eq_true.1 h o a;rw[e] at this;cases this
theorem wj {ops:Array Oper} {i:Nat} {a:Act} {K:Act->Prop} {m:Act->World->Prop} {Q':Exit->Act->World->Prop} {w:World} (s:∀p,ops[i]? =some p->∀c,p.op≠ .defer c) (hC:C w) (h:∀a w',C w'->K a->m a w')
  (b:qOpIn F n P ops C i K a):wpOpIn F n P ops Q' i m a w:=by
 unfold qOpIn at b;unfold wpOpIn;split
 ·rename_i k;simp only[k] at b;exact h _ _ hC b
 ·rename_i o k
  simp only[k] at b;obtain⟨q,b⟩:=b;split
  ·rename_i hw
   simp only[hw,if_true] at b;obtain⟨v,h1,l⟩:=b;have g:=h1 w hC;unfold Oper.quietAtIn at g;unfold Oper.wpIn;refine⟨q w hC,?_⟩;rw[Oper.semAt_eq _ _ _ (s o k)];generalize (execOp a.eval o).run P w=r at*;cases r with
   |ok x w'=>
    cases x<;>simp only[Oper.quietUponIn] at g<;>simp only[Oper.uponIn]
    case value u=>
     obtain⟨j,e2⟩:=g;rw[j,e2];exact h _ _ hC l
    case skip=>
     obtain⟨j,e2⟩:=g;rw[j,<-e2];exact h _ _ hC l
    case enter f args=>
     obtain⟨j,hd,y⟩:=g;rw[j];exact⟨hd,y.mono fun e B ⟨he,z⟩=>by subst he;exact h _ _ z l⟩
   |halt x w'=>simp only[Oper.quietUponIn] at g
  ·rename_i hw;simp only[hw] at b;exact⟨q w hC,h _ _ hC b⟩
def Ey (md:Region.Mode) (l:List Oper):Bool:=(List.range l.length).all fun i=>((l[i]?).map fun o=>o.after.all fun e=> !Region.binds md e||decide (e.on<i)).getD true
def Ez (md:Region.Mode) (m:Nat) (o:Oper):Bool:=(List.range m).all fun j=>o.after.any fun e=>Region.binds md e&&e.on==j
theorem wk {ops:Array Oper} (k:∀i p,ops[i]? =some p->∀e∈p.after,Region.binds md e=true->e.on<i) (a:Array Bool) (u:a.size=ops.size):∀j,j<ops.size->a.getD j true=false->Region.ready md ops a≠[]:=by
 intro j;induction j using Nat.strongRecOn with
 |ind j l=>
  intro m n he;obtain⟨o,g⟩:∃o,ops[j]? =some o:=⟨_,Array.getElem?_eq_getElem m⟩;by_cases b:∀e∈o.after,Region.binds md e=true->a.getD e.on false=true
  ·have:=mem_ready.2 ⟨n,o,g,b⟩
   rw[he] at this;cases this
  ·simp only[Classical.not_forall] at b
   obtain⟨e,h1,q,h⟩:=b;have r:=k j o g e h1 q;refine l e.on r (by omega) ?_ he;have s:e.on<a.size:=by omega
   simp[Array.getD_eq_getD_getElem?,Array.getElem?_eq_getElem s] at h⊢;exact h
theorem EA {l1:List Oper} {o:Oper} {Qa:Act->Prop} {Q':Exit->Act->World->Prop} (E:o.dst=none) (G:∀i p,(l1++[o]).toArray[i]? =some p->i≠l1.length->∀c,p.op≠ .defer c) (B:∀i p,(l1++[o]).toArray[i]? =some p->∀e∈p.after,Region.binds md e=true->e.on<i)
  (H:∀j,j<l1.length->∃e∈o.after,Region.binds md e=true/\e.on=j) (I:∀a w,C w->Qa a->wpListIn F n P (l1++[o]).toArray Q' [o] a w):
  ∀(fuel:Nat) (b:Array Bool) (a:Act) (w:World),b.size=l1.length+1->b.getD l1.length true=false->C w->wpAnyQIn F n P md (l1++[e8 o]).toArray C Qa fuel b a->wpAnyIn F n P md (l1++[o]).toArray Q' fuel b a w:=by
 have u:∀i,i≠l1.length->(l1++[e8 o]).toArray[i]? =(l1++[o]).toArray[i]? :=fun i hi=>by
  rw[List.getElem?_toArray,List.getElem?_toArray];by_cases h:i<l1.length
  ·rw[List.getElem?_append_left h,List.getElem?_append_left h]
  ·rw[List.getElem?_eq_none (by simp;omega),List.getElem?_eq_none (by simp;omega)]
 have hm:(l1++[o]).toArray[l1.length]? =some o:=by simp
 have x:(l1++[e8 o]).toArray[l1.length]? =some (e8 o):=by simp
 have y:∀b,Region.ready md (l1++[e8 o]).toArray b=Region.ready md (l1++[o]).toArray b:=fun b=>by
  unfold Region.ready;have aY:(l1++[e8 o]).toArray.size=(l1++[o]).toArray.size:=by simp
  rw[aY];refine List.filter_congr fun i hi=>?_
  by_cases h:i=l1.length
  ·rw[h,hm,x];rfl
  ·rw[u i h]
 have J:∀tmps,yielded (l1++[e8 o]).toArray tmps=yielded (l1++[o]).toArray tmps:=fun tmps=>by
  funext j
  unfold yielded;by_cases h:j=l1.length
  ·rw[h,hm,x];rfl
  ·rw[u j h]
 have aY:(l1++[o]).toArray.size=l1.length+1:=by simp
 have K:∀b:Array Bool,b.size=l1.length+1->l1.length∈Region.ready md (l1++[o]).toArray b->Region.ready md (l1++[o]).toArray (b.setIfInBounds l1.length true)=[]:=fun b k L=>by
  obtain⟨U,p,hp,M⟩:=mem_ready.1 L;rw[hm] at hp;obtain rfl:=aH hp;refine List.eq_nil_iff_forall_not_mem.2 fun i hi=>?_
  obtain⟨l,p,hp, -⟩:=mem_ready.1 hi;have V:i<l1.length+1:=by have:=(Array.getElem?_eq_some_iff.1 hp).1;rw[aY] at this;exact this
  by_cases he:i=l1.length
  ·subst he
   rw[Array.getD_eq_getD_getElem?,Array.getElem?_setIfInBounds_self_of_lt (by omega)] at l;cases l
  ·rw[getD_set_ne true (Ne.symm he)] at l
   obtain⟨e,h1,m,r⟩:=H i (by omega);have:=M e h1 m;rw[r] at this;have N:i<b.size:=by omega
   simp[Array.getD_eq_getD_getElem?,Array.getElem?_eq_getElem N] at this l;rw[this] at l;cases l
 intro fuel;induction fuel with
 |zero=>
  intro b a w k s hw h;have h1:Region.ready md (l1++[o]).toArray b=[]:=by rw[<-y];exact h.1
  exact absurd h1 (wk B b (by rw[aY];exact k) l1.length (by rw[aY];omega) s)
 |succ fuel O=>
  intro b a w k s hw h;refine⟨fun h1=>absurd h1 (wk B b (by rw[aY];exact k) l1.length (by rw[aY];omega) s),fun i hi=>?_⟩;have g:=h.2 i (by rw[y];exact hi);by_cases he:i=l1.length
  ·subst he
   have z:=K b k hi;unfold qOpIn at g;simp only[x] at g;have D:wpAnyQIn F n P md (l1++[e8 o]).toArray C Qa fuel (b.setIfInBounds l1.length true) a:=by
    have hd:(e8 o).dst=none:=E;have m:=g.2;split at m
    ·obtain⟨v, -,r⟩:=m
     rw[hd] at r;exact r
    ·rw[hd] at m;exact m
   have Q:Qa a:=by
    cases fuel with
    |zero=>exact D.2
    |succ f=>exact D.1 (by rw[y];exact z)
   have:=I a w hw Q;have R:wpOpIn F n P (l1++[o]).toArray Q' l1.length (fun a w=>Q' .normal a w) a w:=by
    unfold wpOpIn;simp only[hm];exact this
   refine wpOpIn_mono (fun a w q=>?_) R;cases fuel with
   |zero=>exact⟨z,q⟩
   |succ f=>exact⟨fun _=>q,fun i hi=>by rw[z] at hi;cases hi⟩
  ·have S:qOpIn F n P (l1++[o]).toArray C i (wpAnyQIn F n P md (l1++[e8 o]).toArray C Qa fuel (b.setIfInBounds i true)) a:=by
    unfold qOpIn at g⊢;rw[u i he] at g;simp only[J] at g;exact g
   refine wj (fun p hp=>G i p hp he) hw (fun a' w' T hk=>O _ a' w' (by simpa using k) ?_ T hk) S;rw[getD_set_ne true he];exact s
theorem pw {id:Nat} {Q:Exit->Act->World->Prop} {a:Act} {w:World} {l:List Oper} (l1:List Oper) (o:Oper) (u:l=l1++[o]) (hm:P.follows .mixedOrders=true) (q:o.dst=none) (v:rN l1=true) (x:Ey .any (l1++[o])=true) (y:Ez .any l1.length o=true) (k:Region.lexB .any (l1++[e8 o]).toArray=true)
  (h:wpQuietIn F n P l.toArray (fun w'=>∃n,w'=w.drewN n) (fun a'=>∀w',(∃n,w'=w.drewN n)->wpListIn F n P l.toArray Q [o] a' w') l1 a):(Code.region id l.toArray true).wpIn F n P Q a w:=by
 subst u;refine wpIn_region_any hm ?_;have aY:(l1++[o]).toArray.size=l1.length+1:=by simp
 rw[aY];simp only[Region.lexB,Bool.and_eq_true] at k;refine EA (C:=fun w'=>∃n,w'=w.drewN n) (Qa:=fun a'=>∀w',(∃n,w'=w.drewN n)->wpListIn F n P (l1++[o]).toArray Q [o] a' w') q (fun i p hp hi=>wh v ?_) ?_ ?_ (fun a w hw m=>m w hw) _ _ a _ (by simp) (by simp[Array.getD_eq_getD_getElem?]) ⟨1,rfl⟩ ?_
 ·rw[List.getElem?_toArray] at hp
  have g:=(List.getElem?_eq_some_iff.1 hp).1;rw[List.length_append] at g;simp at g;rw[List.getElem?_append_left (by omega)] at hp;exact List.mem_of_getElem? hp
 ·intro i p hp e he hb
  rw[List.getElem?_toArray] at hp;have g:=(List.getElem?_eq_some_iff.1 hp).1;have:=List.all_eq_true.1 x i (List.mem_range.2 g);rw[hp] at this;simp only[Option.map_some,Option.getD_some] at this;have:=Array.all_eq_true_iff_forall_mem.1 this e he;simpa [hb] using this
 ·intro j r
  have:=List.all_eq_true.1 y j (List.mem_range.2 r);rw[<-Array.any_toList,List.any_eq_true] at this;obtain⟨e,he,b⟩:=this;simp only[Bool.and_eq_true,beq_iff_eq] at b;exact⟨e,Array.mem_def.2 he,b.1,b.2⟩
 ·have m:wpQuietIn F n P (l1++[e8 o]).toArray (fun w'=>∃n,w'=w.drewN n) (fun a'=>∀w',(∃n,w'=w.drewN n)->wpListIn F n P (l1++[o]).toArray Q [o] a' w') (l1++[e8 o]) a:=by
   have z:∀tmps,yielded (l1++[e8 o]).toArray tmps=yielded (l1++[o]).toArray tmps:=fun tmps=>by
    funext j
    unfold yielded;rw[List.getElem?_toArray,List.getElem?_toArray];by_cases h:j<l1.length
    ·rw[List.getElem?_append_left h,List.getElem?_append_left h]
    ·rw[List.getElem?_append_right (by omega),List.getElem?_append_right (by omega)]
     cases r:j-l1.length<;>rfl
   have key:∀(l2:List Oper) (a:Act),wpQuietIn F n P (l1++[o]).toArray (fun w'=>∃n,w'=w.drewN n) (fun a'=>∀w',(∃n,w'=w.drewN n)->wpListIn F n P (l1++[o]).toArray Q [o] a' w') l2 a->wpQuietIn F n P (l1++[e8 o]).toArray (fun w'=>∃n,w'=w.drewN n) (fun a'=>∀w',(∃n,w'=w.drewN n)->wpListIn F n P (l1++[o]).toArray Q [o] a' w') (l2++[e8 o]) a:=by
    intro l2;induction l2 with
    |nil=>
     intro a h;refine⟨fun w _ f hf=>by simp[Oper.about,e8] at hf,?_⟩;have hd:(e8 o).dst=none:=q;split
     ·refine BigFrame.quietIn_move (.const undef) rfl ?_
      rw[hd];exact h
     ·rw[hd];exact h
    |cons p l2 s=>
     intro a h;refine⟨h.1,?_⟩;have b:=h.2;rw[z];split at b
     ·rename_i hw
      rw[if_pos hw];exact Oper.quietIn_mono s b
     ·rename_i hw
      rw[if_neg hw];exact s _ b
   exact key l1 a h
  have:=wpAnyQIn_lex (F:=F) (n:=n) (C:=fun w'=>∃n,w'=w.drewN n) (md:=.any) k.1 (l1++[e8 o]) 0 (Array.replicate (l1.length+1) false) a (by simp) (by simpa using k.2) m;simpa using this
theorem EB {l:List Oper} {Qa:Act->Prop} {Q':Exit->Act->World->Prop} (g:∀(i:Nat) (p:Oper),l.toArray[i]? =some p->∀c,p.op≠ .defer c) (e:∀a w,C w->Qa a->Q' .normal a w):
  ∀(fuel:Nat) (b:Array Bool) (a:Act) (w:World),C w->wpAnyQIn F n P md l.toArray C Qa fuel b a->wpAnyIn F n P md l.toArray Q' fuel b a w:=by
 intro fuel;induction fuel with
 |zero=>intro b a w hw h;exact⟨h.1,e _ _ hw h.2⟩
 |succ fuel j=>
  intro b a w hw h;exact⟨fun h1=>e _ _ hw (h.1 h1),fun i hi=>wj (g i) hw (fun a' w' k hk=>j _ a' w' k hk) (h.2 i hi)⟩
theorem EC {id:Nat} {Q:Exit->Act->World->Prop} {a:Act} {w:World} {l:List Oper} (hm:P.follows .mixedOrders=true) (e:rN l=true) (b:Region.lexB .any l.toArray=true)
  (h:wpQuietIn F n P l.toArray (fun w'=>∃n,w'=w.drewN n) (fun a'=>∀w',(∃n,w'=w.drewN n)->Q .normal a' w') l a):(Code.region id l.toArray true).wpIn F n P Q a w:=by
 refine wpIn_region_any hm ?_;simp only[Region.lexB,Bool.and_eq_true] at b;refine EB (C:=fun w'=>∃n,w'=w.drewN n) (Qa:=fun a'=>∀w',(∃n,w'=w.drewN n)->Q .normal a' w') (fun i p hp=>wh e ?_) (fun a w hw g=>g w hw) _ _ a _ ⟨1,rfl⟩ ?_
 ·rw[List.getElem?_toArray] at hp
  exact List.mem_of_getElem? hp
 ·have:=wpAnyQIn_lex (F:=F) (n:=n) (C:=fun w'=>∃n,w'=w.drewN n) (md:=.any) b.1 l 0 (Array.replicate l.length false) a (by simp) (by simpa using b.2) h
  simpa using this
end
end
end Go.Proofs.YtffdiakgjakngaaGreat.P
namespace Go.Proofs.YtffdiakgjakngaaGreat.P
open Go.RowKit Go.Proofs.YtffdiakgjakngaaGreatW.PrintWords Go.Proofs.YtffdiakgjakngaaGreatW.PrintLast Go.Proofs.YtffdiakgjakngaaGreatW.PrintMore
set_option linter.unusedVariables false
set_option linter.unusedSimpArgs false
set_option maxHeartbeats 8000000
set_option maxRecDepth 100000
section
attribute [local go_sem] Oper.semAt_some jq jr js jt l4 l5 l6 l7
def je (t:Int) (v:Nat) (d:List Int) (x:Int×Int):List Int:=
 (d.set v (wrap64 (rd d v-wrap64 (x.2*t)))).set x.1.toNat (wrap64 (rd (d.set v (wrap64 (rd d v-wrap64 (x.2*t)))) x.1+wrap64 (x.2*t)))
def gh (t:Int) (v:Nat) (d:List Int) (L:List (Int×Int)):List Int:=L.foldl (je t v) d
theorem ED (t:Int) (v:Nat) (d:List Int) (L:List (Int×Int)) (x:Int×Int):gh t v d (L++[x])=je t v (gh t v d L) x:=by simp[gh,List.foldl_append]
theorem wm (t:Int) (v:Nat) (d:List Int) (x:Int×Int):(je t v d x).length=d.length:=by simp[je]
theorem rO (t:Int) (v:Nat):∀(L:List (Int×Int)) (d:List Int),(gh t v d L).length=d.length
 |[],_=>rfl
 |x::L,d=>(rO t v L _).trans (wm t v d x)
def bA (E:List S83) (In:Nat->Bool) (t:Int):Nat->List Int×List Int->List Int×List Int
 |0,p=>p
 |k+1,p=>if In k=true then(gh t k (bA E In t k p).1 (cE E k E.length),(bA E In t k p).2.set k (wrap64 (rd (bA E In t k p).2 k+t))) else bA E In t k p
theorem nG (E:List S83) (In:Nat->Bool) (t:Int) (p:List Int×List Int):∀k,(bA E In t k p).1.length=p.1.length/\(bA E In t k p).2.length=p.2.length
 |0=>⟨rfl,rfl⟩
 |k+1=>by
  have h:=nG E In t p k;unfold bA;split
  ·exact⟨(rO ..).trans h.1,by rw[List.length_set];exact h.2⟩
  ·exact h
structure FI (w0 w:World) (g gd gs gi cd cs ci n:Nat) (A0:Option Addr) (c0:Nat) (E:List S83) (q:Int) (In:Nat->Bool) (t:Int) (d s:List Int) (W:World):Prop where
 si:SI w0 g gd gs cd cs n A0 c0 E q d s W
 x1:W.heap[w.heap.size]? =some (.cells #[.pointer (some ⟨g,0,none⟩)] 135 (0,0))
 x2:W.heap[w.heap.size+1]? =some (.cells #[.int .i64 t] 3 (0,0))
 hi:Kd.bool.R 4 W w0.heap.size (fun _=>True) (.slice (some ⟨gi,0,none⟩) n ci) ((List.range n).map In)
 hf:∀k,k<w.heap.size->k≠gd->k≠gs->W.heap[k]? =w.heap[k]?
 aY:w.heap.size+2<=W.heap.size
 hw:w0.heap.size<=w.heap.size/\gd<w.heap.size/\gs<w.heap.size/\g<w.heap.size/\gd≠gi/\gs≠gi
namespace FI
variable {w0 w W W':World} {g gd gs gi cd cs ci n c0 l:Nat} {A0:Option Addr} {E:List S83} {q t:Int} {In:Nat->Bool} {d s:List Int}
theorem below (h:FI w0 w g gd gs gi cd cs ci n A0 c0 E q In t d s W) (hb:Below W.heap.size W W'):FI w0 w g gd gs gi cd cs ci n A0 c0 E q In t d s W':=⟨h.si.below hb,aE h.x1 hb,aE h.x2 hb,Kd.cT h.hi hb,fun k h1 a b=>(hb.block k (by have:=h.aY;omega)).trans (h.hf k h1 a b),Nat.le_trans h.aY hb.size,h.hw⟩
theorem alloc (h:FI w0 w g gd gs gi cd cs ci n A0 c0 E q In t d s W) (o:Obj):FI w0 w g gd gs gi cd cs ci n A0 c0 E q In t d s (W.alloc o):=h.below (ao (aq _ _) o)
theorem drewN (h:FI w0 w g gd gs gi cd cs ci n A0 c0 E q In t d s W) (m:Nat):FI w0 w g gd gs gi cd cs ci n A0 c0 E q In t d s (W.drewN m):=h.below (bY (aq _ _) m)
theorem drew (h:FI w0 w g gd gs gi cd cs ci n A0 c0 E q In t d s W):FI w0 w g gd gs gi cd cs ci n A0 c0 E q In t d s W.drew:=h.drewN 1
theorem bk (h:FI w0 w g gd gs gi cd cs ci n A0 c0 E q In t d s W) (hb:Bk l W W') (a:w.heap.size<=l):FI w0 w g gd gs gi cd cs ci n A0 c0 E q In t d s W':=⟨h.si.bk hb (Nat.le_trans h.hw.1 a),hb.cells h.x1,hb.cells h.x2,df h.hi hb,fun k h1 b e=>(hb.heap k (by omega)).trans (h.hf k h1 b e),by rw[hb.size];exact h.aY,h.hw⟩
theorem pq (h:FI w0 w g gd gs gi cd cs ci n A0 c0 E q In t d s W) (v:Nat) (x:Int):FI w0 w g gd gs gi cd cs ci n A0 c0 E q In t (d.set v x) s (W.setCell ⟨gd,v,none⟩ (.int .i64 x)):=
 ⟨h.si.pq v x,aD h.x1 (by show w.heap.size≠gd;have:=h.hw;omega) _,aD h.x2 (by show w.heap.size+1≠gd;have:=h.hw;omega) _,by
  have a:=Kd.dt h.si.d (v:Int) x;rw[aM] at a;exact Kd.iO h.hi rfl a.2 (fun e=>by cases e;exact h.hw.2.2.2.2.1 rfl),fun k h1 b i=>(Below.heap_setCell _ _ _ _ b).trans (h.hf k h1 b i),by simpa using h.aY,h.hw⟩
theorem pr (h:FI w0 w g gd gs gi cd cs ci n A0 c0 E q In t d s W) (v:Nat) (x:Int):FI w0 w g gd gs gi cd cs ci n A0 c0 E q In t d (s.set v x) (W.setCell ⟨gs,v,none⟩ (.int .i64 x)):=
 ⟨h.si.pr v x,aD h.x1 (by show w.heap.size≠gs;have:=h.hw;omega) _,aD h.x2 (by show w.heap.size+1≠gs;have:=h.hw;omega) _,by
  have a:=Kd.dt h.si.s (v:Int) x;rw[aM] at a;exact Kd.iO h.hi rfl a.2 (fun e=>by cases e;exact h.hw.2.2.2.2.2 rfl),fun k h1 i b=>(Below.heap_setCell _ _ _ _ b).trans (h.hf k h1 i b),by simpa using h.aY,h.hw⟩
theorem c1 (h:FI w0 w g gd gs gi cd cs ci n A0 c0 E q In t d s W):W.cell? ⟨w.heap.size,0,none⟩=some (.pointer (some ⟨g,0,none⟩)):=(aj h.x1 0).trans rfl
theorem c2 (h:FI w0 w g gd gs gi cd cs ci n A0 c0 E q In t d s W):W.cell? ⟨w.heap.size+1,0,none⟩=some (.int .i64 t):=(aj h.x2 0).trans rfl
theorem EE (h:FI w0 w g gd gs gi cd cs ci n A0 c0 E q In t d s W) (v:Nat) (b:v<n):W.cell? ⟨gi,v,none⟩=some (.bool (In v)):=by
 have a:=(Kd.b7 false h.hi (v:Int) (by omega) (by omega)).1;rw[aM,show bW false ((List.range n).map In) (v:Int)=In v from by simp[bW,a7,List.getElem?_map,List.getElem?_range b]] at a;exact a
end FI
theorem wu (g gd gs gi cd cs ci n:Nat) (A0:Option Addr) (c0:Nat) (E:List S83) (q:Int) (d s:List Int) (In:Nat->Bool) (t:Int) (w0 w:World) (d4:Kd.C aN w0 A0 E.length E) (hE:ep n E) (hn:n<=1000) (e6:0<n)
  (h:SI w0 g gd gs cd cs n A0 c0 E q d s w) (hi:Kd.bool.R 4 w w0.heap.size (fun _=>True) (.slice (some ⟨gi,0,none⟩) n ci) ((List.range n).map In)) (cb:gd≠gi/\gs≠gi) (d5:d.length=n) (d6:s.length=n)
  (cc:∀v,v<n-> -2097152<=rd (bA E In t n (d,s)).1 v/\rd (bA E In t n (d,s)).1 v<=2097152/\ -2097152<=rd (bA E In t n (d,s)).2 v/\rd (bA E In t n (d,s)).2 v<=2097152):
  Calls Tryz.prog 166 #[.pointer (some ⟨g,0,none⟩),.slice (some ⟨gi,0,none⟩) n ci,.int .i64 t] w fun e w'=>e= .returned (.tuple #[])/\SI w0 g gd gs cd cs n A0 c0 E q (bA E In t n (d,s)).1 (bA E In t n (d,s)).2 w'/\(∀k,k<w.heap.size->k≠gd->k≠gs->w'.heap[k]? =w.heap[k]?)/\w.heap.size<=w'.heap.size:=by
 have e_:=Tryz.underlying188;have hu:=Tryz.underlying24;have HE:=zA hE;have cf:=zA cc;clear hE cc;refine(callsIn_wide (n:=10)).1 ?_;refine callsIn_of_wp_marks Tryz.func166 rfl trivial ?_ rfl;simp only[Tryz.ntmps166,List.size_toArray,List.length_cons,List.length_nil,Nat.reduceAdd,Nat.reduceSub,Array.replicate_succ,Array.replicate_zero,List.push_toArray,List.append_toArray,List.nil_append,List.cons_append];obtain⟨q1,q2,q3,q4,q5⟩:=h.ld;have cj:=h.hb.size;have fb:g≠gd:=h.ne.2.1;have r:Aside0 (FI w0 w g gd gs gi cd cs ci n A0 c0 E q In t d s ((w.alloc (.cells #[.pointer (some ⟨g,0,none⟩)] 135)).alloc (.cells #[.int .i64 t] 3))):=⟨(h.alloc _).alloc _,au (bc w (.cells #[.pointer (some ⟨g,0,none⟩)] 135)) (.cells #[.int .i64 t] 3),heap_alloc2_new w (.cells #[.pointer (some ⟨g,0,none⟩)] 135) (.cells #[.int .i64 t] 3),Kd.aR (Kd.aR hi (.cells #[.pointer (some ⟨g,0,none⟩)] 135)) (.cells #[.int .i64 t] 3),fun k hk _ _=>by rw[Below.heap_alloc _ _ _ (by simp;omega),Below.heap_alloc _ _ _ hk],by simp,cj,q1,q2,q3,cb.1,cb.2⟩;gi_wp2;clear h hi;generalize ((w.alloc (.cells #[.pointer (some ⟨g,0,none⟩)] 135)).alloc (.cells #[.int .i64 t] 3))=W2 at r⊢;have ea:=r.out.aY;refine wa w.heap.size (fun kq tm wr=>∃(u6 u7 u14 u15 u16 u17 u18 u19 u20 u21 u22 u23 u24 u25 u26 u27 u28 u29 u30 u31 u32 u59:Value) (v:Nat),v<=n/\Aside0 (FI w0 w g gd gs gi cd cs ci n A0 c0 E q In t (bA E In t v (d,s)).1 (bA E In t v (d,s)).2 wr)/\Aside0 (kq=n-v)/\tm=#[.pointer (some ⟨g,0,none⟩),.slice (some ⟨gi,0,none⟩) n ci,.int .i64 t,.pointer (some ⟨w.heap.size,0,none⟩),undef,.pointer (some ⟨w.heap.size+1,0,none⟩),u6,u7,undef,undef,undef,.slice (some ⟨gi,0,none⟩) n ci,.int .i64 n,.int .i64 v,u14,u15,u16,u17,u18,u19,u20,u21,u22,u23,u24,u25,u26,u27,u28,u29,u30,u31,u32,undef,undef,undef,undef,undef,undef,undef,undef,undef,undef,undef,undef,undef,undef,undef,undef,undef,undef,undef,undef,undef,undef,undef,undef,undef,undef,u59,undef,undef,undef,undef,undef,undef,undef,undef,undef,undef,undef,undef,undef,undef,undef,undef,undef,undef,undef,undef,undef,undef,undef,undef,undef,undef,undef,undef,undef,undef,undef,undef,undef,undef,undef,undef,undef,undef,undef,undef,undef,undef,undef,undef,undef,undef,undef,undef,undef,undef,undef]) n ⟨_,_,_,_,_,_,_,_,_,_,_,_,_,_,_,_,_,_,_,_,_,_,0,by omega,r,⟨rfl⟩,rfl⟩ (w.heap.size) (by omega) (cK.nil _ _ _) ?_;clear r ea;rintro gk tm wr ⟨u6,u7,u14,u15,u16,u17,u18,u19,u20,u21,u22,u23,u24,u25,u26,u27,u28,u29,u30,u31,u32,u59,v,hv,y,HK,rfl⟩ ds b hb cl J K hJ hK;have a4:=zA cl;have HJ:=zA hJ;have aY:=y.out.aY;clear cl hJ;obtain⟨l1,l2⟩:=nG E In t (d,s) v;have L1:=zA (show (bA E In t v (d,s)).1.length=n from l1.trans d5);have L2:=zA (show (bA E In t v (d,s)).2.length=n from l2.trans d6);clear l1 l2;by_cases M:v<n
 ·have fn:(0:Int)<=(v:Int):=by omega
  have fo:(v:Int)<(n:Int):=by omega
  have Q:=zA (show bA E In t (v+1) (d,s)=if In v=true then(gh t v (bA E In t v (d,s)).1 (cE E v E.length),(bA E In t v (d,s)).2.set v (wrap64 (rd (bA E In t v (d,s)).2 v+t))) else bA E In t v (d,s) from rfl);have bd:=y.out.EE v M;cases hIn:In v with
  |false=>
   rw[hIn] at bd;rw[hIn,if_neg (by decide)] at Q;have z:=zA (y.out.alloc (.cells #[.int .i64 v] 3));gi_wp2;exact lC.intro (n- (v+1)) (by rw[HK.out];omega) (HJ.out _ _ _ ⟨_,_,_,_,_,_,_,_,_,_,_,_,_,_,_,_,_,_,_,_,_,_,v+1,by omega,by rw[Q.out];exact z,⟨rfl⟩,rfl⟩) b (by simp;omega) (a4.out.below (ao (aq _ _) _))
  |true=>
   rw[hIn] at bd;rw[hIn,if_pos rfl] at Q;generalize bA E In t v (d,s)=i at y Q L1 L2;clear hIn;gi_wp2;have BV:=zA (bc wr (.cells #[.int .i64 v] 3));have z:=zA (y.out.alloc (.cells #[.int .i64 v] 3));have be:=zA (a4.out.below (ao (aq _ _) (.cells #[.int .i64 v] 3)));have cq:=zA (show (wr.alloc (.cells #[.int .i64 v] 3)).heap.size=wr.heap.size+1 from by simp);generalize wr.alloc (.cells #[.int .i64 v] 3)=W1 at BV z be cq⊢;have y0:=z.out.c1;have y1:=z.out.c2;have y2:=(aj BV.out 0).trans rfl;have y4:=z.out.si.f4;have y5:=z.out.si.cells v M;have y6:=z.out.si.wg v M;gi_region
   gi_wp2_with (refine⟨trivial,?_⟩;gi_at_call 194;refine(callsIn_wide.2 (mE g v _)).mono ?_;rintro e w3 ⟨rfl,rfl⟩)
   have fq:W1.heap.size=wr.heap.size+1:=cq.out;have aa:=zA ((((z.out.pr v (wrap64 (rd i.2 v+t))).alloc (.cells #[.pointer (some ⟨g,0,none⟩)] 135)).alloc (.cells #[.int .i64 v] 3)).drew);obtain⟨fr,fv,f0,f1,f2⟩:=z.out.si.ld;have eg:wr.heap.size≠gs:=by omega
   have bn:=zA (fA (au (au (aD (p:=⟨gs,v,none⟩) BV.out eg (.int .i64 (wrap64 (rd i.2 v+t)))) (.cells #[.pointer (some ⟨g,0,none⟩)] 135)) (.cells #[.int .i64 v] 3)));have aL:=zA (fA (au (bc (W1.setCell ⟨gs,v,none⟩ (.int .i64 (wrap64 (rd i.2 v+t)))) (.cells #[.pointer (some ⟨g,0,none⟩)] 135)) (.cells #[.int .i64 v] 3)));have aO:=zA (fA (heap_alloc2_new (W1.setCell ⟨gs,v,none⟩ (.int .i64 (wrap64 (rd i.2 v+t)))) (.cells #[.pointer (some ⟨g,0,none⟩)] 135) (.cells #[.int .i64 v] 3)));have bv:Aside0 (cK w.heap.size b ds (((W1.setCell ⟨gs,v,none⟩ (.int .i64 (wrap64 (rd i.2 v+t)))).alloc (.cells #[.pointer (some ⟨g,0,none⟩)] 135)).alloc (.cells #[.int .i64 v] 3)).drew):=⟨by
    obtain⟨inner,ho⟩:=Kd.jK z.out.si.s;obtain⟨cells,hc⟩:=jJ ho gs rfl;exact(((be.out.set (p:=⟨gs,v,none⟩) hc _).below (ao (aq _ _) _)).below (ao (aq _ _) _)).below (bZ (aq _ _))⟩
   have ek:((((W1.setCell ⟨gs,v,none⟩ (.int .i64 (wrap64 (rd i.2 v+t)))).alloc (.cells #[.pointer (some ⟨g,0,none⟩)] 135)).alloc (.cells #[.int .i64 v] 3)).drew).heap.size=W1.heap.size+2:=by simp
   simp only[World.size_setCell] at aL aO;clear z be BV y0 y1 y2 y4 y5 y6;generalize (((W1.setCell ⟨gs,v,none⟩ (.int .i64 (wrap64 (rd i.2 v+t)))).alloc (.cells #[.pointer (some ⟨g,0,none⟩)] 135)).alloc (.cells #[.int .i64 v] 3)).drew=H at aa bn aL aO bv ek⊢;generalize i.2.set v (wrap64 (rd i.2 v+t))=s2 at aa Q;have bw:=aa.out.si;refine iz (σ:=Unit) (α:=Int×Int) (F:=Fence.wide) (n:=10) rfl (by decide) (gf:=207) (lb:=#[.pointer (some ⟨W1.heap.size,0,none⟩),.pointer (some ⟨W1.heap.size+1,0,none⟩)]) rfl trivial (enters_of Tryz.func207 (by kernel_rfl) rfl)
    (fun o=>po (W1.heap.size) (W1.heap.size+1) g n A0 c0 E q (.slice (some ⟨gd,0,none⟩) n cd) (.slice (some ⟨gs,0,none⟩) n cs) 0 v w0 _ d4 HE.out hn M (ao (ao bw.hb _) _) (au (au aL.out _) _) (au (au aO.out _) _) (au (au bw.st _) _)) (fun _=>rfl)
    (fun _=>True) ?en ?st ?ar
    (fun _ pre W=>H.heap.size<=W.heap.size/\FI w0 w g gd gs gi cd cs ci n A0 c0 E q In t (gh t v i.1 pre) s2 W/\W.heap[wr.heap.size]? =some (.cells #[.int .i64 v] 3 (0,0))/\cK w.heap.size b ds W) (fun _ _ _ _=>False)
    ?is (fun _ _ _ _ _ _ h _=>h) ?ib (fun _ _ _ _ _ h _=>h) ?kt ?h0 ?a1 ?assign ?body ?done (fun _ _ _ _ _ _ _ h=>h.elim)
   case assign=>
    intro l x W K hK;gi_wp2;exact hK
   case en=>
    intro o s W1 h;exact⟨trivial,by rw[h];exact ct.refl _ _⟩
   case st=>intro s A B _ h;exact cZ h
   case ar=>intro s x A B _ h;exact cZ h.2
   case is=>
    rintro s pre A B _ ⟨hs,h1,h2,h3⟩ aP;exact⟨Nat.le_trans hs aP.size,h1.below aP,aE h2 aP,h3.below aP⟩
   case ib=>
    rintro s pre A B ⟨hs,h1,h2,h3⟩ hb;exact⟨by rw[hb.size];exact hs,h1.bk hb (by omega),hb.cells h2,h3.bk hb (by omega)⟩
   case kt=>
    intro s A B C D aS cr cv;refine⟨fun aY=>((aS.below w0.heap.size (by omega)).trans (cr.1 (by rw[aS.size];exact aY))).trans (cv.below w0.heap.size (by omega)),fun k hk el=>?_⟩;have cx:k≠H.heap.size+1:=by rcases hk with rfl|rfl|rfl<;>omega
    exact(cv.heap k cx).trans ((cr.2 k hk (by rw[aS.size];exact el)).trans (aS.heap k cx))
   case h0=>
    rintro o s W1 rfl;exact⟨by simp;omega,(aa.out.alloc _).alloc _,au (au bn.out _) _,(bv.out.below (ao (aq _ _) _)).below (ao (aq _ _) _)⟩
   case body=>
    rintro l s' pre ⟨u,m⟩ Wb Wc W _ ⟨hs,i1,i2,i3⟩ ⟨c4,an⟩ em N;have L:=zA ((i1.below an).bk N (by omega));have I2:=zA (N.cells (aE i2 an));have I3:=zA ((i3.below an).bk N (by omega));have c6:H.heap.size<=W.heap.size:=by have:=N.size;have:=an.size;omega
    clear i1 i2 i3 an N em;simp only at c4;obtain⟨u0,u1,m0,m1⟩:=c4;obtain⟨u,rfl⟩:=Int.eq_ofNat_of_zero_le u0;have a0:u<n:=by omega
    have c7:=zA (ED t v i.1 pre (u,m));have er:=zA ((rO t v pre i.1).trans L1.out);generalize gh t v i.1 pre=I at L c7 er;have z0:=L.out.c1;have z1:=L.out.c2;have z2:W.cell? ⟨wr.heap.size,0,none⟩=some (.int .i64 v):=(aj I2.out 0).trans rfl;have z3:=L.out.si.f3;have z4:=L.out.si.kE v M;have z5:=L.out.si.pv v M;clear aa bn aL aO bv bw bd;gi_wp2;refine pw [_,_,_,_,_,_,_,_,_,_,_,_] _ rfl (by kernel_rfl) rfl (by kernel_rfl) (by kernel_rfl) (by kernel_rfl) (by kernel_rfl) ?_;repeat(gi_big_quiet_step (fail))
    refine wpQuietIn_nil ?_;rintro _ ⟨nq,rfl⟩;have G:=zA (L.out.drewN nq);have S:=zA (iM I2.out nq);have T:=zA (I3.out.below (bY (aq _ _) nq));have U:H.heap.size<=(W.drewN nq).heap.size:=by simpa using c6
    have V:=zA (cZ (nw:=H.heap.size) (bY (aq W.heap.size W) nq));have X:=zA (bY (aq w0.heap.size W) nq);have Y:Aside0 (∀k,k≠gd->(W.drewN nq).heap[k]? =W.heap[k]?):=⟨fun k _=>by simp⟩;clear z0 z1 z2 z3 z4 z5;have z4:=G.out.si.kE v M;have z5:=G.out.si.pv v M;generalize W.drewN nq=Wq at G S T U V X Y z4 z5⊢;gi_wp2;have c8:gd<H.heap.size:=by omega
    have c9:wr.heap.size≠gd:=by omega
    have O:=zA (G.out.pq v (wrap64 (rd I v-wrap64 (m*t))));have b0:=zA (aD (p:=⟨gd,v,none⟩) S.out c9 (.int .i64 (wrap64 (rd I v-wrap64 (m*t)))));have b1:Aside0 (cK w.heap.size b ds (Wq.setCell ⟨gd,v,none⟩ (.int .i64 (wrap64 (rd I v-wrap64 (m*t)))))):=⟨by
     obtain⟨inner,ho⟩:=Kd.jK G.out.si.d;obtain⟨cells,hc⟩:=jJ ho gd rfl;exact T.out.set (p:=⟨gd,v,none⟩) hc _⟩
    have b2:H.heap.size<=(Wq.setCell ⟨gd,v,none⟩ (.int .i64 (wrap64 (rd I v-wrap64 (m*t))))).heap.size:=by simpa using U
    have b3:=zA (V.out.trans (eO (bo:=gd) (j:=v) Wq (.int .i64 (wrap64 (rd I v-wrap64 (m*t)))) c8));have b4:=zA (Below.setCell (p:=⟨gd,v,none⟩) X.out q4 (.int .i64 (wrap64 (rd I v-wrap64 (m*t)))));have b5:Aside0 (∀k,k≠gd->(Wq.setCell ⟨gd,v,none⟩ (.int .i64 (wrap64 (rd I v-wrap64 (m*t))))).heap[k]? =W.heap[k]?):=⟨fun k hk=>(Below.heap_setCell _ _ _ _ hk).trans (Y.out k hk)⟩;clear z4 z5 G S T U V X Y;generalize Wq.setCell ⟨gd,v,none⟩ (.int .i64 (wrap64 (rd I v-wrap64 (m*t))))=Wa at O b0 b1 b2 b3 b4 b5⊢;have z0:=O.out.c1;have z1:=O.out.c2;have z3:=O.out.si.f3;have z4:=O.out.si.kE u a0;have z5:=O.out.si.pv u a0;have es:(u:Int)<(n:Int):=by omega
    refine pw [_,_,_,_,_,_,_,_,_,_,_,_] _ rfl (by kernel_rfl) rfl (by kernel_rfl) (by kernel_rfl) (by kernel_rfl) (by kernel_rfl) ?_;repeat(gi_big_quiet_step (fail))
    refine wpQuietIn_nil ?_;rintro _ ⟨P,rfl⟩;have G:=zA (O.out.drewN P);have S:=zA (iM b0.out P);have T:=zA (b1.out.below (bY (aq _ _) P));have U:H.heap.size<=(Wa.drewN P).heap.size:=by simpa using b2
    have V:=zA (b3.out.trans (cZ (nw:=H.heap.size) (bY (aq Wa.heap.size Wa) P)));have X:=zA (bY b4.out P);have Y:Aside0 (∀k,k≠gd->(Wa.drewN P).heap[k]? =W.heap[k]?):=⟨fun k hk=>by simpa using b5.out k hk⟩;clear z0 z1 z3 z4 z5 O b0 b1 b2 b3 b4 b5;have z4:=G.out.si.kE u a0;have z5:=G.out.si.pv u a0;generalize Wa.drewN P=Wb at G S T U V X Y z4 z5⊢;gi_wp2;have ev:cK w.heap.size b ds (Wb.setCell ⟨gd,u,none⟩ (.int .i64 (wrap64 (rd (I.set v (wrap64 (rd I v-wrap64 (m*t)))) u+wrap64 (m*t))))):=by
     obtain⟨inner,ho⟩:=Kd.jK G.out.si.d;obtain⟨cells,hc⟩:=jJ ho gd rfl;exact T.out.set (p:=⟨gd,u,none⟩) hc _
    refine⟨V.out.trans (eO _ _ c8),⟨fun _=>Below.setCell (p:=⟨gd,u,none⟩) X.out q4 _,fun k hk _=>(Below.heap_setCell _ _ _ _ ?_).trans (Y.out k ?_)⟩,by simpa using U,?_,aD S.out c9 _,ev⟩
    ·show k≠gd
     rcases hk with rfl|rfl|rfl<;>omega
    ·rcases hk with rfl|rfl|rfl<;>omega
    ·rw[c7.out];exact G.out.pq u _
   case done=>
    rintro s' xs W W' _ rfl ⟨hs,i1,i2,i3⟩ N b6;have L:=zA (i1.bk N (by omega));have I3:=zA (i3.bk N (by omega));have ew:=zA b6;have c6:H.heap.size<W'.heap.size:=(Array.getElem?_eq_some_iff.1 b6).1;clear i1 i2 i3 b6;gi_wp2;exact lC.intro (n- (v+1)) (by rw[HK.out];omega) (HJ.out _ _ _ ⟨_,_,_,_,_,_,_,_,_,_,_,_,_,_,_,_,_,_,_,_,_,_,v+1,by omega,by rw[Q.out];exact L,⟨rfl⟩,rfl⟩) (H.heap.size+1) (by omega) (I3.out.push (by omega) (by omega) ew.out)
 ·obtain rfl:v=n:=by omega
  have x0:=y.out.c1;have s3:=y.out.si.f3;have s4:=y.out.si.f4;have s5:=y.out.si.f5;clear HJ hK;gi_wp2;gi_loopg [65] (v) (fun kq uv wq=>∃u:Nat,u<=v/\uv= .int .i64 u/\Aside0 (∃m,wq=wr.drewN m)/\Aside0 (kq=v-u))
  case atStart=>exact⟨0,by omega,rfl,⟨0,rfl⟩,⟨rfl⟩⟩
  case round=>
   obtain⟨u,hu,rfl,⟨⟨m,hm⟩⟩,ey⟩:=hrel;subst hm;by_cases b_:u<v
   ·have f7:(0:Int)<=(u:Int):=by omega
    have es:(u:Int)<(v:Int):=by omega
    have r:=zA (y.out.drewN m);have y6:=r.out.si.kE u b_;have y7:=r.out.si.cells u b_;obtain⟨o1,o2,o3,o4⟩:=cf.out u b_;have y0:=r.out.c1;have y3:=r.out.si.f3;have y4:=r.out.si.f4;have y5:=r.out.si.f5;have HM:Aside0 (∃m',wr.drewN m=wr.drewN m'):=⟨m,rfl⟩;clear x0 s3 s4 s5 r;generalize rd (bA E In t v (d,s)).1 u=a at y6 o1 o2;generalize rd (bA E In t v (d,s)).2 u=Z at y7 o3 o4;generalize wr.drewN m=wq at y0 y3 y4 y5 y6 y7 HM⊢;have f8:decide (2097152<(if(if(if a< -a then -a else a)<Z then Z else if a< -a then -a else a)< -Z then -Z else if(if a< -a then -a else a)<Z then Z else if a< -a then -a else a))=false:=by
     rw[decide_eq_false_iff_not];repeat' split
     all_goals omega
    gi_wp2;gi_quiet (fail)
    gi_wp2
    all_goals
     gi_roundg (v- (u+1))
     case measure=>rw[ey.out];omega
     case rel=>exact⟨u+1,by omega,by go_num,⟨by obtain⟨m',e5⟩:=HM.out;rw[e5];simp only[World.drewN_drewN];exact⟨_,rfl⟩⟩,⟨rfl⟩⟩
   ·obtain rfl:u=v:=by omega
    clear L1 L2 HE cf x0 s3 s4 s5;gi_wp2;refine(v_ (a4.out.below (bY (aq _ _) m)) fun w' b'=>?_).1;exact⟨_,results_none rfl _ _ _,rfl,(y.out.si.drewN m).fin b' cj,fun k h1 h2 h3=>(b'.fs.block k h1).trans (y.out.hf k h1 h2 h3),by have:=b'.size;simp at this;omega⟩
end
theorem br.lD {N:Int} {E:List S83} (h:br N E) {x:S83} (a:x∈E):0<=x.f0/\x.f0<=x.f1/\x.f1<N/\1<=x.f2/\x.f2<=50:=by
 have h1:=h.ok x a;have b:=h.le x a;simp[bX] at h1;omega
theorem br.jY {n:Nat} {E:List S83} (h:br n E):ep n E:=fun x a=>by
 have:=h.lD a;omega
theorem br.take {N:Int} {E:List S83} (h:br N E) (k:Nat):br N (E.take k):=⟨fun x a=>h.ok x (List.mem_of_mem_take a),fun x a=>h.le x (List.mem_of_mem_take a),h.order.sublist (List.take_sublist _ _)⟩
theorem wv {E:List S83} (v:Nat):∀(E:List S83) (f:Nat->Nat->Int),(∀x∈E,0<=x.f0/\0<=x.f1)->f v v=0->E.foldl cV f v v=0
 |[],f,_,hf=>hf
 |x::E,f,h,hf=>by
  rw[List.foldl_cons];refine wv (E:=E) v E _ (fun y a=>h y (List.mem_cons_of_mem _ a)) ?_;have b:=h x (List.mem_cons_self ..);unfold cV;split
  ·exact hf
  ·dsimp only
   rw[if_neg (by omega),if_neg (by omega)];exact hf
theorem br.wt {n:Nat} {E:List S83} (h:br n E):T.Wt n (af E):=by
 have a:∀v,af E v v=0:=fun v=>wv (E:=E) v E _ (fun x b=>by have:=h.lD b;omega) rfl
 refine⟨fun u v=>?_,fun u v=>?_,a⟩
 ·by_cases e:u=v
  ·subst e;rw[a];omega
  ·rw[lh h u v e];exact(qB h _ _).1
 ·by_cases e:u=v
  ·subst e;rfl
  ·rw[lh h u v e,lh h v u (fun k=>e k.symm),oR]
theorem br.EF {N:Int} {E:List S83} (h:br N E) {x:S83} (a:x∈E):0<db E x.f0 x.f1:=by
 unfold db;have he:=h.lD a;have e:(E.find? (gF x.f0 x.f1)).isSome=true:=List.find?_isSome.2 ⟨x,a,by simp[gF];omega⟩;obtain⟨y,b⟩:=Option.isSome_iff_exists.1 e;rw[b];have:=h.lD (List.mem_of_find?_eq_some b);show 0<y.f2
 omega
theorem br.conn {n:Nat} {E:List S83} (h:br n E) (j:fl n E):T.du n (af E):=by
 intro S h1 k;obtain⟨x,i,b⟩:=j S h1 k;have he:=h.lD i;have hb:=h.EF i;have l:db E x.f0 x.f1=af E x.f0.toNat x.f1.toNat:=by
  rw[lh h _ _ (fun e=>b (by rw[e]))];congr 1<;>omega
 rw[l] at hb;cases g:S x.f0.toNat with
 |true=>
  have a:S x.f1.toNat=false:=by cases a:S x.f1.toNat with|false=>rfl|true=>rw[g,a] at b;exact absurd rfl b
  exact⟨_,_,by omega,by omega,g,a,hb⟩
 |false=>
  have a:S x.f1.toNat=true:=by cases a:S x.f1.toNat with|true=>rfl|false=>rw[g,a] at b;exact absurd rfl b
  exact⟨_,_,by omega,by omega,a,g,by rw[h.wt.sym];exact hb⟩
def dL (φ:Nat->Int):List (Int×Int)->Int
 |[]=>0
 |x::L=>x.2*φ x.1.toNat+dL φ L
theorem wx (φ:Nat->Int):∀A B,dL φ (A++B)=dL φ A+dL φ B
 |[],B=>by simp[dL]
 |x::A,B=>by
  simp only[List.cons_append,dL,wx φ A B];omega
theorem rP {E:List S83} {k:Nat} (hk:k<E.length):ae E k=E[k]:=by simp[ae,a7,bK hk]
theorem EG {N:Int} {E:List S83} (h:br N E) {k:Nat} (hk:k<E.length):∀y∈E.take k,ix y (ae E k):=by
 intro y a;have h1:=h.order;rw[<-List.take_append_drop k E,List.pairwise_append] at h1;refine h1.2.2 y a _ ?_;rw[rP hk,List.drop_eq_getElem_cons hk];exact List.mem_cons_self ..
theorem wy {n:Nat} {E:List S83} (h:br n E) (φ:Nat->Int) {v:Nat} (p:v<n):∀k,k<=E.length->dL φ (cE E v k)=T.sN (fun u=>af (E.take k) v u*φ u) n
 |0,_=>by
  rw[T.gV (fun u _=>by simp[af])];rfl
 |k+1,hk=>by
  have g:k<E.length:=by omega
  have q:=wy h φ p k (by omega);have l:=h.lD (show ae E k∈E by rw[rP g];exact List.getElem_mem g);have o:=EG h g;have C:=(h.take k).wt.self v;rw[ub E k g];simp only[cE,wx,q];generalize ae E k=x at l o;obtain⟨a,b,m⟩:=x;simp only at l;by_cases i:a≠b/\(a=v\/b=v)
  ·rw[if_pos i]
   obtain⟨u0,r⟩:∃u0:Nat,(u0:Int)=a+b-v:=⟨(a+b-v).toNat,by omega⟩;have s:u0<n:=by omega
   have w:v≠u0:=by omega
   have z:af (E.take k) v u0=0:=by
    rw[lh (h.take k) v u0 w];unfold db;rw[ug (fun y B D=>by have:=o y B;unfold ix at this;simp only at this;omega)]
   have j:∀u:Nat,u<n->cV (af (E.take k)) ⟨a,b,m⟩ v u*φ u=af (E.take k) v u*φ u+(if u=u0 then m*φ u else 0):=fun u hu=>by
    unfold cV;simp only[if_neg i.1];by_cases e:u=u0
    ·subst e
     rw[z,if_pos rfl];by_cases e2:v=b.toNat/\u=a.toNat
     ·rw[if_pos e2];omega
     ·rw[if_neg e2,if_pos (by omega)];omega
    ·rw[if_neg e,if_neg (by omega),if_neg (by omega)];omega
   rw[T.bP j,T.dA,T.jM s (fun u _ hu=>if_neg hu),if_pos rfl];simp only[dL,<-r,aM];omega
  ·rw[if_neg i]
   have j:∀u:Nat,u<n->cV (af (E.take k)) ⟨a,b,m⟩ v u*φ u=af (E.take k) v u*φ u:=fun u hu=>by
    unfold cV;by_cases e:a=b
    ·simp only[if_pos e]
    ·simp only[if_neg e]
     rw[if_neg (by omega),if_neg (by omega)]
   rw[T.bP j];simp[dL]
theorem px {n:Nat} {E:List S83} (h:br n E) (φ:Nat->Int) {v:Nat} (a:v<n):dL φ (cE E v E.length)=T.sN (fun u=>af E v u*φ u) n:=by
 rw[wy h φ a E.length (aI _),List.take_length]
theorem py {n:Nat} {E:List S83} (h:br n E) {v:Nat}:∀k,k<=E.length->∀x∈cE E v k,0<=x.1/\x.1<n/\x.1≠v/\1<=x.2/\x.2<=50
 |0,_=>fun x a=>by cases a
 |k+1,hk=>fun x a=>by
  have b:k<E.length:=by omega
  have he:=h.lD (show ae E k∈E by rw[rP b];exact List.getElem_mem b);rcases List.mem_append.1 a with a|a
  ·exact py h k (by omega) x a
  ·split at a
   ·rename_i e
    obtain rfl:=List.mem_singleton.1 a;simp only;omega
   ·cases a
theorem wz (E:List S83) (v:Int):∀k,(cE E v k).length<=k
 |0=>aI _
 |k+1=>by
  have:=wz E v k;simp only[cE,List.length_append];split<;>simp<;>omega
theorem rQ (B:Nat->Bool):∀(L:List (Int×Int)) (s:Int),(∀x∈L,1<=x.2/\x.2<=50)->0<=s->s+50*L.length<=1000000000->L.foldl (fun s x=>if B x.1.toNat=true then wrap64 (s+x.2) else s) s=s+dL (T.ind B) L
 |[],s,_,_,_=>by simp[dL]
 |x::L,s,h,g,b=>by
  have i:=h x (List.mem_cons_self ..);simp only[List.length_cons] at b;rw[List.foldl_cons];simp only[dL,T.ind];by_cases e:B x.1.toNat=true
  ·rw[if_pos e,if_pos e,gX (by omega),rQ B L _ (fun y a=>h y (List.mem_cons_of_mem _ a)) (by omega) (by omega)]
   unfold T.ind;omega
  ·rw[if_neg e,if_neg e,rQ B L _ (fun y a=>h y (List.mem_cons_of_mem _ a)) (by omega) (by omega)]
   unfold T.ind;omega
theorem EH (t:Nat->Int) (B:Nat->Bool) (n:Nat):T.sN (fun u=>t u*T.ind B u) n=T.sN (fun u=>if B u=true then t u else 0) n:=T.bP fun u _=>by
 unfold T.ind;split<;>simp
theorem rR {n:Nat} {E:List S83} (h:br n E) (e:E.length<=1000) (B:Nat->Bool) {v:Nat} (a:v<n):ef B (cE E v E.length)=T.sN (fun u=>if B u=true then af E v u else 0) n:=by
 have h1:=wz E v E.length;unfold ef;rw[rQ B _ 0 (fun x b=>(py h _ (aI _) x b).2.2.2) (by omega) (by omega),px h _ a,EH,Int.zero_add]
theorem nH (t:Nat->Nat->Int) (B:Nat->Bool) (v:Nat):∀n,cW t B v n=T.sN (fun u=>if B u=true then t v u else 0) n
 |0=>rfl
 |n+1=>by
  show cW t B v n+_=T.sN _ n+_
  rw[nH t B v n]
theorem EI {n:Nat} {E:List S83} (h:br n E) (a:E.length<=1000) (B:Nat->Bool) {v:Nat} (b:v<n):ef B (cE E v E.length)=cW (af E) B v n:=by rw[rR h a B b,nH]
def Md (a b:Int):Prop:=(a-b)%18446744073709551616=0
def dp (a:Int):Prop:= -9223372036854775808<=a/\a<=9223372036854775807
theorem Md.refl (a:Int):Md a a:=by unfold Md;omega
theorem Md.wrap {a b:Int} (h:Md a b):Md (wrap64 a) b:=by unfold Md wrap64 at*;omega
theorem Md.add {a b c d:Int} (h:Md a b) (e:Md c d):Md (a+c) (b+d):=by unfold Md at*;omega
theorem Md.sub {a b c d:Int} (h:Md a b) (e:Md c d):Md (a-c) (b-d):=by unfold Md at*;omega
theorem Md.eq {a b:Int} (h:Md a b) (e:dp a) (hb:dp b):a=b:=by unfold Md dp at*;omega
theorem rS (a:Int):dp (wrap64 a):=by unfold dp wrap64;omega
theorem wA {d:List Int} (h:∀w:Nat,w<d.length->dp (rd d w)) (v:Nat) (a:Int) (b:dp a):∀w:Nat,w<d.length->dp (rd (d.set v a) w):=fun w hw=>by
 by_cases e:v=w
 ·subst e;rw[jX _ _ _ hw];exact b
 ·rw[jd _ _ _ _ e];exact h w hw
theorem wB (t:Int) {v n:Nat} (j:v<n):∀(L:List (Int×Int)) (d:List Int),d.length=n->(∀x∈L,0<=x.1/\x.1<n/\x.1≠v)->(∀w:Nat,w<n->dp (rd d w))->∀w:Nat,w<n->
  dp (rd (gh t v d L) w)/\Md (rd (gh t v d L) w) (rd d w-t*(if w=v then dL (fun _=>1) L else 0)+t*dL (fun u=>if u=w then 1 else 0) L)
 |[],d,hd,_,b=>fun w hw=>by
  refine⟨b w hw,?_⟩;simp[gh,dL];exact Md.refl _
 |x::L,d,hd,g,b=>fun w hw=>by
  have s:=g x (List.mem_cons_self ..);obtain⟨u,hu⟩:∃u:Nat,(u:Int)=x.1:=⟨x.1.toNat,by omega⟩;have k:u<n:=by omega
  have h:u≠v:=by omega
  have l:(je t v d x).length=n:=by rw[wm];exact hd
  have m:∀w:Nat,w<n->dp (rd (je t v d x) w):=by
   unfold je;rw[<-hd] at b⊢;have h1:=wA b v (wrap64 (rd d v-wrap64 (x.2*t))) (rS _);have o:=wA (d:=d.set v (wrap64 (rd d v-wrap64 (x.2*t)))) (by simpa using h1) x.1.toNat (wrap64 (rd (d.set v (wrap64 (rd d v-wrap64 (x.2*t)))) x.1+wrap64 (x.2*t))) (rS _);simpa using o
  obtain⟨i1,i2⟩:=wB t j L (je t v d x) l (fun y p=>g y (List.mem_cons_of_mem _ p)) m w hw;refine⟨i1,?_⟩;show Md (rd (gh t v (je t v d x) L) w) _
  have z:Md (rd (je t v d x) w) (rd d w-t*(if w=v then x.2 else 0)+t*(if u=w then x.2 else 0)):=by
   unfold je;rw[<-hu,aM];have q:rd (d.set v (wrap64 (rd d v-wrap64 (x.2*t)))) (u:Int)=rd d u:=jd _ _ _ _ (fun e=>h e.symm);have i:Md (wrap64 (x.2*t)) (t*x.2):=by rw[Int.mul_comm];exact(Md.refl _).wrap
   rw[q];by_cases a:u=w
   ·subst a
    rw[jX _ _ _ (by simpa [hd] using k),if_neg h,if_pos rfl,Int.mul_zero,Int.sub_zero];exact((Md.refl _).add i).wrap
   ·rw[jd _ _ _ _ a,if_neg a,Int.mul_zero,Int.add_zero]
    by_cases ev:w=v
    ·subst ev
     rw[jX _ _ _ (by simpa [hd] using hw),if_pos rfl];exact((Md.refl _).sub i).wrap
    ·rw[jd _ _ _ _ (fun e=>ev e.symm),if_neg ev,Int.mul_zero,Int.sub_zero]
     exact Md.refl _
  have r:rd d w-t*(if w=v then dL (fun _=>1) (x::L) else 0)+t*dL (fun u=>if u=w then 1 else 0) (x::L)=(rd d w-t*(if w=v then x.2 else 0)+t*(if u=w then x.2 else 0))-t*(if w=v then dL (fun _=>1) L else 0)+t*dL (fun u=>if u=w then 1 else 0) L:=by
   simp only[dL,<-hu,aM];by_cases ev:w=v
   ·simp only[if_pos ev]
    by_cases a:u=w
    ·simp only[if_pos a,Int.mul_one,Int.mul_add];omega
    ·simp only[if_neg a,Int.mul_one,Int.mul_zero,Int.mul_add];omega
   ·simp only[if_neg ev]
    by_cases a:u=w
    ·simp only[if_pos a,Int.mul_one,Int.mul_add,Int.mul_zero];omega
    ·simp only[if_neg a,Int.mul_zero,Int.mul_add];omega
  rw[r];unfold Md at*;omega
theorem EJ {n:Nat} {E:List S83} (h:br n E) (t:Int) {v:Nat} (b:v<n) (d:List Int) (hd:d.length=n) (g:∀w:Nat,w<n->dp (rd d w)):∀w:Nat,w<n->
  dp (rd (gh t v d (cE E v E.length)) w)/\Md (rd (gh t v d (cE E v E.length)) w) (rd d w-t*T.aU n (af E) (T.one v) w):=by
 intro w hw;obtain⟨h1,a⟩:=wB t b (cE E v E.length) d hd (fun x i=>by have:=py h _ (aI _) x i;omega) g w hw;refine⟨h1,?_⟩;rw[px h _ b,px h _ b] at a;have j:T.sN (fun u=>af E v u*1) n=T.val n (af E) v:=T.bP fun u _=>Int.mul_one _
 have e2:T.sN (fun u=>af E v u*(if u=w then 1 else 0)) n=af E v w:=by
  rw[T.jM hw (fun u _ hu=>by rw[if_neg hu,Int.mul_zero]),if_pos rfl,Int.mul_one]
 rw[j,e2] at a;by_cases e:w=v
 ·subst e
  rw[T.tS h.wt hw];rw[if_pos rfl,h.wt.self,Int.mul_zero,Int.add_zero] at a;exact a
 ·rw[T.tT b e,h.wt.sym w v,Int.mul_neg]
  rw[if_neg e,Int.mul_zero,Int.sub_zero] at a;rw[show rd d w- -(t*af E v w)=rd d w+t*af E v w by omega];exact a
theorem wC {n:Nat} {E:List S83} (h:br n E) (In:Nat->Bool) (t:Int) (d s:List Int) (hd:d.length=n) (g:s.length=n) (i:∀w:Nat,w<n->dp (rd d w)) (j:∀w:Nat,w<n->dp (rd s w)):∀k,k<=n->∀w:Nat,w<n->
  (dp (rd (bA E In t k (d,s)).1 w)/\Md (rd (bA E In t k (d,s)).1 w) (rd d w-t*T.aU n (af E) (T.ind fun v=>In v&&decide (v<k)) w))/\(dp (rd (bA E In t k (d,s)).2 w)/\Md (rd (bA E In t k (d,s)).2 w) (rd s w+t*T.ind (fun v=>In v&&decide (v<k)) w))
 |0,_=>fun w hw=>by
  have e:T.ind (fun v=>In v&&decide (v<0))=fun _=>0:=by funext v;simp[T.ind]
  rw[e,T.kr,Int.mul_zero,Int.sub_zero,Int.add_zero];exact⟨⟨i w hw,Md.refl _⟩,j w hw,Md.refl _⟩
 |k+1,hk=>fun w hw=>by
  have l:k<n:=by omega
  have a:=wC h In t d s hd g i j k (by omega);obtain⟨m,o⟩:=nG E In t (d,s) k;simp only at m o;unfold bA;cases hIn:In k with
  |false=>
   rw[if_neg (by decide)];have e:∀u,(In u&&decide (u<k+1))=(In u&&decide (u<k)):=fun u=>by
    by_cases e:u=k
    ·subst e;rw[hIn];rfl
    ·rw[show decide (u<k+1)=decide (u<k) by congr 1;exact propext (by omega)]
   rw[show (fun v=>In v&&decide (v<k+1))=(fun v=>In v&&decide (v<k)) from funext e];exact a w hw
  |true=>
   rw[if_pos rfl];have e:∀u,T.ind (fun v=>In v&&decide (v<k+1)) u=T.ind (fun v=>In v&&decide (v<k)) u+T.one k u:=fun u=>by
    unfold T.ind T.one;show (if(In u&&decide (u<k+1))=true then(1:Int) else 0)=(if(In u&&decide (u<k))=true then 1 else 0)+if u=k then 1 else 0
    by_cases e:u=k
    ·subst e;simp[hIn]
    ·rw[show decide (u<k+1)=decide (u<k) by congr 1;exact propext (by omega),if_neg e];omega
   have e2:T.aU n (af E) (T.ind fun v=>In v&&decide (v<k+1)) w=T.aU n (af E) (T.ind fun v=>In v&&decide (v<k)) w+T.aU n (af E) (T.one k) w:=by
    rw[<-T.kZ];exact T.me (fun u _=>e u) hw
   rw[e2,e w];obtain⟨p,j2⟩:=EJ h t l (bA E In t k (d,s)).1 (by rw[m];exact hd) (fun w hw=>(a w hw).1.1) w hw;refine⟨⟨p,?_⟩,?_⟩
   ·have r:=(a w hw).1.2
    rw[Int.mul_add];show Md (rd (gh t k (bA E In t k (d,s)).1 (cE E k E.length)) w) _
    unfold Md at*;omega
   ·have q:k<(bA E In t k (d,s)).2.length:=by rw[o,g];exact l
    by_cases b:k=w
    ·subst b
     rw[jX _ _ _ q];refine⟨rS _,?_⟩;have:=(a k hw).2.2;rw[Int.mul_add,show T.one k k=1 by simp[T.one],Int.mul_one];refine Md.wrap ?_;unfold Md at*;omega
    ·rw[jd _ _ _ _ b,show T.one k w=0 by unfold T.one;rw[if_neg (fun e=>b e.symm)],Int.add_zero]
     exact(a w hw).2
theorem wD {n:Nat} {E:List S83} (h:br n E) (In:Nat->Bool) (t:Int) (d s:List Int) (hd:d.length=n) (g:s.length=n) (i:∀w:Nat,w<n->dp (rd d w)) (j:∀w:Nat,w<n->dp (rd s w)) {w:Nat} (hw:w<n):
  (dp (rd d w-t*T.aU n (af E) (T.ind In) w)->rd (bA E In t n (d,s)).1 w=rd d w-t*T.aU n (af E) (T.ind In) w)/\(dp (rd s w+t*T.ind In w)->rd (bA E In t n (d,s)).2 w=rd s w+t*T.ind In w):=by
 have e:∀u,u<n->T.ind (fun v=>In v&&decide (v<n)) u=T.ind In u:=fun u hu=>by
  unfold T.ind;simp[hu]
 obtain⟨⟨h1,a⟩,k,b⟩:=wC h In t d s hd g i j n (aI _) w hw;rw[T.me e hw] at a;rw[e w hw] at b;exact⟨fun hi=>a.eq h1 hi,fun hi=>b.eq k hi⟩
theorem rT {f:Nat->Int} {n v:Nat} (b:v<n) {a:Int} (e:a<=0) (h:∀u,u<n->a<=f u):f v<=T.sN f n-n*a:=by
 have h1:=T.gD (f:=fun u=>f u-a) b (fun u hu=>by have:=h u hu;show 0<=f u-a;omega);rw[T.de f (fun _=>a) n,T.iq] at h1;have g:f v-a<=T.sN f n-n*a:=h1;omega
theorem nI {n:Nat} {t:Nat->Nat->Int} (e:T.Wt n t) (hn:n<=12) (l:T.sN (T.val n t) n<=19) {D dist d s:Nat->Int} (m:∀v,v<n-> -200<=D v/\D v<=200) {k:Int} (hk:0<=k) (o:k<=n) (h:T.fp n t D dist 200 k d s):∀v,v<n-> -102400<=d v/\d v<=1231200/\0<=s v/\s v<=1228800:=by
 have p:T.sN d n=T.sN D n:=by
  rw[T.bP (f:=d) (g:=fun v=>D v-T.aU n t s v) h.eq,T.de,T.m_ e];omega
 have q:=(T.nE (f:=D) (n:=n) (B:=200) m).2;have i:∀v,v<n-> -102400<=d v:=fun v b=>by
  have h1:=h.low v b;have j:=T.rJ e dist (B:=200) (by omega) l k;omega
 intro v b;have h1:=rT (f:=d) b (a:= -102400) (by omega) i;have j:=h.s0 v b;have r:((n:Int)-k)*(200*512)<=12*(200*512):=Int.mul_le_mul_of_nonneg_right (by omega) (by omega);exact⟨i v b,by omega,j.1,by omega⟩
theorem EK {a x:Int} (b:1<=x):a<=(a+x-1)/x*x:=by
 have e:=Int.emod_lt_of_pos (a+x-1) (show 0<x by omega);have g:=Int.mul_ediv_add_emod (a+x-1) x;rw[Int.mul_comm];omega
theorem EL {a x:Int} (b:1<=a) (e:1<=x):(a+x-1)/x<=a:=by
 refine Int.ediv_le_of_le_mul (by omega) ?_;have:=Int.mul_le_mul_of_nonneg_right (show (1:Int)<=a by omega) (show (0:Int)<=x-1 by omega);rw[show a*x=a*(x-1)+a by rw[Int.mul_sub];omega];omega
theorem EM {n:Nat} {E:List S83} (a:br n E) (hn:n<=12) (b:T.sN (T.val n (af E)) n<=19) {D dist:Nat->Int} (e:∀v,v<n-> -200<=D v/\D v<=200) (g:∀u v:Nat,u<n->v<n->0<af E u v->dist v<=dist u+1) {k:Int} (hk:1<=k) (q:k<=n) {d s:List Int} (r:d.length=n) (y:s.length=n)
  (h:T.fp n (af E) D dist 200 k (fun v=>rd d (v:Nat)) (fun v=>rd s (v:Nat))) {x:Int} (i:0<=x) (j:x<=T.fI n (af E) dist 200 k) (l:∀v:Nat,v<n->dist v=k->rd d v<0-> -rd d v<=x*T.sN (fun u=>if T.bF dist k u=true then af E v u else 0) n):
  T.fp n (af E) D dist 200 (k-1) (fun v=>rd (bA E (T.bF dist k) x n (d,s)).1 (v:Nat)) (fun v=>rd (bA E (T.bF dist k) x n (d,s)).2 (v:Nat))/\
  ∀v:Nat,v<n-> -2097152<=rd (bA E (T.bF dist k) x n (d,s)).1 v/\rd (bA E (T.bF dist k) x n (d,s)).1 v<=2097152/\ -2097152<=rd (bA E (T.bF dist k) x n (d,s)).2 v/\rd (bA E (T.bF dist k) x n (d,s)).2 v<=2097152:=by
 have hb:=nI a.wt hn b e (by omega) q h;have h1:=T.fp.step a.wt (by omega) b g h i j l (d':=fun v=>rd d (v:Nat)-x*T.aU n (af E) (T.ind (T.bF dist k)) v) (s':=fun v=>rd s (v:Nat)+x*T.ind (T.bF dist k) v) (fun _ _=>rfl) (fun _ _=>rfl);have m:=nI a.wt hn b e (show 0<=k-1 by omega) (by omega) h1;have o:=fun (w:Nat) (hw:w<n)=>wD a (T.bF dist k) x d s r y (fun w hw=>by have:=hb w hw;unfold dp;omega) (fun w hw=>by have:=hb w hw;unfold dp;omega) hw
 have z:∀w:Nat,w<n->rd (bA E (T.bF dist k) x n (d,s)).1 w=rd d w-x*T.aU n (af E) (T.ind (T.bF dist k)) w:=fun w hw=>(o w hw).1 (by have:=m w hw;unfold dp;omega)
 have e2:∀w:Nat,w<n->rd (bA E (T.bF dist k) x n (d,s)).2 w=rd s w+x*T.ind (T.bF dist k) w:=fun w hw=>(o w hw).2 (by have:=m w hw;unfold dp;omega)
 have p:=T.fp.step a.wt (by omega) b g h i j l (d':=fun v=>rd (bA E (T.bF dist k) x n (d,s)).1 (v:Nat)) (s':=fun v=>rd (bA E (T.bF dist k) x n (d,s)).2 (v:Nat)) z e2;refine⟨p,fun v B=>?_⟩;have:=nI a.wt hn b e (show 0<=k-1 by omega) (by omega) p v B;omega
theorem EN {n:Nat} {E:List S83} (a:br n E) (b:T.sN (T.val n (af E)) n<=19) {D dist:Nat->Int} (e:∀u v:Nat,u<n->v<n->0<af E u v->dist v<=dist u+1) {k:Int} {d s:List Int}
  (h:T.fp n (af E) D dist 200 k (fun v=>rd d (v:Nat)) (fun v=>rd s (v:Nat))) (g:∀v:Nat,v<n->dist v=k->rd d v<0-> -rd d v<=0*T.sN (fun u=>if T.bF dist k u=true then af E v u else 0) n):
  T.fp n (af E) D dist 200 (k-1) (fun v=>rd d (v:Nat)) (fun v=>rd s (v:Nat)):=by
 refine T.fp.step a.wt (by omega) b e h (T:=0) (by omega) ?_ g (fun v _=>by rw[Int.zero_mul,Int.sub_zero]) (fun v _=>by rw[Int.zero_mul,Int.add_zero]);have:=T.pn (n:=n) (t:=af E) dist (show (0:Int)<=200 by omega) k;omega
theorem EO {n:Nat} {t:Nat->Nat->Int} (a:T.Wt n t) {out:List Int} {k:Int} {v u:Nat} (hu:u<n) (h1:0<t v u) (g:rd out (u:Int)+1=rd out (v:Int)) (hk:rd out (v:Int)=k):1<=T.sN (fun u=>if T.bF (fun v=>rd out (v:Nat)) k u=true then t v u else 0) n:=by
 have b:=T.gD (f:=fun u=>if T.bF (fun v=>rd out (v:Nat)) k u=true then t v u else 0) hu (fun w _=>by
  show 0<=(if T.bF (fun v=>rd out (v:Nat)) k w=true then t v w else 0)
  have:=a.pos v w;split<;>omega)
 have e:T.bF (fun v=>rd out (v:Nat)) k u=true:=by exact az (show rd out (u:Int)<k by omega)
 simp only[e,if_true] at b;omega
theorem wE (n:Nat) (t:Nat->Nat->Int) (q:Nat) (d:List Int):bC n t q d q=true:=qT _ (by simp[cD])
theorem EP (n:Nat) (t:Nat->Nat->Int) (q:Nat) (d:List Int) {v:Nat} (a:v<n):cA n t d (bC n t q d) v=false:=
 qV (n:=n) (c:=cA n t d) (fun b v h=>np b v h) (dS n (cD q)) (cD q) (aI _) v a
theorem wF {n:Nat} {t:Nat->Nat->Int} {q:Nat} {d:List Int} {v:Nat} (a:v<n) (h:bC n t q d v=false):T.sN (fun u=>if bC n t q d u=true then t v u else 0) n<=rd d v:=by
 have h1:=EP n t q d a;unfold cA at h1;rw[h,nH] at h1;simp at h1;exact h1
theorem ER {n:Nat} {t:Nat->Nat->Int} (e:T.Wt n t) {q:Nat} {d:List Int} (h:((List.range n).any fun v=> !bC n t q d v)=false):T.ir n t q (fun v=>rd d (v:Nat)):=by
 have h1:cp n t q d=true:=by
  unfold cp;rw[List.all_eq_true];intro v a;rw[List.any_eq_false] at h;have:=h v a;show bC n t q d v=true
  simpa using this
 have g:=(kz (fun i j=>e.pos i j) q d).1 h1;intro S hS k;obtain⟨v,a,l,b⟩:=g S hS k;refine⟨v,a,l,?_⟩;rw[nH] at b;refine Int.lt_of_lt_of_le b (T.cX fun u _=>?_);show (if(!S u)=true then t v u else 0)<=(if S u=false then t v u else 0)
 cases S u<;>simp
theorem ES {n:Nat} {t:Nat->Nat->Int} (g:T.du n t) (e:T.Wt n t) {q:Nat} (i:q<n) {d:List Int} (h:((List.range n).any fun v=> !bC n t q d v)=true):∃v,v<n/\bC n t q d v=false/\0<T.sN (fun u=>if bC n t q d u=true then t v u else 0) n:=by
 obtain⟨v,j,hb⟩:=List.any_eq_true.1 h;obtain⟨a,b,k,l,h1,m,p⟩:=g (bC n t q d) ⟨q,i,wE n t q d⟩ ⟨v,List.mem_range.1 j,by simpa using hb⟩;refine⟨b,l,m,?_⟩;have o:=T.gD (f:=fun u=>if bC n t q d u=true then t b u else 0) k (fun w _=>by
  show 0<=(if bC n t q d w=true then t b w else 0)
  have:=e.pos b w;split<;>omega)
 have r:=e.sym a b;simp only[h1,if_true] at o;omega
structure jD (n q:Nat) (t:Nat->Nat->Int) (D:Nat->Int) (d s:List Int):Prop where
 dl:d.length=n
 sl:s.length=n
 eq:∀v:Nat,v<n->rd d v=D v-T.aU n t (fun u=>rd s (u:Nat)) v
 kB:∀v:Nat,v<n->v≠q->0<=rd d v
 low: -102400<=rd d q
 s0:∀v:Nat,v<n->0<=rd s v
 sq:rd s q<=1228800
structure eH (n q:Nat) (t:Nat->Nat->Int) (D c σ:Nat->Int):Prop where
 red:T.iu n t q c
 eq:∀v,v<n->c v=D v-T.aU n t σ v
 q0:σ q=0
theorem ET {n q:Nat} {t:Nat->Nat->Int} (a:T.Wt n t) (b:T.du n t) (e:q<n) (D:Nat->Int):∃c σ,eH n q t D c σ:=by
 obtain⟨c,⟨s,g⟩,i⟩:=T.tU a b e D;refine⟨c,fun u=>s u-s q,i,fun v j=>?_,by show s q-s q=0;omega⟩;have h:=T.mc n t s (fun _=>s q) v;rw[T.kr] at h;rw[h,g v j];omega
theorem eH.unique {n q:Nat} {t:Nat->Nat->Int} (l:T.Wt n t) (m:T.du n t) (o:q<n) {D c σ k i:Nat->Int} (h:eH n q t D c σ) (j:eH n q t D k i):∀v,v<n->c v=k v/\σ v=i v:=by
 have e:T.bM n t c k:=⟨fun u=>i u-σ u,fun v g=>by rw[T.mc,h.eq v g,j.eq v g];omega⟩;have h1:=T.Bw l m o h.red j.red e;have p:=T.Eg l m o (s:=σ) (s':=i) (by rw[h.q0,j.q0]) (fun v g=>by
  have a:=h.eq v g;have b:=j.eq v g;have c:=h1 v g;omega)
 exact fun v g=>⟨(h1 v g).symm,p v g⟩
theorem rU {n:Nat} {t:Nat->Nat->Int} (a:T.Wt n t) {v:Nat} (b:v<n):T.val n t v<=T.sN (T.val n t) n:=T.gD b (fun u _=>T.dy fun w _=>a.pos u w)
theorem eH.bound {n q:Nat} {t:Nat->Nat->Int} (j:T.Wt n t) (r:T.du n t) (o:q<n) (hn:n<=12) (l:T.sN (T.val n t) n<=19) {D c σ:Nat->Int} (p:∀v,v<n-> -200<=D v/\D v<=200) (h:eH n q t D c σ):∀v,v<n-> -31536<=σ v/\σ v<=31536/\ -3000<=c v/\c v<=3000/\(v≠q->0<=c v/\c v<19):=by
 have h1:=T.Eh j r o h.red h.eq h.q0 (B:=200) (V:=19) (by omega) (by omega) p (fun v i=>Int.le_trans (rU j i) l);have m:∀v,v<n->v≠q->0<=c v/\c v<=19:=fun v i k=>by
  have a:=h.red.1 v i k;have b:=T.nD j h.red.2 i k;have:=Int.le_trans (rU j i) l;omega
 have s:∀v,v<n->v≠q->0<=c v/\c v<19:=fun v i k=>by
  have a:=h.red.1 v i k;have b:=T.nD j h.red.2 i k;have:=Int.le_trans (rU j i) l;omega
 have u:=T.vV (f:=c) o (a:=0) (b:=19) (by omega) (by omega) m;have w:T.sN c n=T.sN D n:=by
  rw[T.bP (f:=c) (g:=fun v=>D v-T.aU n t σ v) h.eq,T.de,T.m_ j];omega
 have x:=T.nE (f:=D) (n:=n) (B:=200) p;have y:(n:Int)*(n*(200+19))<=31536:=by
  have a:(n:Int)*(200+19)<=12*(200+19):=Int.mul_le_mul_of_nonneg_right (by omega) (by omega);have b:=Int.mul_le_mul_of_nonneg_left a (show (0:Int)<=n by omega);have c:(n:Int)*(12*(200+19))<=12*(12*(200+19)):=Int.mul_le_mul_of_nonneg_right (by omega) (by omega);omega
 intro v i;have a:=h1 v i;refine⟨by omega,by omega,?_,?_,fun k=>s v i k⟩
 ·by_cases e:v=q
  ·subst e;omega
  ·have:=m v i e;omega
 ·by_cases e:v=q
  ·subst e;omega
  ·have:=m v i e;omega
theorem jD.bounds {n q:Nat} {t:Nat->Nat->Int} (j:T.Wt n t) (k:T.du n t) (l:q<n) (hn:n<=12) (p:T.sN (T.val n t) n<=19) {D c σ:Nat->Int} (m:∀v,v<n-> -200<=D v/\D v<=200) (i:eH n q t D c σ) {d s:List Int} (h:jD n q t D d s):
  ∀v:Nat,v<n-> -102400<=rd d v/\rd d v<=1231200/\0<=rd s v/\rd s v<=σ v+rd s q/\rd s v<=1260336:=by
 have o:∀v:Nat,v<n-> -102400<=rd d v:=fun v b=>by
  by_cases e:v=q
  ·subst e;exact h.low
  ·have:=h.kB v b e;omega
 have r:T.sN (fun v=>rd d (v:Nat)) n=T.sN D n:=by
  rw[T.bP (f:=fun v=>rd d (v:Nat)) (g:=fun v=>D v-T.aU n t (fun u=>rd s (u:Nat)) v) h.eq,T.de,T.m_ j];omega
 have w:=(T.nE (f:=D) (n:=n) (B:=200) m).2;have hle:=T.rI j k l i.red i.eq i.q0 (d:=fun v=>rd d (v:Nat)) h.eq h.kB;intro v b;have h1:rd d v<=T.sN (fun v=>rd d (v:Nat)) n-n* -102400:=rT (f:=fun v=>rd d (v:Nat)) b (a:= -102400) (by omega) o;have x:rd s v<=σ v+rd s q:=hle v b;have y:=i.bound j k l hn p m v b;have z:=h.s0 v b;have C:=h.sq;have E:=o v b;omega
def jZ (n q:Nat) (σ:Nat->Int) (s:List Int):Int:=T.sN (fun v=>σ v+rd s q-rd s v) n
theorem jD.step {n q:Nat} {E:List S83} (j:br n E) (C:T.du n (af E)) (i:q<n) (hn:n<=12) (K:T.sN (T.val n (af E)) n<=19) {D c σ:Nat->Int} (F:∀v,v<n-> -200<=D v/\D v<=200) (k:eH n q (af E) D c σ) {d s:List Int} (h:jD n q (af E) D d s)
  (U:((List.range n).any fun v=> !bC n (af E) q d v)=true) {x:Int} (Z:1<=x) (V:∀v:Nat,v<n->bC n (af E) q d v=false->x*T.sN (fun u=>if bC n (af E) q d u=true then af E v u else 0) n<=rd d v):
  jD n q (af E) D (bA E (fun v=> !bC n (af E) q d v) x n (d,s)).1 (bA E (fun v=> !bC n (af E) q d v) x n (d,s)).2/\
  (∀v:Nat,v<n-> -2097152<=rd (bA E (fun v=> !bC n (af E) q d v) x n (d,s)).1 v/\rd (bA E (fun v=> !bC n (af E) q d v) x n (d,s)).1 v<=2097152/\ -2097152<=rd (bA E (fun v=> !bC n (af E) q d v) x n (d,s)).2 v/\rd (bA E (fun v=> !bC n (af E) q d v) x n (d,s)).2 v<=2097152)/\
  0<=jZ n q σ (bA E (fun v=> !bC n (af E) q d v) x n (d,s)).2/\jZ n q σ (bA E (fun v=> !bC n (af E) q d v) x n (d,s)).2<jZ n q σ s:=by
 obtain⟨L,l⟩:∃L:Nat->Bool,L=fun v=> !bC n (af E) q d v:=⟨_,rfl⟩
 have M:L q=false:=by rw[l];simp[wE]
 have G:=T.Ej j.wt (L:=L) (d:=fun v=>rd d (v:Nat)) (T:=x) (by omega) (fun v b N=>by
  have h1:=V v b (by rw[l] at N;simpa using N);rw[T.bP (f:=fun u=>if L u=false then af E v u else 0) (g:=fun u=>if bC n (af E) q d u=true then af E v u else 0) (fun u _=>by
   have e:L u= !bC n (af E) q d u:=by rw[l]
   rw[e];cases bC n (af E) q d u<;>simp)]
  exact h1)
 rw[<-l];have hb:=h.bounds j.wt C i hn K F k;have H:∀v:Nat,v<n->v≠q->0<=rd d v-x*T.aU n (af E) (T.ind L) v:=fun v b I=>by
  cases m:L v with
  |true=>exact(G v b).1 m
  |false=>have h1:=(G v b).2 m;have o:=h.kB v b I;omega
 have O: -102400<=rd d q-x*T.aU n (af E) (T.ind L) q:=by
  have h1:=(G q i).2 M;have o:=h.low;omega
 have J:∀v:Nat,v<n-> -102400<=rd d v-x*T.aU n (af E) (T.ind L) v:=fun v b=>by
  by_cases e:v=q
  ·subst e;exact O
  ·have:=H v b e;omega
 have heq:∀v:Nat,v<n->rd d v-x*T.aU n (af E) (T.ind L) v=D v-T.aU n (af E) (fun u=>rd s (u:Nat)+x*T.ind L u) v:=fun v b=>by
  rw[T.kZ,T.tO,h.eq v b];omega
 have W:T.sN (fun v=>rd d (v:Nat)-x*T.aU n (af E) (T.ind L) v) n=T.sN D n:=by
  rw[T.bP heq,T.de,T.m_ j.wt];omega
 have aa:=(T.nE (f:=D) (n:=n) (B:=200) F).2;have P:∀v:Nat,v<n->rd d v-x*T.aU n (af E) (T.ind L) v<=1231200:=fun v b=>by
  have h1:rd d v-x*T.aU n (af E) (T.ind L) v<=T.sN (fun v=>rd d (v:Nat)-x*T.aU n (af E) (T.ind L) v) n-n* -102400:=rT (f:=fun v=>rd d (v:Nat)-x*T.aU n (af E) (T.ind L) v) b (a:= -102400) (by omega) J;rw[W] at h1;omega
 have hle:=T.rI j.wt C i k.red k.eq k.q0 (d:=fun v=>rd d (v:Nat)-x*T.aU n (af E) (T.ind L) v) (s:=fun u=>rd s (u:Nat)+x*T.ind L u) heq H;have p:T.ind L q=0:=by unfold T.ind;rw[M];rfl
 have X:∀v,0<=T.ind L v/\T.ind L v<=1:=fun v=>by unfold T.ind;split<;>omega
 have Q:∀v,0<=x*T.ind L v:=fun v=>Int.mul_nonneg (by omega) (X v).1
 have y:∀v:Nat,v<n->0<=rd s v+x*T.ind L v/\rd s v+x*T.ind L v<=σ v+rd s q/\rd s v+x*T.ind L v<=1260336:=fun v b=>by
  have h1:rd s (v:Nat)+x*T.ind L v<=σ v+(rd s (q:Nat)+x*T.ind L q):=hle v b;rw[p,Int.mul_zero,Int.add_zero] at h1;have o:=h.s0 v b;have R:=Q v;have h4:=k.bound j.wt C i hn K F v b;have h5:=h.sq;omega
 have S:=fun (w:Nat) (hw:w<n)=>wD j L x d s h.dl h.sl (fun w hw=>by have:=hb w hw;unfold dp;omega) (fun w hw=>by have:=hb w hw;unfold dp;omega) hw
 have z:∀w:Nat,w<n->rd (bA E L x n (d,s)).1 w=rd d w-x*T.aU n (af E) (T.ind L) w:=fun w hw=>(S w hw).1 (by have:=J w hw;have:=P w hw;unfold dp;omega)
 have e2:∀w:Nat,w<n->rd (bA E L x n (d,s)).2 w=rd s w+x*T.ind L w:=fun w hw=>(S w hw).2 (by have:=y w hw;unfold dp;omega)
 obtain⟨l1,l2⟩:=nG E L x (d,s) n;refine⟨⟨l1.trans h.dl,l2.trans h.sl,fun v b=>?_,fun v b I=>by rw[z v b];exact H v b I,by rw[z q i];exact O,fun v b=>by rw[e2 v b];exact(y v b).1,by rw[e2 q i,p,Int.mul_zero,Int.add_zero];exact h.sq⟩,fun v b=>?_,?_,?_⟩
 ·rw[z v b,heq v b,T.me (s:=fun u=>rd (bA E L x n (d,s)).2 (u:Nat)) (r:=fun u=>rd s (u:Nat)+x*T.ind L u) (fun u hu=>e2 u hu) b]
 ·rw[z v b,e2 v b]
  have:=J v b;have:=P v b;have:=y v b;omega
 ·refine T.dy fun v b=>?_
  show 0<=σ v+rd (bA E L x n (d,s)).2 q-rd (bA E L x n (d,s)).2 v
  rw[e2 v b,e2 q i,p,Int.mul_zero,Int.add_zero];have:=(y v b).2.1;omega
 ·obtain⟨v,b,hb⟩:=List.any_eq_true.1 U
  have Y:=List.mem_range.1 b;have m:L v=true:=by rw[l];exact hb
  have h1:jZ n q σ (bA E L x n (d,s)).2=T.sN (fun v=>(σ v+rd s q-rd s v)-x*T.ind L v) n:=by
   refine T.bP fun v b=>?_
   show σ v+rd (bA E L x n (d,s)).2 q-rd (bA E L x n (d,s)).2 v=_
   rw[e2 v b,e2 q i,p,Int.mul_zero,Int.add_zero];omega
  rw[h1,T.de];have o:=T.gD (f:=fun v=>x*T.ind L v) Y (fun u _=>Q u);have R:T.ind L v=1:=by unfold T.ind;rw[m];rfl
  simp only[R,Int.mul_one] at o;show T.sN (fun v=>σ v+rd s q-rd s v) n-T.sN (fun v=>x*T.ind L v) n<T.sN (fun v=>σ v+rd s q-rd s v) n
  omega
end Go.Proofs.YtffdiakgjakngaaGreat.P


namespace Go.Proofs.YtffdiakgjakngaaGreat.P
open Go.RowKit Go.Proofs.YtffdiakgjakngaaGreatW.PrintWords Go.Proofs.YtffdiakgjakngaaGreatW.PrintLast Go.Proofs.YtffdiakgjakngaaGreatW.PrintMore
set_option linter.unusedVariables false
set_option linter.unusedSimpArgs false
set_option maxHeartbeats 8000000
set_option maxRecDepth 100000
def cI (x:Int):Bool:=decide (-1048576<=x/\x<=1048576)
def gj (l:List Int) (n:Int):Int:=if n<1\/n>12 then 2 else if(l.length:Int)≠n then 8 else if l.all cI=true then 0 else 2
theorem wG (x:Int):hU.f x=some (cI x):=by
 unfold hU.f cI;by_cases h1:x>= -1048576
 ·by_cases a:x<=1048576
  ·simp[h1,a]
  ·simp[h1,a]
 ·simp[h1]
theorem EU {l:List Int} {i:Nat} (h:i<l.length):l.drop i=rd l i::l.drop (i+1):=by
 rw[List.drop_eq_getElem_cons h];simp[rd,a7,bK h]
theorem wH (l:List Int) (a:l.length<=1000000):∀(m i:Nat),i+m=l.length->Ev (fun k=>bs.l0 k l l.length i) (if(l.drop i).all cI=true then 0 else 2)
 |0,i,hi=>by
  refine Ev.of_succ ?_;simp only[bs.l0,if_neg (show ¬((i:Int)<(l.length:Int)) by omega)];rw[List.drop_eq_nil_of_le (by omega)];exact Ev.const _
 |m+1,i,hi=>by
  have b:=wH l a m (i+1) (by omega);refine Ev.of_succ ?_;simp only[bs.l0,if_pos (show (i:Int)<(l.length:Int) by omega),if_pos (show (0:Int)<=(i:Int) by omega),d_ (show i<=1000000 by omega),wG,Option.bind_some];rw[EU (show i<l.length by omega),List.all_cons];cases hb:cI (rd l i) with
  |true=>simp only[if_true,Bool.true_and];exact b
  |false=>simp;exact Ev.const _
theorem lE (l:List Int) (n:Int) (b:l.length<=1000000):Ev (fun k=>bs.f k l n) (gj l n):=by
 unfold bs.f gj;have e:jA.f n=some (if n<1\/n>12 then 2 else 0):=by
  unfold jA.f;by_cases h1:n<1
  ·simp[h1]
  ·by_cases a:n>12
   ·simp[h1,a]
   ·simp[h1,a]
 rw[e];simp only[Option.bind_some];by_cases h:n<1\/n>12
 ·simp only[if_pos h];exact Ev.const _
 ·simp only[if_neg h,if_true]
  by_cases hn:(l.length:Int)=n
  ·rw[if_neg (by simpa using hn)]
   simp only[if_pos hn];have:=wH l b l.length 0 (by omega);simpa using this
  ·rw[if_pos hn]
   simp only[if_neg hn];exact Ev.const _
theorem rV {l:List Int} {n:Int}:gj l n=0↔1<=n/\n<=12/\(l.length:Int)=n/\∀v:Nat,v<l.length-> -1048576<=rd l v/\rd l v<=1048576:=by
 unfold gj;have g:l.all cI=true↔∀v:Nat,v<l.length-> -1048576<=rd l v/\rd l v<=1048576:=by
  rw[List.all_eq_true];constructor
  ·intro h v a
   have:=h l[v] (List.getElem_mem a);rw[show rd l (v:Int)=l[v] by simp[rd,a7,bK a]];simpa [cI] using this
  ·intro h x i
   obtain⟨v,a,rfl⟩:=List.getElem_of_mem i;have:=h v a;rw[show rd l (v:Int)=l[v] by simp[rd,a7,bK a]] at this;simpa [cI] using this
 by_cases h:n<1\/n>12
 ·rw[if_pos h];constructor
  ·intro h;cases h
  ·intro b;omega
 ·rw[if_neg h]
  by_cases hn:(l.length:Int)=n
  ·rw[if_neg (by simpa using hn)]
   by_cases e:l.all cI=true
   ·rw[if_pos e];exact⟨fun _=>⟨by omega,by omega,hn,g.1 e⟩,fun _=>rfl⟩
   ·rw[if_neg e];constructor
    ·intro h;cases h
    ·intro b;exact absurd (g.2 b.2.2.2) e
  ·rw[if_pos hn];constructor
   ·intro h;cases h
   ·intro b;exact absurd b.2.2.1 hn
theorem wI (A0:Option Addr) (c0 n:Nat) (l:List Int) (w:World) (m:Nat) (b:l.length=n) (h1:1<=n) (hn:n<=12) (hb:∀v:Nat,v<n-> -1048576<=rd l v/\rd l v<=1048576) (g:Kd.C (Kd.int .i64) (w.drewN m) A0 l.length l) (h:l.length<=c0):
  Calls Tryz.prog 87 #[.slice A0 n c0,.int .i64 n] (w.drewN m) fun e i=>e= .returned (.int .i64 0)/\∃a,i=w.drewN a:=by
 subst b;obtain⟨k,hk⟩:=(lE l l.length (by omega)).get;rw[rV.2 ⟨by omega,by omega,rfl,hb⟩] at hk;refine(bs.calls k A0 c0 l l.length 0 _ g h hk).mono ?_;rintro e w' ⟨rfl,⟨a,rfl⟩⟩;exact⟨rfl,m+a,by rw[World.drewN_drewN]⟩
theorem pz {n:Nat} {t:Nat->Nat->Int} (k:T.Wt n t) {q:Nat} {d:List Int}:T.ir n t q (fun v=>rd d (v:Nat))↔cp n t q d=true:=by
 rw[kz (fun i j=>k.pos i j) q d];have key:∀(S:Nat->Bool) (v:Nat),cW t (fun u=> !S u) v n=T.sN (fun u=>if S u=false then t v u else 0) n:=fun S v=>by
  rw[nH];refine T.bP fun u _=>?_
  cases S u<;>simp
 constructor
 ·intro h S hS b
  obtain⟨v,e,g,a⟩:=h S hS b;exact⟨v,e,g,by rw[key];exact a⟩
 ·intro h S hS b
  obtain⟨v,e,g,a⟩:=h S hS b;exact⟨v,e,g,by rw[key] at a;exact a⟩
def cN (n:Nat) (E:List S83) (d s:List Int):List Int:=(List.range n).map fun v:Nat=>rd d v-T.aU n (af E) (fun u=>rd s (u:Nat)) v
theorem pA (f:Nat->Int) {n v:Nat} (a:v<n):rd ((List.range n).map f) (v:Int)=f v:=by
 rw[kC,a7,List.getElem?_map,List.getElem?_range a];rfl
theorem wJ (n:Nat) (E:List S83) (d s:List Int) {v:Nat} (a:v<n):rd (cN n E d s) v=rd d v-T.aU n (af E) (fun u=>rd s (u:Nat)) v:=pA _ a
theorem pB (n:Nat) (E:List S83) (d s:List Int):(cN n E d s).length=n:=by simp[cN]
theorem wK {a b:List Int} {n:Nat} (e:a.length=n) (hb:b.length=n) (h:∀v:Nat,v<n->rd a v=rd b v):a=b:=by
 refine List.ext_getElem (by rw[e,hb]) fun i h1 g=>?_
 have:=h i (by omega);rw[kC,kC,a7,a7,bK h1,bK g] at this;exact this
def kF (n:Nat) (E:List S83) (q:Nat) (d s:List Int):Bool:=decide (s.length=n)&&decide (rd s q=0)&&((List.range n).all fun v=>decide (v=q)||decide (0<=rd (cN n E d s) v))&&cp n (af E) q (cN n E d s)
def boxes (r q:Nat):Nat->List (List Int)
 |0=>[[]]
 |v+1=>(boxes r q v).flatMap fun s=>if v=q then[s++[0]] else(List.range (2*r+1)).map fun i:Nat=>s++[(i:Int)-r]
theorem wL (r q:Nat) (σ:Nat->Int) (a:σ q=0):∀n,(∀v,v<n-> -(r:Int)<=σ v/\σ v<=r)->(List.range n).map σ∈boxes r q n
 |0,_=>by simp[boxes]
 |n+1,h=>by
  unfold boxes;rw[List.mem_flatMap];refine⟨_,wL r q σ a n (fun v b=>h v (by omega)),?_⟩;rw[show (List.range (n+1)).map σ=(List.range n).map σ++[σ n] by rw[List.range_succ,List.map_append];rfl];by_cases e:n=q
  ·rw[if_pos e,e,a];exact List.mem_singleton.2 rfl
  ·rw[if_neg e,List.mem_map]
   have:=h n (by omega);exact⟨(σ n+r).toNat,List.mem_range.2 (by omega),by congr 2;omega⟩
def wM (n:Nat) (E:List S83) (q:Nat) (d:List Int) (r:Nat):Option (List Int):=(boxes r q n).find? (kF n E q d)
def iD (n:Nat) (E:List S83) (q:Nat) (d:List Int):Nat->Option (List Int)
 |0=>none
 |k+1=>match iD n E q d k with
  |some s=>some s
  |none=>wM n E q d k
theorem EV (n:Nat) (E:List S83) (q:Nat) (d:List Int) (k:Nat):al (iD n E q d k) (iD n E q d (k+1)):=fun r h=>by
 unfold iD;rw[h]
theorem rW {n:Nat} {E:List S83} {q:Nat} {d s:List Int}:∀{k:Nat},iD n E q d k=some s->kF n E q d s=true
 |0,h=>by cases h
 |k+1,h=>by
  unfold iD at h;cases h1:iD n E q d k with
  |some s'=>rw[h1] at h;injection h with h;subst h;exact rW h1
  |none=>rw[h1] at h;exact List.find?_some h
theorem EW {n:Nat} {E:List S83} {q:Nat} {d s:List Int} {r:Nat} (a:s∈boxes r q n) (b:kF n E q d s=true):∃s',iD n E q d (r+1)=some s':=by
 unfold iD;cases h1:iD n E q d r with
 |some s'=>exact⟨s',rfl⟩
 |none=>
  have:(wM n E q d r).isSome=true:=List.find?_isSome.2 ⟨s,a,b⟩;obtain⟨s',h⟩:=Option.isSome_iff_exists.1 this;exact⟨s',h⟩
theorem nJ {n:Nat} {E:List S83} (b:br n E) {q:Nat} {d s:List Int}:kF n E q d s=true↔s.length=n/\eH n q (af E) (fun v=>rd d (v:Nat)) (fun v=>rd (cN n E d s) (v:Nat)) (fun v=>rd s (v:Nat)):=by
 unfold kF;simp only[Bool.and_eq_true,decide_eq_true_eq,List.all_eq_true,List.mem_range,Bool.or_eq_true];constructor
 ·rintro⟨⟨⟨h1,g⟩,i⟩,j⟩
  exact⟨h1,⟨fun v a k=>(i v a).resolve_left k,(pz b.wt).2 j⟩,fun v a=>wJ n E d s a,g⟩
 ·rintro⟨h1,h⟩
  exact⟨⟨⟨h1,h.q0⟩,fun v a=>by by_cases e:v=q;exact .inl e;exact .inr (h.red.1 v a e)⟩,(pz b.wt).1 h.red.2⟩
theorem EX {n q:Nat} {t:Nat->Nat->Int} {D c σ g b:Nat->Int} (h:eH n q t D c σ) (j:q<n) (e:∀v,v<n->g v=c v) (i:∀v,v<n->b v=σ v):eH n q t D g b:=by
 refine⟨⟨fun v a k=>by rw[e v a];exact h.red.1 v a k,fun S hS l=>?_⟩,fun v a=>?_,by rw[i q j];exact h.q0⟩
 ·obtain⟨v,a,h1,m⟩:=h.red.2 S hS l
  exact⟨v,a,h1,by rw[e v a];exact m⟩
 ·rw[e v a,h.eq v a,T.me (s:=b) (r:=σ) i a]
theorem EY {n:Nat} {E:List S83} (b:br n E) (hC:fl n E) {q:Nat} (g:q<n) (d:List Int):∃s,Ev (iD n E q d) s/\s.length=n/\eH n q (af E) (fun v=>rd d (v:Nat)) (fun v=>rd (cN n E d s) (v:Nat)) (fun v=>rd s (v:Nat)):=by
 obtain⟨c,σ,h⟩:=ET b.wt (b.conn hC) g (fun v=>rd d (v:Nat));obtain⟨r,j⟩:∃r:Nat,∀v,v<n-> -(r:Int)<=σ v/\σ v<=r:=by
  refine⟨(T.sN (fun v=>((σ v).natAbs:Int)) n).toNat,fun v a=>?_⟩;have h1:=T.gD (f:=fun v=>((σ v).natAbs:Int)) a (fun u _=>by show (0:Int)<=((σ u).natAbs:Int);omega);have e:((σ v).natAbs:Int)<=T.sN (fun v=>((σ v).natAbs:Int)) n:=h1;omega
 have i:∀v,v<n->rd ((List.range n).map σ) (v:Int)=σ v:=fun v a=>pA _ a
 have k:kF n E q d ((List.range n).map σ)=true:=(nJ b).2 ⟨by simp,EX h g (fun v a=>by rw[wJ n E d _ a,h.eq v a,T.me (s:=fun u=>rd ((List.range n).map σ) (u:Nat)) (r:=σ) i a]) i⟩;obtain⟨s',h1⟩:=EW (wL r q σ h.q0 n j) k;have e:=(nJ b).1 (rW h1);exact⟨s',Ev.at_ (EV n E q d) h1,e.1,e.2⟩
def gu (N:Int) (E:List S83) (q:Int) (d:List Int):Bool:=decide (1<=N/\N<=12/\0<=q/\q<N/\E.length<=1000/\cz N E=0/\partsOf E N.toNat=1/\T.sN (T.val N.toNat (af E)) N.toNat<=19/\(d.length:Int)=N)&&d.all fun x=>decide (-200<=x/\x<=200)
structure dU (n q:Nat) (E:List S83) (d:List Int):Prop where
 n1:1<=n
 n12:n<=12
 q:q<n
 len:E.length<=1000
 right:br n E
 conn:fl n E
 val:T.sN (T.val n (af E)) n<=19
 dl:d.length=n
 d:∀v:Nat,v<n-> -200<=rd d v/\rd d v<=200
theorem wN {d:List Int} {B:Int}:(d.all fun x=>decide (-B<=x/\x<=B))=true↔∀v:Nat,v<d.length-> -B<=rd d v/\rd d v<=B:=by
 rw[List.all_eq_true];have e:∀(v:Nat) (a:v<d.length),rd d (v:Int)=d[v]:=fun v a=>by simp[rd,a7,bK a]
 constructor
 ·intro h v a
  rw[e v a];simpa using h d[v] (List.getElem_mem a)
 ·intro h x b
  obtain⟨v,a,rfl⟩:=List.getElem_of_mem b;have:=h v a;rw[e v a] at this;simpa using this
theorem pC {N:Int} {E:List S83} {q:Int} {d:List Int} (h:gu N E q d=true):∃n a:Nat,N=n/\q=a/\dU n a E d:=by
 unfold gu at h;rw[Bool.and_eq_true,decide_eq_true_eq] at h;obtain⟨⟨h1,m,i,o,j,k,b,e,p⟩,l⟩:=h;obtain⟨n,rfl⟩:=Int.eq_ofNat_of_zero_le (show 0<=N by omega);obtain⟨a,rfl⟩:=Int.eq_ofNat_of_zero_le i;simp only[aM] at b e;have g:=(gE k).2.2;refine⟨n,a,rfl,rfl,by omega,by omega,by omega,j,g,(jz (by omega) g).1 b,e,by omega,fun v r=>wN.1 l v (by omega)⟩
theorem dU.ok {n q:Nat} {E:List S83} {d:List Int} (h:dU n q E d) (a:cz n E=0):gu n E q d=true:=by
 unfold gu;rw[Bool.and_eq_true,decide_eq_true_eq];have:=h.n1;have:=h.n12;have:=h.q;have:=h.dl;exact⟨⟨by omega,by omega,by omega,by omega,h.len,a,by simpa using (jz (by omega) h.right).2 h.conn,by simpa using h.val,by omega⟩,wN.2 fun v b=>h.d v (by omega)⟩
mutual
def bN.l0:Nat->List (List Int)->List (List Int)->Int->Int->Option (Int)
 |0,_,_,_,_=>none
 |k+1,b,e,g,a=>if a<g then(if 0<=a then(if a<(e.length:Int) then((bs.f k (aV e a) ((aV e a).length:Int)).bind fun t194=>(if t194=0 then(bN.l0 k b e g (wrap64 (a+1))) else(some t194))) else(none)) else(none)) else(bN.l1 k b b (b.length:Int) 0)
def bN.l1:Nat->List (List Int)->List (List Int)->Int->Int->Option (Int)
 |0,_,_,_,_=>none
 |k+1,b,e,g,a=>if a<g then(if 0<=a then(if a<(e.length:Int) then(if 0<(b.length:Int) then(if((aV e a).length:Int)=((aV b 0).length:Int) then(bN.l1 k b e g (wrap64 (a+1))) else(some 8)) else(none)) else(none)) else(none)) else(some 0)
end
def bN.f (k:Nat) (l0:List (List Int)):Option (Int):=bN.l0 k l0 l0 (l0.length:Int) 0
theorem bN.cy:∀k,(∀a b e g,al (bN.l0 k a b e g) (bN.l0 (k+1) a b e g))/\(∀a b e g,al (bN.l1 k a b e g) (bN.l1 (k+1) a b e g))
 |0=>⟨fun _ _ _ _ r h=>by simp[bN.l0] at h,fun _ _ _ _ r h=>by simp[bN.l1] at h⟩
 |k+1=>by
  obtain⟨i,j⟩:=bN.cy k;refine⟨?_,?_⟩
  ·intro a b e g
   unfold bN.l0;with_reducible repeat' first|exact i _ _ _ _|exact j _ _ _ _|exact bs.mono _ _ _|exact al.refl _|exact al.none _|refine al.ite ?_ ?_|refine al.bind ?_ (fun _=>?_)
  ·intro a b e g
   unfold bN.l1;with_reducible repeat' first|exact i _ _ _ _|exact j _ _ _ _|exact bs.mono _ _ _|exact al.refl _|exact al.none _|refine al.ite ?_ ?_|refine al.bind ?_ (fun _=>?_)
theorem bN.mono:∀a0 k,al (bN.f k a0) (bN.f (k+1) a0):=by
 intro a0 k;obtain⟨a,b⟩:=bN.cy k;unfold bN.f;with_reducible repeat' first|exact a _ _ _ _|exact b _ _ _ _|exact bs.mono _ _ _|exact al.refl _|exact al.none _|refine al.ite ?_ ?_|refine al.bind ?_ (fun _=>?_)
theorem bN.calls (k:Nat) (A0:Option Addr) (c0:Nat) (l0:List (List Int)) (r:Int) (w:World) (W:Kd.C (Kd.slice 3 (Kd.int .i64)) w A0 l0.length l0) (X:l0.length<=c0) (h:bN.f k l0=some r):
  Calls Tryz.prog 118 #[.slice A0 l0.length c0] w fun e w'=>e= .returned (.int .i64 r)/\aC w w':=by
 have s:=zA W;have a5:=zA X;clear W X;have H:(bN.l0 k l0 l0 (l0.length:Int) 0)=some r:=h;clear h;have g:=zA H;clear H;go_enter Tryz.func118,Tryz.ntmps118
 go_wp2;go_loopg [10] k (fun v v10 w'=>∃(a:Int),v10= .int .i64 a/\Aside0 (bN.l0 v l0 l0 (l0.length:Int) a=some r)/\Aside0 (v<=k)/\aC w w')
 case atStart=>exact⟨(0),zT,g,⟨aI _⟩,by repeat(first|exact aC.refl _|apply aC.step)⟩
 case round=>
  clear g;obtain⟨a,rfl,j,J,⟨m1,rfl⟩⟩:=hrel;cases gk with
  |zero=>exact absurd j.out (by simp[bN.l0])
  |succ x=>
   have H:=j.out;clear j;simp only[bN.l0] at H;by_cases c2:a<(l0.length:Int)
   ·rw[if_pos c2] at H
    have Y:=az c2;clear c2;by_cases c3:0<=a
    ·rw[if_pos c3] at H
     have a9:=az c3;clear c3;by_cases c4:a<(l0.length:Int)
     ·rw[if_pos c4] at H
      have bd:=az c4;clear c4;obtain⟨t194,Z,H⟩:=zo H;by_cases y:t194=0
      ·rw[if_pos y] at H
       obtain⟨ab,ad⟩:=bH y;clear y;have g:=zA H;clear H;have l:0<=(a:Int):=ay ‹_›;have m:a<(l0.length:Int):=ay ‹_›;obtain⟨ag,N,O,P,ak,z,B⟩:=gC s.out a l m;cases P;have Q:=zA B;have R:=zA z;clear B z;replace l:=eq_true l;replace m:=eq_true m;go_wp2_with (first|((with_reducible refine aG (f:=87) rfl ?_);refine zL (some 17) Tryz.func87 #[.slice N (aV l0 a).length O,.int .i64 ((aV l0 a).length:Int)] ?_;(with_reducible refine(bs.calls x _ _ (aV l0 a) ((aV l0 a).length:Int) t194 _ ?ah ?ai Z.out).mono ?_);(case ah=>repeat(first|exact Q.out|(with_reducible refine Kd.bp ?_ _)|(with_reducible refine Kd.fV ?_ _)|(with_reducible refine Kd.fC ?_)));(case ai=>exact R.out);rintro e w' ⟨rfl,⟨nd,rfl⟩⟩;refine⟨_,rfl,?_⟩))
       go_roundg x
       case measure=>have:=J.out;omega
       case rel=>exact⟨(wrap64 (a+1)),zT,g,⟨by have:=J.out;omega⟩,by repeat(first|exact aC.refl _|apply aC.step)⟩
      ·rw[if_neg y] at H
       obtain⟨ab,ad⟩:=bI y;obtain rfl:=aH H;have l:0<=(a:Int):=ay ‹_›;have m:a<(l0.length:Int):=ay ‹_›;obtain⟨ag,N,O,P,ak,z,B⟩:=gC s.out a l m;cases P;have Q:=zA B;have R:=zA z;clear B z;replace l:=eq_true l;replace m:=eq_true m;go_wp2_with (first|((with_reducible refine aG (f:=87) rfl ?_);refine zL (some 17) Tryz.func87 #[.slice N (aV l0 a).length O,.int .i64 ((aV l0 a).length:Int)] ?_;(with_reducible refine(bs.calls x _ _ (aV l0 a) ((aV l0 a).length:Int) t194 _ ?ah ?ai Z.out).mono ?_);(case ah=>repeat(first|exact Q.out|(with_reducible refine Kd.bp ?_ _)|(with_reducible refine Kd.fV ?_ _)|(with_reducible refine Kd.fC ?_)));(case ai=>exact R.out);rintro e w' ⟨rfl,⟨nd,rfl⟩⟩;refine⟨_,rfl,?_⟩))
       go_ret;exact⟨zT,by repeat(first|exact aC.refl _|apply aC.step)⟩
     ·rw[if_neg c4] at H
      exact absurd H (by simp)
    ·rw[if_neg c3] at H
     exact absurd H (by simp)
   ·rw[if_neg c2] at H
    have Y:=a6 c2;clear c2;have g:=zA H;clear H;go_wp2;go_loopg [24] x (fun v v24 w'=>∃(b:Int),v24= .int .i64 b/\Aside0 (bN.l1 v l0 l0 (l0.length:Int) b=some r)/\Aside0 (v<=x)/\aC w w')
    case atStart=>exact⟨(0),zT,g,⟨aI _⟩,by repeat(first|exact aC.refl _|apply aC.step)⟩
    case round=>
     clear g;clear Y;obtain⟨b,rfl,j,aa,⟨m2,rfl⟩⟩:=hrel;cases gk with
     |zero=>exact absurd j.out (by simp[bN.l1])
     |succ k2=>
      have H:=j.out;clear j;simp only[bN.l1] at H;by_cases u:b<(l0.length:Int)
      ·rw[if_pos u] at H
       have ap:=az u;clear u;by_cases K:0<=b
       ·rw[if_pos K] at H
        have be:=az K;clear K;by_cases L:b<(l0.length:Int)
        ·rw[if_pos L] at H
         have bf:=az L;clear L;by_cases M:0<(l0.length:Int)
         ·rw[if_pos M] at H
          have bg:=az M;have bi:decide (0<l0.length)=true:=az (by omega);clear M;by_cases i:((aV l0 b).length:Int)=((aV l0 0).length:Int)
          ·rw[if_pos i] at H
           obtain⟨ar,av⟩:=bH i;have aB:((aV l0 b).length==(aV l0 0).length)=true:=by first|simpa using i|(simp at i⊢;omega)
           clear i;have g:=zA H;clear H;have n:0<=(b:Int):=ay ‹_›;have o:b<(l0.length:Int):=ay ‹_›;obtain⟨S,aF,aL,T,aO,D,E⟩:=gC s.out b n o;cases T;have aP:=zA E;have aS:=zA D;clear E D;replace n:=eq_true n;replace o:=eq_true o;have p:0<=(0:Int):=(by omega);have q:0<(l0.length:Int):=ay ‹_›;obtain⟨U,a0,a1,V,F,G,I⟩:=gC s.out 0 p q;obtain rfl:S=U:=(by injection V);have a2:(0<l0.length)=True:=eq_true (by omega)
           (try rw[show ((0:Int)).toNat=0 from rfl] at F)
           (try rw[Addr.add_zero'] at F)
           have a3:=zA I;have a4:=zA G;clear I G;replace p:=eq_true p;replace q:=eq_true q;go_wp2;go_roundg k2
           case measure=>have:=J.out;have:=aa.out;omega
           case rel=>exact⟨(wrap64 (b+1)),zT,g,⟨by have:=J.out;have:=aa.out;omega⟩,by repeat(first|exact aC.refl _|apply aC.step)⟩
          ·rw[if_neg i] at H
           obtain⟨ar,av⟩:=bI i;have aB:((aV l0 b).length==(aV l0 0).length)=false:=by first|simpa using i|(simp at i⊢;omega)
           obtain rfl:=aH H;have n:0<=(b:Int):=ay ‹_›;have o:b<(l0.length:Int):=ay ‹_›;obtain⟨S,aF,aL,T,aO,D,E⟩:=gC s.out b n o;cases T;have aP:=zA E;have aS:=zA D;clear E D;replace n:=eq_true n;replace o:=eq_true o;have p:0<=(0:Int):=(by omega);have q:0<(l0.length:Int):=ay ‹_›;obtain⟨U,a0,a1,V,F,G,I⟩:=gC s.out 0 p q;obtain rfl:S=U:=(by injection V);have a2:(0<l0.length)=True:=eq_true (by omega)
           (try rw[show ((0:Int)).toNat=0 from rfl] at F)
           (try rw[Addr.add_zero'] at F)
           have a3:=zA I;have a4:=zA G;clear I G;replace p:=eq_true p;replace q:=eq_true q;go_wp2;go_ret;exact⟨zT,by repeat(first|exact aC.refl _|apply aC.step)⟩
         ·rw[if_neg M] at H
          exact absurd H (by simp)
        ·rw[if_neg L] at H
         exact absurd H (by simp)
       ·rw[if_neg K] at H
        exact absurd H (by simp)
      ·rw[if_neg u] at H
       have ap:=a6 u;clear u;obtain rfl:=aH H;go_wp2;go_ret;exact⟨zT,by repeat(first|exact aC.refl _|apply aC.step)⟩
theorem nK:wrap64 (0+1)=1:=by unfold wrap64;omega
theorem iE:wrap64 (1+1)=2:=by unfold wrap64;omega
def rX (a:List Int):Int:=gj a a.length
def pD (a b:List Int):Int:=if gj a a.length=0 then(if gj b b.length=0 then(if(b.length:Int)=(a.length:Int) then 0 else 8) else gj b b.length) else gj a a.length
theorem mF (a:List Int) (l:List (List Int)):aV (a::l) 0=a:=by simp[aV]
theorem wO (a b:List Int) (l:List (List Int)):aV (a::b::l) 1=b:=by simp[aV]
theorem EZ (a:List Int) (b:a.length<=1000000):Ev (fun k=>bN.f k [a]) (rX a):=by
 unfold bN.f rX;refine Ev.of_succ ?_;simp only[bN.l0,List.length_cons,List.length_nil,Nat.zero_add,Int.natCast_one,if_pos (show (0:Int)<1 by decide),if_pos (show (0:Int)<=0 by decide),mF];refine Ev.bind (lE a a.length b) ?_;by_cases h:gj a a.length=0
 ·simp only[if_pos h,nK]
  rw[h];refine Ev.of_succ ?_;simp only[bN.l0,if_neg (show ¬(1:Int)<1 by decide)];refine Ev.of_succ ?_;simp only[bN.l1,List.length_cons,List.length_nil,Nat.zero_add,Int.natCast_one,if_pos (show (0:Int)<1 by decide),if_pos (show (0:Int)<=0 by decide),mF,if_true,nK];refine Ev.of_succ ?_;simp only[bN.l1,if_neg (show ¬(1:Int)<1 by decide)];exact Ev.const _
 ·simp only[if_neg h]
  exact Ev.const _
theorem E4 (a b:List Int) (i:a.length<=1000000) (hb:b.length<=1000000):Ev (fun k=>bN.f k [a,b]) (pD a b):=by
 unfold bN.f pD;have e2:((([a,b]:List (List Int)).length:Nat):Int)=2:=rfl;refine Ev.of_succ ?_;simp only[bN.l0,e2,if_pos (show (0:Int)<2 by decide),if_pos (show (0:Int)<=0 by decide),mF];refine Ev.bind (lE a a.length i) ?_;by_cases h:gj a a.length=0
 ·simp only[if_pos h,nK]
  refine Ev.of_succ ?_;simp only[bN.l0,e2,if_pos (show (1:Int)<2 by decide),if_pos (show (0:Int)<=1 by decide),wO];refine Ev.bind (lE b b.length hb) ?_;by_cases e:gj b b.length=0
  ·simp only[if_pos e,iE]
   refine Ev.of_succ ?_;simp only[bN.l0,e2,if_neg (show ¬(2:Int)<2 by decide)];refine Ev.of_succ ?_;simp only[bN.l1,e2,if_pos (show (0:Int)<2 by decide),if_pos (show (0:Int)<=0 by decide),mF,if_true,nK];refine Ev.of_succ ?_;simp only[bN.l1,e2,if_pos (show (0:Int)<2 by decide),if_pos (show (1:Int)<2 by decide),if_pos (show (0:Int)<=1 by decide),mF,wO,iE];by_cases g:(b.length:Int)=(a.length:Int)
   ·simp only[if_pos g]
    refine Ev.of_succ ?_;simp only[bN.l1,if_neg (show ¬(2:Int)<2 by decide)];exact Ev.const _
   ·simp only[if_neg g]
    exact Ev.const _
  ·simp only[if_neg e]
   exact Ev.const _
 ·simp only[if_neg h]
  exact Ev.const _
section
attribute [local go_sem] Oper.semAt_some
theorem E5 (g n:Nat) (A0:Option Addr) (c0:Nat) (E:List S83) (q:Int) (dv Q:Value) (R:Int) (v:Nat) (lb:Array Value) (B:Nat->Bool) (w:World) (aa:Kd.C aN w A0 E.length E) (hE:ep n E) (hn:n<=1000) (hv:v<n) (i:ic w g n (.slice A0 E.length c0) q dv Q R)
  (hB:∀(W:World) (u:Int),Below w.heap.size w W->0<=u->u<n->Calls Tryz.prog 171 (#[.int .i64 u]++lb) W fun e w'=>e= .returned (.bool (B u.toNat))/\Below W.heap.size W w'):
  Calls Tryz.prog 168 #[.pointer (some ⟨g,0,none⟩),.int .i64 v,.func (.func 171) #[] lb] w fun e w'=>e= .returned (.int .i64 (ef B (cE E v E.length)))/\Below w.heap.size w w':=by
 have a9:=zA hB;have HE:=zA hE;have ag:=zA i;clear hB hE i;refine(callsIn_wide (n:=10)).1 ?_;refine callsIn_of_wp_marks Tryz.func168 rfl trivial ?_ rfl;simp only[Tryz.ntmps168,List.size_toArray,List.length_cons,List.length_nil,Nat.reduceAdd,Nat.reduceSub,Array.replicate_succ,Array.replicate_zero,List.push_toArray,List.append_toArray,List.nil_append,List.cons_append];gi_wp2_with (refine⟨trivial,?_⟩;gi_at_call 194;refine(callsIn_wide.2 (mE g v _)).mono ?_;rintro e w3 ⟨rfl,rfl⟩)
 obtain⟨p,ak⟩:∃o:Obj,o= .cells #[.func (.func 171) #[] lb] 121:=⟨_,rfl⟩;obtain⟨on,am⟩:∃o:Obj,o= .cells #[.int .i64 0] 3:=⟨_,rfl⟩;obtain⟨r,an⟩:∃o:Obj,o= .cells #[.pointer (some ⟨g,0,none⟩)] 135:=⟨_,rfl⟩;obtain⟨y,ap⟩:∃o:Obj,o= .cells #[.int .i64 v] 3:=⟨_,rfl⟩;have Z0:=bc w p;have S:=bc (w.alloc p) on;have T:=bc ((w.alloc p).alloc on) r;have U:=bc (((w.alloc p).alloc on).alloc r) y;simp only[World.size_alloc] at S T U;have H0:=zA ((au (au (au Z0 on) r) y).trans (by rw[ak]:_=some (.cells #[.func (.func 171) #[] lb] 121 (0,0))));have H1:=zA ((au (au S r) y).trans (by rw[am]:_=some (.cells #[.int .i64 0] 3 (0,0))));have H2:=zA ((au T y).trans (by rw[an]:_=some (.cells #[.pointer (some ⟨g,0,none⟩)] 135 (0,0))));have H3:=zA (U.trans (by rw[ap]:_=some (.cells #[.int .i64 v] 3 (0,0))));have z:=zA (ao (ao (ao (ao (aq w.heap.size w) p) on) r) y);have aO:Aside0 (ic ((((w.alloc p).alloc on).alloc r).alloc y) g n (.slice A0 E.length c0) q dv Q R):=⟨aE ag.out z.out⟩;have bo:g<w.heap.size:=aA ag.out;have be:=zA (Kd.aw aa z.out);clear Z0 S T U;subst ak am an ap;have bf:=z.out.size;have bg:((((w.alloc (.cells #[.func (.func 171) #[] lb] 121)).alloc (.cells #[.int .i64 0] 3)).alloc (.cells #[.pointer (some ⟨g,0,none⟩)] 135)).alloc (.cells #[.int .i64 v] 3)).heap.size=w.heap.size+4:=by simp
 generalize ((((w.alloc (.cells #[.func (.func 171) #[] lb] 121)).alloc (.cells #[.int .i64 0] 3)).alloc (.cells #[.pointer (some ⟨g,0,none⟩)] 135)).alloc (.cells #[.int .i64 v] 3))=j at H0 H1 H2 H3 z aO be bf bg⊢;refine iz (σ:=Unit) (α:=Int×Int) (F:=Fence.wide) (n:=10) rfl (by decide) (gf:=207) (lb:=#[.pointer (some ⟨w.heap.size+1+1,0,none⟩),.pointer (some ⟨w.heap.size+1+1+1,0,none⟩)]) rfl trivial (enters_of Tryz.func207 (by kernel_rfl) rfl)
  (fun o=>po (w.heap.size+1+1) (w.heap.size+1+1+1) g n A0 c0 E q dv Q R v w _ aa HE.out hn hv (ao (ao z.out _) _) (au (au H2.out _) _) (au (au H3.out _) _) (au (au aO.out _) _)) (fun _=>rfl)
  (fun _=>True) ?en ?st ?ar
  (fun _ pre W=>j.heap.size<=W.heap.size/\W.heap[w.heap.size]? =some (.cells #[.func (.func 171) #[] lb] 121 (0,0))/\W.heap[w.heap.size+1]? =some (.cells #[.int .i64 (ef B pre)] 3 (0,0))/\Below w.heap.size w W) (fun _ _ _ _=>False)
  ?is (fun _ _ _ _ _ _ h _=>h) ?ib (fun _ _ _ _ _ h _=>h) ?kt ?h0 ?a1 ?assign ?body ?done (fun _ _ _ _ _ _ _ h=>h.elim)
 case assign=>
  intro l x W K hK;gi_wp2;exact hK
 case en=>
  intro o s W1 h;exact⟨trivial,by rw[h];exact ct.refl _ _⟩
 case st=>intro s A B _ h;exact cZ h
 case ar=>intro s x A B _ h;exact cZ h.2
 case is=>
  rintro s pre A B _ ⟨H,h1,V,X⟩ i;exact⟨Nat.le_trans H i.size,aE h1 i,aE V i,aZ X i⟩
 case ib=>
  rintro s pre A B ⟨H,h1,V,X⟩ hb;exact⟨by rw[hb.size];exact H,hb.cells h1,hb.cells V,X.trans (hb.below w.heap.size (by omega))⟩
 case kt=>
  intro s A B C D N aP aS;refine⟨fun aY=>((N.below w.heap.size (by omega)).trans (aP.1 (by rw[N.size];exact aY))).trans (aS.below w.heap.size (by omega)),fun k hk I=>?_⟩;have a0:k≠j.heap.size+1:=by rcases hk with rfl|rfl|rfl<;>omega
  exact(aS.heap k a0).trans ((aP.2 k hk (by rw[N.size];exact I)).trans (N.heap k a0))
 case h0=>
  rintro o s W1 rfl;exact⟨by simp;omega,au (au H0.out _) _,au (au H1.out _) _,ao (ao z.out _) _⟩
 case body=>
  rintro l s pre ⟨u,m⟩ Wb W1 W _ ⟨H,i1,i2,i3⟩ ⟨Y,J⟩ bk b;have b1:=zA (b.cells (aE i1 J));have L:=zA (b.cells (aE i2 J));have b3:=zA ((aZ i3 J).trans (b.below w.heap.size (by omega)));have bw:j.heap.size<=W.heap.size:=by have:=b.size;have:=J.size;omega
  clear i1 i2 i3 J b bk;simp only at Y;have bx:W.cell? ⟨w.heap.size,0,none⟩=some (.func (.func 171) #[] lb):=(aj b1.out 0).trans rfl;have O:=zA (a9.out W u b3.out Y.1 Y.2.1);have M:=zA (rM B pre (u,m));generalize ef B pre=s0 at L M;cases P:B u.toNat with
  |true=>
   rw[P] at O M;clear P;gi_wp2_with (refine⟨trivial,?_⟩;gi_at_call 171;refine(callsIn_wide.2 O.out).mono ?_;rintro e w5 ⟨rfl,G⟩;have a:=zA G;have Z:=zA (aE L.out G);have c5:w5.cell? ⟨w.heap.size+1,0,none⟩=some (.int .i64 s0):=(aj Z.out 0).trans rfl;have f5:=bt Z.out 0;clear G)
   have aY:=a.out.size;refine⟨(cZ a.out).trans (eO _ _ (by show w.heap.size+1<j.heap.size;omega)),⟨fun aY=>Below.setCell (a.out.mono aY) (by show w.heap.size<=w.heap.size+1;omega) _,fun k hk I=>?_⟩,by simp;omega,?_,?_,Below.setCell (aZ b3.out a.out) (by show w.heap.size<=w.heap.size+1;omega) _⟩
   ·rw[Below.heap_setCell _ _ _ _ (by rcases hk with rfl|rfl|rfl<;>(show _≠w.heap.size+1)<;>omega)]
    exact a.out.block k I
   ·rw[Below.heap_setCell _ _ _ _ (by show w.heap.size≠w.heap.size+1;omega)]
    exact aE b1.out a.out
   ·have h:=bQ Z.out 0 (.int .i64 (wrap64 (s0+m)))
    rw[M.out];simpa using h
  |false=>
   rw[P] at O M;clear P;gi_wp2_with (refine⟨trivial,?_⟩;gi_at_call 171;refine(callsIn_wide.2 O.out).mono ?_;rintro e w5 ⟨rfl,G⟩;have a:=zA G;clear G)
   have aY:=a.out.size;exact⟨cZ a.out,⟨fun aY=>a.out.mono aY,fun k hk I=>a.out.block k I⟩,by omega,aE b1.out a.out,by rw[M.out];exact aE L.out a.out,aZ b3.out a.out⟩
 case done=>
  rintro s xs W W' _ rfl ⟨H,i1,i2,i3⟩ b a3;have L:=zA (b.cells i2);have b3:=zA (i3.trans (b.below w.heap.size (by omega)));have a4:=zA a3;clear i1 i2 i3 a3;have hc:W'.cell? ⟨w.heap.size+1,0,none⟩=some (.int .i64 (ef B (cE E v E.length))):=(aj L.out 0).trans rfl;gi_wp2_with fail
  have bn:Bk j.heap.size W' (W'.putObj j.heap.size (.deferred none)):=⟨_,_,a4.out,rfl,rfl⟩;exact iW (D:=j.heap.size) rfl a4.out (results_tmp rfl _ _ _) ⟨rfl,b3.out.trans (bn.below w.heap.size (by omega))⟩
end
section
attribute [local go_sem] Oper.semAt_some
theorem E6 (gb a cr n:Nat) (B:Nat->Bool) (ok:Nat->Prop) (base:Nat) (W:World) (u:Int) (hb:W.heap[gb]? =some (.cells #[.slice (some ⟨a,0,none⟩) n cr] 43 (0,0))) (g:Kd.bool.R 4 W base ok (.slice (some ⟨a,0,none⟩) n cr) ((List.range n).map fun v=> !B v)) (h:0<=u) (hn:u<n):
  Calls Tryz.prog 171 #[.int .i64 u,.pointer (some ⟨gb,0,none⟩)] W fun e w'=>e= .returned (.bool (B u.toNat))/\Below W.heap.size W w':=by
 have b0:W.cell? ⟨gb,0,none⟩=some (.slice (some ⟨a,0,none⟩) n cr):=(aj hb 0).trans rfl;have b:=(Kd.b7 false g u h hn).1;have e:bW false ((List.range n).map fun v=> !B v) u= !B u.toNat:=by
  obtain⟨m,rfl⟩:=Int.eq_ofNat_of_zero_le h;have:m<n:=by omega
  simp[bW,a7,List.getElem?_map,List.getElem?_range this]
 rw[e] at b;have b:W.cell? ⟨a,u.toNat,none⟩=some (.bool (!B u.toNat)):=b;clear g hb e;go_enter Tryz.func171,Tryz.ntmps171
 go_wp2;go_ret;exact⟨by simp[go_sem],aq _ _⟩
theorem wP (g n:Nat) (A0:Option Addr) (c0:Nat) (E:List S83) (q:Nat) (a:Option Addr) (cd:Nat) (d:List Int) (b:Value) (h:Int) (w:World) (k:Kd.C aN w A0 E.length E) (i:br n E) (l:E.length<=1000) (hn:n<=1000) (m:q<n) (o:d.length=n) (p:ic w g n (.slice A0 E.length c0) q (.slice a n cd) b h)
  (hd:Kd.C (Kd.int .i64) w a d.length d):
  Calls Tryz.prog 170 #[.pointer (some ⟨g,0,none⟩)] w fun e w'=>∃j cl,e= .returned (.tuple #[.slice (some ⟨j,0,none⟩) n cl,.bool ((List.range n).any fun v=> !bC n (af E) q d v)])/\Kd.bool.R 4 w' w.heap.size (fun _=>True) (.slice (some ⟨j,0,none⟩) n cl) ((List.range n).map fun v=> !bC n (af E) q d v)/\Below w.heap.size w w':=by
 subst o;exact Ex g d.length A0 c0 E q a cd d b h w k i.jY hn m p hd rfl (fun B v r _=>EI i l B r)
def iF (n:Nat) (t:Nat->Nat->Int) (q:Nat) (d:List Int) (v:Nat):Int:=T.sN (fun u=>if bC n t q d u=true then t v u else 0) n
theorem rY {n:Nat} {E:List S83} (a:br n E) (hn:n<=12) (q:Nat) (d:List Int) (v:Nat):0<=iF n (af E) q d v/\iF n (af E) q d v<=600:=by
 have h:=T.cX (f:=fun w=>if bC n (af E) q d w=true then af E v w else 0) (g:=fun _=>50) (n:=n) (fun w _=>by
  have:=a.jY.times v w;show (if bC n (af E) q d w=true then af E v w else 0)<=50
  split<;>omega)
 rw[T.iq] at h;have b:0<=iF n (af E) q d v:=T.dy fun w _=>by
  have:=a.jY.times v w;show 0<=(if bC n (af E) q d w=true then af E v w else 0)
  split<;>omega
 exact⟨b,by show T.sN _ n<=600;omega⟩
theorem E7 {n q:Nat} {t:Nat->Nat->Int} (b:T.Wt n t) (e:T.du n t) (g:q<n) {D c σ:Nat->Int} (a:eH n q t D c σ) {d s:List Int} (h:jD n q t D d s):0<=jZ n q σ s:=T.dy fun v i=>by
 have h1:=T.rI b e g a.red a.eq a.q0 (d:=fun v=>rd d (v:Nat)) h.eq h.kB v i;have j:rd s v<=σ v+rd s q:=h1;show 0<=σ v+rd s q-rd s v
 omega
theorem E8 (g gd gs cd cs n:Nat) (A0:Option Addr) (c0:Nat) (E:List S83) (q:Nat) (D c σ:Nat->Int) (d s:List Int) (w0 w:World) (N:Kd.C aN w0 A0 E.length E) (F:br n E) (hl:E.length<=1000) (hC:fl n E) (hn:n<=12) (p:q<n) (aP:T.sN (T.val n (af E)) n<=19)
  (hD:∀v:Nat,v<n-> -200<=D v/\D v<=200) (hr:eH n q (af E) D c σ) (ad:jD n q (af E) D d s) (h:SI w0 g gd gs cd cs n A0 c0 E q d s w):
  Calls Tryz.prog 111 #[.pointer (some ⟨g,0,none⟩)] w fun e w'=>e= .returned (.tuple #[])/\∃(d' s':List Int),SI w0 g gd gs cd cs n A0 c0 E q d' s' w'/\jD n q (af E) D d' s'/\T.ir n (af E) q (fun v=>rd d' (v:Nat)):=by
 have cr:=Tryz.underlying188;have hu:=Tryz.underlying24;have j:=zA F;have ag:=zA (F.conn hC);have HD:=zA hD;have a1:=zA hr;have k:=zA ad;have a:=zA h;have a2:=zA (E7 F.wt (F.conn hC) p hr ad);have cv:1<=n:=by omega
 clear F hC hD hr ad h;go_enter Tryz.func111,Tryz.ntmps111
 go_wp2;go_loopg [] ((jZ n q σ s).toNat) (fun kq wr=>∃(d s:List Int),Aside0 (SI w0 g gd gs cd cs n A0 c0 E q d s wr)/\Aside0 (jD n q (af E) D d s)/\Aside0 (0<=jZ n q σ s/\kq=(jZ n q σ s).toNat))
 case atStart=>exact⟨d,s,a,k,⟨a2.out,rfl⟩⟩
 case round=>
  clear a k a2;obtain⟨d,s,a,k,HK⟩:=hrel;have s5:=a.out.f5;have a4:=k.out.dl;have am:=zA a4;have b2:=a.out.hb.size;obtain⟨r1,r2,r3,r4,r5⟩:=a.out.ld;clear a4;cases O:(List.range n).any fun v=> !bC n (af E) q d v with
  |false=>
   have r:=zA O;clear O;go_wp2_with (go_at_call 170;refine(wP g n A0 c0 E q _ cd d _ 0 _ (Kd.aw N a.out.hb) j.out hl (by omega) p am.out a.out.st (Kd.aQ a.out.d).2.2).mono ?_;rintro e P ⟨b,cl,rfl,G,H⟩;rw[r.out];have I:=zA (a.out.below H);clear G H)
   refine bodyPost_ret (results_none rfl _ _ _) rfl ?_;exact⟨rfl,d,s,I.out.alloc _,k.out,ER j.out.wt r.out⟩
  |true=>
   have r:=zA O;clear O;go_wp2_with (go_at_call 170;refine(wP g n A0 c0 E q _ cd d _ 0 _ (Kd.aw N a.out.hb) j.out hl (by omega) p am.out a.out.st (Kd.aQ a.out.d).2.2).mono ?_;rintro e P ⟨b,cl,rfl,G,H⟩;rw[r.out];have I:=zA (a.out.below H);have an:=zA G;have c7:=Kd.dY G b rfl;clear G H)
   have b3:=I.out.ld;have b4:=Kd.a_ an.out b rfl;have b5:gd≠b:=by omega
   have b6:gs≠b:=by omega
   have Q:=zA (bc P (.cells #[.slice (some ⟨b,0,none⟩) n cl] 43));have ap:=zA (Kd.bj (Kd.aR an.out (.cells #[.slice (some ⟨b,0,none⟩) n cl] 43)) (base':=w0.heap.size) b2);have ar:=zA (I.out.alloc (.cells #[.slice (some ⟨b,0,none⟩) n cl] 43));clear I an a s5 b3;generalize P.alloc (.cells #[.slice (some ⟨b,0,none⟩) n cl] 43)=W6 at Q ap ar⊢;generalize P.heap.size=gb at Q b4⊢;go_loopg [23,4] (n) (fun kq vv tv wr=>∃(v:Nat) (x:Int),v<=n/\vv= .int .i64 v/\tv= .int .i64 x/\0<=x/\Aside0 (x=0->∀u:Nat,u<v->bC n (af E) q d u=false->iF n (af E) q d u<=0)/\Aside0 (∀u:Nat,u<v->bC n (af E) q d u=false->x*iF n (af E) q d u<=rd d u)/\Aside0 (SI w0 g gd gs cd cs n A0 c0 E q d s wr)/\Aside0 (wr.heap[gb]? =some (.cells #[.slice (some ⟨b,0,none⟩) n cl] 43 (0,0)))/\Aside0 (Kd.bool.R 4 wr w0.heap.size (fun _=>True) (.slice (some ⟨b,0,none⟩) n cl) ((List.range n).map fun v=> !bC n (af E) q d v))/\Aside0 (kq=n-v))
   case atStart=>exact⟨0,0,by omega,rfl,rfl,by omega,⟨fun _ u hu=>by omega⟩,⟨fun u hu=>by omega⟩,ar,Q,ap,⟨rfl⟩⟩
   case round=>
    clear ar Q ap;obtain⟨v,x,S,rfl,rfl,av,U,J,a,z,m,K⟩:=hrel;by_cases B:v<n
    ·have c9:(0:Int)<=(v:Int):=by omega
     have c':(v:Int)<(n:Int):=by omega
     have i:=(Kd.b7 false m.out (v:Int) (by omega) (by omega)).1;rw[aM] at i;have e1:bW false ((List.range n).map fun v=> !bC n (af E) q d v) v= !bC n (af E) q d v:=by simp[bW,a7,List.getElem?_map,List.getElem?_range B]
     rw[e1] at i;replace i:wr.cell? ⟨b,v,none⟩=some (.bool (!bC n (af E) q d v)):=i;clear e1;cases hF:bC n (af E) q d v with
     |true=>
      rw[hF] at i;replace i:wr.cell? ⟨b,v,none⟩=some (.bool false):=i;have HF:=zA hF;clear hF;go_wp2;go_roundg (n- (v+1))
      case measure=>rw[K.out];omega
      case rel=>exact⟨v+1,x,by omega,by go_num,rfl,av,⟨fun hx u hu h1=>by
       by_cases e:u=v
       ·subst e;rw[HF.out] at h1;cases h1
       ·exact U.out hx u (by omega) h1⟩,⟨fun u hu h1=>by
       by_cases e:u=v
       ·subst e;rw[HF.out] at h1;cases h1
       ·exact J.out u (by omega) h1⟩,a,z,m,⟨rfl⟩⟩
     |false=>
      rw[hF] at i;replace i:wr.cell? ⟨b,v,none⟩=some (.bool true):=i;have HF:=zA hF;have a9:=zA (show iF n (af E) q d v<=rd d v from wF B hF);have bd:=zA (rY j.out hn q d v);have be:=zA (show ef (bC n (af E) q d) (cE E v E.length)=iF n (af E) q d v from rR j.out hl (bC n (af E) q d) B);have dd:=(k.out.bounds j.out.wt ag.out p hn aP HD.out a1.out v B).2.1;clear hF;go_wp2_with (go_at_call 168;refine(E5 g n A0 c0 E q _ _ 0 v #[.pointer (some ⟨gb,0,none⟩)] (bC n (af E) q d) _ (Kd.aw N a.out.hb) j.out.jY (by omega) B a.out.st (fun W u bf ca cb=>E6 gb b cl n _ _ _ W u (aE z.out bf) (Kd.cT m.out bf) ca cb)).mono ?_;rintro e w8 ⟨rfl,V⟩;rw[be.out];have l:=zA (a.out.below V);have X:=zA (aE z.out V);have Y:=zA (Kd.cT m.out V);have c2:=l.out.kE v B;have c3:=l.out.f3;clear V i a z m;obtain⟨y,i⟩:∃y,y=iF n (af E) q d v:=⟨_,rfl⟩;rw[<-i];have Z:=bd.out;have ce:=a9.out;rw[<-i] at Z ce;obtain⟨Z,dk⟩:=Z;have L:=zA i;clear i bd a9 be)
      ·have cf:1<=rd d v/y:=Int.le_ediv_of_mul_le (by omega) (by omega)
       have hx:=zA ‹x=0›;go_roundg (n- (v+1))
       case measure=>rw[K.out];omega
       case rel=>exact⟨v+1,rd d v/y,by omega,by go_num,rfl,by omega,⟨fun M=>by omega⟩,⟨fun u hu h1=>by
        by_cases e:u=v
        ·subst e;rw[<-L.out];exact Int.ediv_mul_le _ (by omega)
        ·have h2:=U.out hx.out u (by omega) h1
         have h3:=(rY j.out hn q d u).1;rw[show iF n (af E) q d u=0 by omega,Int.mul_zero];have h4:iF n (af E) q d u<=rd d u:=wF (by omega) h1;omega⟩,l,X,Y,⟨rfl⟩⟩
      ·have cf:1<=rd d v/y:=Int.le_ediv_of_mul_le (by omega) (by omega)
       have ds:rd d v/y<x:=by
        rename_i o;rcases o with o|o
        ·exact absurd (by simpa using o) ‹¬x=0›
        ·exact o
       go_roundg (n- (v+1))
       case measure=>rw[K.out];omega
       case rel=>exact⟨v+1,rd d v/y,by omega,by go_num,rfl,by omega,⟨fun M=>by omega⟩,⟨fun u hu h1=>by
        by_cases e:u=v
        ·subst e;rw[<-L.out];exact Int.ediv_mul_le _ (by omega)
        ·exact Int.le_trans (Int.mul_le_mul_of_nonneg_right (by omega) (rY j.out hn q d u).1) (J.out u (by omega) h1)⟩,l,X,Y,⟨rfl⟩⟩
      ·have hle:x<=rd d v/y:=by
        rename_i o;exact o.2
       have ch:¬x=0:=‹¬x=0›;go_roundg (n- (v+1))
       case measure=>rw[K.out];omega
       case rel=>exact⟨v+1,x,by omega,by go_num,rfl,av,⟨fun M=>absurd M ch⟩,⟨fun u hu h1=>by
        by_cases e:u=v
        ·subst e;rw[<-L.out];exact Int.le_trans (Int.mul_le_mul_of_nonneg_right hle Z) (Int.ediv_mul_le _ (by omega))
        ·exact J.out u (by omega) h1⟩,l,X,Y,⟨rfl⟩⟩
      ·have ci:y<=0:=by assumption
       go_roundg (n- (v+1))
       case measure=>rw[K.out];omega
       case rel=>exact⟨v+1,x,by omega,by go_num,rfl,av,⟨fun M u hu h1=>by
        by_cases e:u=v
        ·subst e;rw[<-L.out];exact ci
        ·exact U.out M u (by omega) h1⟩,⟨fun u hu h1=>by
        by_cases e:u=v
        ·subst e;rw[<-L.out,show y=0 by omega,Int.mul_zero];omega
        ·exact J.out u (by omega) h1⟩,l,X,Y,⟨rfl⟩⟩
    ·obtain rfl:n=v:=by omega
     have b0:=cY z.out;have bi:1<=x:=by
      refine Classical.byContradiction fun bi=>?_
      obtain⟨v,S,h1,h2⟩:=ES ag.out j.out.wt p r.out;have h3:iF n (af E) q d v<=0:=U.out (by omega) v S h1;have h4:0<iF n (af E) q d v:=h2;omega
     obtain⟨k1,k2,k3,k4⟩:=k.out.step j.out ag.out p hn aP HD.out a1.out r.out bi (fun v S h1=>J.out v S h1);have K1:=zA k1;have K2:=zA k2;have K3:=zA k3;have K4:=zA k4;have co:=zA k.out.sl;clear k1 k2 k3 k4;go_wp2_with (go_at_call 166;refine(wu g gd gs b cd cs cl n A0 c0 E q d s (fun v=> !bC n (af E) q d v) x w0 _ N j.out.jY (by omega) (by omega) a.out m.out ⟨b5,b6⟩ am.out co.out K2.out).mono ?_;rintro e w8 ⟨rfl,bx,cq,aY⟩;have l:=zA bx;clear bx cq a z m b0)
     go_roundg ((jZ n q σ (bA E (fun v=> !bC n (af E) q d v) x n (d,s)).2).toNat)
     case measure=>have h1:=K3.out;have h2:=K4.out;have h3:=HK.out.2;have h4:=HK.out.1;rw[h3];omega
     case rel=>exact⟨_,_,l,K1,⟨K3.out,rfl⟩⟩
end
def nL.f (a0:Int) (a:Int):Option (Int×Int):=some (IntKind.u64.wrap ((IntKind.u64.wrap ((IntKind.u64.wrap ((a0/4294967296)*(a/4294967296)))+((IntKind.u64.wrap ((IntKind.u64.wrap ((a0/4294967296)*(Go.bits .and .u64 a 4294967295)))+((IntKind.u64.wrap ((Go.bits .and .u64 a0 4294967295)*(Go.bits .and .u64 a 4294967295)))/4294967296)))/4294967296)))+((IntKind.u64.wrap ((Go.bits .and .u64 (IntKind.u64.wrap ((IntKind.u64.wrap ((a0/4294967296)*(Go.bits .and .u64 a 4294967295)))+((IntKind.u64.wrap ((Go.bits .and .u64 a0 4294967295)*(Go.bits .and .u64 a 4294967295)))/4294967296))) 4294967295)+(IntKind.u64.wrap ((Go.bits .and .u64 a0 4294967295)*(a/4294967296)))))/4294967296)),IntKind.u64.wrap (a0*a))
theorem nL.calls (a0:Int) (a:Int) (b:Int) (g:Int) (w:World) (h:nL.f a0 a=some (b,g)):
  Calls Tryz.prog 216 #[.int .u64 a0,.int .u64 a] w fun e w'=>e= .returned (.tuple #[.int .u64 b,.int .u64 g])/\aC w w':=by
 have H:(some (IntKind.u64.wrap ((IntKind.u64.wrap ((IntKind.u64.wrap ((a0/4294967296)*(a/4294967296)))+((IntKind.u64.wrap ((IntKind.u64.wrap ((a0/4294967296)*(Go.bits .and .u64 a 4294967295)))+((IntKind.u64.wrap ((Go.bits .and .u64 a0 4294967295)*(Go.bits .and .u64 a 4294967295)))/4294967296)))/4294967296)))+((IntKind.u64.wrap ((Go.bits .and .u64 (IntKind.u64.wrap ((IntKind.u64.wrap ((a0/4294967296)*(Go.bits .and .u64 a 4294967295)))+((IntKind.u64.wrap ((Go.bits .and .u64 a0 4294967295)*(Go.bits .and .u64 a 4294967295)))/4294967296))) 4294967295)+(IntKind.u64.wrap ((Go.bits .and .u64 a0 4294967295)*(a/4294967296)))))/4294967296)),IntKind.u64.wrap (a0*a)))=some (b,g):=h;clear h;simp only[Option.some.injEq,Prod.mk.injEq] at H;obtain⟨rfl,rfl⟩:=H;go_enter Tryz.func216,Tryz.ntmps216
 go_wp2;go_ret2;exact⟨by first|rfl|(simp;done)|(simp[*];done),by repeat(first|exact aC.refl _|apply aC.step)⟩
def nM.f (a0:Int) (b:Int):Option (Int×Int):=(nL.f a0 b).bind fun a=>(some (a.1,a.2))
theorem nM.calls (a0:Int) (a:Int) (b:Int) (g:Int) (w:World) (h:nM.f a0 a=some (b,g)):
  Calls Tryz.prog 206 #[.int .u64 a0,.int .u64 a] w fun e w'=>e= .returned (.tuple #[.int .u64 b,.int .u64 g])/\aC w w':=by
 have H:((nL.f a0 a).bind fun i=>(some (i.1,i.2)))=some (b,g):=h;clear h;replace H:=Option.bind_eq_some_iff.mp H;obtain⟨⟨t238,t239⟩,j,H⟩:=H;replace H:(some (t238,t239))=some (b,g):=H;have k:=zA j;clear j;simp only[Option.some.injEq,Prod.mk.injEq] at H;obtain⟨rfl,rfl⟩:=H;go_enter Tryz.func206,Tryz.ntmps206
 go_wp2_with (first|((with_reducible refine aG (f:=216) rfl ?_);refine tg (some 25) rfl rfl Tryz.func216 (by kernel_rfl) rfl #[.int .u64 a0,.int .u64 a] rfl (by(try simp only[List.map_toArray,List.map_cons,List.map_nil]);first|done|rfl|(simp only[List.length_drop,List.length_take];rfl)) ?_;(with_reducible refine(nL.calls a0 a t238 t239 _ k.out).mono ?_);rintro e w' ⟨rfl,⟨l,rfl⟩⟩;refine⟨_,rfl,?_⟩))
 go_ret2;exact⟨by first|rfl|(simp;done)|(simp[*];done),by repeat(first|exact aC.refl _|apply aC.step)⟩
theorem E9:∀n:Fin 1001,nM.f 1 ((n:Nat):Int)=some (0,((n:Nat):Int)):=by decide+kernel
theorem E_ (n:Nat) (h:n<=1000):nM.f 1 n=some (0,(n:Int)):=E9 ⟨n,by omega⟩
theorem Fa (k m r:Nat) (a b:Value) (rest:List Value):Go.splice (List.replicate k a++List.replicate (m+r) b++rest) k (List.replicate m a)=List.replicate (k+m) a++List.replicate r b++rest:=by
 unfold Go.splice;have e:(List.replicate k a++List.replicate (m+r) b++rest).take k=List.replicate k a:=by
  rw[List.append_assoc,List.take_left' (by simp)]
 have e2:(List.replicate k a++List.replicate (m+r) b++rest).drop (k+(List.replicate m a).length)=List.replicate r b++rest:=by
  rw[<-List.replicate_append_replicate,<-List.append_assoc,List.append_assoc,List.length_replicate,List.drop_left' (by simp)]
 rw[e,e2,<-List.append_assoc,List.replicate_append_replicate,<-List.append_assoc]
theorem Fb (gx s H n:Nat) (z:Int) (w:World) (I:w.cell? ⟨gx,s,none⟩=some (.int .i64 z)) (T:1<=n) (hn:n<=1000):
  Calls Tryz.prog 193 #[.slice (some ⟨gx,s,none⟩) 1 H,.int .i64 n] w fun e w'=>∃g c,e= .returned (.slice (some ⟨g,0,none⟩) n c)/\(Kd.int .i64).R 3 w' w.heap.size (fun _=>True) (.slice (some ⟨g,0,none⟩) n c) (List.replicate n z)/\Below w.heap.size w w':=by
 have hmul:=E_ n hn;have U:(0:Int)<=(n:Int):=by omega
 go_enter Tryz.func193,Tryz.ntmps193
 go_wp2_with (first|(go_at_call 206;refine(nM.calls 1 n 0 n _ hmul).mono ?_;rintro e w1 ⟨rfl,⟨V,rfl⟩⟩)|((with_reducible refine aJ (N:=30) rfl ?_);refine Kd.kg (Kd.int .i64) _ 3 rfl (N:=30) rfl 25 _ _ rfl (n:Int) rfl rfl Tryz.underlying25 (.int .i64 0) 8 gB rfl (by decide) (by omega) 0 (ok:=fun _=>True) (okp:=fun _=>True) rfl (fun _ hk=>hk) trivial U (by simp;omega) (aq _ _) (aI _) ?_;intro v1 u x hb W X;rw[aM] at x;obtain⟨a,cr,b,p,Y, -⟩:=Kd.fK x (by rw[List.length_replicate];omega);rw[List.length_replicate] at b;subst b;have l:=zA x;have q:=zA ((bY (aq w.heap.size w) V).trans (hb.mono (by simp)));have J:u.cell? ⟨gx,s,none⟩=some (.int .i64 z):=iL hb (by simpa using I);clear x hb W X))
 have Z:=Kd.nX l.out;obtain⟨aa,h|⟨g',cap,cur,b,ab,B,ad,K,C,y⟩⟩:=Z
 ·cases h.1
 ·injection b with i e2 e3
  injection i with i
  injection i with i _
  subst i e3;rw[List.length_replicate] at ad y;simp only[Nat.mul_one] at C y;obtain⟨rest,ak⟩:∃rest,cur=(List.replicate n (Value.int .i64 0)++rest).toArray:=⟨cur.toList.drop n,by
   rw[<-Array.toList_inj];show cur.toList=List.replicate n (Value.int .i64 0)++cur.toList.drop n
   rw[show List.replicate n (Value.int .i64 0)=cur.toList.take n from by rw[y];simp[bV],List.take_append_drop]⟩
  subst ak;have L:rest.length=cr-n:=by simp at C;omega
  rw[run_copy_row _ u 25 25 3 3 a 0 n cr ⟨gx,s,none⟩ 1 H _ 3 [.int .i64 z] Tryz.underlying25 (by kernel_rfl) B (by show 1=min 1 n;omega) (fun j v o=>by
   cases j with
   |zero=>injection o with o;subst o;simpa [Addr.add] using J
   |succ j=>simp at o) (by simp;omega) (fun v b=>by simp at b;subst b;rfl)]
  simp only[Result.andThen_ok,List.cons_append,List.nil_append,List.take_zero,Nat.zero_add];rw[show ([Value.int .i64 z]:List Value).length=1 from rfl];have i:Value.int .i64 z::(List.replicate n (Value.int .i64 0)++rest).drop 1=List.replicate 1 (Value.int .i64 z)++List.replicate (n-1) (Value.int .i64 0)++rest:=by
   obtain⟨n',rfl⟩:∃n',n=n'+1:=⟨n-1,by omega⟩;simp[List.replicate_succ]
  rw[i];have D:=zA (below_setRow (g:=a) q.out (by simp at p;exact p) ((List.replicate 1 (Value.int .i64 z)++List.replicate (n-1) (Value.int .i64 0)++rest).toArray));have E:=zA (setRow_heap u a _ ((List.replicate 1 (Value.int .i64 z)++List.replicate (n-1) (Value.int .i64 0)++rest).toArray) _ _ B);have M:w.heap.size<=a:=by simp at p;exact p
  clear l q J aa ab B C y i e2 I hmul;generalize u.setRow a (List.replicate 1 (Value.int .i64 z)++List.replicate (n-1) (Value.int .i64 0)++rest).toArray=W6 at D E⊢;have O:=zA L;have am:=zA K;clear L K Y p;rw[show goInt ((1:Nat):Int)=Value.int .i64 1 from rfl];rw[Oper.upon_value];go_wp2;go_loopg [8] (n-1) (fun kq nv wr=>∃k:Nat,nv= .int .i64 k/\1<=k/\k<=n/\Aside0 (wr.heap[a]? =some (.cells (List.replicate k (Value.int .i64 z)++List.replicate (n-k) (Value.int .i64 0)++rest).toArray 3 (0,0)))/\Aside0 (Below w.heap.size w wr)/\Aside0 (kq=n-k))
  case atStart=>exact⟨1,rfl,by omega,T,E,D,⟨rfl⟩⟩
  case round=>
   clear D E;obtain⟨k,rfl,a0,a1,F,q,HK⟩:=hrel;by_cases a2:k<n
   ·have a3:(0:Int)<=(k:Int):=by omega
    have a4:(k:Int)<(n:Int):=by omega
    have a5:(k:Int)<=(cr:Int):=by omega
    have a9:(n:Int)<=(cr:Int):=by omega
    obtain⟨m,hm⟩:∃m,m=min k (n-k):=⟨_,rfl⟩;obtain⟨r,P⟩:∃r,n-k=m+r:=⟨n-k-m,by omega⟩;have bd:¬cr=k:=by omega
    have av:Aside0 (∀(j:Nat) (v:Value),(List.replicate m (Value.int .i64 z))[j]? =some v->wr.drew.cell? ((⟨a,0,none⟩:Addr).add j)=some v):=⟨fun j v o=>by
     obtain⟨aB,b⟩:=List.getElem?_eq_some_iff.1 o;rw[List.length_replicate] at aB;rw[List.getElem_replicate] at b;subst b;have h:=cell_of_row wr a j _ _ _ F.out;rw[List.getElem?_toArray,List.append_assoc,List.getElem?_append_left (by rw[List.length_replicate];omega),List.getElem?_replicate,if_pos (by omega)] at h;by_cases e:j=0
     ·subst e;simpa [Addr.add] using h
     ·simpa [Addr.add,e] using h⟩
    have be:(m:Int)<=1000:=by omega
    have bf:(0:Int)<=(m:Int):=by omega
    have bg:(k:Int)<=1000:=by omega
    have G:=zA hm;have l:=zA P;clear hm P;go_wp2;go_region_law (refine step_copy_splice rfl (.tmp 41) (.tmp 44) 25 25 rfl 3 Tryz.underlying25 (by kernel_rfl) (some ⟨a,k,none⟩) (some ⟨a,0,none⟩) (n-k) (cr-k) k cr (by go_simp) (by go_simp) a k (List.replicate k (Value.int .i64 z)++List.replicate (n-k) (Value.int .i64 0)++rest) 3 F.out (List.replicate m (Value.int .i64 z)) (by have:=G.out;rw[List.length_replicate];show m=min k (n-k);omega) (fun _=>⟨rfl,_,rfl,av.out⟩) (by have:=O.out;have:=G.out;simp;omega) (fun v b=>by rw[List.eq_of_mem_replicate b];rfl) w.heap.size w (bZ q.out) M ?_;intro w4 Q S)
    have aL:Aside0 (w4.heap[a]? =some (.cells (List.replicate (k+m) (Value.int .i64 z)++List.replicate (n- (k+m)) (Value.int .i64 0)++rest).toArray 3 (0,0))):=⟨by
     have h:=Q;rw[l.out] at h;rw[show n- (k+m)=r from by have:=l.out;omega,<-Fa k m r (.int .i64 z) (.int .i64 0) rest];first|exact h|(rw[List.append_assoc];exact h)⟩
    have aO:=zA S;clear Q S;have bi:=G.out;have bk:=l.out;go_wp2;go_roundg (n- (k+m))
    case measure=>rw[HK.out];omega
    case rel=>exact⟨k+m,(by rw[IntWalk.i64_in ((k:Int)+(m:Int)) (by omega)];go_num),by omega,by omega,aL,aO,⟨rfl⟩⟩
   ·obtain rfl:k=n:=by omega
    go_wp2;go_ret;exact⟨a,cr,rfl,Kd.mK ⟨by simp[bV],.inr ⟨a,cr,_,by simp,M,F.out,by simp;omega,am.out,by have:=O.out;simp;omega,by simp[bV]⟩⟩ (fun _ _=>trivial),q.out⟩
end Go.Proofs.YtffdiakgjakngaaGreat.P


namespace Go.Proofs.YtffdiakgjakngaaGreat.P
open Go.RowKit Go.Proofs.YtffdiakgjakngaaGreatW.PrintWords Go.Proofs.YtffdiakgjakngaaGreatW.PrintLast Go.Proofs.YtffdiakgjakngaaGreatW.PrintMore
set_option linter.unusedVariables false
set_option linter.unusedSimpArgs false
set_option maxHeartbeats 8000000
set_option maxRecDepth 100000
section
attribute [local go_sem] Oper.semAt_some
theorem cK.wQ {α:Type} {d:Kd α} {e base b0 b:Nat} {ok:Nat->Prop} {ds:List Deferred} {v:Value} {xs:List α} {W w1:World} (h:cK b0 b ds W) (g:d.Q e W base ok v xs) (i:W.grownBy w1 v.ownBlock):cK b0 b ds w1:=
 h.i' fun D _ hd=>(i.block D (Array.getElem?_eq_some_iff.1 hd).1 (fun e=>by
  obtain⟨cells,a⟩:=Kd.s7 g D e.symm;rw[hd] at a;cases a)).trans hd
structure DI (w:World) (b3 b4 go co n lo hi:Nat) (out:List Int) (qv:Value) (Q:List Nat) (W:World):Prop where
 hb:Below w.heap.size w W
 x3:W.heap[b3]? =some (.cells #[.slice (some ⟨go,0,none⟩) n co] 25 (0,0))
 x4:W.heap[b4]? =some (.cells #[qv] 25 (0,0))
 ro:(Kd.int .i64).R 3 W w.heap.size (fun _=>True) (.slice (some ⟨go,0,none⟩) n co) out
 rq:(Kd.int .i64).Q 3 W w.heap.size (fun k=>k≠go/\(k<lo\/hi<=k)) qv (Q.map fun x:Nat=>(x:Int))
 ne:b3≠b4/\go≠b3/\go≠b4/\w.heap.size<=b3/\w.heap.size<=b4
theorem Fc {α:Type} {d:Kd α} {e base l:Nat} {ok:Nat->Prop} {v:Value} {xs:List α} {A B:World} (h:d.Q e A base ok v xs) (hb:Bk l A B):d.Q e B base ok v xs:=
 Kd.lS (Kd.sU (Kd.nZ h) (fun k hk=>by obtain⟨_,_,_,q,_,cells,a⟩:=hk;exact(hb.cells a).trans a.symm)) (fun k hk=>hk.1)
section
variable {F:Fence} {n:Nat} {P:Program} {ops:Array Oper} {rest:List Oper} {o:Oper} {a:Act} {Q':Exit->Act->World->Prop} {α:Type}
theorem wR (d:Kd α) {w0 W:World} (base:Nat) (j:o.guard=none) (s x:Operand) (t e:TypeId) (z:Value) (bytes:Nat)
  (g:o.op= .call {callee:=.builtin .append,args:=#[s,x],argTypes:=#[t,t]})
  (l:P.underlying t=some (.slice e)) (m:(P.info? e).map (fun i=>(i.zero,i.size,i.bytes))=some (some z,d.sz,bytes)) (q:z.cells.size=d.sz) (r:0<d.sz) (u:0<bytes)
  (v:Value) (xs:List α) (p:α) (cs:List Value) (ok okp:Nat->Prop) (w:a.eval s=v) (y:a.eval x= .slice (some ⟨W.heap.size,0,none⟩) 1 1) (hp:d.M W base okp p cs) (B:∀k,okp k->ok k/\some k≠v.ownBlock) (C:∀k,W.heap.size<=k->ok k)
  (D:d.Q e W base ok v xs) (E:Below base w0 W) (G:base<=W.heap.size) (H:(xs.length+1)*bytes<=140737488355328)
  (h:∀v1 w1,d.Q e w1 base ok v1 (xs++[p])->Below base w0 w1->W.grownBy w1 v.ownBlock->(v1.ownBlock=v.ownBlock\/∃b,v1.ownBlock=some b/\W.heap.size<=b)->wpListIn F n P ops Q' rest (a.put o.dst v1) w1):
  wpListIn F n P ops Q' (o::rest) a (W.alloc (.cells cs.toArray e)):=by
 obtain⟨v1,w1,I,h1,J,L,N⟩:=Kd.zr (P:=P) d base t o.type e z bytes l m q r u v xs p cs ok okp hp B C D E G H;refine wpListIn_plain j fun K O=>?_
 unfold Oper.wpIn;refine⟨?_,?_⟩
 ·simp[Oper.about,g,resolve,Target.leads,Sem.run_pure]
 ·rw[Oper.semAt_plain F _ _ (by rw[g];intro c R;cases R)]
  simp[execOp,g,resolve,invoke,builtin,w,y,I,Result.andThen];exact O _ _ (h v1 w1 h1 J L N)
end
theorem wS {α:Type} {d:Kd α} {e base nw:Nat} {ok:Nat->Prop} {v:Value} {xs:List α} {W w1:World} (g:d.Q e W base ok v xs) (h:W.grownBy w1 v.ownBlock):ct nw W w1:=fun k o h1 j b i=>by
 refine(h.block k (Array.getElem?_eq_some_iff.1 b).1 (fun e=>?_)).trans b;obtain⟨cells,a⟩:=Kd.s7 g k e.symm;rw[b] at a;injection a with a;subst a;simp[Obj.isCells] at i
theorem Bf.mG {n q:Nat} {nb:Nat->Nat->Prop} {out:List Int} {Q:List Nat} {D:Int} {ex a:Nat->Nat->Prop} (h:Bf n q nb out Q D ex) (hex:∀x y,ex x y->a x y):Bf n q nb out Q D a:=
 ⟨h.len,h.q0,h.lo,h.hi,h.qv,h.nF,h.top,h.d0,h.back,fun v b e hn u hu g he=>h.kD v b e hn u hu g (fun k=>he (hex v u k))⟩
def pE (v:Nat) (pre:List (Int×Int)) (x y:Nat):Prop:=x=v/\¬∃m,((y:Int),m)∈pre
theorem Bf.done {n q:Nat} {nb:Nat->Nat->Prop} {out:List Int} {Q:List Nat} {D:Int} {ex:Nat->Nat->Prop} (h:Bf n q nb out Q D ex) (hex:∀x y,nb x y->¬ex x y):Bf n q nb out Q D (fun _ _=>False):=
 ⟨h.len,h.q0,h.lo,h.hi,h.qv,h.nF,h.top,h.d0,h.back,fun v b e hn u hu a _=>h.kD v b e hn u hu a (hex v u a)⟩
namespace DI
variable {w W W':World} {b3 b4 go co n lo hi lo' hi' l:Nat} {out:List Int} {qv:Value} {Q:List Nat}
theorem below (h:DI w b3 b4 go co n lo hi out qv Q W) (hb:Below W.heap.size W W'):DI w b3 b4 go co n lo hi out qv Q W':=⟨aZ h.hb hb,aE h.x3 hb,aE h.x4 hb,Kd.cT h.ro hb,Kd.sV h.rq hb,h.ne⟩
theorem alloc (h:DI w b3 b4 go co n lo hi out qv Q W) (o:Obj):DI w b3 b4 go co n lo hi out qv Q (W.alloc o):=h.below (ao (aq _ _) o)
theorem drewN (h:DI w b3 b4 go co n lo hi out qv Q W) (m:Nat):DI w b3 b4 go co n lo hi out qv Q (W.drewN m):=h.below (bY (aq _ _) m)
theorem bk (h:DI w b3 b4 go co n lo hi out qv Q W) (hb:Bk l W W') (a:w.heap.size<=l):DI w b3 b4 go co n lo hi out qv Q W':=⟨h.hb.trans (hb.below _ a),hb.cells h.x3,hb.cells h.x4,df h.ro hb,Fc h.rq hb,h.ne⟩
theorem ld (h:DI w b3 b4 go co n lo hi out qv Q W):go<W.heap.size/\b3<W.heap.size/\b4<W.heap.size/\w.heap.size<=go:=⟨Kd.a_ h.ro go rfl,aA h.x3,aA h.x4,Kd.dY h.ro go rfl⟩
theorem wT (h:DI w b3 b4 go co n lo hi out qv Q W) (v:Nat) (x:Int):DI w b3 b4 go co n lo hi (out.set v x) qv Q (W.setCell ⟨go,v,none⟩ (.int .i64 x)):=by
 obtain⟨h1,g,i,b⟩:=h.ld;have a:=Kd.dt h.ro (v:Int) x;rw[aM] at a;exact⟨Below.setCell h.hb b _,aD h.x3 (fun e=>h.ne.2.1 e.symm) _,aD h.x4 (fun e=>h.ne.2.2.1 e.symm) _,a.1,Kd.zf h.rq a.2 (fun k hk e=>by injection e with e;exact hk.1 e),h.ne⟩
theorem wU (h:DI w b3 b4 go co n lo hi out qv Q W) {qv':Value} {Q':List Nat} (a:(Kd.int .i64).Q 3 W w.heap.size (fun k=>k≠go/\(k<lo'\/hi'<=k)) qv' (Q'.map fun x:Nat=>(x:Int))):DI w b3 b4 go co n lo' hi' out qv' Q' (W.setCell ⟨b4,0,none⟩ qv'):=by
 obtain⟨h1,b,g,i⟩:=h.ld;refine⟨Below.setCell h.hb h.ne.2.2.2.2 _,aD h.x3 h.ne.1 _,by simpa using bQ h.x4 0 qv',?_,?_,h.ne⟩
 ·exact Kd.bb (Kd.fB (Kd.gS rfl h.ro) (fun k hk=>Below.heap_setCell _ _ _ _ (fun e=>by injection hk with hk;exact h.ne.2.2.1 (hk.symm.trans e)))) (fun _ _=>trivial)
 ·exact Kd.sW a h.x4 (fun q a=>by rcases List.mem_cons.1 a with rfl|h;decide;cases h) 0 qv'
theorem c3 (h:DI w b3 b4 go co n lo hi out qv Q W):W.cell? ⟨b3,0,none⟩=some (.slice (some ⟨go,0,none⟩) n co):=(aj h.x3 0).trans rfl
theorem c4 (h:DI w b3 b4 go co n lo hi out qv Q W):W.cell? ⟨b4,0,none⟩=some qv:=(aj h.x4 0).trans rfl
theorem j4 (h:DI w b3 b4 go co n lo hi out qv Q W) (v:Nat) (a:v<n):W.cell? ⟨go,v,none⟩=some (.int .i64 (rd out v)):=by
 have:=(Kd.b7 0 h.ro (v:Int) (by omega) (by omega)).1;rw[aM] at this;exact this
theorem wV (h:DI w b3 b4 go co n lo hi out qv Q W) (v:Nat) (a:v<n):W.frozen? ⟨go,v,none⟩=false:=by
 have:=(Kd.b7 0 h.ro (v:Int) (by omega) (by omega)).2;rw[aM] at this;exact this
theorem free (h:DI w b3 b4 go co n lo hi out qv Q W):DI w b3 b4 go co n 0 0 out qv Q W:=⟨h.hb,h.x3,h.x4,h.ro,Kd.lS h.rq (fun k hk=>⟨hk.1,.inr (Nat.zero_le _)⟩),h.ne⟩
theorem own (h:DI w b3 b4 go co n lo hi out qv Q W):∀k,qv.ownBlock=some k->k≠go/\(k<lo\/hi<=k)/\w.heap.size<=k/\k≠b3/\k≠b4:=fun k hk=>⟨(h.rq.1 k hk).1,(h.rq.1 k hk).2,Kd.zm h.rq k hk,fun e=>Kd.sX h.rq h.x3 (by decide) (by rw[hk,e]),fun e=>Kd.sX h.rq h.x4 (by decide) (by rw[hk,e])⟩
theorem push (h:DI w b3 b4 go co n lo hi out qv Q W) {v1:Value} {w1:World} {u:Nat} (a:(Kd.int .i64).Q 3 w1 w.heap.size (fun k=>k≠go/\(k<lo\/hi<=k)) v1 (Q.map (fun x:Nat=>(x:Int))++[(u:Int)])) (b:W.grownBy w1 qv.ownBlock) (hb:Below w.heap.size w w1):DI w b3 b4 go co n lo hi out v1 (Q++[u]) (w1.setCell ⟨b4,0,none⟩ v1):=by
 have i:=da h.x3 b (fun e=>(h.own b3 e.symm).2.2.2.1 rfl);have g:=da h.x4 b (fun e=>(h.own b4 e.symm).2.2.2.2 rfl);have ro:=Kd.iO h.ro rfl b (fun e=>(h.own go e).1 rfl);refine⟨Below.setCell hb h.ne.2.2.2.2 _,aD i h.ne.1 _,by simpa using bQ g 0 v1,?_,?_,h.ne⟩
 ·exact Kd.bb (Kd.fB (Kd.gS rfl ro) (fun k hk=>Below.heap_setCell _ _ _ _ (fun e=>by injection hk with hk;exact h.ne.2.2.1 (hk.symm.trans e)))) (fun _ _=>trivial)
 ·rw[List.map_append]
  exact Kd.sW a g (fun q a=>by rcases List.mem_cons.1 a with rfl|h;decide;cases h) 0 v1
end DI
def lF (E:List S83) (v u:Nat):Prop:=∃m,(((u:Nat):Int),m)∈cE E v E.length
theorem Fe (g n:Nat) (A0:Option Addr) (c0:Nat) (E:List S83) (q:Nat) (dv sv:Value) (er:Int) (w:World) (ge:Kd.C aN w A0 E.length E) (hE:ep n E) (hn:n<=1000) (hq:q<n)
  (N:ic w g n (.slice A0 E.length c0) q dv sv er):
  Calls Tryz.prog 165 #[.pointer (some ⟨g,0,none⟩)] w fun e w'=>∃(go co:Nat) (out:List Int) (D:Int),e= .returned (.slice (some ⟨go,0,none⟩) n co)/\(Kd.int .i64).R 3 w' w.heap.size (fun _=>True) (.slice (some ⟨go,0,none⟩) n co) out/\Below w.heap.size w w'/\Bf n q (lF E) out [] D (fun _ _=>False):=by
 have h9:=Tryz.underlying188;have hu:=Tryz.underlying24;have HE:=zA hE;have dd:=zA N;have h_:=aA N;have hm:1<=n:=by omega
 have h':(0:Int)<=(q:Int):=by omega
 have ib:(q:Int)<(n:Int):=by omega
 have hx:=(aj (bc w (.cells #[.int .i64 (-1)] 3)) 0).trans rfl;have s0:(w.alloc (.cells #[.int .i64 (-1)] 3)).cell? ⟨g,0,none⟩=some (.int .i64 n):=(aj (au N _) 0).trans rfl;clear hE N;refine(callsIn_wide (n:=10)).1 ?_;refine callsIn_of_wp_marks Tryz.func165 rfl trivial ?_ rfl;simp only[Tryz.ntmps165,List.size_toArray,List.length_cons,List.length_nil,Nat.reduceAdd,Nat.reduceSub,Array.replicate_succ,Array.replicate_zero,List.push_toArray,List.append_toArray,List.nil_append,List.cons_append];gi_wp2_with (first|(refine⟨trivial,?_⟩;gi_at_call 193;refine(callsIn_wide.2 (Fb w.heap.size 0 1 n (-1) _ hx hm hn)).mono ?_;rintro e w3 ⟨go,co,rfl,hR,hB⟩))
 have ek:=aZ (ao (aq w.heap.size w) _) hB;have hp:w.heap.size<=go:=by have:=Kd.dY hR go rfl;simp at this;omega
 have hr:=Kd.a_ hR go rfl;have dl:Aside0 ((Kd.int .i64).R 3 (w3.alloc (.cells #[.slice (some ⟨go,0,none⟩) n co] 25)) w.heap.size (fun _=>True) (.slice (some ⟨go,0,none⟩) n co) (List.replicate n (-1))):=⟨Kd.aR (Kd.bj hR (by simp)) _⟩;have d1:=zA (ao ek (.cells #[.slice (some ⟨go,0,none⟩) n co] 25));have b_:=zA (bc w3 (.cells #[.slice (some ⟨go,0,none⟩) n co] 25));have ht:w.heap.size<=w3.heap.size:=ek.size;have d2:(w3.alloc (.cells #[.slice (some ⟨go,0,none⟩) n co] 25)).heap.size=w3.heap.size+1:=by simp
 clear hR hB ek hx s0;obtain⟨b3,gn⟩:∃b,b=w3.heap.size:=⟨_,rfl⟩;rw[<-gn] at b_ ht d2 hr⊢;clear gn;generalize w3.alloc (.cells #[.slice (some ⟨go,0,none⟩) n co] 25)=W1 at dl d1 b_ d2⊢;have y0:=(aj b_.out 0).trans rfl;have y1:W1.cell? ⟨g,2,none⟩=some (.int .i64 q):=(aj (aE dd.out d1.out) 2).trans rfl;obtain⟨y2,y3⟩:=Kd.b7 0 dl.out (q:Int) (by omega) (by omega);rw[aM] at y2 y3;generalize bW 0 (List.replicate n (-1)) (q:Int)=xq at y2;replace y2:W1.cell? ⟨go,q,none⟩=some (.int .i64 xq):=y2;have HP:=Kd.dt dl.out (q:Int) (0:Int);rw[aM] at HP;have ca:=zA (Kd.bq HP.1);have em:=zA (fA (da (g:=b3) b_.out HP.2 (fun e=>by injection e with e;omega)));have d4:=zA (bZ (Below.setCell (p:=⟨go,q,none⟩) d1.out hp (.int .i64 0)));have cb:(W1.setCell ⟨go,q,none⟩ (.int .i64 0)).drew.heap.size=b3+1:=by simp[d2]
 clear HP;gi_region
 replace ca:Aside0 ((Kd.int .i64).R 3 (W1.setCell ⟨go,q,none⟩ (.int .i64 0)).drew w.heap.size (fun _=>True) (.slice (some ⟨go,0,none⟩) n co) ((List.replicate n (-1)).set q 0)):=ca;clear y0 y1 y2 y3 dl b_ d1 d2;generalize (W1.setCell ⟨go,q,none⟩ (.int .i64 0)).drew=W2 at ca em d4 cb⊢;have y1:W2.cell? ⟨g,2,none⟩=some (.int .i64 q):=(aj (aE dd.out d4.out) 2).trans rfl;gi_wp2;have es:Aside0 (DI w b3 (b3+1+1) go co n 0 0 ((List.replicate n (-1)).set q 0) (.slice (some ⟨b3+1,0,none⟩) 1 1) [q] ((W2.alloc (.cells #[.int .i64 q] 3)).alloc (.cells #[.slice (some ⟨b3+1,0,none⟩) 1 1] 25))):=⟨by
  have Z1:=bc W2 (.cells #[.int .i64 q] 3);have Z2:=bc (W2.alloc (.cells #[.int .i64 q] 3)) (.cells #[.slice (some ⟨b3+1,0,none⟩) 1 1] 25);rw[World.size_alloc,cb] at Z2;rw[cb] at Z1;refine⟨ao (ao d4.out _) _,au (au em.out _) _,Z2,Kd.aR (Kd.aR ca.out _) _,Kd.zd (Kd.mK ⟨by simp[bV],.inr ⟨b3+1,1,_,rfl,by omega,au Z1 _,by simp,by decide,by simp,by simp[bV]⟩⟩ (fun k hk=>by cases hk;exact⟨by show b3+1≠go;omega,.inr (Nat.zero_le _)⟩)),by omega,by omega,by omega,by omega,by omega⟩⟩
 have gr:=zA (Bf.start (nb:=lF E) hq);have gs:((W2.alloc (.cells #[.int .i64 q] 3)).alloc (.cells #[.slice (some ⟨b3+1,0,none⟩) 1 1] 25)).heap.size=b3+3:=by simp[cb]
 clear ca em d4 cb y1;generalize (W2.alloc (.cells #[.int .i64 q] 3)).alloc (.cells #[.slice (some ⟨b3+1,0,none⟩) 1 1] 25)=W4 at es gs⊢;refine wa (b3+3) (fun kq tm wr=>∃(u5 u25 u26 u27 u28 u29 u30 u31 u32 u33 u34 u35:Value) (out:List Int) (qv:Value) (Q:List Nat) (D:Int),Aside0 (DI w b3 (b3+1+1) go co n 0 0 out qv Q wr)/\Aside0 (Bf n q (lF E) out Q D (fun _ _=>False))/\b3+3<=wr.heap.size/\Aside0 (kq=2*(n-b9 out)+Q.length/\kq<=2*n+1)/\tm=#[.pointer (some ⟨g,0,none⟩),undef,.slice none 0 0,.pointer (some ⟨b3,0,none⟩),.pointer (some ⟨b3+1+1,0,none⟩),u5,undef,.slice (some ⟨w.heap.size,0,none⟩) 1 1,.pointer (some ⟨g,0,none⟩),.pointer (some ⟨g,0,none⟩),.pointer (some ⟨g,0,none⟩),.pointer (some ⟨g,0,none⟩),.int .i64 n,.slice (some ⟨go,0,none⟩) n co,.slice (some ⟨go,0,none⟩) n co,.pointer (some ⟨g,0,none⟩),.pointer (some ⟨g,0,none⟩),.pointer (some ⟨g,2,none⟩),.int .i64 q,.pointer (some ⟨go,q,none⟩),.pointer (some ⟨g,0,none⟩),.pointer (some ⟨g,0,none⟩),.pointer (some ⟨g,2,none⟩),.int .i64 q,.slice (some ⟨b3+1,0,none⟩) 1 1,u25,u26,u27,u28,u29,u30,u31,u32,u33,u34,u35,undef,undef,undef,undef,undef,undef,undef,undef,undef,undef,undef,undef,undef,undef,undef,undef,undef,undef,undef,undef]) (2*(n-b9 ((List.replicate n (-1)).set q 0))+1) ⟨_,_,_,_,_,_,_,_,_,_,_,_,_,_,_,_,es,gr,by omega,⟨rfl,by omega⟩,rfl⟩ (b3+3) (by omega) (cK.nil _ _ _) ?_;clear es gr gs;rintro gk tm wr ⟨u5,u25,u26,u27,u28,u29,u30,u31,u32,u33,u34,u35,out,qv,Q,D,V,HF,aY,HK,rfl⟩ ds b hb gx J K hJ Y;have g5:=zA gx;have HJ:=zA hJ;clear gx hJ;have x4:=V.out.c4;have x3:=V.out.c3;cases Q with
 |nil=>
  obtain⟨A,c,rfl, -⟩:=Kd.n9 V.out.rq;have hy:((([]:List Nat).map fun x:Nat=>(x:Int)).length:Int)=0:=rfl;simp only[List.map_nil,List.length_nil] at x4;clear hy Y;gi_wp2;refine(v_ g5.out fun w' g7=>?_).1;exact⟨_,results_tmp rfl _ _ _,go,co,rfl,out,g7.R V.out.ro,V.out.hb.trans (g7.fs.mono (by omega)),D,HF.out⟩
 |cons v rest=>
  obtain⟨gq,oq,cq,rfl,ih,ii, -⟩:=Kd.zV V.out.rq (by simp);have hz:=HF.out.qv v (List.mem_cons_self ..);have a1:=hz.1;have cc:=(Kd.zY 0 V.out.rq 0 (by omega) (by simp)).1;have g8:=Kd.lS (Kd.nZ (Kd.zp (k:=1) V.out.rq (by simp))) (ok':=fun k=>k≠go/\(k<wr.heap.size\/wr.heap.size+3<=k)) (fun k hk=>⟨hk.1.1,.inl hk.2.2.1⟩);obtain⟨A',c',ha,hl⟩:=Kd.n9 V.out.rq;injection ha with hC hD hH
  subst hH;have d7:=zA (bc wr (.cells #[.int .i64 v] 3));have a2:=zA (V.out.alloc (.cells #[.int .i64 v] 3));have d8:=zA (g5.out.below (ao (aq _ _) (.cells #[.int .i64 v] 3)));have cd:=zA (Kd.ze g8 (.cells #[.int .i64 v] 3));simp only[List.map_cons,List.length_cons,List.length_map,List.drop_succ_cons,List.drop_zero,Nat.add_sub_cancel] at x4 cc cd hl;replace cc:wr.cell? ⟨gq,oq,none⟩=some (.int .i64 v):=cc;obtain⟨L,hL⟩:∃L,L=rest.length+1:=⟨_,rfl⟩;rw[<-hL] at x4 hl;have g9:(1:Int)<=(L:Int):=by omega
  have g':(L:Int)<=(cq:Int):=by omega
  have he:(0:Int)<(L:Int):=by omega
  have ea:=a2.out.c4;simp only[List.map_cons,List.length_cons,List.length_map] at ea;rw[<-hL] at ea;have hf:=zA hL;clear hC hD hL g8;have hg:=bt a2.out.x4 0;have hh:=zA (Bf.pop HF.out);have io:=HF.out.len;by_cases eb:cq=1
  ·subst eb
   obtain rfl:L=1:=by omega
   obtain⟨Z,a3⟩:∃Z,Z=Value.slice (some ⟨gq,oq,none⟩) 0 0:=⟨_,rfl⟩;have a4:=zA (a2.out.wU (lo':=wr.heap.size) (hi':=wr.heap.size+3) (qv':=Z) (Q':=rest) (by have h:=cd.out;rw[if_pos rfl,show rest.length=0 by have:=hf.out;omega] at h;rw[a3];exact h));gi_wp2_with (first|(refine⟨trivial,?_⟩;gi_at_call 194;refine(callsIn_wide.2 (mE g v _)).mono ?_;rintro e w3 ⟨rfl,rfl⟩))
   rw[<-a3];obtain⟨M,aa⟩:∃X,X=(wr.alloc (.cells #[.int .i64 v] 3)).setCell ⟨b3+1+1,0,none⟩ Z:=⟨_,rfl⟩;have ce:Aside0 (M.heap[wr.heap.size]? =some (.cells #[.int .i64 v] 3 (0,0))):=⟨by rw[aa];exact aD d7.out (show wr.heap.size≠b3+1+1 by omega) _⟩;have cf:M.heap.size=wr.heap.size+1:=by rw[aa];simp
   have ch:Aside0 (cK (b3+3) b ds M):=⟨by rw[aa];exact d8.out.set a2.out.x4 _⟩;rw[<-aa] at a4⊢;have Z1:=bc M (.cells #[.pointer (some ⟨g,0,none⟩)] 135);have Z2:=heap_alloc2_new M (.cells #[.pointer (some ⟨g,0,none⟩)] 135) (.cells #[.int .i64 v] 3);rw[cf] at Z1 Z2;have O:=zA ((a4.out.alloc (.cells #[.pointer (some ⟨g,0,none⟩)] 135)).alloc (.cells #[.int .i64 v] 3));have ar:=zA (au (au ce.out (.cells #[.pointer (some ⟨g,0,none⟩)] 135)) (.cells #[.int .i64 v] 3));have av:=zA ((ch.out.below (ao (aq _ _) (.cells #[.pointer (some ⟨g,0,none⟩)] 135))).below (ao (aq _ _) (.cells #[.int .i64 v] 3)));have a5:=zA (au Z1 (.cells #[.int .i64 v] 3));have a9:=zA Z2;have aB:=zA (aE dd.out O.out.hb);have bd:((M.alloc (.cells #[.pointer (some ⟨g,0,none⟩)] 135)).alloc (.cells #[.int .i64 v] 3)).heap.size=wr.heap.size+3:=by simp[cf]
   have e0:=Nat.le_of_eq bd;have e3:=Nat.le_of_eq bd.symm;clear bd;clear d7 d8 a2 cd a4 ce ch Z1 Z2 aa a3 V x4 ea x3 cc hg g9 g' he hl;generalize (M.alloc (.cells #[.pointer (some ⟨g,0,none⟩)] 135)).alloc (.cells #[.int .i64 v] 3)=r at O ar av a5 a9 aB e0 e3⊢;refine iz (σ:=Unit) (α:=Int×Int) (F:=Fence.wide) (n:=10) rfl (by decide) (gf:=207) (lb:=#[.pointer (some ⟨wr.heap.size+1,0,none⟩),.pointer (some ⟨wr.heap.size+1+1,0,none⟩)]) rfl trivial (enters_of Tryz.func207 (by kernel_rfl) rfl)
    (fun o=>rK (wr.heap.size+1) (wr.heap.size+1+1) g n A0 c0 E q dv sv er v w _ ge HE.out hn a1 (ao (ao O.out.hb _) _) (au (au a5.out _) _) (au (au a9.out _) _) (au (au aB.out _) _)) (fun _=>rfl)
    (fun _=>True) ?Jm ?st1 ?Jh
    (fun _ pre W=>r.heap.size<=W.heap.size/\∃(a:List Int) (qv':Value) (Q':List Nat),DI w b3 (b3+1+1) go co n wr.heap.size (wr.heap.size+3) a qv' Q' W/\Bf n q (lF E) a Q' (rd a v) (pE v pre)/\2*(n-b9 a)+Q'.length<=2*(n-b9 out)+rest.length/\W.heap[wr.heap.size]? =some (.cells #[.int .i64 v] 3 (0,0))/\cK (b3+3) b ds W) (fun _ _ _ _=>False)
    ?Jw (fun _ _ _ _ _ _ h _=>h) ?Jo (fun _ _ _ _ _ h _=>h) ?Jt ?Jv ?Lo ?Jp ?Jg ?Jn (fun _ _ _ _ _ _ _ h=>h.elim)
   case Jp=>
    intro l x W K Y;gi_wp2;exact Y
   case Jm=>
    intro o s W1 h;exact⟨trivial,by rw[h];exact ct.refl _ _⟩
   case st1=>intro s A B _ h;exact cZ h
   case Jh=>intro s x A B _ h;exact cZ h.2
   case Jw=>
    rintro s pre A B _ ⟨P,a,qv',Q',h1,z,h4,h5,h6⟩ N;exact⟨Nat.le_trans P N.size,a,qv',Q',h1.below N,z,h4,aE h5 N,h6.below N⟩
   case Jo=>
    rintro s pre A B ⟨P,a,qv',Q',h1,z,h4,h5,h6⟩ aF;exact⟨by rw[aF.size];exact P,a,qv',Q',h1.bk aF (by omega),z,h4,aF.cells h5,h6.bk aF (by omega)⟩
   case Jt=>
    intro s A B C D aL ci cj;refine⟨fun aY=>((aL.below w.heap.size (by omega)).trans (ci.1 (by rw[aL.size];exact aY))).trans (cj.below w.heap.size (by omega)),fun k hk ck=>?_⟩;have cl:k≠r.heap.size+1:=by rcases hk with rfl|rfl|rfl<;>omega
    exact(cj.heap k cl).trans ((ci.2 k hk (by rw[aL.size];exact ck)).trans (aL.heap k cl))
   case Jv=>
    rintro o s W1 rfl;exact⟨by simp;omega,out,Z,rest,(O.out.alloc _).alloc _,hh.out.mG (fun x y h=>⟨h,by simp⟩),aI _,au (au ar.out _) _,(av.out.below (ao (aq _ _) _)).below (ao (aq _ _) _)⟩
   case Jg=>
    rintro l s' pre ⟨u,m⟩ Wb Wc W _ ⟨P,a,qv',Q',i1,i2,i4,i5,i6⟩ ⟨⟨cn,e4⟩,ab⟩ e5 H;have G:=zA ((i1.below ab).bk H (by omega));have S:=zA i4;have I5:=zA (H.cells (aE i5 ab));have I6:=zA ((i6.below ab).bk H (by omega));have aP:r.heap.size<=W.heap.size:=by have:=H.size;have:=ab.size;omega
    clear i1 i4 i5 i6 ab H e5 P;simp only at cn;obtain⟨u0,u1,m0,m1⟩:=cn;obtain⟨u,rfl⟩:=Int.eq_ofNat_of_zero_le u0;have aS:u<n:=by omega
    obtain⟨l1,l2⟩:=Bf.look (ex:=fun y=>¬∃m,((y:Int),m)∈pre) i2 aS a1 ⟨m,e4⟩;have hN:=i2.d0;have hO:rd a v<=1000:=by have h1:=i2.hi v a1;have z:=jN a;have h3:=i2.len;omega
    have e6:=zA i2.len;have z3:=G.out.c3;have z4:=G.out.j4 u aS;have cs:∀(ex:Nat->Prop) (x y:Nat),(x=v/\(¬∃m,((y:Int),m)∈pre)/\y≠u)->pE v (pre++[((u:Int),m)]) x y:=fun ex x y h=>⟨h.1,fun⟨m',ag⟩=>by
     rcases List.mem_append.1 ag with ag|ag
     ·exact h.2.1 ⟨m',ag⟩
     ·have:=List.mem_singleton.1 ag
      injection this with e1 e2
      exact h.2.2 (by omega)⟩
    have cv:=zA cs;clear cs i2;by_cases bi:rd a u<0
    ·obtain⟨k1,k2,k3,k4⟩:=l2 bi
     have K2:=zA k2;have K3:=zA k3;have K4:=zA (k4.mG (cv.out (fun _=>True)));have fd:decide (rd a u<0)=true:=az bi;clear l1 l2 k1 k2 k3 k4;gi_wp2;have z3:=G.out.c3;have z4:=G.out.j4 v a1;have z5:=(aj I5.out 0).trans rfl;have fn:wrap64 (rd a v+1)=rd a v+1:=by unfold wrap64;omega
     have hQ:(0:Int)<=(u:Int):=by omega
     have hT:(0:Int)<=(v:Int):=by omega
     have bv:(v:Int)<(n:Int):=by omega
     refine pw [_,_,_,_,_,_,_,_] _ rfl (by kernel_rfl) rfl (by kernel_rfl) (by kernel_rfl) (by kernel_rfl) (by kernel_rfl) ?_;repeat(gi_big_quiet_step (fail))
     refine wpQuietIn_nil ?_;rintro _ ⟨nq,rfl⟩;have I:=zA (G.out.drewN nq);have J5:=zA (iM I5.out nq);have J6:=zA (I6.out.below (bY (aq _ _) nq));have b0:r.heap.size<=(W.drewN nq).heap.size:=by simpa using aP
     have b1:=zA (cZ (nw:=r.heap.size) (bY (aq W.heap.size W) nq));have b2:=zA (bY (aq w.heap.size W) nq);have b4:Aside0 (∀k,k≠go->(W.drewN nq).heap[k]? =W.heap[k]?):=⟨fun k _=>by simp⟩;clear z3 z4 z5 fn;have z5:=I.out.wV u aS;have z6:=I.out.j4 u aS;generalize W.drewN nq=Wq at I J5 J6 b0 b1 b2 b4 z5 z6⊢;obtain⟨g1,g2,g3,g4⟩:=I.out.ld;obtain⟨n1,n2,n3,n4,n5⟩:=I.out.ne;have i:=zA (I.out.wT u (rd a v+1));have fr:wr.heap.size≠go:=by omega
     have ft:=zA (aD (p:=⟨go,u,none⟩) J5.out fr (.int .i64 (rd a v+1)));have fv:Aside0 (cK (b3+3) b ds (Wq.setCell ⟨go,u,none⟩ (.int .i64 (rd a v+1)))):=⟨by
      obtain⟨inner,ho⟩:=Kd.jK I.out.ro;obtain⟨cells,hc⟩:=jJ ho go rfl;exact J6.out.set (p:=⟨go,u,none⟩) hc _⟩
     have f2:r.heap.size<=(Wq.setCell ⟨go,u,none⟩ (.int .i64 (rd a v+1))).heap.size:=by simpa using b0
     have f3:=zA (b1.out.trans (eO (bo:=go) (j:=u) Wq (.int .i64 (rd a v+1)) (show go<r.heap.size by omega)));have f4:Aside0 (∀k,k≠go->(Wq.setCell ⟨go,u,none⟩ (.int .i64 (rd a v+1))).heap[k]? =W.heap[k]?):=⟨fun k hk=>(Below.heap_setCell _ _ _ _ hk).trans (b4.out k hk)⟩;have f5:Aside0 (∀k,(Wq.setCell ⟨go,u,none⟩ (.int .i64 (rd a v+1))).heap.size<=k->k≠go/\(k<wr.heap.size\/wr.heap.size+3<=k)):=⟨fun k hk=>by
      simp only[World.size_setCell] at hk;omega⟩
     have f6:Aside0 (((Q'.map fun x:Nat=>(x:Int)).length+1)*8<=140737488355328):=⟨by
      have h1:=S.out;have z:=HK.out.1;have h3:=HK.out.2;rw[List.length_cons] at z;rw[List.length_map];omega⟩
     have f7:=zA (Below.setCell (p:=⟨go,u,none⟩) b2.out g4 (.int .i64 (rd a v+1)));have z4:=i.out.c4;have hX:go≠b3+1+1:=n3;clear G I5 I6 I J5 J6 b0 b1 b2 b4 aP O ar av aB;gi_wp2_with (gi_at_builtin;go_loud (refine wR (Kd.int .i64) (w0:=w) w.heap.size rfl (.tmp 51) (.tmp 53) 25 3 (.int .i64 0) 8 rfl Tryz.underlying25 gB rfl (by decide) (by omega) qv' (Q'.map fun x:Nat=>(x:Int)) (u:Int) [.int .i64 u] (fun k=>k≠go/\(k<wr.heap.size\/wr.heap.size+3<=k)) (fun _=>False) rfl (by rw[World.size_setCell];rfl) rfl (fun _ hk=>hk.elim) f5.out i.out.rq i.out.hb i.out.hb.size f6.out ?_;intro v1 hY T c7 a0 f8;obtain⟨A1,c1,bv, -⟩:=Kd.n9 T;obtain⟨nx,c9⟩:∃nx,nx=((Q'.map fun x:Nat=>(x:Int))++[(u:Int)]).length:=⟨_,rfl⟩;rw[<-c9] at bv;clear c9;subst bv;have f9:=zA (i.out.push T a0 c7);have X4:=zA (da i.out.x4 a0 (fun e=>(i.out.own _ e.symm).2.2.2.2 rfl));have eb:=cY X4.out;have h7:=bt X4.out 0;have f':=zA a0;clear T a0 f8 c7))
     have U:=f'.out;have T:=i.out.own;have Y:∀k,(k=wr.heap.size\/k=wr.heap.size+1\/k=wr.heap.size+1+1\/k=g)->some k≠qv'.ownBlock:=fun k hk e=>by
      have:=T k e.symm;rcases hk with rfl|rfl|rfl|rfl<;>omega
     have h8:=U.size;refine⟨(f3.out.trans (wS i.out.rq U)).trans (eO _ _ (show b3+1+1<r.heap.size by omega)),⟨fun _=>Below.setCell (p:=⟨b3+1+1,0,none⟩) (f7.out.grown U i.out.hb.size (fun k e=>(T k e).2.2.1)) n5 _,fun k hk ck=>?_⟩,?_,_,_,Q'++[u],f9.out,?_,?_,aD (da ft.out U (Y _ (.inl rfl))) (show wr.heap.size≠b3+1+1 by omega) _,(fv.out.wQ i.out.rq U).set X4.out _⟩
     ·refine(Below.heap_setCell _ _ _ _ (show k≠b3+1+1 by rcases hk with rfl|rfl|rfl<;>omega)).trans ((U.block k ?_ (Y k (hk.elim (fun h=>.inr (.inl h)) (fun h=>.inr (.inr h))))).trans (f4.out k (by rcases hk with rfl|rfl|rfl<;>omega)))
      have h1:=f2;rcases hk with rfl|rfl|rfl<;>omega
     ·simp only[World.size_setCell];omega
     ·rw[K2.out];exact K4.out
     ·rw[K3.out,List.length_append]
      have h1:=S.out;have z:=jN (a.set u (rd a v+1));rw[K3.out,List.length_set,e6.out] at z;simp only[List.length_cons,List.length_nil];omega
    ·have K4:=zA ((l1 (by omega)).mG (cv.out (fun _=>True)))
     have fd:decide (rd a u<0)=false:=a6 bi;clear l1 l2 O ar av a5 a9 aB;gi_wp2;exact⟨ct.refl _ _,⟨fun _=>aq _ _,fun _ _ _=>rfl⟩,aP,a,qv',Q',G.out,K4.out,S.out,I5.out,I6.out⟩
   case Jn=>
    rintro s' xs W W' _ rfl ⟨P,a,qv',Q',i1,i2,i4,i5,i6⟩ H b6;have G:=zA (i1.bk H (by omega)).free;have I2:=zA (Bf.done i2 (fun x y gc hex=>hex.2 (by rw[<-hex.1];exact gc)));have S:=zA i4;have I6:=zA (i6.bk H (by omega));have gd:=zA b6;have aP:r.heap.size<W'.heap.size:=(Array.getElem?_eq_some_iff.1 b6).1;clear i1 i2 i4 i5 i6 b6;gi_wp2;exact lC.intro (2*(n-b9 a)+Q'.length) (by rw[HK.out.1];have:=S.out;simp only[List.length_cons];omega) (HJ.out _ _ _ ⟨_,_,_,_,_,_,_,_,_,_,_,_,a,qv',Q',_,G,I2,by omega,⟨rfl,by have h1:=S.out;have z:=HK.out.1;have h3:=HK.out.2;rw[List.length_cons] at z;omega⟩,rfl⟩) (r.heap.size+1) (by omega) (I6.out.push (by omega) (by omega) gd.out)
  ·obtain⟨Z,a3⟩:∃Z,Z=Value.slice (some ⟨gq,oq+1,none⟩) (L-1) (cq-1):=⟨_,rfl⟩
   have a4:=zA (a2.out.wU (lo':=wr.heap.size) (hi':=wr.heap.size+3) (qv':=Z) (Q':=rest) (by have h:=cd.out;rw[if_neg eb,show rest.length=L-1 by have:=hf.out;omega] at h;rw[a3];exact h));gi_wp2_with (first|(refine⟨trivial,?_⟩;gi_at_call 194;refine(callsIn_wide.2 (mE g v _)).mono ?_;rintro e w3 ⟨rfl,rfl⟩))
   rw[<-a3];obtain⟨M,aa⟩:∃X,X=(wr.alloc (.cells #[.int .i64 v] 3)).setCell ⟨b3+1+1,0,none⟩ Z:=⟨_,rfl⟩;have ce:Aside0 (M.heap[wr.heap.size]? =some (.cells #[.int .i64 v] 3 (0,0))):=⟨by rw[aa];exact aD d7.out (show wr.heap.size≠b3+1+1 by omega) _⟩;have cf:M.heap.size=wr.heap.size+1:=by rw[aa];simp
   have ch:Aside0 (cK (b3+3) b ds M):=⟨by rw[aa];exact d8.out.set a2.out.x4 _⟩;rw[<-aa] at a4⊢;have Z1:=bc M (.cells #[.pointer (some ⟨g,0,none⟩)] 135);have Z2:=heap_alloc2_new M (.cells #[.pointer (some ⟨g,0,none⟩)] 135) (.cells #[.int .i64 v] 3);rw[cf] at Z1 Z2;have O:=zA ((a4.out.alloc (.cells #[.pointer (some ⟨g,0,none⟩)] 135)).alloc (.cells #[.int .i64 v] 3));have ar:=zA (au (au ce.out (.cells #[.pointer (some ⟨g,0,none⟩)] 135)) (.cells #[.int .i64 v] 3));have av:=zA ((ch.out.below (ao (aq _ _) (.cells #[.pointer (some ⟨g,0,none⟩)] 135))).below (ao (aq _ _) (.cells #[.int .i64 v] 3)));have a5:=zA (au Z1 (.cells #[.int .i64 v] 3));have a9:=zA Z2;have aB:=zA (aE dd.out O.out.hb);have bd:((M.alloc (.cells #[.pointer (some ⟨g,0,none⟩)] 135)).alloc (.cells #[.int .i64 v] 3)).heap.size=wr.heap.size+3:=by simp[cf]
   have e0:=Nat.le_of_eq bd;have e3:=Nat.le_of_eq bd.symm;clear bd;clear d7 d8 a2 cd a4 ce ch Z1 Z2 aa a3 V x4 ea x3 cc hg g9 g' he hl;generalize (M.alloc (.cells #[.pointer (some ⟨g,0,none⟩)] 135)).alloc (.cells #[.int .i64 v] 3)=r at O ar av a5 a9 aB e0 e3⊢;refine iz (σ:=Unit) (α:=Int×Int) (F:=Fence.wide) (n:=10) rfl (by decide) (gf:=207) (lb:=#[.pointer (some ⟨wr.heap.size+1,0,none⟩),.pointer (some ⟨wr.heap.size+1+1,0,none⟩)]) rfl trivial (enters_of Tryz.func207 (by kernel_rfl) rfl)
    (fun o=>rK (wr.heap.size+1) (wr.heap.size+1+1) g n A0 c0 E q dv sv er v w _ ge HE.out hn a1 (ao (ao O.out.hb _) _) (au (au a5.out _) _) (au (au a9.out _) _) (au (au aB.out _) _)) (fun _=>rfl)
    (fun _=>True) ?Ji ?st2 ?Jy
    (fun _ pre W=>r.heap.size<=W.heap.size/\∃(a:List Int) (qv':Value) (Q':List Nat),DI w b3 (b3+1+1) go co n wr.heap.size (wr.heap.size+3) a qv' Q' W/\Bf n q (lF E) a Q' (rd a v) (pE v pre)/\2*(n-b9 a)+Q'.length<=2*(n-b9 out)+rest.length/\W.heap[wr.heap.size]? =some (.cells #[.int .i64 v] 3 (0,0))/\cK (b3+3) b ds W) (fun _ _ _ _=>False)
    ?Jr (fun _ _ _ _ _ _ h _=>h) ?Js (fun _ _ _ _ _ h _=>h) ?Jk ?Jq ?a12 ?Jl ?Ju ?Jj (fun _ _ _ _ _ _ _ h=>h.elim)
   case Jl=>
    intro l x W K Y;gi_wp2;exact Y
   case Ji=>
    intro o s W1 h;exact⟨trivial,by rw[h];exact ct.refl _ _⟩
   case st2=>intro s A B _ h;exact cZ h
   case Jy=>intro s x A B _ h;exact cZ h.2
   case Jr=>
    rintro s pre A B _ ⟨P,a,qv',Q',h1,z,h4,h5,h6⟩ N;exact⟨Nat.le_trans P N.size,a,qv',Q',h1.below N,z,h4,aE h5 N,h6.below N⟩
   case Js=>
    rintro s pre A B ⟨P,a,qv',Q',h1,z,h4,h5,h6⟩ aF;exact⟨by rw[aF.size];exact P,a,qv',Q',h1.bk aF (by omega),z,h4,aF.cells h5,h6.bk aF (by omega)⟩
   case Jk=>
    intro s A B C D aL ci cj;refine⟨fun aY=>((aL.below w.heap.size (by omega)).trans (ci.1 (by rw[aL.size];exact aY))).trans (cj.below w.heap.size (by omega)),fun k hk ck=>?_⟩;have cl:k≠r.heap.size+1:=by rcases hk with rfl|rfl|rfl<;>omega
    exact(cj.heap k cl).trans ((ci.2 k hk (by rw[aL.size];exact ck)).trans (aL.heap k cl))
   case Jq=>
    rintro o s W1 rfl;exact⟨by simp;omega,out,Z,rest,(O.out.alloc _).alloc _,hh.out.mG (fun x y h=>⟨h,by simp⟩),aI _,au (au ar.out _) _,(av.out.below (ao (aq _ _) _)).below (ao (aq _ _) _)⟩
   case Ju=>
    rintro l s' pre ⟨u,m⟩ Wb Wc W _ ⟨P,a,qv',Q',i1,i2,i4,i5,i6⟩ ⟨⟨cn,e4⟩,ab⟩ e5 H;have G:=zA ((i1.below ab).bk H (by omega));have S:=zA i4;have I5:=zA (H.cells (aE i5 ab));have I6:=zA ((i6.below ab).bk H (by omega));have aP:r.heap.size<=W.heap.size:=by have:=H.size;have:=ab.size;omega
    clear i1 i4 i5 i6 ab H e5 P;simp only at cn;obtain⟨u0,u1,m0,m1⟩:=cn;obtain⟨u,rfl⟩:=Int.eq_ofNat_of_zero_le u0;have aS:u<n:=by omega
    obtain⟨l1,l2⟩:=Bf.look (ex:=fun y=>¬∃m,((y:Int),m)∈pre) i2 aS a1 ⟨m,e4⟩;have hN:=i2.d0;have hO:rd a v<=1000:=by have h1:=i2.hi v a1;have z:=jN a;have h3:=i2.len;omega
    have e6:=zA i2.len;have z3:=G.out.c3;have z4:=G.out.j4 u aS;have cs:∀(ex:Nat->Prop) (x y:Nat),(x=v/\(¬∃m,((y:Int),m)∈pre)/\y≠u)->pE v (pre++[((u:Int),m)]) x y:=fun ex x y h=>⟨h.1,fun⟨m',ag⟩=>by
     rcases List.mem_append.1 ag with ag|ag
     ·exact h.2.1 ⟨m',ag⟩
     ·have:=List.mem_singleton.1 ag
      injection this with e1 e2
      exact h.2.2 (by omega)⟩
    have cv:=zA cs;clear cs i2;by_cases bi:rd a u<0
    ·obtain⟨k1,k2,k3,k4⟩:=l2 bi
     have K2:=zA k2;have K3:=zA k3;have K4:=zA (k4.mG (cv.out (fun _=>True)));have fd:decide (rd a u<0)=true:=az bi;clear l1 l2 k1 k2 k3 k4;gi_wp2;have z3:=G.out.c3;have z4:=G.out.j4 v a1;have z5:=(aj I5.out 0).trans rfl;have fn:wrap64 (rd a v+1)=rd a v+1:=by unfold wrap64;omega
     have hQ:(0:Int)<=(u:Int):=by omega
     have hT:(0:Int)<=(v:Int):=by omega
     have bv:(v:Int)<(n:Int):=by omega
     refine pw [_,_,_,_,_,_,_,_] _ rfl (by kernel_rfl) rfl (by kernel_rfl) (by kernel_rfl) (by kernel_rfl) (by kernel_rfl) ?_;repeat(gi_big_quiet_step (fail))
     refine wpQuietIn_nil ?_;rintro _ ⟨nq,rfl⟩;have I:=zA (G.out.drewN nq);have J5:=zA (iM I5.out nq);have J6:=zA (I6.out.below (bY (aq _ _) nq));have b0:r.heap.size<=(W.drewN nq).heap.size:=by simpa using aP
     have b1:=zA (cZ (nw:=r.heap.size) (bY (aq W.heap.size W) nq));have b2:=zA (bY (aq w.heap.size W) nq);have b4:Aside0 (∀k,k≠go->(W.drewN nq).heap[k]? =W.heap[k]?):=⟨fun k _=>by simp⟩;clear z3 z4 z5 fn;have z5:=I.out.wV u aS;have z6:=I.out.j4 u aS;generalize W.drewN nq=Wq at I J5 J6 b0 b1 b2 b4 z5 z6⊢;obtain⟨g1,g2,g3,g4⟩:=I.out.ld;obtain⟨n1,n2,n3,n4,n5⟩:=I.out.ne;have i:=zA (I.out.wT u (rd a v+1));have fr:wr.heap.size≠go:=by omega
     have ft:=zA (aD (p:=⟨go,u,none⟩) J5.out fr (.int .i64 (rd a v+1)));have fv:Aside0 (cK (b3+3) b ds (Wq.setCell ⟨go,u,none⟩ (.int .i64 (rd a v+1)))):=⟨by
      obtain⟨inner,ho⟩:=Kd.jK I.out.ro;obtain⟨cells,hc⟩:=jJ ho go rfl;exact J6.out.set (p:=⟨go,u,none⟩) hc _⟩
     have f2:r.heap.size<=(Wq.setCell ⟨go,u,none⟩ (.int .i64 (rd a v+1))).heap.size:=by simpa using b0
     have f3:=zA (b1.out.trans (eO (bo:=go) (j:=u) Wq (.int .i64 (rd a v+1)) (show go<r.heap.size by omega)));have f4:Aside0 (∀k,k≠go->(Wq.setCell ⟨go,u,none⟩ (.int .i64 (rd a v+1))).heap[k]? =W.heap[k]?):=⟨fun k hk=>(Below.heap_setCell _ _ _ _ hk).trans (b4.out k hk)⟩;have f5:Aside0 (∀k,(Wq.setCell ⟨go,u,none⟩ (.int .i64 (rd a v+1))).heap.size<=k->k≠go/\(k<wr.heap.size\/wr.heap.size+3<=k)):=⟨fun k hk=>by
      simp only[World.size_setCell] at hk;omega⟩
     have f6:Aside0 (((Q'.map fun x:Nat=>(x:Int)).length+1)*8<=140737488355328):=⟨by
      have h1:=S.out;have z:=HK.out.1;have h3:=HK.out.2;rw[List.length_cons] at z;rw[List.length_map];omega⟩
     have f7:=zA (Below.setCell (p:=⟨go,u,none⟩) b2.out g4 (.int .i64 (rd a v+1)));have z4:=i.out.c4;have hX:go≠b3+1+1:=n3;clear G I5 I6 I J5 J6 b0 b1 b2 b4 aP O ar av aB;gi_wp2_with (gi_at_builtin;go_loud (refine wR (Kd.int .i64) (w0:=w) w.heap.size rfl (.tmp 51) (.tmp 53) 25 3 (.int .i64 0) 8 rfl Tryz.underlying25 gB rfl (by decide) (by omega) qv' (Q'.map fun x:Nat=>(x:Int)) (u:Int) [.int .i64 u] (fun k=>k≠go/\(k<wr.heap.size\/wr.heap.size+3<=k)) (fun _=>False) rfl (by rw[World.size_setCell];rfl) rfl (fun _ hk=>hk.elim) f5.out i.out.rq i.out.hb i.out.hb.size f6.out ?_;intro v1 hY T c7 a0 f8;obtain⟨A1,c1,bv, -⟩:=Kd.n9 T;obtain⟨nx,c9⟩:∃nx,nx=((Q'.map fun x:Nat=>(x:Int))++[(u:Int)]).length:=⟨_,rfl⟩;rw[<-c9] at bv;clear c9;subst bv;have f9:=zA (i.out.push T a0 c7);have X4:=zA (da i.out.x4 a0 (fun e=>(i.out.own _ e.symm).2.2.2.2 rfl));have eb:=cY X4.out;have h7:=bt X4.out 0;have f':=zA a0;clear T a0 f8 c7))
     have U:=f'.out;have T:=i.out.own;have Y:∀k,(k=wr.heap.size\/k=wr.heap.size+1\/k=wr.heap.size+1+1\/k=g)->some k≠qv'.ownBlock:=fun k hk e=>by
      have:=T k e.symm;rcases hk with rfl|rfl|rfl|rfl<;>omega
     have h8:=U.size;refine⟨(f3.out.trans (wS i.out.rq U)).trans (eO _ _ (show b3+1+1<r.heap.size by omega)),⟨fun _=>Below.setCell (p:=⟨b3+1+1,0,none⟩) (f7.out.grown U i.out.hb.size (fun k e=>(T k e).2.2.1)) n5 _,fun k hk ck=>?_⟩,?_,_,_,Q'++[u],f9.out,?_,?_,aD (da ft.out U (Y _ (.inl rfl))) (show wr.heap.size≠b3+1+1 by omega) _,(fv.out.wQ i.out.rq U).set X4.out _⟩
     ·refine(Below.heap_setCell _ _ _ _ (show k≠b3+1+1 by rcases hk with rfl|rfl|rfl<;>omega)).trans ((U.block k ?_ (Y k (hk.elim (fun h=>.inr (.inl h)) (fun h=>.inr (.inr h))))).trans (f4.out k (by rcases hk with rfl|rfl|rfl<;>omega)))
      have h1:=f2;rcases hk with rfl|rfl|rfl<;>omega
     ·simp only[World.size_setCell];omega
     ·rw[K2.out];exact K4.out
     ·rw[K3.out,List.length_append]
      have h1:=S.out;have z:=jN (a.set u (rd a v+1));rw[K3.out,List.length_set,e6.out] at z;simp only[List.length_cons,List.length_nil];omega
    ·have K4:=zA ((l1 (by omega)).mG (cv.out (fun _=>True)))
     have fd:decide (rd a u<0)=false:=a6 bi;clear l1 l2 O ar av a5 a9 aB;gi_wp2;exact⟨ct.refl _ _,⟨fun _=>aq _ _,fun _ _ _=>rfl⟩,aP,a,qv',Q',G.out,K4.out,S.out,I5.out,I6.out⟩
   case Jj=>
    rintro s' xs W W' _ rfl ⟨P,a,qv',Q',i1,i2,i4,i5,i6⟩ H b6;have G:=zA (i1.bk H (by omega)).free;have I2:=zA (Bf.done i2 (fun x y gc hex=>hex.2 (by rw[<-hex.1];exact gc)));have S:=zA i4;have I6:=zA (i6.bk H (by omega));have gd:=zA b6;have aP:r.heap.size<W'.heap.size:=(Array.getElem?_eq_some_iff.1 b6).1;clear i1 i2 i4 i5 i6 b6;gi_wp2;exact lC.intro (2*(n-b9 a)+Q'.length) (by rw[HK.out.1];have:=S.out;simp only[List.length_cons];omega) (HJ.out _ _ _ ⟨_,_,_,_,_,_,_,_,_,_,_,_,a,qv',Q',_,G,I2,by omega,⟨rfl,by have h1:=S.out;have z:=HK.out.1;have h3:=HK.out.2;rw[List.length_cons] at z;omega⟩,rfl⟩) (r.heap.size+1) (by omega) (I6.out.push (by omega) (by omega) gd.out)
end
section
attribute [local go_sem] jq jr js jt l4 l5 l6 l7
def gv (xs:List Int):Nat->Int
 |0=>rd xs 0
 |k+1=>if gv xs k<rd xs ((k+1:Nat):Int) then rd xs ((k+1:Nat):Int) else gv xs k
theorem Ff (A:Option Addr) (c:Nat) (xs:List Int) (w:World) (h:Kd.C (Kd.int .i64) w A xs.length xs) (h1:1<=xs.length):
  Calls Tryz.prog 167 #[.slice A xs.length c] w fun e w'=>e= .returned (.int .i64 (gv xs (xs.length-1)))/\Below w.heap.size w w':=by
 have v:xs.length<=9223372036854775807:=Kd.mM h;have b:=zA (aq w.heap.size w);have m:=zA h;obtain⟨a,n,g⟩:=Kd.bU h 0 (by omega) (by omega);subst n;have g:w.cell? a=some (.int .i64 (rd xs 0)):=by simpa [Addr.add] using g
 have x:(1:Int)<=(xs.length:Int):=by omega
 have B:((xs.length:Nat):Int)<=9223372036854775807:=by omega
 clear h;go_enter Tryz.func167,Tryz.ntmps167
 go_wp2;clear g;go_loopg [3,4] (xs.length-1) (fun o p q wr=>∃i:Nat,p= .int .i64 (gv xs (i-1))/\q= .int .i64 i/\1<=i/\i<=xs.length/\Aside0 (Below w.heap.size w wr)/\Aside0 (o=xs.length-i))
 case atStart=>exact⟨1,rfl,rfl,aI _,h1,b,⟨rfl⟩⟩
 case round=>
  clear b;obtain⟨i,rfl,rfl,D,E,b,r⟩:=hrel;by_cases F:i<xs.length
  ·have s:(0:Int)<=(i:Int):=by omega
   have u:(i:Int)<(xs.length:Int):=by omega
   obtain⟨a',k,g⟩:=Kd.bU (Kd.aw m.out b.out) (i:Int) s u;injection k with k
   subst k;rw[aM] at g;have l:Aside0 (gv xs (i+1-1)=if gv xs (i-1)<rd xs (i:Int) then rd xs (i:Int) else gv xs (i-1)):=⟨by
    obtain⟨j,rfl⟩:∃j,i=j+1:=⟨i-1,by omega⟩;rfl⟩
   generalize gv xs (i-1)=y at l⊢;generalize rd xs (i:Int)=z at g l;go_wp2
   all_goals
    go_roundg (xs.length- (i+1))
    case measure=>rw[r.out];omega
    case rel=>exact⟨i+1,(by rw[l.out];first|rw[if_pos (by assumption)]|rw[if_neg (by assumption)]|rw[if_neg (by omega)]),by go_num,by omega,by omega,b,⟨rfl⟩⟩
  ·obtain rfl:i=xs.length:=by omega
   go_wp2;go_ret;exact⟨rfl,b.out⟩
end
section
attribute [local go_sem] Oper.semAt_some
theorem Fg (g n:Nat) (A0:Option Addr) (c0:Nat) (E:List S83) (q:Int) (dv Q:Value) (R:Int) (v:Nat) (lb:Array Value) (B:Nat->Bool) (w:World) (aa:Kd.C aN w A0 E.length E) (hE:ep n E) (hn:n<=1000) (hv:v<n) (i:ic w g n (.slice A0 E.length c0) q dv Q R)
  (hB:∀(W:World) (u:Int),Below w.heap.size w W->0<=u->u<n->Calls Tryz.prog 169 (#[.int .i64 u]++lb) W fun e w'=>e= .returned (.bool (B u.toNat))/\Below W.heap.size W w'):
  Calls Tryz.prog 168 #[.pointer (some ⟨g,0,none⟩),.int .i64 v,.func (.func 169) #[] lb] w fun e w'=>e= .returned (.int .i64 (ef B (cE E v E.length)))/\Below w.heap.size w w':=by
 have a9:=zA hB;have HE:=zA hE;have ag:=zA i;clear hB hE i;refine(callsIn_wide (n:=10)).1 ?_;refine callsIn_of_wp_marks Tryz.func168 rfl trivial ?_ rfl;simp only[Tryz.ntmps168,List.size_toArray,List.length_cons,List.length_nil,Nat.reduceAdd,Nat.reduceSub,Array.replicate_succ,Array.replicate_zero,List.push_toArray,List.append_toArray,List.nil_append,List.cons_append];gi_wp2_with (refine⟨trivial,?_⟩;gi_at_call 194;refine(callsIn_wide.2 (mE g v _)).mono ?_;rintro e w3 ⟨rfl,rfl⟩)
 obtain⟨p,ak⟩:∃o:Obj,o= .cells #[.func (.func 169) #[] lb] 121:=⟨_,rfl⟩;obtain⟨on,am⟩:∃o:Obj,o= .cells #[.int .i64 0] 3:=⟨_,rfl⟩;obtain⟨r,an⟩:∃o:Obj,o= .cells #[.pointer (some ⟨g,0,none⟩)] 135:=⟨_,rfl⟩;obtain⟨y,ap⟩:∃o:Obj,o= .cells #[.int .i64 v] 3:=⟨_,rfl⟩;have Z0:=bc w p;have S:=bc (w.alloc p) on;have T:=bc ((w.alloc p).alloc on) r;have U:=bc (((w.alloc p).alloc on).alloc r) y;simp only[World.size_alloc] at S T U;have H0:=zA ((au (au (au Z0 on) r) y).trans (by rw[ak]:_=some (.cells #[.func (.func 169) #[] lb] 121 (0,0))));have H1:=zA ((au (au S r) y).trans (by rw[am]:_=some (.cells #[.int .i64 0] 3 (0,0))));have H2:=zA ((au T y).trans (by rw[an]:_=some (.cells #[.pointer (some ⟨g,0,none⟩)] 135 (0,0))));have H3:=zA (U.trans (by rw[ap]:_=some (.cells #[.int .i64 v] 3 (0,0))));have z:=zA (ao (ao (ao (ao (aq w.heap.size w) p) on) r) y);have aO:Aside0 (ic ((((w.alloc p).alloc on).alloc r).alloc y) g n (.slice A0 E.length c0) q dv Q R):=⟨aE ag.out z.out⟩;have bo:g<w.heap.size:=aA ag.out;have be:=zA (Kd.aw aa z.out);clear Z0 S T U;subst ak am an ap;have bf:=z.out.size;have bg:((((w.alloc (.cells #[.func (.func 169) #[] lb] 121)).alloc (.cells #[.int .i64 0] 3)).alloc (.cells #[.pointer (some ⟨g,0,none⟩)] 135)).alloc (.cells #[.int .i64 v] 3)).heap.size=w.heap.size+4:=by simp
 generalize ((((w.alloc (.cells #[.func (.func 169) #[] lb] 121)).alloc (.cells #[.int .i64 0] 3)).alloc (.cells #[.pointer (some ⟨g,0,none⟩)] 135)).alloc (.cells #[.int .i64 v] 3))=j at H0 H1 H2 H3 z aO be bf bg⊢;refine iz (σ:=Unit) (α:=Int×Int) (F:=Fence.wide) (n:=10) rfl (by decide) (gf:=207) (lb:=#[.pointer (some ⟨w.heap.size+1+1,0,none⟩),.pointer (some ⟨w.heap.size+1+1+1,0,none⟩)]) rfl trivial (enters_of Tryz.func207 (by kernel_rfl) rfl)
  (fun o=>po (w.heap.size+1+1) (w.heap.size+1+1+1) g n A0 c0 E q dv Q R v w _ aa HE.out hn hv (ao (ao z.out _) _) (au (au H2.out _) _) (au (au H3.out _) _) (au (au aO.out _) _)) (fun _=>rfl)
  (fun _=>True) ?en ?st ?ar
  (fun _ pre W=>j.heap.size<=W.heap.size/\W.heap[w.heap.size]? =some (.cells #[.func (.func 169) #[] lb] 121 (0,0))/\W.heap[w.heap.size+1]? =some (.cells #[.int .i64 (ef B pre)] 3 (0,0))/\Below w.heap.size w W) (fun _ _ _ _=>False)
  ?is (fun _ _ _ _ _ _ h _=>h) ?ib (fun _ _ _ _ _ h _=>h) ?kt ?h0 ?a1 ?assign ?body ?done (fun _ _ _ _ _ _ _ h=>h.elim)
 case assign=>
  intro l x W K hK;gi_wp2;exact hK
 case en=>
  intro o s W1 h;exact⟨trivial,by rw[h];exact ct.refl _ _⟩
 case st=>intro s A B _ h;exact cZ h
 case ar=>intro s x A B _ h;exact cZ h.2
 case is=>
  rintro s pre A B _ ⟨H,h1,V,X⟩ i;exact⟨Nat.le_trans H i.size,aE h1 i,aE V i,aZ X i⟩
 case ib=>
  rintro s pre A B ⟨H,h1,V,X⟩ hb;exact⟨by rw[hb.size];exact H,hb.cells h1,hb.cells V,X.trans (hb.below w.heap.size (by omega))⟩
 case kt=>
  intro s A B C D N aP aS;refine⟨fun aY=>((N.below w.heap.size (by omega)).trans (aP.1 (by rw[N.size];exact aY))).trans (aS.below w.heap.size (by omega)),fun k hk I=>?_⟩;have a0:k≠j.heap.size+1:=by rcases hk with rfl|rfl|rfl<;>omega
  exact(aS.heap k a0).trans ((aP.2 k hk (by rw[N.size];exact I)).trans (N.heap k a0))
 case h0=>
  rintro o s W1 rfl;exact⟨by simp;omega,au (au H0.out _) _,au (au H1.out _) _,ao (ao z.out _) _⟩
 case body=>
  rintro l s pre ⟨u,m⟩ Wb W1 W _ ⟨H,i1,i2,i3⟩ ⟨Y,J⟩ bk b;have b1:=zA (b.cells (aE i1 J));have L:=zA (b.cells (aE i2 J));have b3:=zA ((aZ i3 J).trans (b.below w.heap.size (by omega)));have bw:j.heap.size<=W.heap.size:=by have:=b.size;have:=J.size;omega
  clear i1 i2 i3 J b bk;simp only at Y;have bx:W.cell? ⟨w.heap.size,0,none⟩=some (.func (.func 169) #[] lb):=(aj b1.out 0).trans rfl;have O:=zA (a9.out W u b3.out Y.1 Y.2.1);have M:=zA (rM B pre (u,m));generalize ef B pre=s0 at L M;cases P:B u.toNat with
  |true=>
   rw[P] at O M;clear P;gi_wp2_with (refine⟨trivial,?_⟩;gi_at_call 169;refine(callsIn_wide.2 O.out).mono ?_;rintro e w5 ⟨rfl,G⟩;have a:=zA G;have Z:=zA (aE L.out G);have c5:w5.cell? ⟨w.heap.size+1,0,none⟩=some (.int .i64 s0):=(aj Z.out 0).trans rfl;have f5:=bt Z.out 0;clear G)
   have aY:=a.out.size;refine⟨(cZ a.out).trans (eO _ _ (by show w.heap.size+1<j.heap.size;omega)),⟨fun aY=>Below.setCell (a.out.mono aY) (by show w.heap.size<=w.heap.size+1;omega) _,fun k hk I=>?_⟩,by simp;omega,?_,?_,Below.setCell (aZ b3.out a.out) (by show w.heap.size<=w.heap.size+1;omega) _⟩
   ·rw[Below.heap_setCell _ _ _ _ (by rcases hk with rfl|rfl|rfl<;>(show _≠w.heap.size+1)<;>omega)]
    exact a.out.block k I
   ·rw[Below.heap_setCell _ _ _ _ (by show w.heap.size≠w.heap.size+1;omega)]
    exact aE b1.out a.out
   ·have h:=bQ Z.out 0 (.int .i64 (wrap64 (s0+m)))
    rw[M.out];simpa using h
  |false=>
   rw[P] at O M;clear P;gi_wp2_with (refine⟨trivial,?_⟩;gi_at_call 169;refine(callsIn_wide.2 O.out).mono ?_;rintro e w5 ⟨rfl,G⟩;have a:=zA G;clear G)
   have aY:=a.out.size;exact⟨cZ a.out,⟨fun aY=>a.out.mono aY,fun k hk I=>a.out.block k I⟩,by omega,aE b1.out a.out,by rw[M.out];exact aE L.out a.out,aZ b3.out a.out⟩
 case done=>
  rintro s xs W W' _ rfl ⟨H,i1,i2,i3⟩ b a3;have L:=zA (b.cells i2);have b3:=zA (i3.trans (b.below w.heap.size (by omega)));have a4:=zA a3;clear i1 i2 i3 a3;have hc:W'.cell? ⟨w.heap.size+1,0,none⟩=some (.int .i64 (ef B (cE E v E.length))):=(aj L.out 0).trans rfl;gi_wp2_with fail
  have bn:Bk j.heap.size W' (W'.putObj j.heap.size (.deferred none)):=⟨_,_,a4.out,rfl,rfl⟩;exact iW (D:=j.heap.size) rfl a4.out (results_tmp rfl _ _ _) ⟨rfl,b3.out.trans (bn.below w.heap.size (by omega))⟩
end
section
attribute [local go_sem] Oper.semAt_some jq jr js jt
theorem Fh (gb a cr n:Nat) (B:Nat->Bool) (ok:Nat->Prop) (base:Nat) (W:World) (u:Int) (hb:W.heap[gb]? =some (.cells #[.slice (some ⟨a,0,none⟩) n cr] 43 (0,0))) (g:Kd.bool.R 4 W base ok (.slice (some ⟨a,0,none⟩) n cr) ((List.range n).map B)) (h:0<=u) (hn:u<n):
  Calls Tryz.prog 169 #[.int .i64 u,.pointer (some ⟨gb,0,none⟩)] W fun e w'=>e= .returned (.bool (B u.toNat))/\Below W.heap.size W w':=by
 have b0:W.cell? ⟨gb,0,none⟩=some (.slice (some ⟨a,0,none⟩) n cr):=(aj hb 0).trans rfl;have b:=(Kd.b7 false g u h hn).1;have e:bW false ((List.range n).map B) u=B u.toNat:=by
  obtain⟨m,rfl⟩:=Int.eq_ofNat_of_zero_le h;have:m<n:=by omega
  simp[bW,a7,List.getElem?_map,List.getElem?_range this]
 rw[e] at b;have b:W.cell? ⟨a,u.toNat,none⟩=some (.bool (B u.toNat)):=b;clear g hb e;go_enter Tryz.func169,Tryz.ntmps169
 go_wp2;go_ret;exact⟨rfl,aq _ _⟩
theorem Fi (A:Option Addr) (c n:Nat) (xs:List Int) (w:World) (a:xs.length=n) (b:Kd.C (Kd.int .i64) w A xs.length xs) (h1:1<=n):
  Calls Tryz.prog 167 #[.slice A n c] w fun e w'=>e= .returned (.int .i64 (gv xs (n-1)))/\Below w.heap.size w w':=by
 subst a;exact Ff A c xs w b h1
theorem wW (xs:List Int):∀k i:Nat,i<=k->rd xs (i:Int)<=gv xs k
 |0,i,h=>by
  obtain rfl:i=0:=by omega
  exact Int.le_refl _
 |k+1,i,h=>by
  unfold gv;by_cases e:i=k+1
  ·subst e;split<;>omega
  ·have:=wW xs k i (by omega)
   split<;>omega
theorem wX (xs:List Int):∀k:Nat,∃i,i<=k/\gv xs k=rd xs (i:Int)
 |0=>⟨0,aI _,rfl⟩
 |k+1=>by
  unfold gv;split
  ·exact⟨k+1,aI _,rfl⟩
  ·obtain⟨i,h1,a⟩:=wX xs k
   exact⟨i,by omega,a⟩
structure Fj (n q:Nat) (t:Nat->Nat->Int) (out:List Int):Prop where
 len:out.length=n
 q0:rd out (q:Int)=0
 pos:∀v:Nat,v<n->0<=rd out (v:Int)/\rd out (v:Int)<n
 wY:∀u v:Nat,u<n->v<n->0<t u v->rd out (v:Int)<=rd out (u:Int)+1
 back:∀v:Nat,v<n->v≠q->∃u:Nat,u<n/\0<t v u/\rd out (u:Int)+1=rd out (v:Int)
theorem rZ {n:Nat} {E:List S83} (h:br n E) {u v:Nat} (hu:u<n) (g:v<n):lF E v u↔0<af E v u:=by
 have h1:∀L:List (Int×Int),(∀x∈L,0<=x.1/\x.1<n/\x.1≠v/\1<=x.2/\x.2<=50)->0<=dL (fun w=>if w=u then 1 else 0) L/\(0<dL (fun w=>if w=u then 1 else 0) L↔∃m,((u:Int),m)∈L):=by
  intro L;induction L with
  |nil=>intro _;simp[dL]
  |cons x L i=>
   intro a;obtain⟨i1,i2⟩:=i (fun y j=>a y (List.mem_cons_of_mem _ j));have k:=a x (List.mem_cons_self ..);simp only[dL];by_cases e:x.1.toNat=u
   ·rw[if_pos e,Int.mul_one]
    refine⟨by omega,fun _=>⟨x.2,?_⟩,fun _=>by omega⟩;have:x=((u:Int),x.2):=by rw[<-e];ext<;>simp;omega
    rw[<-this];exact List.mem_cons_self ..
   ·rw[if_neg e,Int.mul_zero,Int.zero_add]
    refine⟨i1,fun h=>?_,fun⟨m,hm⟩=>?_⟩
    ·obtain⟨m,hm⟩:=i2.1 h
     exact⟨m,List.mem_cons_of_mem _ hm⟩
    ·rcases List.mem_cons.1 hm with rfl|hm
     ·exact absurd (show ((u:Int)).toNat=u by simp) e
     ·exact i2.2 ⟨m,hm⟩
 have b:=h1 _ (py h E.length (aI _) (v:=v));rw[px h _ g,T.jM hu (fun w _ hw=>by rw[if_neg hw,Int.mul_zero]),if_pos rfl,Int.mul_one] at b;exact b.2.symm
theorem Bf.dst {n q:Nat} {E:List S83} (h:br n E) (m:T.du n (af E)) (o:q<n) {out:List Int} {D:Int} (hb:Bf n q (lF E) out [] D (fun _ _=>False)):Fj n q (af E) out:=by
 have i:∀v:Nat,v<n->0<=rd out (v:Int):=by
  intro v e;refine Classical.byContradiction fun p=>?_
  obtain⟨a,b,k,l,h1,g,j⟩:=m (fun v=>decide (0<=rd out (v:Int))) ⟨q,o,by simp[hb.q0]⟩ ⟨v,e,by simpa using p⟩;have:=hb.kD a k (ay h1) (by simp) b l ((rZ h l k).2 j) (fun f=>f);exact(of_decide_eq_false g) this.1
 refine⟨hb.len,hb.q0,fun v e=>⟨i v e,?_⟩,fun u v hu e r=>(hb.kD u hu (i u hu) (by simp) v e ((rZ h e hu).2 r) (fun f=>f)).2,fun v e s=>?_⟩
 ·have h1:=hb.hi v e
  have g:=jN out;rw[hb.len] at g;omega
 ·obtain⟨u,hu,h1,g,j⟩:=hb.back v e s (i v e)
  exact⟨u,hu,by rw[h.wt.sym];exact(rZ h e hu).1 h1,j⟩
structure LI (w0 w:World) (g gd gs go cd cs co n:Nat) (A0:Option Addr) (c0:Nat) (E:List S83) (q:Int) (out d s:List Int) (W:World):Prop where
 si:SI w0 g gd gs cd cs n A0 c0 E q d s W
 fo:(Kd.int .i64).R 3 W w.heap.size (fun _=>True) (.slice (some ⟨go,0,none⟩) n co) out
 hw:w0.heap.size<=w.heap.size/\gd<w.heap.size/\gs<w.heap.size/\g<w.heap.size/\w.heap.size<=go
namespace LI
variable {w0 w W W':World} {g gd gs go cd cs co n c0 l:Nat} {A0:Option Addr} {E:List S83} {q:Int} {out d s:List Int}
theorem below (h:LI w0 w g gd gs go cd cs co n A0 c0 E q out d s W) (hb:Below W.heap.size W W'):LI w0 w g gd gs go cd cs co n A0 c0 E q out d s W':=⟨h.si.below hb,Kd.cT h.fo hb,h.hw⟩
theorem alloc (h:LI w0 w g gd gs go cd cs co n A0 c0 E q out d s W) (o:Obj):LI w0 w g gd gs go cd cs co n A0 c0 E q out d s (W.alloc o):=h.below (ao (aq _ _) o)
theorem drewN (h:LI w0 w g gd gs go cd cs co n A0 c0 E q out d s W) (m:Nat):LI w0 w g gd gs go cd cs co n A0 c0 E q out d s (W.drewN m):=h.below (bY (aq _ _) m)
theorem drew (h:LI w0 w g gd gs go cd cs co n A0 c0 E q out d s W):LI w0 w g gd gs go cd cs co n A0 c0 E q out d s W.drew:=h.drewN 1
theorem iC (h:LI w0 w g gd gs go cd cs co n A0 c0 E q out d s W) (p:Addr) (v:Value) (a:w.heap.size<=p.block) (h1:p.block≠go):LI w0 w g gd gs go cd cs co n A0 c0 E q out d s (W.setCell p v):=
 ⟨h.si.iC p v (by have:=h.hw;omega) (by have:=h.hw;omega),Kd.bb (Kd.fB (Kd.gS rfl h.fo) (fun k hk=>Below.heap_setCell _ _ _ _ (fun e=>h1 (by rw[<-e];injection hk)))) (fun _ _=>trivial),h.hw⟩
theorem j4 (h:LI w0 w g gd gs go cd cs co n A0 c0 E q out d s W) (v:Nat) (a:v<n):W.cell? ⟨go,v,none⟩=some (.int .i64 (rd out v)):=by
 have:=(Kd.b7 0 h.fo (v:Int) (by omega) (by omega)).1;rw[aM] at this;exact this
theorem Fk (h:LI w0 w g gd gs go cd cs co n A0 c0 E q out d s W) {d' s':List Int} (a:SI w0 g gd gs cd cs n A0 c0 E q d' s' W') (hk:∀k,k<W.heap.size->k≠gd->k≠gs->W'.heap[k]? =W.heap[k]?):LI w0 w g gd gs go cd cs co n A0 c0 E q out d' s' W':=
 ⟨a,Kd.bb (Kd.fB (Kd.gS rfl h.fo) (fun k e=>by
  injection e with e
  subst e;have h1:=h.hw;exact hk _ (Kd.a_ h.fo _ rfl) (by omega) (by omega))) (fun _ _=>trivial),h.hw⟩
end LI
theorem Fl (g gd gs cd cs n:Nat) (A0:Option Addr) (c0:Nat) (E:List S83) (q:Nat) (d:List Int) (w0 w:World) (am:Kd.C aN w0 A0 E.length E) (hE:br n E) (hl:E.length<=1000) (hC:fl n E) (hn:n<=12) (hq:q<n) (Z:T.sN (T.val n (af E)) n<=19)
  (hd:∀v:Nat,v<n-> -200<=rd d v/\rd d v<=200) (be:d.length=n) (h:SI w0 g gd gs cd cs n A0 c0 E q d (List.replicate n 0) w):
  Calls Tryz.prog 110 #[.pointer (some ⟨g,0,none⟩)] w fun e w'=>e= .returned (.tuple #[])/\∃(d' s':List Int),d'.length=n/\s'.length=n/\SI w0 g gd gs cd cs n A0 c0 E q d' s' w'/\(∀v:Nat,v<n->v≠q->0<=rd d' v)/\∃dist:Nat->Int,T.fp n (af E) (fun v=>rd d (v:Nat)) dist 200 0 (fun v=>rd d' (v:Nat)) (fun v=>rd s' (v:Nat)):=by
 have e5:=Tryz.underlying188;have hu:=Tryz.underlying24;have o:=zA hE;have HC:=zA hC;have HD:=zA hd;have bf:=h.hb.size;obtain⟨q1,q2,q3,q4,q5⟩:=h.ld;have HS:=zA h;have c6:1<=n:=by omega
 clear hE hC hd h;go_enter Tryz.func110,Tryz.ntmps110
 go_wp2_with (first|(go_at_call 165;refine(Fe g n A0 c0 E q _ _ 0 _ (Kd.aw am HS.out.hb) o.out.jY (by omega) hq HS.out.st).mono ?_;rintro e w1 ⟨go,co,out,D,rfl,hO,K,bg⟩;have s:=zA (Bf.dst o.out (o.out.conn HC.out) hq bg);have ap:Aside0 (LI w0 w g gd gs go cd cs co n A0 c0 E q out d (List.replicate n 0) w1):=⟨HS.out.below K,hO,bf,q1,q2,q3,Kd.dY hO go rfl⟩;clear hO K bg)|(go_at_call 167;refine(Fi _ _ n out _ s.out.len (Kd.aQ ap.out.fo).2.2 c6).mono ?_;rintro e w2 ⟨rfl,K⟩;have L:=zA (ap.out.below K);clear K ap))
 obtain⟨im,c7,c8⟩:=wX out (n-1);obtain⟨G,ar⟩:∃G:Nat,gv out (n-1)=G:=⟨(gv out (n-1)).toNat,by have:=s.out.pos im (by omega);omega⟩;have av:G<=n:=by have:=s.out.pos im (by omega);omega
 have HM:Aside0 (∀v:Nat,v<n->rd out (v:Int)<=G):=⟨fun v l=>by rw[<-ar];exact wW out (n-1) v (by omega)⟩;have bn:Aside0 (T.fp n (af E) (fun v=>rd d (v:Nat)) (fun v=>rd out (v:Nat)) 200 G (fun v=>rd d (v:Nat)) (fun v=>rd (List.replicate n 0) (v:Nat))):=⟨by
  have h:=T.fp.start (n:=n) (t:=af E) (D:=fun v=>rd d (v:Nat)) (dist:=fun v=>rd out (v:Nat)) (B:=200) (k:=G) (by omega) (fun v l=>(HD.out v l).1) HM.out (by omega);rw[show (fun v:Nat=>rd (List.replicate n 0) (v:Int))=fun _=>0 from by
   funext v
   simp[rd,a7,List.getElem?_replicate];split<;>rfl]
  exact h⟩
 rw[ar];clear ar c8 c7;have c9:=zA be;have c':=zA (List.length_replicate (n:=n) (a:=(0:Int)));clear be;go_loopg [4] (G) (fun M kv wr=>∃(k:Nat) (d' s':List Int),kv= .int .i64 k/\k<=n/\Aside0 (LI w0 w g gd gs go cd cs co n A0 c0 E q out d' s' wr)/\Aside0 (d'.length=n)/\Aside0 (s'.length=n)/\Aside0 (T.fp n (af E) (fun v=>rd d (v:Nat)) (fun v=>rd out (v:Nat)) 200 k (fun v=>rd d' (v:Nat)) (fun v=>rd s' (v:Nat)))/\Aside0 (M=k))
 case atStart=>exact⟨G,d,List.replicate n 0,rfl,av,L,c9,c',bn,⟨rfl⟩⟩
 case round=>
  clear L bn HM av HS;obtain⟨k,d',s',rfl,av,b,O,P,I,HK⟩:=hrel;by_cases hk:0<k
  ·have e':(0:Int)<(k:Int):=by omega
   have dk:(0:Int)<=(n:Int):=by omega
   have s5:=b.out.si.f5;have s0:=b.out.si.f0;go_wp2_with (first|((with_reducible refine aJ (N:=33) rfl ?_);refine Kd.kg Kd.bool _ 4 rfl (N:=33) rfl 43 _ _ rfl (n:Int) rfl rfl Tryz.underlying43 (.bool false) 1 mX rfl (by decide) (by omega) false (ok:=fun _=>True) (okp:=fun _=>True) rfl (fun _ hk=>hk) trivial dk (by simp;omega) (aq _ _) (aI _) ?_;intro v1 w5 ho hb ds dv;rw[aM] at ho;obtain⟨j,cr,l,fb,d0, -⟩:=Kd.fK ho (by rw[List.length_replicate];omega);rw[List.length_replicate] at l;subst l;have bv:=zA ho;have bw:=zA (b.out.below hb);clear ho hb ds dv))
   have fd:=Kd.a_ b.out.fo go rfl;have fn:=b.out.si.hb.size;have fq:=b.out.hw;have d1:w.heap.size<=wr.heap.size:=by omega
   have d2:j≠go:=by omega
   have d3:w.heap.size<=j:=by omega
   have ad:=zA (bc w5 (.cells #[.slice (some ⟨j,0,none⟩) n cr] 43));have aF:=zA (Kd.bj (Kd.aR bv.out (.cells #[.slice (some ⟨j,0,none⟩) n cr] 43)) (base':=w.heap.size) d1);have aL:=zA (bw.out.alloc (.cells #[.slice (some ⟨j,0,none⟩) n cr] 43));clear bv bw s5 s0 b;generalize w5.alloc (.cells #[.slice (some ⟨j,0,none⟩) n cr] 43)=W6 at ad aF aL⊢;generalize w5.heap.size=gb at ad d0⊢;have bx:Aside0 (Kd.bool.R 4 W6 w.heap.size (fun _=>True) (.slice (some ⟨j,0,none⟩) n cr) ((List.range n).map fun u:Nat=>if u<0 then decide (rd out (u:Int)<k) else false)):=⟨by
    have h:=aF.out;rw[show (List.replicate n false:List Bool)=(List.range n).map fun u:Nat=>if u<0 then decide (rd out (u:Int)<k) else false from by
     refine List.ext_getElem (by simp) fun i h1 H=>?_
     simp] at h
    exact h⟩
   clear aF;go_loopg [36] (n) (fun M vv aP=>∃v:Nat,v<=n/\vv= .int .i64 v/\Aside0 (LI w0 w g gd gs go cd cs co n A0 c0 E q out d' s' aP)/\Aside0 (aP.heap[gb]? =some (.cells #[.slice (some ⟨j,0,none⟩) n cr] 43 (0,0)))/\Aside0 (Kd.bool.R 4 aP w.heap.size (fun _=>True) (.slice (some ⟨j,0,none⟩) n cr) ((List.range n).map fun u:Nat=>if u<v then decide (rd out (u:Int)<k) else false))/\Aside0 (M=n-v))
   case atStart=>exact⟨0,by omega,rfl,aL,ad,bx,⟨rfl⟩⟩
   case round=>
    clear aL ad bx;obtain⟨v,l,rfl,b,m,Q,J⟩:=hrel;by_cases p:v<n
    ·have d5:(0:Int)<=(v:Int):=by omega
     have d6:(v:Int)<(n:Int):=by omega
     have b0:=cY m.out;have b1:=b.out.j4 v p;obtain⟨S,hf⟩:=Kd.b7 false Q.out (v:Int) (by omega) (by omega);rw[aM] at S hf;generalize bW false ((List.range n).map fun u:Nat=>if u<v then decide (rd out (u:Int)<k) else false) (v:Int)=z at S;replace S:wr.cell? ⟨j,v,none⟩=some (.bool z):=S;have U:=Kd.dt Q.out (v:Int) (decide (rd out (v:Int)<k));rw[aM] at U;have em:(((List.range n).map fun u:Nat=>if u<v then decide (rd out (u:Int)<k) else false).set v (decide (rd out (v:Int)<k)))=(List.range n).map fun u:Nat=>if u<v+1 then decide (rd out (u:Int)<k) else false:=by
      refine List.ext_getElem (by simp) fun i h1 H=>?_
      rw[List.getElem_set];simp only[List.getElem_map,List.getElem_range];by_cases e:v=i
      ·subst e;simp
      ·rw[if_neg e]
       by_cases h:i<v
       ·rw[if_pos h,if_pos (by omega)]
       ·rw[if_neg h,if_neg (by omega)]
     rw[em] at U;have b4:=zA (Kd.bq U.1);have b5:=zA (fA (da (g:=gb) m.out U.2 (fun e=>by injection e with e;omega)));have L:=zA ((b.out.iC ⟨j,v,none⟩ (.bool (decide (rd out (v:Int)<k))) d3 d2).drew);clear U em b m Q;go_wp2;go_region
     clear b0 b1 S hf;generalize (wr.setCell ⟨j,v,none⟩ (.bool (decide (rd out (v:Int)<k)))).drew=W7 at L b5 b4⊢;go_wp2;go_roundg (n- (v+1))
     case measure=>rw[J.out];omega
     case rel=>exact⟨v+1,by omega,by go_num,L,b5,b4,⟨rfl⟩⟩
    ·obtain rfl:n=v:=by omega
     go_wp2;have r:Aside0 (Kd.bool.R 4 wr w.heap.size (fun _=>True) (.slice (some ⟨j,0,none⟩) n cr) ((List.range n).map (T.bF (fun v=>rd out (v:Nat)) k))):=⟨by
      have h:=Q.out;rw[show ((List.range n).map fun u:Nat=>if u<n then decide (rd out (u:Int)<k) else false)=(List.range n).map (T.bF (fun v=>rd out (v:Nat)) k) from List.map_congr_left fun u hu=>by
       rw[if_pos (List.mem_range.1 hu)];rfl] at h
      exact h⟩
     have d7:0<=T.fI n (af E) (fun v=>rd out (v:Nat)) 200 k:=by have:=T.pn (n:=n) (t:=af E) (fun v=>rd out (v:Nat)) (show (0:Int)<=200 by omega) k;omega
     have d8:=T.rJ o.out.wt (fun v=>rd out (v:Nat)) (B:=200) (by omega) Z k;have b6:Aside0 (∀v:Nat,v<n-> -T.fI n (af E) (fun v=>rd out (v:Nat)) 200 k<=rd d' v):=⟨fun v l=>I.out.low v l⟩;clear Q J;obtain⟨Y,aS⟩:∃Y,Y=T.fI n (af E) (fun v=>rd out (v:Nat)) 200 k:=⟨_,rfl⟩;rw[<-aS] at d7 d8 b6;have d9:=zA aS;clear aS;go_loopg [51,7] (n) (fun M vv tv wr=>∃(v:Nat) (x:Int),v<=n/\vv= .int .i64 v/\tv= .int .i64 x/\0<=x/\x<=Y/\Aside0 (∀u:Nat,u<v->rd out u=k->rd d' u<0-> -rd d' u<=x*T.sN (fun w=>if T.bF (fun v=>rd out (v:Nat)) k w=true then af E u w else 0) n)/\Aside0 (LI w0 w g gd gs go cd cs co n A0 c0 E q out d' s' wr)/\Aside0 (wr.heap[gb]? =some (.cells #[.slice (some ⟨j,0,none⟩) n cr] 43 (0,0)))/\Aside0 (Kd.bool.R 4 wr w.heap.size (fun _=>True) (.slice (some ⟨j,0,none⟩) n cr) ((List.range n).map (T.bF (fun v=>rd out (v:Nat)) k)))/\Aside0 (M=n-v))
     case atStart=>exact⟨0,0,by omega,rfl,rfl,by omega,by omega,⟨fun u hu=>by omega⟩,b,m,r,⟨rfl⟩⟩
     case round=>
      clear b m r;obtain⟨v,x,l,rfl,rfl,a0,a1,V,b,m,r,J⟩:=hrel;by_cases p:v<n
      ·have d5:(0:Int)<=(v:Int):=by omega
       have d6:(v:Int)<(n:Int):=by omega
       have b0:=cY m.out;have b1:=b.out.j4 v p;have b2:=b.out.si.kE v p;have b3:=b.out.si.f3;by_cases F:rd out v=k
       ·have ed:(rd out v==(k:Int))=true:=by simpa using F
        by_cases b_:rd d' v<0
        ·have eg:decide (rd d' v<0)=true:=az b_
         obtain⟨u,hu,b',ca⟩:=s.out.back v p (fun e=>by have:=s.out.q0;rw[<-e] at this;omega);have cb:=zA (EO o.out.wt hu b' ca F);have cc:Aside0 (T.sN (fun w=>if T.bF (fun v=>rd out (v:Nat)) k w=true then af E v w else 0) n<=600):=⟨by
          have h:=T.cX (f:=fun w=>if T.bF (fun v=>rd out (v:Nat)) k w=true then af E v w else 0) (g:=fun _=>50) (n:=n) (fun w _=>by
           have:=o.out.jY.times v w;show (if T.bF (fun v=>rd out (v:Nat)) k w=true then af E v w else 0)<=50
           split<;>omega)
          rw[T.iq] at h;omega⟩
         have ce:=zA (rR o.out hl (T.bF (fun v=>rd out (v:Nat)) k) p);have ft:=(nI o.out.wt hn Z (fun v l=>HD.out v l) (by omega) (by omega) I.out v p).1;have fv:=b6.out v p;have a2:=zA F;clear F b' ca;go_wp2_with (go_at_call 168;refine(Fg g n A0 c0 E q _ _ 0 v #[.pointer (some ⟨gb,0,none⟩)] (T.bF (fun v=>rd out (v:Nat)) k) _ (Kd.aw am b.out.si.hb) o.out.jY (by omega) p b.out.si.st (fun W u cf ek el=>Fh gb j cr n _ _ _ W u (aE m.out cf) (Kd.cT r.out cf) ek el)).mono ?_;rintro e w8 ⟨rfl,ag⟩;have X:=zA (b.out.below ag);have es:=zA (aE m.out ag);have ev:=zA (Kd.cT r.out ag);have c2:=X.out.si.kE v p;have c3:=X.out.si.f3;rw[ce.out];clear ag b0 b1 b2 b3 b m r;obtain⟨y,hy⟩:∃y,y=T.sN (fun w=>if T.bF (fun v=>rd out (v:Nat)) k w=true then af E v w else 0) n:=⟨_,rfl⟩;rw[<-hy];have a3:=cb.out;have ew:=cc.out;rw[<-hy] at a3 ew;have HY:=zA hy;clear hy cb cc ce)
         all_goals
          have ey:=zA (EK (a:= -rd d' v) (x:=y) a3);have ch:=zA (EL (a:= -rd d' v) (x:=y) (by omega) a3);go_roundg (n- (v+1))
          case measure=>rw[J.out];omega
          case rel=>exact⟨v+1,_,by omega,by go_num,rfl,by have:=ch.out;omega,by have:=ch.out;omega,⟨fun u hu h1 H=>by
           have hc:=ey.out;by_cases e:u=v
           ·subst e
            rw[<-HY.out];first|exact hc|exact Int.le_trans hc (Int.mul_le_mul_of_nonneg_right (by assumption) (by omega))
           ·have hT:=V.out u (by omega) h1 H
            first|exact hT|exact Int.le_trans hT (Int.mul_le_mul_of_nonneg_right (by omega) (T.dy fun w _=>by
             show 0<=(if T.bF (fun v=>rd out (v:Nat)) k w=true then af E u w else 0)
             have:=o.out.wt.pos u w;split<;>omega))⟩,X,es,ev,⟨rfl⟩⟩
        ·have eg:decide (rd d' v<0)=false:=a6 b_
         have a2:=zA F;clear F;go_wp2;go_roundg (n- (v+1))
         case measure=>rw[J.out];omega
         case rel=>exact⟨v+1,x,by omega,by go_num,rfl,a0,a1,⟨fun u hu h1 H=>by
          by_cases e:u=v
          ·subst e;omega
          ·exact V.out u (by omega) h1 H⟩,b,m,r,⟨rfl⟩⟩
       ·have ed:(rd out v==(k:Int))=false:=by simpa using F
        have a2:=zA F;clear F;go_wp2;go_roundg (n- (v+1))
        case measure=>rw[J.out];omega
        case rel=>exact⟨v+1,x,by omega,by go_num,rfl,a0,a1,⟨fun u hu h1 H=>by
         by_cases e:u=v
         ·subst e;exact absurd h1 a2.out
         ·exact V.out u (by omega) h1 H⟩,b,m,r,⟨rfl⟩⟩
      ·obtain rfl:n=v:=by omega
       by_cases f1:0<x
       ·have b0:=cY m.out
        obtain⟨ck,cl⟩:=EM o.out hn Z (fun v l=>HD.out v l) s.out.wY (show (1:Int)<=(k:Int) by omega) (by omega) O.out P.out I.out a0 (by rw[<-d9.out];exact a1) V.out;have e0:=zA ck;have e1:=zA cl;obtain⟨a4,a5⟩:=nG E (T.bF (fun v=>rd out (v:Nat)) k) x (d',s') n;have a4:=zA a4;have a5:=zA a5;clear ck cl;rename_i e2 e3;clear e2 e3;go_wp2_with (go_at_call 166;refine(wu g gd gs j cd cs cr n A0 c0 E q d' s' (T.bF (fun v=>rd out (v:Nat)) k) x w0 _ am o.out.jY (by omega) (by omega) b.out.si (Kd.bj r.out bf) ⟨by omega,by omega⟩ O.out P.out e1.out).mono ?_;rintro e w8 ⟨rfl,cn,cq,aY⟩;have X:=zA (b.out.Fk cn cq);clear cn cq b m r b0)
        go_roundg (k-1)
        case measure=>rw[HK.out];omega
        case rel=>exact⟨k-1,_,_,by go_num,by omega,X,⟨a4.out.trans O.out⟩,⟨a5.out.trans P.out⟩,⟨by
         have h:=e0.out;rw[show ((k:Int)-1)=((k-1:Nat):Int) by omega] at h;exact h⟩,⟨rfl⟩⟩
       ·obtain rfl:x=0:=by omega
        go_wp2;go_roundg (k-1)
        case measure=>rw[HK.out];omega
        case rel=>exact⟨k-1,d',s',by go_num,by omega,b,O,P,⟨by
         have h:=EN o.out Z s.out.wY I.out V.out;rw[show ((k:Int)-1)=((k-1:Nat):Int) by omega] at h;exact h⟩,⟨rfl⟩⟩
  ·obtain rfl:k=0:=by omega
   go_wp2;go_end0;exact⟨rfl,d',s',O.out,P.out,b.out.si,fun v l e4=>I.out.kB v l (by obtain⟨u,hu,h1,H⟩:=s.out.back v l e4;have:=s.out.pos u hu;show ((0:Nat):Int)<rd out (v:Int);omega),_,I.out⟩
end
section
attribute [local go_sem] Oper.semAt_some
theorem Fm (A0:Option Addr) (c0 n:Nat) (l0:List Int) (w:World) (h:l0.length=n) (h1:1<=n) (hn:n<=1000) (i:Kd.C (Kd.int .i64) w A0 l0.length l0) (j:l0.length<=c0):
  Calls Tryz.prog 57 #[.slice A0 n c0] w fun e w'=>∃gd a,e= .returned (.slice (some ⟨gd,0,none⟩) n a)/\(Kd.int .i64).R 3 w' w.heap.size (fun _=>True) (.slice (some ⟨gd,0,none⟩) n a) l0/\Below w.heap.size w w':=by
 subst h;refine(fF.calls A0 c0 l0 l0 w i j (by unfold fF.f clone.f;rw[if_pos (by omega)])).mono ?_;rintro e w1 ⟨v0,rfl,b,k⟩;obtain⟨g,cap,rfl, -⟩:=Kd.fK b (by omega);exact⟨g,cap,rfl,b,k⟩
abbrev Hg (w:World) (N:Int) (A0:Option Addr) (k c0:Nat) (w':World):Prop:=w'.heap[w.heap.size]? =some (.cells #[.int .i64 N,.slice A0 k c0] 24 (0,0))/\w'.cell? ⟨w.heap.size,0,none⟩=some (.int .i64 N)/\w'.cell? ⟨w.heap.size,1,none⟩=some (.slice A0 k c0)/\Below w.heap.size w w'
theorem Hg.of {w w':World} {N:Int} {A0:Option Addr} {k c0:Nat} (h:w'.heap[w.heap.size]? =some (.cells #[.int .i64 N,.slice A0 k c0] 24 (0,0))) (hb:Below w.heap.size w w'):Hg w N A0 k c0 w':=⟨h,(aj h 0).trans rfl,(aj h 1).trans rfl,hb⟩
theorem Hg.start (w:World) (N:Int) (A0:Option Addr) (k c0:Nat):Hg w N A0 k c0 (w.alloc (.cells #[.int .i64 N,.slice A0 k c0] 24)).drew:=Hg.of (fA (bc w _)) (bZ (ao (aq _ _) _))
theorem Hg.alloc {w w':World} {N:Int} {A0:Option Addr} {k c0:Nat} (h:w'.heap[w.heap.size]? =some (.cells #[.int .i64 N,.slice A0 k c0] 24 (0,0))) (hb:Below w.heap.size w w') (o:Obj):Hg w N A0 k c0 (w'.alloc o):=Hg.of (au h o) (ao hb o)
theorem Hg.below {w w' a:World} {N:Int} {A0:Option Addr} {k c0:Nat} (h:w'.heap[w.heap.size]? =some (.cells #[.int .i64 N,.slice A0 k c0] 24 (0,0))) (hb:Below w.heap.size w w') (b:Below w'.heap.size w' a):Hg w N A0 k c0 a:=Hg.of (aE h b) (aZ hb b)
theorem Fo (n:Nat) (q:Int) (A0:Option Addr) (c0:Nat) (E:List S83) (m:Option Addr) (cd:Nat) (d:List Int) (w:World) (hd:Kd.C (Kd.int .i64) w m d.length d) (r:d.length<=cd) (s:d.length=n) (h1:1<=n) (hn:n<=1000):
  Calls Tryz.prog 109 #[.agg #[.int .i64 n,.slice A0 E.length c0],.int .i64 q,.slice m n cd] w fun e w'=>∃g gd gs b x,e= .returned (.pointer (some ⟨g,0,none⟩))/\SI w g gd gs b x n A0 c0 E q d (List.replicate n 0) w':=by
 have hu:=Tryz.underlying24;have G:=Tryz.underlying188;have y:=zA s;have z:=zA r;have B:=zA hd;have H:(0:Int)<=(n:Int):=by omega
 have I:(n:Int)<=1000:=by omega
 obtain⟨zs,u,v⟩:=mz 29 Tryz.underlying29 n hn;have l:=zA v;clear s r hd v;go_enter Tryz.func109,Tryz.ntmps109
 go_wp2_with fail
 go_region_held3 (fun w'=>w'.heap[w.heap.size]? =some (.cells #[.int .i64 n,.slice A0 E.length c0] 24 (0,0))/\w'.cell? ⟨w.heap.size,0,none⟩=some (.int .i64 n)/\w'.cell? ⟨w.heap.size,1,none⟩=some (.slice A0 E.length c0)/\Below w.heap.size w w')
  (first
   |exact Hg.start w n A0 E.length c0
   |((try go_split_ands);refine⟨by assumption,by assumption,by assumption,by assumption⟩)
   |((try go_split_ands);exact Hg.alloc (by assumption) (by assumption) _)
   |((try go_split_ands);exact Hg.below (by assumption) (by assumption) (by assumption))
   |fail)
  ((go_at_call 57;refine(Fm m cd n d _ y.out h1 hn (Kd.aw B.out (by go_split_ands;assumption)) z.out).mono ?_;rintro e w1 ⟨gd,b,rfl,a,i⟩))
 ·rename_i hHeld
  obtain⟨-, -, -,j⟩:=hHeld;have D:=Kd.a_ a gd rfl;have o:=Kd.dY a gd rfl;have p:=i.size;simp only[World.drew,World.size_alloc] at o p;have hS:=l.out w1 (fun _=>True) trivial;have k:=zA (SI.mk (g:=w1.heap.size+1) j (by have h:=bc (w1.alloc (.cells zs 3)) (.cells #[.int .i64 n,.slice A0 E.length c0,.int .i64 q,.slice (some ⟨gd,0,none⟩) n b,.slice (some ⟨w1.heap.size,0,none⟩) n n,.int .i64 0] 188);rw[World.size_alloc] at h;exact h)
   (Kd.aR (Kd.aR (Kd.bj a (by simp[World.drew])) _) _) (Kd.bj (Kd.aR hS _) (by omega)) ⟨by omega,by omega,by omega,by omega⟩)
  clear a i j hS l u;generalize (w1.alloc (.cells zs 3)).alloc (.cells #[.int .i64 n,.slice A0 E.length c0,.int .i64 q,.slice (some ⟨gd,0,none⟩) n b,.slice (some ⟨w1.heap.size,0,none⟩) n n,.int .i64 0] 188)=F at k⊢;go_wp2;go_ret;exact⟨_,_,_,_,_,rfl,k.out⟩
 ·rename_i hHeld
  obtain⟨-, -, -,j⟩:=hHeld;have D:=Kd.a_ a gd rfl;have o:=Kd.dY a gd rfl;have p:=i.size;simp only[World.drew,World.size_alloc] at o p;have hS:=Kd.cT (Kd.bq (l.out (w.alloc (.cells #[.int .i64 n,.slice A0 E.length c0] 24)) (fun _=>True) trivial)) i;rw[World.size_alloc] at hS;have k:=zA (SI.mk (g:=w1.heap.size) j (bc w1 (.cells #[.int .i64 n,.slice A0 E.length c0,.int .i64 q,.slice (some ⟨gd,0,none⟩) n b,.slice (some ⟨w.heap.size+1,0,none⟩) n n,.int .i64 0] 188))
   (Kd.aR (Kd.bj a (by simp[World.drew];omega)) _) (Kd.bj (Kd.aR hS _) (by omega)) ⟨by omega,by omega,by omega,by omega⟩)
  clear a i j hS l u;generalize w1.alloc (.cells #[.int .i64 n,.slice A0 E.length c0,.int .i64 q,.slice (some ⟨gd,0,none⟩) n b,.slice (some ⟨w.heap.size+1,0,none⟩) n n,.int .i64 0] 188)=F at k⊢;go_wp2;go_ret;exact⟨_,_,_,_,_,rfl,k.out⟩
end
section
attribute [local go_sem] Oper.semAt_some
def e9 (s:List Int) (o:Int):Nat->List Int
 |0=>s
 |k+1=>(e9 s o k).set k (rd (e9 s o k) k-o)
theorem nN (s:List Int) (o:Int):∀k,(e9 s o k).length=s.length
 |0=>rfl
 |k+1=>by simp[e9,nN s o k]
theorem pF (s:List Int) (o:Int):∀(k v:Nat),k<=s.length->v<s.length->rd (e9 s o k) v=if v<k then rd s v-o else rd s v
 |0,v,_,a=>by rw[if_neg (by omega)];rfl
 |k+1,v,hk,a=>by
  have b:=pF s o k;unfold e9;by_cases e:k=v
  ·subst e
   rw[jX _ _ _ (by rw[nN];exact a),b k (by omega) a,if_neg (by omega),if_pos (by omega)]
  ·rw[jd _ _ _ _ e,b v (by omega) a]
   by_cases h:v<k
   ·rw[if_pos h,if_pos (by omega)]
   ·rw[if_neg h,if_neg (by omega)]
theorem Fp (g gd gs cd cs n:Nat) (A0:Option Addr) (c0:Nat) (E:List S83) (q:Nat) (d s:List Int) (w0 w:World) (z:1<=n) (hn:n<=12) (B:q<n) (h:SI w0 g gd gs cd cs n A0 c0 E q d s w) (C:d.length=n) (D:s.length=n)
  (hd:∀v:Nat,v<n-> -1048576<=rd d v/\rd d v<=1048576) (p:∀v:Nat,v<n->0<=rd s v/\rd s v<=2000000/\ -1048576<=rd s v-rd s q/\rd s v-rd s q<=1048576):
  Calls Tryz.prog 112 #[.pointer (some ⟨g,0,none⟩)] w fun e w'=>e= .returned (.tuple #[.slice (some ⟨gd,0,none⟩) n cd,.slice (some ⟨gs,0,none⟩) n cs,.int .i64 0])/\SI w0 g gd gs cd cs n A0 c0 E q d (e9 s (rd s q) n) w':=by
 have ad:=Tryz.underlying188;have hu:=Tryz.underlying24;have O:=zA hd;have F:=zA p;have G:=zA C;have j:=zA D;have a:=zA h;obtain⟨P,Q, -, -⟩:=p q B;have ag:(q:Int)<(n:Int):=by omega
 have ak:(0:Int)<=(q:Int):=by omega
 clear hd p C D h;have R:=a.out.f5;have b:=a.out.f4;have s2:=a.out.f2;have r:=a.out.cells q B;go_enter Tryz.func112,Tryz.ntmps112
 go_wp2_with fail
 go_quiet (fail)
 clear R s2 r;rename_i nq;have k:=zA (a.out.drewN nq);clear a b;generalize w.drewN nq=W1 at k⊢;have b:=k.out.f4;generalize H:rd s q=o at P Q;have I:=zA H;clear H;go_wp2;go_loopg [31] (n) (fun S T wr=>∃v:Nat,v<=n/\T= .int .i64 v/\Aside0 (SI w0 g gd gs cd cs n A0 c0 E q d (e9 s o v) wr)/\Aside0 (S=n-v))
 case atStart=>exact⟨0,by omega,rfl,k,⟨rfl⟩⟩
 case round=>
  clear k b;obtain⟨v,l,rfl,a,U⟩:=hrel;by_cases m:v<n
  ·have am:(0:Int)<=(v:Int):=by omega
   have an:(v:Int)<(n:Int):=by omega
   have b:=a.out.f4;have r:=a.out.cells v m;have sf:=a.out.wg v m;have J:Aside0 (∀W,SI w0 g gd gs cd cs n A0 c0 E q d ((e9 s o v).set v (rd (e9 s o v) v-o)) W->SI w0 g gd gs cd cs n A0 c0 E q d (e9 s o (v+1)) W):=⟨fun W h=>h⟩;have V:0<=rd (e9 s o v) v/\rd (e9 s o v) v<=2000000:=by
    rw[pF s o v v (by rw[j.out];omega) (by rw[j.out];exact m),if_neg (by omega)];have:=F.out v m;omega
   obtain⟨X,Y⟩:=V;have i:=zA (J.out _ (a.out.pr v (rd (e9 s o v) v-o)));clear J a;generalize rd (e9 s o v) v=y at X Y r i;go_wp2;go_roundg (n- (v+1))
   case measure=>rw[U.out];omega
   case rel=>exact⟨v+1,by omega,by go_num,i,⟨rfl⟩⟩
  ·obtain rfl:n=v:=by omega
   have s0:=a.out.f0;have K:=a.out.f3;have b:=a.out.f4;obtain⟨Z,e2,L⟩:=Kd.aQ a.out.d;obtain⟨e4,M,N⟩:=Kd.aQ a.out.s;have u:=zA (And.intro e2 L);have x:=zA (And.intro M N);have ab:Aside0 (∀v:Nat,v<n-> -1048576<=rd (e9 s o n) v/\rd (e9 s o n) v<=1048576):=⟨fun v l=>by
    rw[pF s o n v (by rw[j.out];omega) (by rw[j.out];exact l),if_pos l];have:=F.out v l;rw[I.out] at this;omega⟩
   clear Z e2 L e4 M N;go_wp2_with fail
   go_quiet ((first|(go_at_call 87;with_reducible exact wI (some ⟨gd,0,none⟩) cd n d _ _ G.out z hn O.out (Kd.fV u.out.2 _) (by rw[G.out];exact u.out.1))|(go_at_call 87;with_reducible exact wI (some ⟨gs,0,none⟩) cs n (e9 s o n) _ _ (by rw[nN];exact j.out) z hn ab.out (Kd.fV x.out.2 _) (by rw[nN,j.out];exact x.out.1))))
   have i:=zA (a.out.drewN nq);clear s0 K b a u x;generalize wr.drewN nq=W2 at i⊢;have K:=i.out.f3;have b:=i.out.f4;go_wp2_with fail
   go_quiet (fail)
   go_wp2;refine bodyPost_ret (results_tmp3 rfl _ _ _) rfl ?_;exact⟨rfl,by rw[I.out];exact i.out.drewN _⟩
end
def jE.f (k:Nat) (a:Int) (g:List (S83)) (e:Int) (l2:List Int):Option (Int):=(cB.f k a g).bind fun b=>(if b.2=0 then(if b.1=true then(if e<0 then(some 2) else(if e>=a then(some 2) else((bs.f k l2 a).bind fun t248=>(some t248)))) else(some 13)) else(some b.2))
theorem jE.calls (k:Nat) (g:Int) (m:Option Addr) (n:Nat) (i:List (S83)) (x:Int) (E:Option Addr) (c2:Nat) (l2:List Int) (r:Int) (w:World) (F:Kd.C aN w m i.length i) (G:i.length<=n) (I:Kd.C (Kd.int .i64) w E l2.length l2) (J:l2.length<=c2) (h:jE.f k g i x l2=some r):
  Calls Tryz.prog 108 #[.agg #[.int .i64 g,.slice m i.length n],.int .i64 x,.slice E l2.length c2] w fun e w'=>e= .returned (.int .i64 r)/\Below w.heap.size w w':=by
 have S:=Tryz.underlying24;have q:=zA F;have s:=zA G;clear F G;have K:=zA I;have L:=zA J;clear I J;have a:=zA (aq w.heap.size w);unfold jE.f at h;have H:=h;clear h;obtain⟨⟨t246,t247⟩,u,H⟩:=zo H;dsimp only at H;by_cases v:t247=0
 ·rw[if_pos v] at H
  obtain⟨M,O⟩:=bH v;clear v;by_cases y:t246=true
  ·subst y
   replace H:=zi H;by_cases o:x<0
   ·rw[if_pos o] at H
    have P:=az o;clear o;obtain rfl:=aH H;go_enter Tryz.func108,Tryz.ntmps108
    go_wp2_with (first|((with_reducible refine aJ (N:=3) rfl ?_);refine zX 3 #[.int .i64 g,.slice m i.length n] 24 ?_;intro z j T l hb;have b:=zA (l);have B:=zG a j;have D:=zG a j;replace a:=zS a hb;clear hb l j;obtain⟨U,V,W,X⟩:=ax b)|((with_reducible refine aG (f:=113) rfl ?_);refine zL (some 11) Tryz.func113 #[.agg #[.int .i64 g,.slice m i.length n]] ?_;(with_reducible refine(cB.calls k g _ _ i true t247 _ ?ah ?ai u.out).mono ?_);(case ah=>exact Kd.aw q.out zB);(case ai=>exact s.out);rintro e Y ⟨rfl,hb⟩;refine⟨_,rfl,?_⟩;replace b:=zb b hb;replace a:=zS a hb;(try clear hb)))
    go_ret;exact⟨zE,zB⟩
   ·rw[if_neg o] at H
    have P:=a6 o;clear o;by_cases p:x>=g
    ·rw[if_pos p] at H
     have Q:=az p;clear p;obtain rfl:=aH H;go_enter Tryz.func108,Tryz.ntmps108
     go_wp2_with (first|((with_reducible refine aJ (N:=3) rfl ?_);refine zX 3 #[.int .i64 g,.slice m i.length n] 24 ?_;intro z j Z l hb;have b:=zA (l);have B:=zG a j;have D:=zG a j;replace a:=zS a hb;clear hb l j;obtain⟨aa,ab,ad,ag⟩:=ax b)|((with_reducible refine aG (f:=113) rfl ?_);refine zL (some 11) Tryz.func113 #[.agg #[.int .i64 g,.slice m i.length n]] ?_;(with_reducible refine(cB.calls k g _ _ i true t247 _ ?ah ?ai u.out).mono ?_);(case ah=>exact Kd.aw q.out zB);(case ai=>exact s.out);rintro e ak ⟨rfl,hb⟩;refine⟨_,rfl,?_⟩;replace b:=zb b hb;replace a:=zS a hb;(try clear hb);obtain⟨am,an,ap,ar⟩:=ax b))
     go_ret;exact⟨zE,zB⟩
    ·rw[if_neg p] at H
     have Q:=a6 p;clear p;obtain⟨t248,R,H⟩:=zo H;obtain rfl:=aH H;go_enter Tryz.func108,Tryz.ntmps108
     go_wp2_with (first|((with_reducible refine aJ (N:=3) rfl ?_);refine zX 3 #[.int .i64 g,.slice m i.length n] 24 ?_;intro z j av l hb;have b:=zA (l);have B:=zG a j;have D:=zG a j;replace a:=zS a hb;clear hb l j;obtain⟨aB,aF,aL,aO⟩:=ax b)|((with_reducible refine aG (f:=113) rfl ?_);refine zL (some 11) Tryz.func113 #[.agg #[.int .i64 g,.slice m i.length n]] ?_;(with_reducible refine(cB.calls k g _ _ i true t247 _ ?ah ?ai u.out).mono ?_);(case ah=>exact Kd.aw q.out zB);(case ai=>exact s.out);rintro e aP ⟨rfl,hb⟩;refine⟨_,rfl,?_⟩;replace b:=zb b hb;replace a:=zS a hb;(try clear hb);obtain⟨aS,a0,a2,a3⟩:=ax b)|((with_reducible refine aG (f:=87) rfl ?_);refine zL (some 33) Tryz.func87 #[.slice E l2.length c2,.int .i64 g] ?_;(with_reducible refine(bs.calls k _ _ l2 g t248 _ ?ah ?ai R.out).mono ?_);(case ah=>exact Kd.aw K.out zB);(case ai=>exact L.out);rintro e w' ⟨rfl,⟨nd,rfl⟩⟩;refine⟨_,rfl,?_⟩))
     go_ret;exact⟨zE,zB⟩
  ·replace y:=Bool.eq_false_iff.mpr y
   subst y;replace H:=zj H;obtain rfl:=aH H;go_enter Tryz.func108,Tryz.ntmps108
   go_wp2_with (first|((with_reducible refine aJ (N:=3) rfl ?_);refine zX 3 #[.int .i64 g,.slice m i.length n] 24 ?_;intro z j a5 l hb;have b:=zA (l);have B:=zG a j;have D:=zG a j;replace a:=zS a hb;clear hb l j;obtain⟨a9,bd,be,bf⟩:=ax b)|((with_reducible refine aG (f:=113) rfl ?_);refine zL (some 11) Tryz.func113 #[.agg #[.int .i64 g,.slice m i.length n]] ?_;(with_reducible refine(cB.calls k g _ _ i false t247 _ ?ah ?ai u.out).mono ?_);(case ah=>exact Kd.aw q.out zB);(case ai=>exact s.out);rintro e bg ⟨rfl,hb⟩;refine⟨_,rfl,?_⟩;replace b:=zb b hb;replace a:=zS a hb;(try clear hb)))
   go_ret;exact⟨zE,zB⟩
 ·rw[if_neg v] at H
  obtain⟨M,O⟩:=bI v;obtain rfl:=aH H;go_enter Tryz.func108,Tryz.ntmps108
  go_wp2_with (first|((with_reducible refine aJ (N:=3) rfl ?_);refine zX 3 #[.int .i64 g,.slice m i.length n] 24 ?_;intro z j bi l hb;have b:=zA (l);have B:=zG a j;have D:=zG a j;replace a:=zS a hb;clear hb l j;obtain⟨bk,bn,bo,bv⟩:=ax b)|((with_reducible refine aG (f:=113) rfl ?_);refine zL (some 11) Tryz.func113 #[.agg #[.int .i64 g,.slice m i.length n]] ?_;(with_reducible refine(cB.calls k g _ _ i t246 t247 _ ?ah ?ai u.out).mono ?_);(case ah=>exact Kd.aw q.out zB);(case ai=>exact s.out);rintro e bw ⟨rfl,hb⟩;refine⟨_,rfl,?_⟩;replace b:=zb b hb;replace a:=zS a hb;(try clear hb)))
  go_ret;exact⟨zE,zB⟩
end Go.Proofs.YtffdiakgjakngaaGreat.P


