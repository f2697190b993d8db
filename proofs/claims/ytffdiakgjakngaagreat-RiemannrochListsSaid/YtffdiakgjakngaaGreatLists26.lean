/- Lists2 answers true whatever the input (text 6 of 8): own walks and plain laws; no conditions. -/
import Derived.BigQuiet
import Derived.Deep.QuietTactic
import Derived.Laws.CopyRow
import Derived.Shelf.SlSortCmp.NoneTotal
import Derived.StillTailTactics
import Derived.Test.YtffdiakgjakngaaGreatLists25
namespace Go.Proofs.YtffdiakgjakngaaGreat.P
open Go.RowKit Go.Proofs.YtffdiakgjakngaaGreatW.PrintWords Go.Proofs.YtffdiakgjakngaaGreatW.PrintLast Go.Proofs.YtffdiakgjakngaaGreatW.PrintMore
set_option linter.unusedVariables false
set_option linter.unusedSimpArgs false
set_option maxHeartbeats 8000000
set_option maxRecDepth 100000
def a8 (o:List Bool) (i:Nat):Bool:=o.getD i false
theorem sa (o:List Bool) (i:Nat):bM false o (i:Int)=a8 o i:=by simp[bM,a8]
theorem mP (o:List Bool) (i j:Nat) (b:Bool):a8 (o.set i b) j=if i=j/\j<o.length then b else a8 o j:=by
 unfold a8;rw[aX,aX,List.getElem?_set];by_cases h:i=j
 ·subst h
  by_cases a:i<o.length
  ·simp[a]
  ·simp[a]
 ·simp[h]
def gV (E:List S83) (a:Nat) (o:List Bool) (b:Nat):List Bool:=if a8 o a=true/\df E a b>0 then o.set b true else o
def kf (E:List S83) (n:Nat) (o:List Bool) (a:Nat):List Bool:=(List.range' 0 n).foldl (gV E a) o
def kg (E:List S83) (n:Nat) (o:List Bool):List Bool:=(List.range' 0 n).foldl (kf E n) o
def ji (E:List S83) (n:Nat):Nat->List Bool->List Bool
 |0,o=>o
 |m+1,o=>ji E n m (kg E n o)
def fR (E:List S83) (n v:Nat):List Bool:=ji E n n ((List.replicate n false).set v true)
theorem sb (E:List S83) (a b:Nat) (o:List Bool):(gV E a o b).length=o.length:=by unfold gV;split<;>simp
theorem mQ {f:List Bool->Nat->List Bool} (h:∀o b,(f o b).length=o.length):∀(l:List Nat) (o:List Bool),(l.foldl f o).length=o.length
 |[],_=>rfl
 |x::l,o=>by rw[List.foldl_cons,mQ h l,h]
theorem sd (E:List S83) (n a:Nat) (o:List Bool):(kf E n o a).length=o.length:=mQ (fun o b=>sb E a b o) _ _
theorem se (E:List S83) (n:Nat) (o:List Bool):(kg E n o).length=o.length:=mQ (fun o a=>sd E n a o) _ _
theorem xg (E:List S83) (n:Nat):∀m o,(ji E n m o).length=o.length
 |0,_=>rfl
 |m+1,o=>by rw[ji,xg E n m,se]
theorem xh (E:List S83) (i:E.length<=1000) (n a g:Nat) (hn:n<=1000) (p:a<n) (r:List Bool):∀(m j:Nat) (o:List Bool),j+m=n->o.length=n->Ev (fun k=>b8.l1 k ((List.range' j m).foldl (gV E a) o) g ((a+1:Nat):Int) n E) r->Ev (fun k=>b8.l2 k o g a j n E) r
 |0,j,o,q,l,h=>by
  refine Ev.of_succ ?_;simp only[b8.l2,if_neg (show ¬((j:Int)<(n:Int)) by omega),eA (show a<=1000000 by omega)];exact h
 |m+1,j,o,q,l,h=>by
  rw[List.range'_succ,List.foldl_cons] at h;have b:=xh E i n a g hn p r m (j+1) (gV E a o j) (by omega) (by rw[sb];exact l) h;refine Ev.of_succ ?_;simp only[b8.l2,if_pos (show (j:Int)<(n:Int) by omega),if_pos (show (0:Int)<=(a:Int) by omega),if_pos (show (a:Int)<(o.length:Int) by omega),if_pos (show (0:Int)<=(j:Int) by omega),if_pos (show (j:Int)<(o.length:Int) by omega),eA (show j<=1000000 by omega),sa,aG];unfold gV at b;by_cases h1:a8 o a=true
  ·simp only[if_pos h1]
   refine Ev.bind (pN n E a j i) ?_;by_cases e:df E a j>0
   ·simp only[if_pos e];rw[if_pos ⟨h1,e⟩] at b;exact b
   ·simp only[if_neg e];rw[if_neg (fun h=>e h.2)] at b;exact b
  ·simp only[if_neg h1];rw[if_neg (fun h=>h1 h.1)] at b;exact b
theorem xi (E:List S83) (g:E.length<=1000) (n b:Nat) (hn:n<=1000) (i:b<=1000) (r:List Bool):∀(m a:Nat) (o:List Bool),a+m=n->o.length=n->Ev (fun k=>b8.l0 k ((List.range' a m).foldl (kf E n) o) ((b+1:Nat):Int) n E) r->Ev (fun k=>b8.l1 k o b a n E) r
 |0,a,o,j,e,h=>by
  refine Ev.of_succ ?_;simp only[b8.l1,if_neg (show ¬((a:Int)<(n:Int)) by omega),eA (show b<=1000000 by omega)];exact h
 |m+1,a,o,j,e,h=>by
  rw[List.range'_succ,List.foldl_cons] at h;have l:=xi E g n b hn i r m (a+1) (kf E n o a) (by omega) (by rw[sd];exact e) h;refine Ev.of_succ ?_;simp only[b8.l1,if_pos (show (a:Int)<(n:Int) by omega)];exact xh E g n a b hn (by omega) r n 0 o (by omega) e l
theorem xj (E:List S83) (b:E.length<=1000) (n:Nat) (hn:n<=1000):∀(m i:Nat) (o:List Bool),i+m=n->o.length=n->Ev (fun k=>b8.l0 k o i n E) (ji E n m o)
 |0,i,o,hi,a=>by
  refine Ev.of_succ ?_;simp only[b8.l0,if_neg (show ¬((i:Int)<(n:Int)) by omega)];exact Ev.const _
 |m+1,i,o,hi,a=>by
  have e:=xj E b n hn m (i+1) (kg E n o) (by omega) (by rw[se];exact a);refine Ev.of_succ ?_;simp only[b8.l0,if_pos (show (i:Int)<(n:Int) by omega)];exact xi E b n i hn (by omega) _ n 0 o (by omega) a e
theorem FN (E:List S83) (a:E.length<=1000) (n v:Nat) (hn:n<=1000) (b:v<n):Ev (fun k=>b8.f k n E v) (fR E n v):=by
 unfold b8.f;simp only[if_pos (show (0:Int)<=(n:Int) by omega),aG,if_pos (show n<=281474976710656 by omega),Option.bind_some,if_pos (show (0:Int)<=(v:Int) by omega),List.length_replicate,if_pos (show (v:Int)<(n:Int) by omega)];exact xj E a n hn n 0 _ (by omega) (by simp)
def ki (s r:List Bool):List Bool:=(List.range' 0 s.length).foldl (fun s u=>s.set u (a8 s u||a8 r u)) s
def iy (E:List S83) (n:Nat):Nat->Nat->Nat->List Bool->Nat
 |0,_,c,_=>c
 |m+1,v,c,s=>if a8 s v=true then iy E n m (v+1) c s else iy E n m (v+1) (c+1) (ki s (fR E n v))
theorem FO (r:List Bool) (o:List Bool) (u:Nat):(o.set u (a8 o u||a8 r u)).length=o.length:=by simp
theorem xk (E:List S83) (n:Nat) (hn:n<=1000) (c v:Nat) (e:v<=1000) (q:List Bool) (g:q.length=n) (r:Int):∀(m j:Nat) (s:List Bool),j+m=n->s.length=n->Ev (fun k=>cX.l0 k c ((List.range' j m).foldl (fun s u=>s.set u (a8 s u||a8 q u)) s) ((v+1:Nat):Int) n E) r->Ev (fun k=>cX.l1 k c s v q j n E) r
 |0,j,s,i,b,h=>by
  refine Ev.of_succ ?_;simp only[cX.l1,if_neg (show ¬((j:Int)<(n:Int)) by omega),eA (show v<=1000000 by omega)];exact h
 |m+1,j,s,i,b,h=>by
  rw[List.range'_succ,List.foldl_cons] at h;have a:=xk E n hn c v e q g r m (j+1) _ (by omega) (by rw[List.length_set];exact b) h;refine Ev.of_succ ?_;simp only[cX.l1,if_pos (show (j:Int)<(n:Int) by omega),if_pos (show (0:Int)<=(j:Int) by omega),if_pos (show (j:Int)<(s.length:Int) by omega),if_pos (show (j:Int)<(q.length:Int) by omega),eA (show j<=1000000 by omega),sa,aG];by_cases h1:a8 s j=true
  ·simp only[if_pos h1];rw[h1,Bool.true_or] at a;exact a
  ·simp only[if_neg h1];rw[Bool.eq_false_iff.2 h1,Bool.false_or] at a;exact a
theorem sg (E:List S83) (e:E.length<=1000) (n:Nat) (hn:n<=1000):∀(m v c:Nat) (s:List Bool),v+m=n->c<=v->s.length=n->Ev (fun k=>cX.l0 k c s v n E) ((iy E n m v c s:Nat):Int)
 |0,v,c,s,g,h,a=>by
  refine Ev.of_succ ?_;simp only[cX.l0,if_neg (show ¬((v:Int)<(n:Int)) by omega)];exact Ev.const _
 |m+1,v,c,s,g,h,a=>by
  refine Ev.of_succ ?_;simp only[cX.l0,if_pos (show (v:Int)<(n:Int) by omega),if_pos (show (0:Int)<=(v:Int) by omega),if_pos (show (v:Int)<(s.length:Int) by omega),eA (show v<=1000000 by omega),sa,iy];by_cases h1:a8 s v=true
  ·simp only[if_pos h1]
   exact sg E e n hn m (v+1) c s (by omega) (by omega) a
  ·simp only[if_neg h1]
   refine Ev.bind (FN E e n v hn (by omega)) ?_;have i:(fR E n v).length=n:=by unfold fR;rw[xg];simp
   have j:=sg E e n hn m (v+1) (c+1) (ki s (fR E n v)) (by omega) (by omega) (by unfold ki;rw[mQ (fun o b=>FO _ o b)];exact a);rw[eA (show c<=1000000 by omega)];refine xk E n hn (c+1) v (by omega) _ i _ n 0 s (by omega) a ?_;rw[show (List.range' 0 n).foldl (fun s u=>s.set u (a8 s u||a8 (fR E n v) u)) s=ki s (fR E n v) from by unfold ki;rw[a]];exact j
def partsOf (E:List S83) (n:Nat):Nat:=iy E n n 0 0 (List.replicate n false)
theorem FP (E:List S83) (a:E.length<=1000) (n:Nat) (hn:n<=1000):Ev (fun k=>cX.f k n E) ((partsOf E n:Nat):Int):=by
 unfold cX.f;simp only[if_pos (show (0:Int)<=(n:Int) by omega),aG,if_pos (show n<=281474976710656 by omega)];exact sg E a n hn n 0 0 _ (by omega) (by omega) (by simp)
theorem sh {E:List S83} {a b:Nat} {o:List Bool} {i:Nat} (h:a8 o i=true):a8 (gV E a o b) i=true:=by
 unfold gV;split
 ·rw[mP];split<;>simp_all
 ·exact h
theorem lV {f:List Bool->Nat->List Bool} (hf:∀o b i,a8 o i=true->a8 (f o b) i=true):∀(l:List Nat) (o:List Bool) (i:Nat),a8 o i=true->a8 (l.foldl f o) i=true
 |[],_,_,h=>h
 |x::l,o,i,h=>by rw[List.foldl_cons];exact lV hf l _ i (hf _ _ _ h)
theorem sj {E:List S83} {n a:Nat} {o:List Bool} {i:Nat} (h:a8 o i=true):a8 (kf E n o a) i=true:=lV (fun o b i h=>sh h) _ _ _ h
theorem xm {E:List S83} {n:Nat} {o:List Bool} {i:Nat} (h:a8 o i=true):a8 (kg E n o) i=true:=lV (fun o b i h=>sj h) _ _ _ h
theorem xn {E:List S83} {n:Nat}:∀{m:Nat} {o:List Bool} {i:Nat},a8 o i=true->a8 (ji E n m o) i=true
 |0,_,_,h=>h
 |m+1,o,i,h=>xn (m:=m) (xm h)
def jk (E:List S83) (n:Nat) (S:Nat->Bool):Prop:=∀a b:Nat,a<n->b<n->S a=true->df E a b>0->S b=true
theorem nT {P:List Bool->Prop} {f:List Bool->Nat->List Bool} {n:Nat} (hf:∀o b,b<n->P o->P (f o b)):∀(m j:Nat) (o:List Bool),j+m<=n->P o->P ((List.range' j m).foldl f o)
 |0,_,_,_,h=>h
 |m+1,j,o,a,h=>by rw[List.range'_succ,List.foldl_cons];exact nT hf m (j+1) _ (by omega) (hf _ _ (by omega) h)
theorem FQ {E:List S83} {n:Nat} {S:Nat->Bool} (hS:jk E n S) {o:List Bool} (h:∀i,a8 o i=true->S i=true):∀i,a8 (kg E n o) i=true->S i=true:=by
 refine nT (P:=fun o=>∀i,a8 o i=true->S i=true) (n:=n) (fun o a g h=>?_) n 0 o (by omega) h;refine nT (P:=fun o=>∀i,a8 o i=true->S i=true) (n:=n) (fun o b hb h=>?_) n 0 o (by omega) h;intro i hi;unfold gV at hi;split at hi
 ·rename_i e
  rw[mP] at hi;split at hi
  ·rename_i j
   obtain⟨rfl,_⟩:=j;exact hS a b g hb (h a e.1) e.2
  ·exact h i hi
 ·exact h i hi
theorem xo {E:List S83} {n:Nat} {S:Nat->Bool} (hS:jk E n S):∀(m:Nat) {o:List Bool},(∀i,a8 o i=true->S i=true)->∀i,a8 (ji E n m o) i=true->S i=true
 |0,_,h=>h
 |m+1,o,h=>xo hS m (FQ hS h)
theorem FT {o:List Bool} {b:Nat} (h:a8 o b=true):o.set b true=o:=by
 refine List.ext_getElem (by simp) fun i h1 a=>?_
 rw[List.getElem_set];by_cases e:b=i
 ·subst e
  rw[if_pos rfl];simp only[a8,aX,bB a,Option.getD_some] at h;exact h.symm
 ·rw[if_neg e]
theorem FU {E:List S83} {n:Nat} {o:List Bool} (h:jk E n (a8 o)):kg E n o=o:=by
 refine nT (P:=fun x=>x=o) (n:=n) (fun x a g i=>?_) n 0 o (by omega) rfl;subst i;refine nT (P:=fun y=>y=x) (n:=n) (fun y b hb j=>?_) n 0 x (by omega) rfl;subst j;unfold gV;split
 ·rename_i e
  exact FT (h a b g hb e.1 e.2)
 ·rfl
theorem xp {E:List S83} {n:Nat}:∀(m:Nat) {o:List Bool},jk E n (a8 o)->ji E n m o=o
 |0,_,_=>rfl
 |m+1,o,h=>by rw[ji,FU h,xp m h]
def kj (o:List Bool) (n:Nat):Nat:=(List.range n).countP (a8 o)
theorem FV (o:List Bool) (n:Nat):kj o n<=n:=by
 unfold kj;exact Nat.le_trans List.countP_le_length (by simp)
theorem sk {o p:List Bool} {b:Nat}:∀{n:Nat},(∀i,a8 o i=true->a8 p i=true)->b<n->a8 o b=false->a8 p b=true->kj o n<kj p n
 |0,_,hb,_,_=>by omega
 |n+1,h,hb,h1,g=>by
  have mono:∀m,kj o m<=kj p m:=fun m=>List.countP_mono_left (fun x _ j=>h x j)
  unfold kj at*;rw[List.range_succ,List.countP_append,List.countP_append];by_cases e:b=n
  ·subst e
   have:=mono b;simp[h1,g];omega
  ·have:=sk (n:=n) h (by omega) h1 g
   unfold kj at this;have k:(if a8 o n=true then 1 else 0)<=(if a8 p n=true then 1 else 0):=by
    by_cases a:a8 o n=true
    ·rw[if_pos a,if_pos (h n a)];exact aI _
    ·rw[if_neg a];exact Nat.zero_le _
   simp only[List.countP_cons,List.countP_nil,Nat.zero_add];omega
theorem FW {E:List S83} {n:Nat} {o:List Bool} (r:o.length=n) {a b:Nat} (s:a<n) (hb:b<n) (h1:a8 o a=true) (k:df E a b>0):a8 (kg E n o) b=true:=by
 unfold kg;have l:List.range' 0 n=List.range' 0 a++a::List.range' (a+1) (n-a-1):=by
  rw[<-List.range'_succ,show n-a-1+1=n-a by omega];rw[show List.range' 0 a++List.range' a (n-a)=List.range' 0 a++List.range' (0+a) (n-a) by rw[Nat.zero_add],List.range'_append_1];rw[show a+(n-a)=n by omega]
 have m:List.range' 0 n=List.range' 0 b++b::List.range' (b+1) (n-b-1):=by
  rw[<-List.range'_succ,show n-b-1+1=n-b by omega];rw[show List.range' 0 b++List.range' b (n-b)=List.range' 0 b++List.range' (0+b) (n-b) by rw[Nat.zero_add],List.range'_append_1];rw[show b+(n-b)=n by omega]
 rw[l,List.foldl_append,List.foldl_cons];refine lV (fun o b i h=>sj h) _ _ _ ?_;have g:=lV (f:=kf E n) (fun o b i h=>sj h) (List.range' 0 a) o a h1;have p:=mQ (f:=kf E n) (fun o a=>sd E n a o) (List.range' 0 a) o;generalize (List.range' 0 a).foldl (kf E n) o=e at g p⊢;unfold kf;rw[m,List.foldl_append,List.foldl_cons];refine lV (fun o b i h=>sh h) _ _ _ ?_;have j:=lV (f:=gV E a) (fun o b i h=>sh h) (List.range' 0 b) e a g;have q:=mQ (f:=gV E a) (fun o b=>sb E a b o) (List.range' 0 b) e;generalize (List.range' 0 b).foldl (gV E a) e=u at j q⊢;unfold gV;rw[if_pos ⟨j,k⟩,mP,if_pos ⟨rfl,by omega⟩]
theorem xr {E:List S83} {n:Nat}:∀(m:Nat) (o:List Bool),o.length=n->n<kj o n+m->jk E n (a8 (ji E n m o))
 |0,o,g,h=>by have:=FV o n;omega
 |m+1,o,g,h=>by
  by_cases e:jk E n (a8 o)
  ·rw[xp (m+1) e];exact e
  ·rw[ji]
   refine xr m _ (by rw[se];exact g) ?_;unfold jk at e;simp only[Classical.not_forall] at e;obtain⟨a,b,j,hb,h1,k,l⟩:=e;have:=sk (o:=o) (p:=kg E n o) (b:=b) (n:=n) (fun i hi=>xm hi) hb (Bool.eq_false_iff.2 l) (FW g j hb h1 k);omega
theorem FX {E:List S83} {n v:Nat} (e:v<n):a8 (fR E n v) v=true/\jk E n (a8 (fR E n v))/\∀S:Nat->Bool,jk E n S->S v=true->∀i,a8 (fR E n v) i=true->S i=true:=by
 have g:a8 ((List.replicate n false).set v true) v=true:=by rw[mP,if_pos ⟨rfl,by simpa using e⟩]
 have a:∀i,a8 (List.replicate n false) i=false:=fun i=>by simp[a8,aX,List.getElem?_replicate];split<;>rfl
 refine⟨xn g,xr n _ (by simp) ?_,fun S hS j=>xo hS n (fun i hi=>?_)⟩
 ·have:=sk (o:=List.replicate n false) (p:=(List.replicate n false).set v true) (b:=v) (n:=n) (fun i hi=>by rw[a] at hi;cases hi) e (a v) g
  omega
 ·rw[mP] at hi
  split at hi
  ·rename_i h;rw[<-h.1];exact j
  ·rw[a] at hi;cases hi
theorem FY {E:List S83} {a b:Int} (h:df E a b>0):∃x∈E,x.f0=min a b/\x.f1=max a b:=by
 unfold df at h;split at h
 ·rename_i x e
  refine⟨x,List.mem_of_find?_eq_some e,?_⟩;have:=List.find?_some e;simpa [gU] using this
 ·omega
theorem xt {N:Int} {E:List S83} (h:br N E) {x:S83} (a:x∈E):df E x.f0 x.f1>0:=by
 unfold df;split
 ·rename_i y b
  have:=h.ok y (List.mem_of_find?_eq_some b);simp[cu] at this;omega
 ·rename_i hn
  rw[List.find?_eq_none] at hn;have:=hn x a;have hle:=h.le x a;simp[gU] at this;omega
theorem FZ {E:List S83} {n:Nat} {S:Nat->Bool} (h:∀x∈E,S x.f0.toNat=S x.f1.toNat):jk E n S:=by
 intro a b k hb e g;obtain⟨x,i,l,h1⟩:=FY g;have:=h x i;rcases Nat.le_total a b with j|j
 ·rw[show x.f0.toNat=a by omega,show x.f1.toNat=b by omega] at this
  rw[<-this];exact e
 ·rw[show x.f0.toNat=b by omega,show x.f1.toNat=a by omega] at this
  rw[this];exact e
theorem F0 {n:Nat} {E:List S83} (b:br n E) {S:Nat->Bool} (h:jk E n S):∀x∈E,S x.f0.toNat=S x.f1.toNat:=by
 intro x e;have hb:=xt b e;have k:=b.ok x e;simp[cu] at k;have g:((x.f0.toNat:Nat):Int)=x.f0:=by omega
 have i:((x.f1.toNat:Nat):Int)=x.f1:=by omega
 have h1:=h x.f0.toNat x.f1.toNat (by omega) (by omega);have j:=h x.f1.toNat x.f0.toNat (by omega) (by omega);rw[g,i] at h1;rw[g,i,pk] at j;cases a:S x.f0.toNat with
 |true=>exact(h1 a hb).symm
 |false=>
  cases l:S x.f1.toNat with
  |false=>rfl
  |true=>rw[j l hb] at a;cases a
theorem F1 (s r:List Bool) (i:Nat) (hi:i<s.length):a8 (ki s r) i=(a8 s i||a8 r i):=by
 unfold ki;have key:∀(m j:Nat) (o:List Bool),o.length=s.length->a8 ((List.range' j m).foldl (fun s u=>s.set u (a8 s u||a8 r u)) o) i=if j<=i/\i<j+m then(a8 o i||a8 r i) else a8 o i:=by
  intro m;induction m with
  |zero=>intro j o _;rw[if_neg (by omega)];rfl
  |succ m b=>
   intro j o e;rw[List.range'_succ,List.foldl_cons,b _ _ (by rw[List.length_set];exact e),mP];by_cases h1:j=i
   ·subst h1
    rw[if_neg (by omega),if_pos ⟨rfl,by omega⟩,if_pos (by omega)]
   ·rw[if_neg (show ¬(j=i/\i<o.length) from fun h=>h1 h.1)]
    by_cases a:j+1<=i/\i<j+1+m
    ·rw[if_pos a,if_pos (by omega)]
    ·rw[if_neg a,if_neg (by omega)]
 rw[key s.length 0 s rfl,if_pos (by omega)]
theorem xu (E:List S83) (n:Nat):∀(m v c:Nat) (s:List Bool),(∀i,v<=i->i<v+m->a8 s i=true)->iy E n m v c s=c
 |0,_,_,_,_=>rfl
 |m+1,v,c,s,h=>by
  rw[iy,if_pos (h v (aI _) (by omega))];exact xu E n m (v+1) c s (fun i h1 a=>h i (by omega) (by omega))
theorem sm (E:List S83) (n:Nat):∀(m v c:Nat) (s:List Bool),c<=iy E n m v c s
 |0,_,_,_=>aI _
 |m+1,v,c,s=>by
  rw[iy];split
  ·exact sm E n m _ _ _
  ·exact Nat.le_trans (Nat.le_succ c) (sm E n m _ _ _)
theorem xw (E:List S83) (n:Nat):∀(m v c:Nat) (s:List Bool) (u:Nat),v<=u->u<v+m->a8 s u=false->c+1<=iy E n m v c s
 |0,_,_,_,_,_,h,_=>by omega
 |m+1,v,c,s,u,h1,e,a=>by
  rw[iy];split
  ·rename_i b
   exact xw E n m (v+1) c s u (by rcases Nat.lt_or_ge v u with h|h;exact h;exfalso;have:v=u:=(by omega);subst this;rw[a] at b;cases b) (by omega) a
  ·exact sm E n m _ _ _
theorem jl {n:Nat} {E:List S83} (hn:1<=n) (q:br n E):partsOf E n=1↔fc n E:=by
 obtain⟨m,rfl⟩:∃m,n=m+1:=⟨n-1,by omega⟩;obtain⟨r,s,w⟩:=FX (E:=E) (n:=m+1) (v:=0) (by omega);have j:∀i,a8 (List.replicate (m+1) false) i=false:=fun i=>by simp[a8,aX,List.getElem?_replicate];split<;>rfl
 have e:partsOf E (m+1)=iy E (m+1) m 1 1 (ki (List.replicate (m+1) false) (fR E (m+1) 0)):=by
  unfold partsOf;rw[iy,if_neg (by rw[j];decide)]
 have k:∀i,i<m+1->a8 (ki (List.replicate (m+1) false) (fR E (m+1) 0)) i=a8 (fR E (m+1) 0) i:=fun i hi=>by
  rw[F1 _ _ _ (by simpa using hi),j,Bool.false_or]
 rw[e];constructor
 ·intro h S y z
  refine Classical.byContradiction fun a=>?_
  have hS:∀x∈E,S x.f0.toNat=S x.f1.toNat:=fun x B=>Classical.byContradiction fun b=>a ⟨x,B,b⟩
  have main:∀T:Nat->Bool,(∀x∈E,T x.f0.toNat=T x.f1.toNat)->T 0=true->(∃u,u<m+1/\T u=false)->False:=by
   rintro T C l ⟨u,hu,g⟩;have h1:a8 (fR E (m+1) 0) u=false:=by
    cases o:a8 (fR E (m+1) 0) u with
    |false=>rfl
    |true=>have:=w T (FZ C) l u o;rw[g] at this;cases this
   have F:u≠0:=fun e=>by subst e;rw[l] at g;cases g
   have:=xw E (m+1) m 1 1 _ u (by omega) (by omega) (by rw[k u hu];exact h1);omega
  cases p:S 0 with
  |true=>exact main S hS p z
  |false=>
   refine main (fun u=> !S u) (fun x a=>by simp[hS x a]) (by simp[p]) ?_;obtain⟨u,hu,D⟩:=y;exact⟨u,hu,by simp[D]⟩
 ·intro h
  refine xu E _ m 1 1 _ fun i h1 o=>?_
  rw[k i (by omega)];cases hi:a8 (fR E (m+1) 0) i with
  |true=>rfl
  |false=>
   obtain⟨x,a,b⟩:=h (a8 (fR E (m+1) 0)) ⟨0,by omega,r⟩ ⟨i,by omega,hi⟩;exact absurd (F0 q s x a) b
def fw (N:Int) (E:List S83) (q:Int):Int:=if cw N E=0 then(if partsOf E N.toNat=1 then(if 0<=q/\q<N then 0 else 2) else 13) else cw N E
theorem xx (N:Int) (E:List S83) (q:Int) (g:E.length<=1000):Ev (fun k=>du.f k N E q) (fw N E q):=by
 unfold du.f fw;by_cases b:cw N E=0
 ·obtain⟨h1,m,e⟩:=jC b
  obtain⟨n,rfl⟩:=Int.eq_ofNat_of_zero_le (show 0<=N by omega);refine Ev.bind (a:=(decide (partsOf E n=1),(0:Int))) ?_ ?_
  ·unfold cz.f
   have h:=mF (n:Int) E g;rw[b] at h;refine Ev.bind h ?_;have j:jz (n:Int) E=true:=by
    unfold jz;rw[ay (by omega),Bool.true_and];refine List.all_eq_true.2 fun x l=>?_
    have:=e.ok x l;simp[cu] at this⊢;omega
   simp only[if_true,if_pos j,aG];rw[show decide (bY (aK E) n=1)=decide (partsOf E n=1) by
    congr 1;exact propext ((pA (by omega) (iE e.cS)).trans (jl (by omega) e).symm)]
   exact Ev.const _
  ·simp only[if_pos b,if_true,aG]
   by_cases hp:partsOf E n=1
   ·simp only[ay hp,if_true,if_pos hp]
    by_cases i:0<=q/\q<(n:Int)
    ·simp only[if_neg (show ¬q<0 by omega),if_neg (show ¬q>=(n:Int) by omega),if_pos i];exact Ev.const _
    ·simp only[if_neg i]
     by_cases h1:q<0
     ·simp only[if_pos h1];exact Ev.const _
     ·simp only[if_neg h1,if_pos (show q>=(n:Int) by omega)];exact Ev.const _
   ·simp only[aZ hp,Bool.false_eq_true,if_false,if_neg hp];exact Ev.const _
 ·refine Ev.bind (a:=(false,cw N E)) ?_ ?_
  ·unfold cz.f
   refine Ev.bind (mF N E g) ?_;simp only[if_neg b];exact Ev.const _
  ·simp only[if_neg b];exact Ev.const _
theorem nU {n:Nat} {t:Nat->Nat->Int} (k:T.Wt n t) {q:Nat} {d:List Int}:T.iK n t q (fun v=>rd d (v:Nat))↔bZ n t q d=true:=by
 rw[jY (fun i j=>k.pos i j) q d];have key:∀(S:Nat->Bool) (v:Nat),cM t (fun u=> !S u) v n=T.sN (fun u=>if S u=false then t v u else 0) n:=fun S v=>by
  rw[kU];refine T.bL fun u _=>?_
  cases S u<;>simp
 constructor
 ·intro h S hS b
  obtain⟨v,e,g,a⟩:=h S hS b;exact⟨v,e,g,by rw[key];exact a⟩
 ·intro h S hS b
  obtain⟨v,e,g,a⟩:=h S hS b;exact⟨v,e,g,by rw[key] at a;exact a⟩
def eJ (n:Nat) (E:List S83) (d s:List Int):List Int:=(List.range n).map fun v:Nat=>rd d v-T.aV n (ae E) (fun u=>rd s (u:Nat)) v
theorem jm (f:Nat->Int) {n v:Nat} (a:v<n):rd ((List.range n).map f) (v:Int)=f v:=by
 rw[kR,aX,List.getElem?_map,List.getElem?_range a];rfl
theorem xz (n:Nat) (E:List S83) (d s:List Int) {v:Nat} (a:v<n):rd (eJ n E d s) v=rd d v-T.aV n (ae E) (fun u=>rd s (u:Nat)) v:=jm _ a
theorem sn (n:Nat) (E:List S83) (d s:List Int):(eJ n E d s).length=n:=by simp[eJ]
theorem pO {a b:List Int} {n:Nat} (e:a.length=n) (hb:b.length=n) (h:∀v:Nat,v<n->rd a v=rd b v):a=b:=by
 refine List.ext_getElem (by rw[e,hb]) fun i h1 g=>?_
 have:=h i (by omega);rw[kR,kR,aX,aX,bB h1,bB g] at this;exact this
def kY (n:Nat) (E:List S83) (q:Nat) (d s:List Int):Bool:=decide (s.length=n)&&decide (rd s q=0)&&((List.range n).all fun v=>decide (v=q)||decide (0<=rd (eJ n E d s) v))&&bZ n (ae E) q (eJ n E d s)
def boxes (r q:Nat):Nat->List (List Int)
 |0=>[[]]
 |v+1=>(boxes r q v).flatMap fun s=>if v=q then[s++[0]] else(List.range (2*r+1)).map fun i:Nat=>s++[(i:Int)-r]
theorem xA (r q:Nat) (σ:Nat->Int) (a:σ q=0):∀n,(∀v,v<n-> -(r:Int)<=σ v/\σ v<=r)->(List.range n).map σ∈boxes r q n
 |0,_=>by simp[boxes]
 |n+1,h=>by
  unfold boxes;rw[List.mem_flatMap];refine⟨_,xA r q σ a n (fun v b=>h v (by omega)),?_⟩;rw[show (List.range (n+1)).map σ=(List.range n).map σ++[σ n] by rw[List.range_succ,List.map_append];rfl];by_cases e:n=q
  ·rw[if_pos e,e,a];exact List.mem_singleton.2 rfl
  ·rw[if_neg e,List.mem_map]
   have:=h n (by omega);exact⟨(σ n+r).toNat,List.mem_range.2 (by omega),by congr 2;omega⟩
def xB (n:Nat) (E:List S83) (q:Nat) (d:List Int) (r:Nat):Option (List Int):=(boxes r q n).find? (kY n E q d)
def iO (n:Nat) (E:List S83) (q:Nat) (d:List Int):Nat->Option (List Int)
 |0=>none
 |k+1=>match iO n E q d k with
  |some s=>some s
  |none=>xB n E q d k
theorem F2 (n:Nat) (E:List S83) (q:Nat) (d:List Int) (k:Nat):ai (iO n E q d k) (iO n E q d (k+1)):=fun r h=>by
 unfold iO;rw[h]
theorem so {n:Nat} {E:List S83} {q:Nat} {d s:List Int}:∀{k:Nat},iO n E q d k=some s->kY n E q d s=true
 |0,h=>by cases h
 |k+1,h=>by
  unfold iO at h;cases h1:iO n E q d k with
  |some s'=>rw[h1] at h;injection h with h;subst h;exact so h1
  |none=>rw[h1] at h;exact List.find?_some h
theorem F3 {n:Nat} {E:List S83} {q:Nat} {d s:List Int} {r:Nat} (a:s∈boxes r q n) (b:kY n E q d s=true):∃s',iO n E q d (r+1)=some s':=by
 unfold iO;cases h1:iO n E q d r with
 |some s'=>exact⟨s',rfl⟩
 |none=>
  have:(xB n E q d r).isSome=true:=List.find?_isSome.2 ⟨s,a,b⟩;obtain⟨s',h⟩:=Option.isSome_iff_exists.1 this;exact⟨s',h⟩
theorem nV {n:Nat} {E:List S83} (b:br n E) {q:Nat} {d s:List Int}:kY n E q d s=true↔s.length=n/\eT n q (ae E) (fun v=>rd d (v:Nat)) (fun v=>rd (eJ n E d s) (v:Nat)) (fun v=>rd s (v:Nat)):=by
 unfold kY;simp only[Bool.and_eq_true,decide_eq_true_eq,List.all_eq_true,List.mem_range,Bool.or_eq_true];constructor
 ·rintro⟨⟨⟨h1,g⟩,i⟩,j⟩
  exact⟨h1,⟨fun v a k=>(i v a).resolve_left k,(nU b.wt).2 j⟩,fun v a=>xz n E d s a,g⟩
 ·rintro⟨h1,h⟩
  exact⟨⟨⟨h1,h.q0⟩,fun v a=>by by_cases e:v=q;exact .inl e;exact .inr (h.red.1 v a e)⟩,(nU b.wt).1 h.red.2⟩
theorem F4 {n q:Nat} {t:Nat->Nat->Int} {D c σ g b:Nat->Int} (h:eT n q t D c σ) (j:q<n) (e:∀v,v<n->g v=c v) (i:∀v,v<n->b v=σ v):eT n q t D g b:=by
 refine⟨⟨fun v a k=>by rw[e v a];exact h.red.1 v a k,fun S hS l=>?_⟩,fun v a=>?_,by rw[i q j];exact h.q0⟩
 ·obtain⟨v,a,h1,m⟩:=h.red.2 S hS l
  exact⟨v,a,h1,by rw[e v a];exact m⟩
 ·rw[e v a,h.eq v a,T.mG (s:=b) (r:=σ) i a]
theorem F5 {n:Nat} {E:List S83} (b:br n E) (hC:fc n E) {q:Nat} (g:q<n) (d:List Int):∃s,Ev (iO n E q d) s/\s.length=n/\eT n q (ae E) (fun v=>rd d (v:Nat)) (fun v=>rd (eJ n E d s) (v:Nat)) (fun v=>rd s (v:Nat)):=by
 obtain⟨c,σ,h⟩:=EE b.wt (b.conn hC) g (fun v=>rd d (v:Nat));obtain⟨r,j⟩:∃r:Nat,∀v,v<n-> -(r:Int)<=σ v/\σ v<=r:=by
  refine⟨(T.sN (fun v=>((σ v).natAbs:Int)) n).toNat,fun v a=>?_⟩;have h1:=T.fL (f:=fun v=>((σ v).natAbs:Int)) a (fun u _=>by show (0:Int)<=((σ u).natAbs:Int);omega);have e:((σ v).natAbs:Int)<=T.sN (fun v=>((σ v).natAbs:Int)) n:=h1;omega
 have i:∀v,v<n->rd ((List.range n).map σ) (v:Int)=σ v:=fun v a=>jm _ a
 have k:kY n E q d ((List.range n).map σ)=true:=(nV b).2 ⟨by simp,F4 h g (fun v a=>by rw[xz n E d _ a,h.eq v a,T.mG (s:=fun u=>rd ((List.range n).map σ) (u:Nat)) (r:=σ) i a]) i⟩;obtain⟨s',h1⟩:=F3 (xA r q σ h.q0 n j) k;have e:=(nV b).1 (so h1);exact⟨s',Ev.at_ (F2 n E q d) h1,e.1,e.2⟩
def jn (N:Int) (E:List S83) (q:Int) (d:List Int):Bool:=decide (1<=N/\N<=12/\0<=q/\q<N/\E.length<=1000/\cw N E=0/\partsOf E N.toNat=1/\T.sN (T.val N.toNat (ae E)) N.toNat<=19/\(d.length:Int)=N)&&d.all fun x=>decide (-200<=x/\x<=200)
structure dT (n q:Nat) (E:List S83) (d:List Int):Prop where
 n1:1<=n
 n12:n<=12
 q:q<n
 len:E.length<=1000
 right:br n E
 conn:fc n E
 val:T.sN (T.val n (ae E)) n<=19
 dl:d.length=n
 d:∀v:Nat,v<n-> -200<=rd d v/\rd d v<=200
theorem xC {d:List Int} {B:Int}:(d.all fun x=>decide (-B<=x/\x<=B))=true↔∀v:Nat,v<d.length-> -B<=rd d v/\rd d v<=B:=by
 rw[List.all_eq_true];have e:∀(v:Nat) (a:v<d.length),rd d (v:Int)=d[v]:=fun v a=>by simp[rd,aX,bB a]
 constructor
 ·intro h v a
  rw[e v a];simpa using h d[v] (List.getElem_mem a)
 ·intro h x b
  obtain⟨v,a,rfl⟩:=List.getElem_of_mem b;have:=h v a;rw[e v a] at this;simpa using this
theorem pP {N:Int} {E:List S83} {q:Int} {d:List Int} (h:jn N E q d=true):∃n a:Nat,N=n/\q=a/\dT n a E d:=by
 unfold jn at h;rw[Bool.and_eq_true,decide_eq_true_eq] at h;obtain⟨⟨h1,m,i,o,j,k,b,e,p⟩,l⟩:=h;obtain⟨n,rfl⟩:=Int.eq_ofNat_of_zero_le (show 0<=N by omega);obtain⟨a,rfl⟩:=Int.eq_ofNat_of_zero_le i;simp only[aG] at b e;have g:=(jC k).2.2;refine⟨n,a,rfl,rfl,by omega,by omega,by omega,j,g,(jl (by omega) g).1 b,e,by omega,fun v r=>xC.1 l v (by omega)⟩
theorem dT.ok {n q:Nat} {E:List S83} {d:List Int} (h:dT n q E d) (a:cw n E=0):jn n E q d=true:=by
 unfold jn;rw[Bool.and_eq_true,decide_eq_true_eq];have:=h.n1;have:=h.n12;have:=h.q;have:=h.dl;exact⟨⟨by omega,by omega,by omega,by omega,h.len,a,by simpa using (jl (by omega) h.right).2 h.conn,by simpa using h.val,by omega⟩,xC.2 fun v b=>h.d v (by omega)⟩
theorem F6 {n:Nat} {t:Nat->Nat->Int} (i:T.Wt n t) (hn:0<n) {D:Nat->Int} (hw:T.bP n t D) {L:Int} (h1:∀v,v<n->∀k,T.cm n t (fun u=>D u-T.one v u) k->L<=k+1) (g:L=T.sN D n\/∃v,v<n/\∃k,T.cm n t (fun u=>D u-T.one v u) k/\L=k+1):T.cm n t D L:=by
 obtain⟨r,h⟩:=T.ke i hn D;obtain⟨a,v,m,b⟩:=T.FL i hn hw h;obtain⟨j,l⟩:=T.ke i hn (fun u=>D u-T.one v u);have p:=b j l;have e2:=h1 v m j l;have o:0<=r:=by
  have:=h.1;by_cases e:r= -1
  ·exact absurd hw ((T.cm.mO hn h).1 e)
  ·omega
 have q:r<=L:=by
  rcases g with g|⟨u,hu,k,hk,g⟩
  ·rw[g];exact h.r_ i hn o
  ·rw[g];exact a u hu k hk
 have:r=L:=by omega
 rw[<-this];exact h
theorem xD {n:Nat} {t:Nat->Nat->Int} (b:T.Wt n t) (hn:0<n) {D:Nat->Int} (hw:¬T.bP n t D):T.cm n t D (-1):=by
 obtain⟨r,a⟩:=T.ke b hn D;have:=(T.cm.mO hn a).2 hw;rw[<-this];exact a
theorem F7 {n:Nat} {t:Nat->Nat->Int} (a:T.Wt n t) (e:T.dB n t) (hn:0<n) {g:Int} (h:T.ee n t g) {D:Nat->Int} (hd:2*g-2<T.sN D n):T.cm n t D (T.sN D n-g):=by
 obtain⟨r,b⟩:=T.ke a hn D;have:=T.FM a e hn h hd b;rw[<-this];exact b
def Rk (n:Nat) (t:Nat->Nat->Int) (d:List Int) (r:Int):Prop:=T.cm n t (fun v=>rd d (v:Nat)) r
theorem sr {n:Nat} {t:Nat->Nat->Int} {D D':Nat->Int} (h:∀v,v<n->D' v=D v) {r:Int} (a:T.cm n t D r):T.cm n t D' r:=a.gG (T.bX.of_eq h)
theorem F8 {c:List Int} {n v:Nat} (a:c.length=n) (b:v<n):∀u,u<n->rd (c.set v (rd c v-1)) (u:Nat)=rd c u-T.one v u:=fun u hu=>by
 unfold T.one;by_cases e:u=v
 ·subst e;rw[je _ _ _ (by omega),if_pos rfl]
 ·rw[gH _ _ _ _ (fun k=>e k.symm),if_neg e];omega
theorem F9 {c:List Int} {v:Nat} (a:v<c.length) (x:Int):(c.set v x).set v (rd c v)=c:=by
 rw[List.set_set];refine List.ext_getElem (by simp) fun i h1 b=>?_
 rw[List.getElem_set];split
 ·rename_i e;subst e;simp[rd,aX,bB a]
 ·rfl
def jG (c:List Int):List Int:=c++List.replicate (12-c.length) 0
theorem F_ {c:List Int} (h:c.length<=12):(jG c).length=12:=by simp[jG];omega
def kn (n:Nat) (t:Nat->Nat->Int) (g:Int) (l:List Int) (x:Int):Prop:=∃c:List Int,c.length=n/\l=jG c/\Rk n t c x/\(∀v:Nat,v<n->0<=rd c v)/\(∀v:Nat,v<n->v≠0->rd c v<T.val n t v)/\T.sN (fun v=>rd c (v:Nat)) n<=2*g-2
theorem Ga {n:Nat} {a b:List Int} (e:a.length=n) (hb:b.length=n) (h:jG a=jG b):a=b:=by
 unfold jG at h;rw[e,hb] at h;exact List.append_cancel_right h
section
attribute [local go_sem] Oper.semAt_some
def fg (s:List Int) (o:Int):Nat->List Int
 |0=>s
 |k+1=>(fg s o k).set k (rd (fg s o k) k-o)
theorem nW (s:List Int) (o:Int):∀k,(fg s o k).length=s.length
 |0=>rfl
 |k+1=>by simp[fg,nW s o k]
theorem pQ (s:List Int) (o:Int):∀(k v:Nat),k<=s.length->v<s.length->rd (fg s o k) v=if v<k then rd s v-o else rd s v
 |0,v,_,a=>by rw[if_neg (by omega)];rfl
 |k+1,v,hk,a=>by
  have b:=pQ s o k;unfold fg;by_cases e:k=v
  ·subst e
   rw[je _ _ _ (by rw[nW];exact a),b k (by omega) a,if_neg (by omega),if_pos (by omega)]
  ·rw[gH _ _ _ _ e,b v (by omega) a]
   by_cases h:v<k
   ·rw[if_pos h,if_pos (by omega)]
   ·rw[if_neg h,if_neg (by omega)]
theorem Gb (g gd gs cd cs n:Nat) (A0:Option Addr) (c0:Nat) (E:List S83) (q:Nat) (d s:List Int) (w0 w:World) (z:1<=n) (hn:n<=12) (B:q<n) (h:SI w0 g gd gs cd cs n A0 c0 E q d s w) (C:d.length=n) (D:s.length=n)
  (hd:∀v:Nat,v<n-> -1048576<=rd d v/\rd d v<=1048576) (p:∀v:Nat,v<n->0<=rd s v/\rd s v<=2000000/\ -1048576<=rd s v-rd s q/\rd s v-rd s q<=1048576):
  Calls Tryz.prog 112 #[.pointer (some ⟨g,0,none⟩)] w fun e w'=>e= .returned (.tuple #[.slice (some ⟨gd,0,none⟩) n cd,.slice (some ⟨gs,0,none⟩) n cs,.int .i64 0])/\SI w0 g gd gs cd cs n A0 c0 E q d (fg s (rd s q) n) w':=by
 have ad:=Tryz.underlying188;have hu:=Tryz.underlying24;have O:=zA hd;have F:=zA p;have G:=zA C;have j:=zA D;have a:=zA h;obtain⟨P,Q, -, -⟩:=p q B;have ag:(q:Int)<(n:Int):=by omega
 have ak:(0:Int)<=(q:Int):=by omega
 clear hd p C D h;have R:=a.out.f5;have b:=a.out.f4;have s2:=a.out.f2;have r:=a.out.cells q B;go_enter Tryz.func112,Tryz.ntmps112
 go_wp2_with fail
 go_quiet (fail)
 clear R s2 r;rename_i nq;have k:=zA (a.out.drewN nq);clear a b;generalize w.drewN nq=W1 at k⊢;have b:=k.out.f4;generalize H:rd s q=o at P Q;have I:=zA H;clear H;go_wp2;go_loopg [31] (n) (fun S T wr=>∃v:Nat,v<=n/\T= .int .i64 v/\Aside0 (SI w0 g gd gs cd cs n A0 c0 E q d (fg s o v) wr)/\Aside0 (S=n-v))
 case atStart=>exact⟨0,by omega,rfl,k,⟨rfl⟩⟩
 case round=>
  clear k b;obtain⟨v,l,rfl,a,U⟩:=hrel;by_cases m:v<n
  ·have am:(0:Int)<=(v:Int):=by omega
   have an:(v:Int)<(n:Int):=by omega
   have b:=a.out.f4;have r:=a.out.cells v m;have sf:=a.out.vV v m;have J:Aside0 (∀W,SI w0 g gd gs cd cs n A0 c0 E q d ((fg s o v).set v (rd (fg s o v) v-o)) W->SI w0 g gd gs cd cs n A0 c0 E q d (fg s o (v+1)) W):=⟨fun W h=>h⟩;have V:0<=rd (fg s o v) v/\rd (fg s o v) v<=2000000:=by
    rw[pQ s o v v (by rw[j.out];omega) (by rw[j.out];exact m),if_neg (by omega)];have:=F.out v m;omega
   obtain⟨X,Y⟩:=V;have i:=zA (J.out _ (a.out.pC v (rd (fg s o v) v-o)));clear J a;generalize rd (fg s o v) v=y at X Y r i;go_wp2;go_roundg (n- (v+1))
   case measure=>rw[U.out];omega
   case rel=>exact⟨v+1,by omega,by go_num,i,⟨rfl⟩⟩
  ·obtain rfl:n=v:=by omega
   have s0:=a.out.f0;have K:=a.out.f3;have b:=a.out.f4;obtain⟨Z,e2,L⟩:=Kd.aH a.out.d;obtain⟨e4,M,N⟩:=Kd.aH a.out.s;have u:=zA (And.intro e2 L);have x:=zA (And.intro M N);have ab:Aside0 (∀v:Nat,v<n-> -1048576<=rd (fg s o n) v/\rd (fg s o n) v<=1048576):=⟨fun v l=>by
    rw[pQ s o n v (by rw[j.out];omega) (by rw[j.out];exact l),if_pos l];have:=F.out v l;rw[I.out] at this;omega⟩
   clear Z e2 L e4 M N;go_wp2_with fail
   go_quiet ((first|(go_at_call 87;with_reducible exact wR (some ⟨gd,0,none⟩) cd n d _ _ G.out z hn O.out (Kd.gy u.out.2 _) (by rw[G.out];exact u.out.1))|(go_at_call 87;with_reducible exact wR (some ⟨gs,0,none⟩) cs n (fg s o n) _ _ (by rw[nW];exact j.out) z hn ab.out (Kd.gy x.out.2 _) (by rw[nW,j.out];exact x.out.1))))
   have i:=zA (a.out.drewN nq);clear s0 K b a u x;generalize wr.drewN nq=W2 at i⊢;have K:=i.out.f3;have b:=i.out.f4;go_wp2_with fail
   go_quiet (fail)
   go_wp2;refine bodyPost_ret (results_tmp3 rfl _ _ _) rfl ?_;exact⟨rfl,by rw[I.out];exact i.out.drewN _⟩
end
def jH.f (k:Nat) (a:Int) (g:List (S83)) (e:Int) (l2:List Int):Option (Int):=(cz.f k a g).bind fun b=>(if b.2=0 then(if b.1=true then(if e<0 then(some 2) else(if e>=a then(some 2) else((bq.f k l2 a).bind fun t248=>(some t248)))) else(some 13)) else(some b.2))
theorem jH.calls (k:Nat) (g:Int) (m:Option Addr) (n:Nat) (i:List (S83)) (x:Int) (E:Option Addr) (c2:Nat) (l2:List Int) (r:Int) (w:World) (F:Kd.C aN w m i.length i) (G:i.length<=n) (I:Kd.C (Kd.int .i64) w E l2.length l2) (J:l2.length<=c2) (h:jH.f k g i x l2=some r):
  Calls Tryz.prog 108 #[.agg #[.int .i64 g,.slice m i.length n],.int .i64 x,.slice E l2.length c2] w fun e w'=>e= .returned (.int .i64 r)/\Below w.heap.size w w':=by
 have S:=Tryz.underlying24;have q:=zA F;have s:=zA G;clear F G;have K:=zA I;have L:=zA J;clear I J;have a:=zA (aq w.heap.size w);unfold jH.f at h;have H:=h;clear h;obtain⟨⟨t246,t247⟩,u,H⟩:=zo H;dsimp only at H;by_cases v:t247=0
 ·rw[if_pos v] at H
  obtain⟨M,O⟩:=bT v;clear v;by_cases y:t246=true
  ·subst y
   replace H:=zi H;by_cases o:x<0
   ·rw[if_pos o] at H
    have P:=ay o;clear o;obtain rfl:=aQ H;go_enter Tryz.func108,Tryz.ntmps108
    go_wp2_with (first|((with_reducible refine aU (N:=3) rfl ?_);refine zX 3 #[.int .i64 g,.slice m i.length n] 24 ?_;intro z j T l hb;have b:=zA (l);have B:=zG a j;have D:=zG a j;replace a:=zS a hb;clear hb l j;obtain⟨U,V,W,X⟩:=aA b)|((with_reducible refine aJ (f:=113) rfl ?_);refine zL (some 11) Tryz.func113 #[.agg #[.int .i64 g,.slice m i.length n]] ?_;(with_reducible refine(cz.calls k g _ _ i true t247 _ ?al ?aj u.out).mono ?_);(case al=>exact Kd.ax q.out zB);(case aj=>exact s.out);rintro e Y ⟨rfl,hb⟩;refine⟨_,rfl,?_⟩;replace b:=zb b hb;replace a:=zS a hb;(try clear hb)))
    go_ret;exact⟨zE,zB⟩
   ·rw[if_neg o] at H
    have P:=aZ o;clear o;by_cases p:x>=g
    ·rw[if_pos p] at H
     have Q:=ay p;clear p;obtain rfl:=aQ H;go_enter Tryz.func108,Tryz.ntmps108
     go_wp2_with (first|((with_reducible refine aU (N:=3) rfl ?_);refine zX 3 #[.int .i64 g,.slice m i.length n] 24 ?_;intro z j Z l hb;have b:=zA (l);have B:=zG a j;have D:=zG a j;replace a:=zS a hb;clear hb l j;obtain⟨aa,ab,ad,ag⟩:=aA b)|((with_reducible refine aJ (f:=113) rfl ?_);refine zL (some 11) Tryz.func113 #[.agg #[.int .i64 g,.slice m i.length n]] ?_;(with_reducible refine(cz.calls k g _ _ i true t247 _ ?al ?aj u.out).mono ?_);(case al=>exact Kd.ax q.out zB);(case aj=>exact s.out);rintro e ak ⟨rfl,hb⟩;refine⟨_,rfl,?_⟩;replace b:=zb b hb;replace a:=zS a hb;(try clear hb);obtain⟨am,an,ap,ar⟩:=aA b))
     go_ret;exact⟨zE,zB⟩
    ·rw[if_neg p] at H
     have Q:=aZ p;clear p;obtain⟨t248,R,H⟩:=zo H;obtain rfl:=aQ H;go_enter Tryz.func108,Tryz.ntmps108
     go_wp2_with (first|((with_reducible refine aU (N:=3) rfl ?_);refine zX 3 #[.int .i64 g,.slice m i.length n] 24 ?_;intro z j av l hb;have b:=zA (l);have B:=zG a j;have D:=zG a j;replace a:=zS a hb;clear hb l j;obtain⟨aB,aF,aL,aO⟩:=aA b)|((with_reducible refine aJ (f:=113) rfl ?_);refine zL (some 11) Tryz.func113 #[.agg #[.int .i64 g,.slice m i.length n]] ?_;(with_reducible refine(cz.calls k g _ _ i true t247 _ ?al ?aj u.out).mono ?_);(case al=>exact Kd.ax q.out zB);(case aj=>exact s.out);rintro e aP ⟨rfl,hb⟩;refine⟨_,rfl,?_⟩;replace b:=zb b hb;replace a:=zS a hb;(try clear hb);obtain⟨aR,aS,a0,a2⟩:=aA b)|((with_reducible refine aJ (f:=87) rfl ?_);refine zL (some 33) Tryz.func87 #[.slice E l2.length c2,.int .i64 g] ?_;(with_reducible refine(bq.calls k _ _ l2 g t248 _ ?al ?aj R.out).mono ?_);(case al=>exact Kd.ax K.out zB);(case aj=>exact L.out);rintro e w' ⟨rfl,⟨nd,rfl⟩⟩;refine⟨_,rfl,?_⟩))
     go_ret;exact⟨zE,zB⟩
  ·replace y:=Bool.eq_false_iff.mpr y
   subst y;replace H:=zj H;obtain rfl:=aQ H;go_enter Tryz.func108,Tryz.ntmps108
   go_wp2_with (first|((with_reducible refine aU (N:=3) rfl ?_);refine zX 3 #[.int .i64 g,.slice m i.length n] 24 ?_;intro z j a4 l hb;have b:=zA (l);have B:=zG a j;have D:=zG a j;replace a:=zS a hb;clear hb l j;obtain⟨a5,a9,be,bf⟩:=aA b)|((with_reducible refine aJ (f:=113) rfl ?_);refine zL (some 11) Tryz.func113 #[.agg #[.int .i64 g,.slice m i.length n]] ?_;(with_reducible refine(cz.calls k g _ _ i false t247 _ ?al ?aj u.out).mono ?_);(case al=>exact Kd.ax q.out zB);(case aj=>exact s.out);rintro e bg ⟨rfl,hb⟩;refine⟨_,rfl,?_⟩;replace b:=zb b hb;replace a:=zS a hb;(try clear hb)))
   go_ret;exact⟨zE,zB⟩
 ·rw[if_neg v] at H
  obtain⟨M,O⟩:=bU v;obtain rfl:=aQ H;go_enter Tryz.func108,Tryz.ntmps108
  go_wp2_with (first|((with_reducible refine aU (N:=3) rfl ?_);refine zX 3 #[.int .i64 g,.slice m i.length n] 24 ?_;intro z j bi l hb;have b:=zA (l);have B:=zG a j;have D:=zG a j;replace a:=zS a hb;clear hb l j;obtain⟨bk,bn,bo,bv⟩:=aA b)|((with_reducible refine aJ (f:=113) rfl ?_);refine zL (some 11) Tryz.func113 #[.agg #[.int .i64 g,.slice m i.length n]] ?_;(with_reducible refine(cz.calls k g _ _ i t246 t247 _ ?al ?aj u.out).mono ?_);(case al=>exact Kd.ax q.out zB);(case aj=>exact s.out);rintro e bw ⟨rfl,hb⟩;refine⟨_,rfl,?_⟩;replace b:=zb b hb;replace a:=zS a hb;(try clear hb)))
  go_ret;exact⟨zE,zB⟩
section
attribute [local go_sem] Oper.semAt_some
def kZ.f (k:Nat) (N:Int) (E:List S83) (q:Int) (d:List Int):Option (List Int×List Int×Int):=
 (jH.f k N E q d).bind fun e=>if e=0 then(if jn N E q d=true then((iO N.toNat E q.toNat d k).bind fun s=>some (eJ N.toNat E d s,s,0)) else none) else some ([],[],e)
theorem Gc {n q:Nat} {t:Nat->Nat->Int} (b:T.Wt n t) (a:q<n) (hn:n<=12) (e:T.sN (T.val n t) n<=19) {D dist:Nat->Int} (g:∀v,v<n-> -200<=D v/\D v<=200) {d s:List Int} (i:d.length=n) (j:s.length=n) (hp:∀v:Nat,v<n->v≠q->0<=rd d v)
  (h:T.fs n t D dist 200 0 (fun v=>rd d (v:Nat)) (fun v=>rd s (v:Nat))):jE n q t D d s:=by
 have hb:=nL b hn e g (by omega) (by omega) h;exact⟨i,j,h.eq,hp,(hb q a).1,fun v k=>(hb v k).2.2.1,(hb q a).2.2.2⟩
theorem Gd (k:Nat) (N:Int) (A0:Option Addr) (c0:Nat) (E:List S83) (q:Int) (a:Option Addr) (c2:Nat) (d:List Int) (t:Int) (w:World) (j:Kd.C aN w A0 E.length E) (l:E.length<=c0) (b:Kd.C (Kd.int .i64) w a d.length d) (g:d.length<=c2)
  (h:jH.f k N E q d=some t) (i:t≠0):
  Calls Tryz.prog 54 #[.agg #[.int .i64 N,.slice A0 E.length c0],.int .i64 q,.slice a d.length c2] w fun e w'=>e= .returned (.tuple #[.slice none 0 0,.slice none 0 0,.int .i64 t])/\Below w.heap.size w w':=by
 have hu:=Tryz.underlying24;have m:=zA h;have n:=zA b;have o:=zA g;have r:(t != 0)=true:=by simpa using i
 clear h i b g;go_enter Tryz.func54,Tryz.ntmps54
 go_wp2_with (go_at_call 108;refine(jH.calls k N A0 c0 E q a c2 d t _ (Kd.bz j _) l (Kd.bz n.out _) o.out m.out).mono ?_;rintro e w1 ⟨rfl,hb⟩;have p:=zA (aW (ao (aq w.heap.size w) _) hb);clear hb)
 refine bodyPost_ret (results_tmp3 rfl _ _ _) rfl ?_;exact⟨rfl,p.out⟩
theorem Ge (n:Nat) (q:Int) (A0:Option Addr) (c0:Nat) (E:List S83) (a:Option Addr) (cd:Nat) (d:List Int) (w:World) (hd:Kd.C (Kd.int .i64) w a d.length d) (b:d.length<=cd) (h:d.length=n) (h1:1<=n) (hn:n<=1000):
  Calls Tryz.prog 109 #[.agg #[.int .i64 n,.slice A0 E.length c0],.int .i64 q,.slice a d.length cd] w fun e w'=>∃g gd gs i j,e= .returned (.pointer (some ⟨g,0,none⟩))/\SI w g gd gs i j n A0 c0 E q d (List.replicate n 0) w':=by
 subst h;exact EX d.length q A0 c0 E a cd d w hd b rfl h1 hn
theorem Gf (k n:Nat) (A0:Option Addr) (c0:Nat) (E:List S83) (q:Nat) (z:Option Addr) (c2:Nat) (d s:List Int) (w:World) (J:Kd.C aN w A0 E.length E) (ak:E.length<=c0) (K:Kd.C (Kd.int .i64) w z d.length d) (L:d.length<=c2)
  (M:jH.f k n E q d=some 0) (l:dT n q E d) (N:kY n E q d s=true):
  Calls Tryz.prog 54 #[.agg #[.int .i64 n,.slice A0 E.length c0],.int .i64 q,.slice z d.length c2] w fun e w'=>∃gd gs m o,e= .returned (.tuple #[.slice (some ⟨gd,0,none⟩) n m,.slice (some ⟨gs,0,none⟩) n o,.int .i64 0])/\gd≠gs/\(Kd.int .i64).R 3 w' w.heap.size (fun _=>True) (.slice (some ⟨gd,0,none⟩) n m) (eJ n E d s)/\(Kd.int .i64).R 3 w' w.heap.size (fun _=>True) (.slice (some ⟨gs,0,none⟩) n o) s/\Below w.heap.size w w':=by
 have hu:=Tryz.underlying24;have HG:=zA M;have O:=zA K;have P:=zA L;have a:=zA l;have F:=(nV l.right).1 N;have G:=zA F.2;have an:=zA F.1;have Q:=zA l.dl;clear M K L F N;have S:=l.n1;have r:=l.n12;have p:=l.q;clear l;go_enter Tryz.func54,Tryz.ntmps54
 go_wp2_with (go_at_call 108;refine(jH.calls k n A0 c0 E q z c2 d 0 _ (Kd.bz J _) ak (Kd.bz O.out _) P.out HG.out).mono ?_;rintro e w1 ⟨rfl,hb⟩;have H:=aD (a7 w (.cells #[.int .i64 n,.slice A0 E.length c0] 24)) hb;have y0:=(ah H 0).trans rfl;have y1:=(ah H 1).trans rfl;have B:=zA (aW (ao (aq w.heap.size w) _) hb);clear hb H)
 refine(Ge n q A0 c0 E z c2 d w1 (Kd.ax O.out B.out) P.out Q.out S (by omega)).mono ?_;rintro e w2 ⟨g,gd,gs,m,o,rfl,j⟩;have U:=zA j;have V:=zA (Kd.ax J B.out);have W:=B.out.size;clear j y0 y1;go_wp2_with (go_at_call 110;refine(EV g gd gs m o n A0 c0 E q d w1 _ V.out a.out.right a.out.len a.out.conn r p a.out.val a.out.d Q.out U.out).mono ?_;rintro e w3 ⟨rfl,d3,s3,l1,l2,j,hp,dist,hle⟩;have X:=zA j;have Y:=zA (Gc a.out.right.wt p r a.out.val a.out.d l1 l2 hp hle);clear l1 l2 j hp hle U)
 refine(EH g gd gs m o n A0 c0 E q (fun v=>rd d (v:Nat)) (fun v=>rd (eJ n E d s) (v:Nat)) (fun v=>rd s (v:Nat)) d3 s3 w1 w3 V.out a.out.right a.out.len a.out.conn r p a.out.val a.out.d G.out Y.out X.out).mono ?_;rintro e w4 ⟨rfl,d4,b,j,x,Z⟩;have aa:=zA j;have aB:=zA (x.bounds a.out.right.wt (a.out.right.conn a.out.conn) p r a.out.val a.out.d G.out);have I:eT n q (ae E) (fun v=>rd d (v:Nat)) (fun v=>rd d4 (v:Nat)) (fun v=>rd b (v:Nat)-rd b q):=⟨⟨x.kQ,Z⟩,fun v i=>by
  have h:=T.lP n (ae E) (fun u=>rd b (u:Nat)) (fun _=>rd b q) v;rw[T.jD] at h;rw[h,x.eq v i];omega,by show rd b q-rd b q=0;omega⟩
 have HU:=zA (eT.unique a.out.right.wt (a.out.right.conn a.out.conn) p I G.out);have ad:=zA (eT.bound a.out.right.wt (a.out.right.conn a.out.conn) p r a.out.val a.out.d I);have ag:=zA x.dl;have D:=zA x.sl;clear j x Z I X Y;go_wp2_with (go_at_call 112;refine(Gb g gd gs m o n A0 c0 E q d4 b w1 _ S r p aa.out ag.out D.out (fun v i=>by have:=ad.out v i;omega) (fun v i=>by have h1: -31536<=rd b v-rd b q/\rd b v-rd b q<=31536/\_:=ad.out v i;have h2:=aB.out v i;omega)).mono ?_;rintro e w5 ⟨rfl,j⟩;have aF:=zA j;clear j aa)
 refine bodyPost_ret (results_tmp3 rfl _ _ _) rfl ?_;have e1:d4=eJ n E d s:=pO ag.out (sn n E d s) (fun v i=>(HU.out v i).1);have e2:fg b (rd b q) n=s:=pO ((nW _ _ _).trans D.out) an.out (fun v i=>by
  rw[pQ _ _ _ _ (by rw[D.out];omega) (by rw[D.out];exact i),if_pos i];exact(HU.out v i).2)
 have y:=aF.out;rw[e1,e2] at y;exact⟨gd,gs,m,o,rfl,y.ne.1,Kd.bd y.d W,Kd.bd y.s W,aW B.out y.hb⟩
theorem kZ.calls (k:Nat) (b:Int) (g:Option Addr) (i:Nat) (a:List (S83)) (j:Int) (l:Option Addr) (c2:Nat) (l2:List Int) (y:List Int) (z:List Int) (B:Int) (w:World) (D:Kd.C aN w g a.length a) (E:a.length<=i) (F:Kd.C (Kd.int .i64) w l l2.length l2) (G:l2.length<=c2) (h:kZ.f k b a j l2=some (y,z,B)):
  Calls Tryz.prog 54 #[.agg #[.int .i64 b,.slice g a.length i],.int .i64 j,.slice l l2.length c2] w fun e w'=>∃o p:Value,e= .returned (.tuple #[o,p,.int .i64 B])/\Kd.R (Kd.int .i64) 3 w' w.heap.size (fun r=>some r≠(p:Value).ownBlock) o y/\Kd.R (Kd.int .i64) 3 w' w.heap.size (fun r=>some r≠(o:Value).ownBlock) p z/\Below w.heap.size w w':=by
 unfold kZ.f at h;obtain⟨e,he,u⟩:=Option.bind_eq_some_iff.1 h;clear h;have h:=u;by_cases v:e=0
 ·subst v
  rw[if_pos rfl] at h;by_cases x:jn b a j l2=true
  ·rw[if_pos x] at h
   obtain⟨n,q,rfl,rfl,hk⟩:=pP x;obtain⟨s,m,u⟩:=Option.bind_eq_some_iff.1 h;clear h;have h:=u;simp only[aG,Option.some.injEq,Prod.mk.injEq] at m h;obtain⟨rfl,rfl,rfl⟩:=h;refine(Gf k n g i a q l c2 l2 s w D E F G he hk (so m)).mono ?_;rintro e w' ⟨gd,gs,K,L,rfl,H,hd,m,hb⟩;exact⟨_,_,rfl,Kd.a_ (Kd.ia rfl hd) (fun k hk e=>H (by have:=hk.symm.trans e;injection this)),Kd.a_ (Kd.ia rfl m) (fun k hk e=>H (by have:=e.symm.trans hk;injection this)),hb⟩
  ·rw[if_neg x] at h;cases h
 ·rw[if_neg v] at h
  injection h with h
  injection h with h1 h
  injection h with I J
  subst h1 I J;refine(Gd k b g i a j l c2 l2 e w D E F G he v).mono ?_;rintro e' w' ⟨rfl,hb⟩;exact⟨_,_,rfl,Kd.dm _ _ _ _ _,Kd.dm _ _ _ _ _,hb⟩
end
def lh.f (k:Nat) (b:Int) (e:List (S83)) (l1:List Int):Option (Bool×List Int×List Int×Int):=(kZ.f k b e 0 l1).bind fun a=>(if a.2.2=0 then(if 0<(a.1.length:Int) then(some (decide ((rd a.1 0)>=0),a.1,a.2.1,0)) else(none)) else(some (false,([]:List Int),([]:List Int),a.2.2)))
theorem lh.calls (k:Nat) (g:Int) (l:Option Addr) (m:Nat) (b:List (S83)) (q:Option Addr) (c1:Nat) (l1:List Int) (B:Bool) (D:List Int) (E:List Int) (F:Int) (w:World) (G:Kd.C aN w l b.length b) (I:b.length<=m) (J:Kd.C (Kd.int .i64) w q l1.length l1) (K:l1.length<=c1) (h:lh.f k g b l1=some (B,D,E,F)):
  Calls Tryz.prog 14 #[.agg #[.int .i64 g,.slice l b.length m],.slice q l1.length c1] w fun e w'=>∃u v:Value,e= .returned (.tuple #[.bool B,u,v,.int .i64 F])/\Kd.R (Kd.int .i64) 3 w' w.heap.size (fun x=>some x≠(v:Value).ownBlock) u D/\Kd.R (Kd.int .i64) 3 w' w.heap.size (fun x=>some x≠(u:Value).ownBlock) v E/\Below w.heap.size w w':=by
 have ag:=Tryz.underlying24;have L:=zA G;have M:=zA I;clear G I;have O:=zA J;have P:=zA K;clear J K;have a:=zA (aq w.heap.size w);unfold lh.f at h;have H:=h;clear h;obtain⟨⟨t250,t253,t256⟩,Q,H⟩:=zo H;dsimp only at H;by_cases c4:t256=0
 ·rw[if_pos c4] at H
  obtain⟨U,V⟩:=bT c4;clear c4;by_cases r:0<(t250.length:Int)
  ·rw[if_pos r] at H
   have ak:=ay r;have am:decide (0<t250.length)=true:=ay (by omega);clear r;simp only[Option.some.injEq,Prod.mk.injEq] at H;obtain⟨rfl,rfl,rfl,rfl⟩:=H;go_enter Tryz.func14,Tryz.ntmps14
   go_wp2_with (first|((with_reducible refine aU (N:=2) rfl ?_);refine zX 2 #[.int .i64 g,.slice l b.length m] 24 ?_;intro W i w6 n hb;have j:=zA (n);have X:=zG a i;have Y:=zG a i;replace a:=zS a hb;clear hb n i;obtain⟨ap,ar,av,aB⟩:=aA j)|((with_reducible refine aJ (f:=54) rfl ?_);refine zL (some 14) Tryz.func54 #[.agg #[.int .i64 g,.slice l b.length m],.int .i64 0,.slice q l1.length c1] ?_;(with_reducible refine(kZ.calls k g _ _ b 0 _ _ l1 t250 t253 t256 _ ?al ?aj ?bl ?bm Q.out).mono ?_);(case al=>exact Kd.ax L.out zB);(case aj=>exact M.out);(case bl=>exact Kd.ax O.out zB);(case bm=>exact P.out);rintro e w8 ⟨Z,aa,rfl,o,p,hb⟩;refine⟨_,rfl,?_⟩;have s:=zA (Kd.bd o (bH zB));have S:=zA (Kd.bd p (bH zB));replace j:=zb j hb;replace a:=zS a hb;(try clear hb);(try clear o);(try clear p);obtain⟨aL,aO,ab⟩:=Kd.bh s.out;subst ab;have y:0<=(0:Int):=(by omega);have z:0<(t250.length:Int):=aw ‹_›;obtain⟨aP,ad,T⟩:=Kd.bJ (Kd.aH s.out).2.2 0 y z;cases ad;have aR:(0<t250.length)=True:=eq_true (by omega);(try rw[show ((0:Int)).toNat=0 from rfl] at T);(try rw[Addr.add_zero'] at T);replace y:=eq_true y;replace z:=eq_true z))
   refine bodyPost_ret (tD (rs:=[.tmp 4,.tmp 5,.tmp 6,.tmp 7]) rfl (by simp) (.tmp (.tmp (.tmp (.tmp .nil))))) rfl ?_;exact⟨_,_,zE,by(with_reducible repeat(first|apply Kd.aM|apply Kd.bs|apply Kd.bj));exact s.out,by(with_reducible repeat(first|apply Kd.aM|apply Kd.bs|apply Kd.bj));exact S.out,zB⟩
  ·rw[if_neg r] at H
   exact absurd H (by simp)
 ·rw[if_neg c4] at H
  obtain⟨U,V⟩:=bU c4;simp only[Option.some.injEq,Prod.mk.injEq] at H;obtain⟨rfl,rfl,rfl,rfl⟩:=H;go_enter Tryz.func14,Tryz.ntmps14
  go_wp2_with (first|((with_reducible refine aU (N:=2) rfl ?_);refine zX 2 #[.int .i64 g,.slice l b.length m] 24 ?_;intro W i aS n hb;have j:=zA (n);have X:=zG a i;have Y:=zG a i;replace a:=zS a hb;clear hb n i;obtain⟨a0,a1,a2,a3⟩:=aA j)|((with_reducible refine aJ (f:=54) rfl ?_);refine zL (some 14) Tryz.func54 #[.agg #[.int .i64 g,.slice l b.length m],.int .i64 0,.slice q l1.length c1] ?_;(with_reducible refine(kZ.calls k g _ _ b 0 _ _ l1 t250 t253 t256 _ ?al ?aj ?bl ?bm Q.out).mono ?_);(case al=>exact Kd.ax L.out zB);(case aj=>exact M.out);(case bl=>exact Kd.ax O.out zB);(case bm=>exact P.out);rintro e a4 ⟨Z,aa,rfl,o,p,hb⟩;refine⟨_,rfl,?_⟩;have s:=zA (Kd.bd o (bH zB));have S:=zA (Kd.bd p (bH zB));replace j:=zb j hb;replace a:=zS a hb;(try clear hb);(try clear o);(try clear p)))
  refine bodyPost_ret (tD (rs:=[.tmp 4,.tmp 5,.tmp 6,.tmp 7]) rfl (by simp) (.tmp (.tmp (.tmp (.tmp .nil))))) rfl ?_;exact⟨_,_,zE,by first|exact Kd.dm _ _ _ _ _|exact Kd.fV _ _ _ _ _|exact Kd.V_nil _ _ _ _ _|exact Kd.Q_nil _ _ _ _ _|exact Kd.ic _ _ _ _ _,by first|exact Kd.dm _ _ _ _ _|exact Kd.fV _ _ _ _ _|exact Kd.V_nil _ _ _ _ _|exact Kd.Q_nil _ _ _ _ _|exact Kd.ic _ _ _ _ _,zB⟩
section
attribute [local go_sem] Oper.semAt_some jQ jR jS jT
theorem pR (d:List Int):∀n,eY d n=T.sN (fun v=>rd d (v:Nat)) n
 |0=>rfl
 |n+1=>by
  show eY d n+_=T.sN _ n+_
  rw[pR d n]
def gW (W:World) (a:Nat) (n:Nat) (A0:Option Addr) (E:List S83) (c0:Nat) (g:Int) (b:Nat):Prop:=W.heap[a]? =some (.cells #[.int .i64 n,.slice A0 E.length c0,.int .i64 g,.map (some b)] 171 (0,0))
def fh (a:Nat) (W W':World):Prop:=Below a W W'/\∀k,k<W.heap.size->k≠a->W'.heap[k]? =W.heap[k]?
theorem fh.mR {a:Nat} {W W':World} (h:Below W.heap.size W W') (hm:a<=W.heap.size):fh a W W':=⟨h.mono hm,fun k hk _=>h.block k hk⟩
theorem fh.trans {a:Nat} {A B C:World} (h:fh a A B) (b:fh a B C):fh a A C:=⟨h.1.trans b.1,fun k hk e=>(b.2 k (Nat.lt_of_lt_of_le hk h.1.size) e).trans (h.2 k hk e)⟩
theorem fh.xE {a:Nat} {W W':World} (h:fh a W W') {k:Nat} {cs:Array Value} {t:TypeId} (hk:W.heap[k]? =some (.cells cs t (0,0))) (b:k≠a):W'.heap[k]? =some (.cells cs t (0,0)):=(h.2 k (aC hk) b).trans hk
structure ss (n:Nat) (E:List S83) (g:Int):Prop where
 n1:1<=n
 n12:n<=12
 right:br n E
 conn:fc n E
 len:E.length<=1000
 val:T.sN (T.val n (ae E)) n<=19
 gen:T.ee n (ae E) g
 g0: -100<=g/\g<=100
 nX:∀d:List Int,dT n 0 E d->∃k s,lh.f k n E d=some (decide (rd (eJ n E d s) 0>=0),eJ n E d s,s,0)/\kY n E 0 d s=true
 b7:∀a:List (List Int),a.Pairwise (· ≠ ·)->(∀l∈a,∃x,kn n (ae E) g l x)->a.length<16384
def pS (n:Nat) (d:List Int):Prop:=d.length=n/\∀v:Nat,v<n-> -200<=rd d v/\rd d v<=200
def su (n:Nat) (t:Nat->Nat->Int) (g:Int) (d:List Int) (a:Nat) (W:World) (e:Ending) (W':World):Prop:=∃r:Int,e= .returned (.tuple #[.int .i64 r,.int .i64 0])/\Rk n t d r/\ec (kn n t g) W' a/\fh a W W'
theorem xF (n:Nat) (A0:Option Addr) (c0:Nat) (E:List S83) (g:Int) (q i:Nat) (w0:World) (gp:Kd.C aN w0 A0 E.length E) (eb:E.length<=c0) (hG:ss n E g) (gq:w0.heap.size<=i)
  (d:List Int) (A:Option Addr) (c:Nat) (W:World) (hd:pS n d) (ih:0<=eY d n->∀(d':List Int) (A':Option Addr) (c':Nat) (W':World),pS n d'->eY d' n<eY d n->Below w0.heap.size w0 W'->gW W' q n A0 E c0 g i->ec (kn n (ae E) g) W' i->Kd.C (Kd.int .i64) W' A' d'.length d'->d'.length<=c'->Calls Tryz.prog 95 #[.pointer (some ⟨q,0,none⟩),.slice A' n c'] W' (su n (ae E) g d' i W')) (hB:Below w0.heap.size w0 W) (hF:gW W q n A0 E c0 g i) (hM:ec (kn n (ae E) g) W i) (ak:q≠i) (hC:Kd.C (Kd.int .i64) W A d.length d) (hc:d.length<=c):
  Calls Tryz.prog 95 #[.pointer (some ⟨q,0,none⟩),.slice A n c] W (su n (ae E) g d i W):=by
  have IH:=zA ih;have X:=zA hG;have HD:=zA hd;have HB:=zA hB;have HF:=zA hF;have HM:=zA hM;have HC:=zA hC;have c2:=zA hc;have er:=hG.n1;have b5:=hG.n12;have es:=hG.g0;have hY:=Tryz.underlying171;have hu:=Tryz.underlying24;have gt:=hM.lt;have h1:=aC hF;have ev:=zA (r6 (n:=n) (d:=d) (fun v Q=>by have:=hd.2 v Q;omega) n (aI n));have ew:=zA (pR d n);clear ih hG hd hB hF hM hC hc;go_enter Tryz.func95,Tryz.ntmps95
  go_wp2_with fail
  refine(FB A c n d W HC.out c2.out HD.out.1 er b5 (fun v Q=>by have:=HD.out.2 v Q;omega)).mono ?_;rintro e w1 ⟨rfl,hb⟩;have b6:=zA hb;have b_:=zA (show gW w1 q n A0 E c0 g i from aD HF.out hb);have ap:=zA (HM.out.below hb);clear hb;have b':=zA (aW HB.out b6.out);have ca:=zA (fh.mR b6.out (Nat.le_of_lt gt));have y2:w1.cell? ⟨q,2,none⟩=some (.int .i64 g):=(ah b_.out 2).trans rfl;have y0:w1.cell? ⟨q,0,none⟩=some (.int .i64 n):=(ah b_.out 0).trans rfl;have y1:w1.cell? ⟨q,1,none⟩=some (.slice A0 E.length c0):=(ah b_.out 1).trans rfl;have Z:0<n:=by omega
  have aa:=zA X.out.right.wt;have ex:=zA (X.out.right.conn X.out.conn);have hb:=ev.out;have bv:Aside0 (eY d n=T.sN (fun v=>rd d (v:Nat)) n):=ew;generalize gx:eY d n=S at hb IH bv⊢;have g1: -20000000<=S:=by omega
  have g2:S<=20000000:=by omega
  clear gx hb ev ew;by_cases ey:S<0
  ·have P:Aside0 (Rk n (ae E) d (-1)):=⟨xD aa.out Z (fun hw=>by have:=hw.bb aa.out;rw[<-bv.out] at this;omega)⟩
   have g3:decide (S<0)=true:=ay ey;go_wp2;go_ret2;exact⟨-1,rfl,P.out,ap.out,ca.out⟩
  have g3:decide (S<0)=false:=aZ ey;by_cases cb:2*g-2<S
  ·have P:Aside0 (Rk n (ae E) d (S-g)):=⟨by rw[bv.out];exact F7 aa.out ex.out Z X.out.gen (by rw[<-bv.out];exact cb)⟩
   have g4:decide (2*g-2<S)=true:=ay cb;obtain⟨g5,g6⟩:=es;go_wp2;go_ret2;exact⟨S-g,rfl,P.out,ap.out,ca.out⟩
  have g4:decide (2*g-2<S)=false:=aZ cb;obtain⟨g5,g6⟩:=es;obtain⟨kW,s,e2,hs⟩:=X.out.nX d ⟨er,b5,Z,X.out.len,X.out.right,X.out.conn,X.out.val,HD.out.1,HD.out.2⟩;have cc:=(nV X.out.right).1 hs;have cd:=zA cc.2;have Y:=zA (sn n E d s);have bw:=zA e2;have e4:=zA (Kd.ax gp b'.out);have e5:=zA (Kd.ax HC.out b6.out);have c3:=zA (eT.bound aa.out ex.out Z b5 X.out.val HD.out.2 cc.2);have bx:Aside0 (T.bX n (ae E) (fun v=>rd d (v:Nat)) (fun v=>rd (eJ n E d s) (v:Nat))):=⟨⟨_,cc.2.eq⟩⟩;have g7:=zA HD.out.1;clear e2 hs cc;generalize eJ n E d s=cl at cd Y bw c3 bx;have g8:=g7.out;subst g8;cases aO:decide (rd cl 0>=0) with
  |false=>
   have aP:¬0<=rd cl (0:Nat):=by simpa using aO
   have P:Aside0 (Rk d.length (ae E) d (-1)):=⟨xD aa.out Z (fun hw=>aP ((T.nS aa.out Z cd.out.red).1 (hw.gG bx.out)))⟩;rw[aO] at bw;clear aO aP;go_wp2_with (go_at_call 14;refine(lh.calls kW d.length A0 c0 E A c d false cl s 0 _ e4.out eb e5.out c2.out bw.out).mono ?_;rintro e w2 ⟨v1,v2,rfl,aR,c4,ad⟩;have ce:=zA (ca.out.trans (fh.mR ad (Nat.le_of_lt ap.out.lt)));have aS:=zA (ap.out.below ad);clear aR c4 ad)
   go_ret2;exact⟨-1,rfl,P.out,aS.out,ce.out⟩
  |true=>
   have aP:0<=rd cl (0:Nat):=by simpa using aO
   have g9:Aside0 (T.bP d.length (ae E) (fun v=>rd cl (v:Nat))):=⟨(T.nS aa.out Z cd.out.red).2 aP⟩;have g':=zA aP;rw[aO] at bw;clear aO aP;go_wp2_with (go_at_call 14;refine(lh.calls kW d.length A0 c0 E A c d true cl s 0 _ e4.out eb e5.out c2.out bw.out).mono ?_;rintro e w2 ⟨v1,v2,rfl,aR,c4,ad⟩;obtain⟨l,cr,rfl,h6,h7, -⟩:=Kd.fE aR (by rw[Y.out];omega);rw[Y.out] at aR⊢;have cf:=zA (Kd.a_ aR (ok':=fun _=>True) (fun _ _=>trivial));have ce:=zA (ca.out.trans (fh.mR ad (Nat.le_of_lt ap.out.lt)));have aS:=zA (ap.out.below ad);have e6:=zA (aW b'.out ad);have e_:=zA (show gW w2 q d.length A0 E c0 g i from aD b_.out ad);have h8:=ad.size;clear aR c4 ad)
   obtain⟨qs,e',c5⟩:∃qs:List Int,qs=jG cl/\qs.length=12:=⟨_,rfl,F_ (by rw[Y.out];exact b5)⟩;have HQ:=zA e';have fd:=Kd.aH cf.out;have ha:=zA fd.2.2;rw[run_copy_row _ (w2.alloc (.cells #[.int .i64 0,.int .i64 0,.int .i64 0,.int .i64 0,.int .i64 0,.int .i64 0,.int .i64 0,.int .i64 0,.int .i64 0,.int .i64 0,.int .i64 0,.int .i64 0] 172)) 25 26 3 3 w2.heap.size 0 12 12 ⟨l,0,none⟩ d.length cr _ 172 (cl.map (Value.int .i64)) Tryz.underlying25 (by kernel_rfl) (a7 w2 _) (by rw[List.length_map,Y.out];show d.length=min d.length 12;omega) (fun j v hj=>by
    obtain⟨c6,hf⟩:=List.getElem?_eq_some_iff.1 hj;rw[List.length_map] at c6;have h:=(Kd.bO 0 (Kd.aM cf.out (.cells #[.int .i64 0,.int .i64 0,.int .i64 0,.int .i64 0,.int .i64 0,.int .i64 0,.int .i64 0,.int .i64 0,.int .i64 0,.int .i64 0,.int .i64 0,.int .i64 0] 172)) (j:Int) (by omega) (by rw[Y.out] at c6;omega)).1;rw[aG] at h;rw[add_plain,h,<-hf];simp[bM,aX,bB c6]) (by rw[List.length_map,Y.out];simp;omega) (fun v Q=>by obtain⟨x, -,rfl⟩:=List.mem_map.1 Q;rfl)]
   have hg:∃z B D F G H I J K M N O:Int,qs=[z,B,D,F,G,H,I,J,K,M,N,O]:=by
    match qs,c5 with
    |[z,B,D,F,G,H,I,J,K,M,N,O],_=>exact⟨_,_,_,_,_,_,_,_,_,_,_,_,rfl⟩
   obtain⟨z,B,D,F,G,H,I,J,K,M,N,O,hk⟩:=hg;rw[show ((#[.int .i64 0,.int .i64 0,.int .i64 0,.int .i64 0,.int .i64 0,.int .i64 0,.int .i64 0,.int .i64 0,.int .i64 0,.int .i64 0,.int .i64 0,.int .i64 0]:Array Value).toList.take 0++cl.map (Value.int .i64)++(#[.int .i64 0,.int .i64 0,.int .i64 0,.int .i64 0,.int .i64 0,.int .i64 0,.int .i64 0,.int .i64 0,.int .i64 0,.int .i64 0,.int .i64 0,.int .i64 0]:Array Value).toList.drop (0+(cl.map (Value.int .i64)).length)).toArray=#[.int .i64 z,.int .i64 B,.int .i64 D,.int .i64 F,.int .i64 G,.int .i64 H,.int .i64 I,.int .i64 J,.int .i64 K,.int .i64 M,.int .i64 N,.int .i64 O] from by
    rw[show (#[.int .i64 0,.int .i64 0,.int .i64 0,.int .i64 0,.int .i64 0,.int .i64 0,.int .i64 0,.int .i64 0,.int .i64 0,.int .i64 0,.int .i64 0,.int .i64 0]:Array Value).toList=List.replicate 12 (Value.int .i64 0) from rfl,List.take_zero,List.nil_append,List.length_map,Nat.zero_add,List.drop_replicate];have h:qs.map (Value.int .i64)=cl.map (Value.int .i64)++List.replicate (12-cl.length) (Value.int .i64 0):=by rw[HQ.out,jG,List.map_append,List.map_replicate]
    rw[<-h,hk];rfl]
   have c7:=zA hk;have U:=zA (setRow_heap (w2.alloc (.cells #[.int .i64 0,.int .i64 0,.int .i64 0,.int .i64 0,.int .i64 0,.int .i64 0,.int .i64 0,.int .i64 0,.int .i64 0,.int .i64 0,.int .i64 0,.int .i64 0] 172)) w2.heap.size _ #[.int .i64 z,.int .i64 B,.int .i64 D,.int .i64 F,.int .i64 G,.int .i64 H,.int .i64 I,.int .i64 J,.int .i64 K,.int .i64 M,.int .i64 N,.int .i64 O] _ _ (a7 w2 _));have ar:=zA (below_setRow (g:=w2.heap.size) (ao (aq w2.heap.size w2) (.cells #[.int .i64 0,.int .i64 0,.int .i64 0,.int .i64 0,.int .i64 0,.int .i64 0,.int .i64 0,.int .i64 0,.int .i64 0,.int .i64 0,.int .i64 0,.int .i64 0] 172)) (aI _) #[.int .i64 z,.int .i64 B,.int .i64 D,.int .i64 F,.int .i64 G,.int .i64 H,.int .i64 I,.int .i64 J,.int .i64 K,.int .i64 M,.int .i64 N,.int .i64 O]);clear hk e' fd;rw[Result.andThen_ok];generalize (w2.alloc (.cells #[.int .i64 0,.int .i64 0,.int .i64 0,.int .i64 0,.int .i64 0,.int .i64 0,.int .i64 0,.int .i64 0,.int .i64 0,.int .i64 0,.int .i64 0,.int .i64 0] 172)).setRow w2.heap.size #[.int .i64 z,.int .i64 B,.int .i64 D,.int .i64 F,.int .i64 G,.int .i64 H,.int .i64 I,.int .i64 J,.int .i64 K,.int .i64 M,.int .i64 N,.int .i64 O]=y at U ar⊢;rw[Oper.upon_value];have fn:=zA (aW e6.out ar.out);have c8:=zA (show gW y q d.length A0 E c0 g i from aD e_.out ar.out);have a0:=zA (aS.out.below ar.out);have c9:=zA (ce.out.trans (fh.mR ar.out (Nat.le_of_lt aS.out.lt)));have fo:=zA (Kd.cY cf.out ar.out);have fq:l≠i:=by have:=ap.out.lt;omega
   have fr:w2.heap.size≠i:=by have:=aS.out.lt;omega
   have dk:l≠w2.heap.size:=by omega
   clear e6 e_ aS ce cf ar ha;have ft:Aside0 (mN qs):=⟨⟨c5,fun x hx=>by
    rw[HQ.out,jG] at hx;rcases List.mem_append.1 hx with hx|hx
    ·obtain⟨v,Q,rfl⟩:=List.getElem_of_mem hx
     have h:=c3.out v (by rw[<-Y.out];exact Q);have e:rd cl (v:Int)=cl[v]:=by simp[rd,aX,bB Q]
     rw[e] at h;omega
    ·rw[List.eq_of_mem_replicate hx];omega⟩⟩
   have dl:=a0.out.look qZ ft.out;rw[c7.out] at dl;have x0:y.cell? ⟨w2.heap.size,0,none⟩=some (.int .i64 z):=(ah U.out 0).trans rfl;have x1:y.cell? ⟨w2.heap.size,1,none⟩=some (.int .i64 B):=(ah U.out 1).trans rfl;have x2:y.cell? ⟨w2.heap.size,2,none⟩=some (.int .i64 D):=(ah U.out 2).trans rfl;have x3:y.cell? ⟨w2.heap.size,3,none⟩=some (.int .i64 F):=(ah U.out 3).trans rfl;have x4:y.cell? ⟨w2.heap.size,4,none⟩=some (.int .i64 G):=(ah U.out 4).trans rfl;have x5:y.cell? ⟨w2.heap.size,5,none⟩=some (.int .i64 H):=(ah U.out 5).trans rfl;have x6:y.cell? ⟨w2.heap.size,6,none⟩=some (.int .i64 I):=(ah U.out 6).trans rfl;have x7:y.cell? ⟨w2.heap.size,7,none⟩=some (.int .i64 J):=(ah U.out 7).trans rfl;have x8:y.cell? ⟨w2.heap.size,8,none⟩=some (.int .i64 K):=(ah U.out 8).trans rfl;have x9:y.cell? ⟨w2.heap.size,9,none⟩=some (.int .i64 M):=(ah U.out 9).trans rfl;have be:y.cell? ⟨w2.heap.size,10,none⟩=some (.int .i64 N):=(ah U.out 10).trans rfl;have bf:y.cell? ⟨w2.heap.size,11,none⟩=some (.int .i64 O):=(ah U.out 11).trans rfl;have f3:y.cell? ⟨q,3,none⟩=some (.map (some i)):=(ah c8.out 3).trans rfl;have b0:ep [z,B,D,F,G,H,I,J,K,M,N,O]= .agg #[.int .i64 z,.int .i64 B,.int .i64 D,.int .i64 F,.int .i64 G,.int .i64 H,.int .i64 I,.int .i64 J,.int .i64 K,.int .i64 M,.int .i64 N,.int .i64 O]:=rfl;rw[b0] at dl;clear b0 c5;rcases dl with⟨x,hx,b1⟩|b1
   ·have ds:∀m,(Instr.lookup 169 (.map (some i)) (.agg #[.int .i64 z,.int .i64 B,.int .i64 D,.int .i64 F,.int .i64 G,.int .i64 H,.int .i64 I,.int .i64 J,.int .i64 K,.int .i64 M,.int .i64 N,.int .i64 O]) true).run Tryz.prog (y.drewN m)= .ok (.tuple #[.int .i64 x,.bool true]) (y.drewN m):=fun m=>b1 _ rfl
    have hh:Aside0 (Rk d.length (ae E) d x):=⟨by
     obtain⟨c',hl,fv,hm, -⟩:=hx;rw[<-c7.out,HQ.out] at fv;obtain rfl:=Ga Y.out hl fv;exact T.cm.gG bx.out.symm hm⟩
    clear b1 hx;go_wp2_with fail
    go_quiet (fail)
    clear ds x0 x1 x2 x3 x4 x5 x6 x7 x8 x9 be bf f3;have bg:=zA (a0.out.below (bN (aq _ _) nq));have b2:=zA (c9.out.trans (fh.mR (bN (aq _ _) nq) (Nat.le_of_lt a0.out.lt)));go_wp2;go_ret2;exact⟨x,rfl,hh.out,bg.out,b2.out⟩
   ·have ds:∀m,(Instr.lookup 169 (.map (some i)) (.agg #[.int .i64 z,.int .i64 B,.int .i64 D,.int .i64 F,.int .i64 G,.int .i64 H,.int .i64 I,.int .i64 J,.int .i64 K,.int .i64 M,.int .i64 N,.int .i64 O]) true).run Tryz.prog (y.drewN m)= .ok (.tuple #[.int .i64 0,.bool false]) (y.drewN m):=fun m=>b1 _ rfl
    clear b1;go_wp2_with fail
    go_quiet (fail)
    clear ds x0 x1 x2 x3 x4 x5 x6 x7 x8 x9 be bf f3;have av:=bN (aq y.heap.size y) nq;have bg:=zA (a0.out.below av);have b2:=zA (c9.out.trans (fh.mR av (Nat.le_of_lt a0.out.lt)));have ch:=zA (show gW (y.drewN nq) q d.length A0 E c0 g i from aD c8.out av);have dv:=zA (Kd.cY fo.out av);have dx:=zA (aW fn.out av);have ci:=zA (aD U.out av);clear av a0 c9 c8 fo fn U;generalize y.drewN nq=W4 at bg b2 ch dv dx ci⊢;obtain⟨ml,hlen,ks,hq,f0,f1⟩:=bg.out.len 3;have hr:=X.out.b7 ks f0 f1;have h9:((ml:Int)==16384)=false:=by simp;omega
    have f3:W4.cell? ⟨q,3,none⟩=some (.map (some i)):=(ah ch.out 3).trans rfl;clear hq f0 f1 hr;have f2:T.sN (fun v=>rd cl (v:Nat)) d.length=S:=by rw[bv.out];exact T.bX.bb aa.out bx.out
    have cj:Aside0 (∀v:Nat,v<d.length->0<=rd cl v):=⟨fun v Q=>by
     by_cases e:v=0
     ·subst e;exact g'.out
     ·exact(c3.out v Q).2.2.2.2 e |>.1⟩
    have f4:Aside0 (∀v:Nat,v<d.length->rd cl v<=198):=⟨fun v Q=>by
     have h:=T.fL (f:=fun v=>rd cl (v:Nat)) Q cj.out;have h2:rd cl (v:Nat)<=T.sN (fun v=>rd cl (v:Nat)) d.length:=h;omega⟩
    have d0:=zA f2;clear f2;go_wp2;clear hlen f3;generalize d1:w2.heap.size=o at fr dk ci⊢;have h_:=Nat.le_of_eq d1;have h':=Nat.le_of_eq d1.symm;clear d1;have ib:(d.length:Int)<=12:=by omega
    go_loopg [81,14] (d.length) (fun kq vv lv wr=>∃(v:Nat) (L:Int),v<=d.length/\vv= .int .i64 v/\lv= .int .i64 L/\ -20000000<=L/\L<=20000000/\Aside0 (∀u,u<v->∀k,T.cm d.length (ae E) (fun w=>rd cl (w:Nat)-T.one u w) k->L<=k+1)/\Aside0 (L=S\/∃u,u<v/\∃k,T.cm d.length (ae E) (fun w=>rd cl (w:Nat)-T.one u w) k/\L=k+1)/\Aside0 ((Kd.int .i64).R 3 wr w1.heap.size (fun _=>True) (.slice (some ⟨l,0,none⟩) d.length cr) cl)/\Aside0 (ec (kn d.length (ae E) g) wr i)/\Aside0 (fh i W wr)/\Aside0 (Below w0.heap.size w0 wr)/\Aside0 (gW wr q d.length A0 E c0 g i)/\Aside0 (wr.heap[o]? =some (.cells #[.int .i64 z,.int .i64 B,.int .i64 D,.int .i64 F,.int .i64 G,.int .i64 H,.int .i64 I,.int .i64 J,.int .i64 K,.int .i64 M,.int .i64 N,.int .i64 O] 172 (0,0)))/\Aside0 (kq=d.length-v))
    case atStart=>exact⟨0,S,by omega,rfl,rfl,g1,g2,⟨fun u hu=>by omega⟩,⟨.inl rfl⟩,dv,bg,b2,dx,ch,ci,⟨rfl⟩⟩
    case round=>
     clear dv bg b2 dx ch ci;obtain⟨v,L,Q,rfl,rfl,hA,hD,d2,f5,HR,HM,HK,f6,HF,V,hE⟩:=hrel;by_cases b3:v<d.length
     ·have ii:(0:Int)<=(v:Int):=by omega
      have im:(v:Int)<(d.length:Int):=by omega
      have d3:=Y.out;obtain⟨z1,z2⟩:=Kd.bO 0 HR.out (v:Int) (by omega) (by omega);rw[aG] at z1 z2;replace z1:wr.cell? ⟨l,v,none⟩=some (.int .i64 (rd cl v)):=z1;have hH:=cj.out v b3;have hI:=f4.out v b3;have P:=Kd.dh HR.out (v:Int) (rd cl v-1);rw[aG] at P;have bk:=zA P.1;have co:=zA (show gW (wr.setCell ⟨l,v,none⟩ (.int .i64 (rd cl v-1))) q d.length A0 E c0 g i from aE HF.out (by show q≠l;have:=HF.out;intro e;subst e;have h2:=(Kd.gN HR.out q rfl);obtain⟨cs,b4⟩:=h2;rw[gW,b4] at this;injection this with h;injection h with _ h _;exact absurd h (by decide)) _);have d4:=zA (HM.out.iL ⟨l,v,none⟩ (.int .i64 (rd cl v-1)) (fun e=>fq e.symm));have d5:=zA (aE (p:=⟨l,v,none⟩) V.out (fun e=>dk e.symm) (.int .i64 (rd cl v-1)));have cp:=zA (Below.setCell (p:=⟨l,v,none⟩) f6.out (by show w0.heap.size<=l;have:=b'.out.size;omega) (.int .i64 (rd cl v-1)));have io:W.heap.size<=l:=by have:=b6.out.size;omega
      have d6:Aside0 (fh i W (wr.setCell ⟨l,v,none⟩ (.int .i64 (rd cl v-1)))):=⟨Below.setCell (p:=⟨l,v,none⟩) HK.out.1 (by show i<=l;omega) _,fun k hk ak=>(Below.heap_setCell _ _ _ _ (by show k≠l;omega)).trans (HK.out.2 k hk ak)⟩;have cq:∀u,u<d.length->rd (cl.set v (rd cl v-1)) (u:Nat)=rd cl u-T.one v u:=F8 d3 b3;have f7:eY (cl.set v (rd cl v-1)) d.length=S-1:=by
       rw[pR,T.bL cq,T.dA,d0.out,T.fa b3]
      have f8:=zA (IH.out (by omega) (cl.set v (rd cl v-1)) (some ⟨l,0,none⟩) cr _ ⟨by rw[List.length_set];exact d3,fun u hu=>by
       rw[cq u hu];have a:=cj.out u hu;have b:=f4.out u hu;unfold T.one;split<;>omega⟩ (by omega) cp.out co.out d4.out (Kd.aH bk.out).2.2 (by have h:=(Kd.aH bk.out);rw[<-h.1];exact h.2.1))
      have f9:=zA cq;have f':=zA (F9 (c:=cl) (v:=v) (by omega) (rd cl v-1));have hJ:=zA (show (cl.set v (rd cl v-1)).length=cl.length from by rw[List.length_set]);clear P cq d3 HR HM HK f6 HF V;generalize ga:rd cl v=xv at z1 hH hI f7 bk co d4 d5 cp d6 f8 f' hJ f9;have ip:=zA ga;clear ga;go_wp2_with fail
      refine f8.out.mono ?_;rintro e w6 ⟨r,rfl,cv,gb,bn⟩;have it: -1<=r:=cv.1;have d7:Aside0 (T.cm d.length (ae E) (fun w=>rd cl (w:Nat)-T.one v w) r):=⟨sr (fun u hu=>(f9.out u hu).symm) cv⟩;have iv:r<=S:=by
       by_cases e0:0<=r
       ·have h:=T.cm.r_ aa.out Z cv e0
        rw[<-pR,f7] at h;omega
       ·omega
      clear cv;have d8:=zA (Kd.a_ (ok':=fun _=>True) (Kd.fC (Kd.ia rfl bk.out) (fun k hk=>bn.2 k (by obtain⟨cs,b4⟩:=Kd.gN bk.out k hk.symm;exact aC b4) (by have:=aQ (show some l=some k from hk.symm);omega))) (fun _ _=>trivial));have gc:=zA (show gW w6 q d.length A0 E c0 g i from bn.xE co.out ak);have hL:=zA (bn.xE d5.out fr);have hN:=zA (show Below w0.heap.size w0 w6 from cp.out.trans (bn.1.mono gq));have gd:=zA (d6.out.trans bn);have hO:=zA gb;clear gb bn bk co d5 cp d6 d4;obtain⟨z3,z4⟩:=Kd.bO 0 d8.out (v:Int) (by omega) (by omega);rw[aG] at z3 z4;have ge:bM 0 (cl.set v (xv-1)) (v:Int)=xv-1:=je _ _ _ (by rw[Y.out];exact b3);rw[ge] at z3;have P:=Kd.dh d8.out (v:Int) xv;rw[aG,f'.out] at P;have gf:=zA P.1;clear P ge;have gg:=zA (show gW (w6.setCell ⟨l,v,none⟩ (.int .i64 xv)) q d.length A0 E c0 g i from aE gc.out (by show q≠l;have:=gc.out;intro e;subst e;have h2:=(Kd.gN d8.out q rfl);obtain⟨cs,b4⟩:=h2;rw[gW,b4] at this;injection this with h;injection h with _ h _;exact absurd h (by decide)) _);have gi:=zA (hO.out.iL ⟨l,v,none⟩ (.int .i64 xv) (fun e=>fq e.symm));have gl:=zA (aE (p:=⟨l,v,none⟩) hL.out (fun e=>dk e.symm) (.int .i64 xv));have gm:=zA (Below.setCell (p:=⟨l,v,none⟩) hN.out (by show w0.heap.size<=l;have:=b'.out.size;omega) (.int .i64 xv));have gn:Aside0 (fh i W (w6.setCell ⟨l,v,none⟩ (.int .i64 xv))):=⟨Below.setCell (p:=⟨l,v,none⟩) gd.out.1 (by show i<=l;omega) _,fun k hk ak=>(Below.heap_setCell _ _ _ _ (by show k≠l;omega)).trans (gd.out.2 k hk ak)⟩;go_wp2
      all_goals
       go_roundg (d.length- (v+1))
       case measure=>rw[hE.out];omega
      case rel=>exact⟨v+1,r+1,by omega,by go_num,rfl,by omega,by omega,⟨fun u hu k hk=>by
       by_cases e:u=v
       ·subst e
        have:=T.cm.unique Z hk d7.out;omega
       ·have:=d2.out u (by omega) k hk
        omega⟩,⟨.inr ⟨v,by omega,r,d7.out,rfl⟩⟩,gf,gi,gn,gm,gg,gl,⟨rfl⟩⟩
      exact⟨v+1,L,by omega,by go_num,rfl,hA,hD,⟨fun u hu k hk=>by
       by_cases e:u=v
       ·subst e
        have:=T.cm.unique Z hk d7.out;omega
       ·exact d2.out u (by omega) k hk⟩,⟨f5.out.imp id (fun⟨u,hu,h⟩=>⟨u,by omega,h⟩)⟩,gf,gi,gn,gm,gg,gl,⟨rfl⟩⟩
     ·obtain rfl:v=d.length:=by omega
      have P:Aside0 (Rk d.length (ae E) cl L):=⟨F6 aa.out Z g9.out d2.out (by rw[d0.out];exact f5.out)⟩;have hP:Aside0 (Rk d.length (ae E) d L):=⟨T.cm.gG bx.out.symm P.out⟩;have hQ:Aside0 (kn d.length (ae E) g qs L):=⟨cl,Y.out,HQ.out,P.out,cj.out,fun v Q h0=>T.pw aa.out cd.out.red.2 Q h0,by rw[d0.out];simpa using cb⟩;obtain⟨w9,d9,go,ea⟩:=ec.store (HM.out.iY (w':=wr.drew) rfl) ft.out hQ.out;have x0:wr.cell? ⟨o,0,none⟩=some (.int .i64 z):=(ah V.out 0).trans rfl;have x1:wr.cell? ⟨o,1,none⟩=some (.int .i64 B):=(ah V.out 1).trans rfl;have x2:wr.cell? ⟨o,2,none⟩=some (.int .i64 D):=(ah V.out 2).trans rfl;have x3:wr.cell? ⟨o,3,none⟩=some (.int .i64 F):=(ah V.out 3).trans rfl;have x4:wr.cell? ⟨o,4,none⟩=some (.int .i64 G):=(ah V.out 4).trans rfl;have x5:wr.cell? ⟨o,5,none⟩=some (.int .i64 H):=(ah V.out 5).trans rfl;have x6:wr.cell? ⟨o,6,none⟩=some (.int .i64 I):=(ah V.out 6).trans rfl;have x7:wr.cell? ⟨o,7,none⟩=some (.int .i64 J):=(ah V.out 7).trans rfl;have x8:wr.cell? ⟨o,8,none⟩=some (.int .i64 K):=(ah V.out 8).trans rfl;have x9:wr.cell? ⟨o,9,none⟩=some (.int .i64 M):=(ah V.out 9).trans rfl;have be:wr.cell? ⟨o,10,none⟩=some (.int .i64 N):=(ah V.out 10).trans rfl;have bf:wr.cell? ⟨o,11,none⟩=some (.int .i64 O):=(ah V.out 11).trans rfl;have f3:wr.cell? ⟨q,3,none⟩=some (.map (some i)):=(ah HF.out 3).trans rfl;rw[c7.out] at d9;have b0:ep [z,B,D,F,G,H,I,J,K,M,N,O]= .agg #[.int .i64 z,.int .i64 B,.int .i64 D,.int .i64 F,.int .i64 G,.int .i64 H,.int .i64 I,.int .i64 J,.int .i64 K,.int .i64 M,.int .i64 N,.int .i64 O]:=rfl;rw[b0] at d9;have hV:=zA go;have hW:=HM.out.lt;have hX:Aside0 (fh i W w9):=⟨⟨Below.grown (iA HK.out.1) ea (Nat.le_of_lt hW) (fun k e=>by cases e;exact aI _),fun k hk ak=>(ea.block k (Nat.lt_of_lt_of_le hk (HK.out.1.size)) (fun e=>ak (aQ e))).trans (HK.out.2 k hk ak)⟩⟩;clear go ea b0;go_wp2_with fail
      refine wp_region_still_tail 6 (by kernel_rfl) (by kernel_rfl) ?_;simp only[List.take_succ_cons,List.take_zero,List.drop_succ_cons,List.drop_zero];repeat still_step
      refine wpStill_nil ?_;change wpList _ _ _ _ _ wr.drew
      replace x0:wr.drew.cell? ⟨o,0,none⟩=some (.int .i64 z):=x0;replace x1:wr.drew.cell? ⟨o,1,none⟩=some (.int .i64 B):=x1;replace x2:wr.drew.cell? ⟨o,2,none⟩=some (.int .i64 D):=x2;replace x3:wr.drew.cell? ⟨o,3,none⟩=some (.int .i64 F):=x3;replace x4:wr.drew.cell? ⟨o,4,none⟩=some (.int .i64 G):=x4;replace x5:wr.drew.cell? ⟨o,5,none⟩=some (.int .i64 H):=x5;replace x6:wr.drew.cell? ⟨o,6,none⟩=some (.int .i64 I):=x6;replace x7:wr.drew.cell? ⟨o,7,none⟩=some (.int .i64 J):=x7;replace x8:wr.drew.cell? ⟨o,8,none⟩=some (.int .i64 K):=x8;replace x9:wr.drew.cell? ⟨o,9,none⟩=some (.int .i64 M):=x9;replace be:wr.drew.cell? ⟨o,10,none⟩=some (.int .i64 N):=be;replace bf:wr.drew.cell? ⟨o,11,none⟩=some (.int .i64 O):=bf;replace f3:wr.drew.cell? ⟨q,3,none⟩=some (.map (some i)):=f3;generalize wr.drew=wd at x0 x1 x2 x3 x4 x5 x6 x7 x8 x9 be bf f3 d9⊢;go_wp2;go_ret2;exact⟨L,rfl,hP.out,hV.out,hX.out⟩
theorem xG (n:Nat) (A0:Option Addr) (c0:Nat) (E:List S83) (g:Int) (b a:Nat) (w0:World) (e:Kd.C aN w0 A0 E.length E) (i:E.length<=c0) (j:ss n E g) (k:w0.heap.size<=a) (l:b≠a):
  ∀(m:Nat) (d:List Int) (A:Option Addr) (c:Nat) (W:World),pS n d->eY d n<m->Below w0.heap.size w0 W->gW W b n A0 E c0 g a->ec (kn n (ae E) g) W a->Kd.C (Kd.int .i64) W A d.length d->d.length<=c->
   Calls Tryz.prog 95 #[.pointer (some ⟨b,0,none⟩),.slice A n c] W (su n (ae E) g d a W)
 |0,d,A,c,W,hd,r,o,hF,p,hC,q=>xF n A0 c0 E g b a w0 e i j k d A c W hd (fun h=>by omega) o hF p l hC q
 |m+1,d,A,c,W,hd,r,o,hF,p,hC,q=>xF n A0 c0 E g b a w0 e i j k d A c W hd (fun h d' A' s W' u B v w x y z=>xG n A0 c0 E g b a w0 e i j k l m d' A' s W' u (by omega) v w x y z) o hF p l hC q
end
section
def eB (w:World) (g:Nat) (p:Nat->Nat):Prop:=∃cs:Array Value,w.heap[g]? =some (.cells cs 111 (0,0))/\cs.size=12/\∀i,i<12->cs[i]? =some (.int .i64 (p i:Nat))
namespace eB
variable {w w':World} {g:Nat} {p:Nat->Nat}
theorem lt (h:eB w g p):g<w.heap.size:=by
 obtain⟨cs,hb,_⟩:=h;exact aC hb
theorem cell (h:eB w g p) (i:Nat) (hi:i<12):w.cell? ⟨g,i,none⟩=some (.int .i64 (p i:Nat)):=by
 obtain⟨cs,hb,_,a⟩:=h;exact(ah hb i).trans (a i hi)
theorem frozen (h:eB w g p) (k:Nat):w.frozen? ⟨g,k,none⟩=false:=by
 obtain⟨cs,hb,_⟩:=h;exact bF hb k
theorem grown {row:Option Nat} (h:eB w g p) (a:w.grownBy w' row) (b:some g≠row):eB w' g p:=by
 obtain⟨cs,e,i⟩:=h;exact⟨cs,dc e a b,i⟩
theorem below (h:eB w g p) (hb:Below w.heap.size w w'):eB w' g p:=by
 obtain⟨cs,a,b⟩:=h;exact⟨cs,aD a hb,b⟩
theorem alloc (h:eB w g p) (o:Obj):eB (w.alloc o) g p:=h.below (ao (aq _ _) o)
theorem set (h:eB w g p) (i:Nat) (hi:i<12) (x:Nat):eB (w.setCell ⟨g,i,none⟩ (.int .i64 x)) g (fun j=>if j=i then x else p j):=by
 obtain⟨cs,a,b,l⟩:=h;refine⟨cs.setIfInBounds i (.int .i64 x),by simpa using bV a i (.int .i64 x),by simp[b],?_⟩;intro k hk;by_cases e:k=i
 ·subst e
  rw[Array.getElem?_setIfInBounds_self_of_lt (by omega)];simp
 ·rw[Array.getElem?_setIfInBounds_ne (by omega),l k hk];simp[e]
theorem congr {q:Nat->Nat} (h:eB w g p) (he:∀i,i<12->q i=p i):eB w g q:=by
 obtain⟨cs,a,b,e⟩:=h;exact⟨cs,a,b,fun i hi=>by rw[he i hi];exact e i hi⟩
end eB
theorem xH (g v:Nat) (p:Nat->Nat) (w:World) (hf:iG p) (m:v<12) (hw:eB w g p):
  Calls Tryz.prog 86 #[.pointer (some ⟨g,0,none⟩),.int .i64 v] w fun e w'=>e= .returned (.int .i64 (rootOf p v:Nat))/\w=w':=by
 go_enter Tryz.func86,Tryz.ntmps86
 go_wp2;go_loop [1] (fun u=>∃k:Nat,k<12/\u= .int .i64 k/\rootOf p k=rootOf p v) (fun u=>(intOf u).toNat)
 case atStart=>exact⟨v,m,rfl,rfl⟩
 case round=>
  obtain⟨k,hk,rfl,h⟩:=hrel;have i:=Lib.hid h;clear h;have n:=hw.cell k hk;have o:(0:Int)<=(k:Int):=by omega
  have q:(k:Int)<12:=by omega
  have hle:=hf k;by_cases j:p k<k
  ·have a:rootOf p k=rootOf p (p k):=by rw[rootOf,dif_pos j]
   have b:=Lib.hid a;clear a;have r:((p k:Nat):Int)≠(k:Int):=by omega
   go_wp2;go_round
   case rel=>exact⟨p k,by omega,rfl,by rw[<-i.out,b.out]⟩
   case measure=>simp[intOf];omega
  ·have a:rootOf p k=k:=by rw[rootOf,dif_neg j]
   have b:=Lib.hid a;clear a;have l:p k=k:=by omega
   rw[l] at n;clear l;go_wp2;go_ret;exact⟨uY (by rw[<-i.out,b.out]),rfl⟩
end
end Go.Proofs.YtffdiakgjakngaaGreat.P


namespace Go.Proofs.YtffdiakgjakngaaGreat.P
open Go.RowKit Go.Proofs.YtffdiakgjakngaaGreatW.PrintWords Go.Proofs.YtffdiakgjakngaaGreatW.PrintLast Go.Proofs.YtffdiakgjakngaaGreatW.PrintMore
set_option linter.unusedVariables false
set_option linter.unusedSimpArgs false
set_option maxHeartbeats 8000000
set_option maxRecDepth 100000
section
attribute [local go_sem] Oper.semAt_some jQ jR jS jT
theorem Gg (l f:Nat):(Fence.wide.inRound l).fn f=True:=rfl
attribute [local simp] Gg
def fx (s:(Nat->Nat)×Nat) (x:Nat×Int×Int):(Nat->Nat)×Nat:=(dP s.1 x.2.1.toNat x.2.2.toNat,if rootOf s.1 x.2.1.toNat=rootOf s.1 x.2.2.toNat then s.2+1 else s.2)
def cF (xs:List (Nat×Int×Int)):(Nat->Nat)×Nat:=xs.foldl fx (id,0)
theorem Gh (xs:List (Nat×Int×Int)) (x:Nat×Int×Int):cF (xs++[x])=fx (cF xs) x:=by simp[cF,List.foldl_append]
theorem xI (xs:List (Nat×Int×Int)):iG (cF xs).1/\(cF xs).2<=xs.length:=by
 have:∀(xs:List (Nat×Int×Int)) (s:(Nat->Nat)×Nat),iG s.1->iG (xs.foldl fx s).1/\(xs.foldl fx s).2<=s.2+xs.length:=by
  intro xs;induction xs with
  |nil=>intro s h;exact⟨h,by simp⟩
  |cons x xs a=>
   intro s h;obtain⟨h1,b⟩:=a (fx s x) (uW h _ _);refine⟨h1,Nat.le_trans b ?_⟩;have:(fx s x).2<=s.2+1:=by unfold fx;dsimp only;split<;>omega
   simp only[List.length_cons];omega
 have:=this xs (id,0) (fun i=>aI _);exact⟨this.1,by simpa [cF] using this.2⟩
theorem Gi (k:Nat) (N:Int) (A0:Option Addr) (c0:Nat) (E:List S83) (t:Int) (w:World) (g:Kd.C aN w A0 E.length E) (h:E.length<=c0) (a:bc.f k N E=some t) (b:t≠0):
  Calls Tryz.prog 31 #[.agg #[.int .i64 N,.slice A0 E.length c0]] w fun e w'=>e= .returned (.tuple #[.int .i64 0,.int .i64 t])/\Below w.heap.size w w':=by
 have hu:=Tryz.underlying24;have i:=zA a;have l:(t != 0)=true:=by simpa using b
 clear a b;go_enter Tryz.func31,Tryz.ntmps31
 go_wp2_with (go_at_call 64;refine(bc.calls k N A0 c0 E t _ (Kd.bz g _) h i.out).mono ?_;rintro e w1 ⟨rfl,hb⟩;have j:=zA (aW (ao (aq w.heap.size w) _) hb);clear hb)
 go_ret2;exact⟨rfl,j.out⟩
theorem Gj (k n:Nat) (A0:Option Addr) (c0:Nat) (E:List S83) (w:World) (bk:Kd.C aN w A0 E.length E) (cv:E.length<=c0) (r:bc.f k n E=some 0) (hE:e9 E=true) (aa:ez n E) (hn:n<=12):
  Calls Tryz.prog 31 #[.agg #[.int .i64 n,.slice A0 E.length c0]] w fun e w'=>e= .returned (.tuple #[.int .i64 (cF (cy E E.length)).2,.int .i64 0])/\Below w.heap.size w w':=by
 have hu:=Tryz.underlying24;have Ht:=zA r;have HE:=zA hE;have HI:=zA aa;clear r hE aa;refine(callsIn_wide (n:=10)).1 ?_;refine callsIn_of_wp_marks Tryz.func31 rfl trivial ?_ rfl;simp only[Tryz.ntmps31,List.size_toArray,List.length_cons,List.length_nil,Nat.reduceAdd,Nat.reduceSub,Array.replicate_succ,Array.replicate_zero,List.push_toArray,List.append_toArray,List.nil_append,List.cons_append];gi_wp2_with (refine⟨trivial,?_⟩;gi_at_call 64;refine(callsIn_wide.2 (bc.calls k n A0 c0 E 0 _ (Kd.bz bk _) cv Ht.out)).mono ?_;rintro e w1 ⟨rfl,hb⟩;have G:=zA (aD (a7 w (.cells #[.int .i64 n,.slice A0 E.length c0] 24)) hb);have J:=zA (aW (ao (aq w.heap.size w) _) hb);clear hb)
 have ab:Aside0 (eB (w1.alloc (.cells #[.int .i64 0,.int .i64 0,.int .i64 0,.int .i64 0,.int .i64 0,.int .i64 0,.int .i64 0,.int .i64 0,.int .i64 0,.int .i64 0,.int .i64 0,.int .i64 0] 111)) w1.heap.size (fun i=>if i<0 then i else 0)):=⟨⟨_,a7 _ _,rfl,fun i hi=>by
  rw[show (#[.int .i64 0,.int .i64 0,.int .i64 0,.int .i64 0,.int .i64 0,.int .i64 0,.int .i64 0,.int .i64 0,.int .i64 0,.int .i64 0,.int .i64 0,.int .i64 0]:Array Value)=Array.replicate 12 (.int .i64 0) from rfl,Array.getElem?_replicate,if_pos hi];rfl⟩⟩
 have aL:=zA (au G.out (.cells #[.int .i64 0,.int .i64 0,.int .i64 0,.int .i64 0,.int .i64 0,.int .i64 0,.int .i64 0,.int .i64 0,.int .i64 0,.int .i64 0,.int .i64 0,.int .i64 0] 111));have aO:=zA (ao J.out (.cells #[.int .i64 0,.int .i64 0,.int .i64 0,.int .i64 0,.int .i64 0,.int .i64 0,.int .i64 0,.int .i64 0,.int .i64 0,.int .i64 0,.int .i64 0,.int .i64 0] 111));have c3:w.heap.size<w1.heap.size:=aC G.out;clear G J;generalize w1.alloc (.cells #[.int .i64 0,.int .i64 0,.int .i64 0,.int .i64 0,.int .i64 0,.int .i64 0,.int .i64 0,.int .i64 0,.int .i64 0,.int .i64 0,.int .i64 0,.int .i64 0] 111)=W1 at ab aL aO⊢;generalize w1.heap.size=gf at ab c3⊢;gi_loopg [17] (12) (fun kq vv wr=>∃v:Nat,v<=12/\vv= .int .i64 v/\Aside0 (eB wr gf (fun i=>if i<v then i else 0))/\Aside0 (wr.heap[w.heap.size]? =some (.cells #[.int .i64 n,.slice A0 E.length c0] 24 (0,0)))/\Aside0 (Below w.heap.size w wr)/\Aside0 (kq=12-v))
 case atStart=>exact⟨0,by omega,rfl,ab,aL,aO,⟨rfl⟩⟩
 case round=>
  clear ab aL aO;obtain⟨v,hv,rfl,O,G,J,HK⟩:=hrel;by_cases bv:v<12
  ·have ew:(0:Int)<=(v:Int):=by omega
   have ex:(v:Int)<12:=by omega
   have z1:=O.out.cell v bv;have z2:=O.out.frozen v;generalize (if v<v then v else 0)=z at z1;have c7:=zA ((O.out.set v bv v).congr (q:=fun i=>if i<v+1 then i else 0) (fun i hi=>by
    by_cases e:i=v
    ·subst e;simp
    ·simp only[if_neg e]
     by_cases h:i<v
     ·rw[if_pos h,if_pos (by omega)]
     ·rw[if_neg h,if_neg (by omega)]))
   have c8:=zA (aE (p:=⟨gf,v,none⟩) G.out (by show w.heap.size≠gf;omega) (.int .i64 v));have c9:=zA (Below.setCell (p:=⟨gf,v,none⟩) J.out (by show w.heap.size<=gf;omega) (.int .i64 v));clear O G J;gi_wp2;gi_roundg (12- (v+1))
   case measure=>rw[HK.out];omega
   case rel=>exact⟨v+1,by omega,by go_num,c7,c8,c9,⟨rfl⟩⟩
  ·obtain rfl:v=12:=by omega
   have aP:=zA (O.out.congr (q:=(cF []).1) (fun i hi=>by simp[cF,hi]));have y0:(wr.alloc (.cells #[.int .i64 0] 3)).cell? ⟨w.heap.size,0,none⟩=some (.int .i64 n):=(ah (au G.out _) 0).trans rfl;have y1:(wr.alloc (.cells #[.int .i64 0] 3)).cell? ⟨w.heap.size,1,none⟩=some (.slice A0 E.length c0):=(ah (au G.out _) 1).trans rfl;gi_wp2_with (refine⟨trivial,?_⟩;gi_at_call 85;refine(callsIn_wide.2 (uB n A0 c0 E _)).mono ?_;rintro e w3 ⟨rfl,rfl⟩)
   have S:=zA (show ((wr.alloc (.cells #[.int .i64 0] 3)).alloc (.cells #[.int .i64 n,.slice A0 E.length c0] 24)).heap[wr.heap.size]? =some (.cells #[.int .i64 ((cF []).2:Nat)] 3 (0,0)) from au (a7 wr _) _);have T:=zA (show ((wr.alloc (.cells #[.int .i64 0] 3)).alloc (.cells #[.int .i64 n,.slice A0 E.length c0] 24)).heap[wr.heap.size+1]? =some (.cells #[.int .i64 n,.slice A0 E.length c0] 24 (0,0)) from heap_alloc2_new wr _ _);have I:=zA (ao (ao J.out (.cells #[.int .i64 0] 3)) (.cells #[.int .i64 n,.slice A0 E.length c0] 24));have aR:=zA ((aP.out.alloc (.cells #[.int .i64 0] 3)).alloc (.cells #[.int .i64 n,.slice A0 E.length c0] 24));have dk:=aP.out.lt;clear y0 y1 O aP G J;generalize ((wr.alloc (.cells #[.int .i64 0] 3)).alloc (.cells #[.int .i64 n,.slice A0 E.length c0] 24))=g at S T I aR⊢;have bw:=aC S.out;have dl:=aC T.out;generalize aS:wr.heap.size+1=bx at T dl⊢;generalize wr.heap.size=bo at S dk bw aS⊢;have ey:=Nat.le_of_eq aS;clear aS;refine uG (σ:=Unit) (α:=Nat×Int×Int) (F:=Fence.wide) (n:=10) rfl (by decide) (gf:=140) (lb:=#[.pointer (some ⟨bx,0,none⟩)]) rfl trivial (enters_of Tryz.func140 (by kernel_rfl) rfl)
    (fun o=>uF bx n A0 c0 E w _ bk HE.out (ao (ao I.out _) _) (au (au T.out _) _)) (fun _=>rfl)
    (fun _=>True) ?eL ?st ?ar
    (fun _ pre W=>g.heap.size<=W.heap.size/\eB W gf (cF pre).1/\W.heap[bo]? =some (.cells #[.int .i64 ((cF pre).2:Nat)] 3 (0,0))/\Below w.heap.size w W) (fun _ _ _ _=>False)
    ?is (fun _ _ _ _ _ _ h _=>h) ?ib (fun _ _ _ _ _ h _=>h) ?kt ?h0 ?a1 (fun x W=>W.alloc (.cells #[.int .i64 x.2.1,.int .i64 x.2.2] 116)) ?hw ?sZ ?assign ?body ?done (fun _ _ _ _ _ _ _ h=>h.elim)
   case assign=>
    intro l x W K hK;gi_wp2;exact hK
   case eL=>
    intro o s W1 h;exact⟨trivial,by rw[h];exact cB.refl _ _⟩
   case st=>intro s A B _ h;exact di h
   case ar=>intro s x A B _ h;exact di h.2
   case hw=>intro x W k o h1 h2 U _;exact au U _
   case sZ=>
    intro s x A D h;exact⟨fun aY=>((aq w.heap.size A).alloc aY _).trans (h.1 (by simp;omega)),fun k cs t r hk=>h.2 k cs t r (au hk _)⟩
   case is=>
    rintro s pre A B _ ⟨L,h1,h2,U⟩ ag;exact⟨Nat.le_trans L ag.size,h1.below ag,aD h2 ag,aW U ag⟩
   case ib=>
    rintro s pre A B ⟨L,⟨cs,h1,ak⟩,h2,U⟩ hb;exact⟨by rw[hb.size];exact L,⟨cs,hb.cells h1,ak⟩,hb.cells h2,U.trans (hb.below w.heap.size (by have:=I.out.size;omega))⟩
   case kt=>
    intro s A B C D a0 b0 b5;have:=I.out.size;exact⟨fun aY=>((a0.below w.heap.size (by omega)).trans (b0.1 (by rw[a0.size];exact aY))).trans (b5.below w.heap.size (by omega)),fun k cs t r hk=>b5.cells (b0.2 k cs t r (a0.cells hk))⟩
   case h0=>
    rintro o s W1 rfl;exact⟨by simp;omega,(aR.out.alloc _).alloc _,au (au S.out _) _,ao (ao I.out _) _⟩
   case body=>
    rintro l s pre ⟨i,a,b⟩ Wb W1 W _ ⟨L,i1,i2,i3⟩ ⟨b6,V⟩ b_ H;obtain⟨ed,b',ca,cb⟩:=qU E E.length (aI _) _ b6;have aa:=HI.out ed b';simp only at ca cb;obtain⟨a,rfl⟩:=Int.eq_ofNat_of_zero_le (show 0<=a by omega);obtain⟨b,rfl⟩:=Int.eq_ofNat_of_zero_le (show 0<=b by omega);have ha:a<12:=by omega
    have hb:b<12:=by omega
    have d0:=I.out.size;have d1:g.heap.size<=W1.heap.size:=Nat.le_trans L V.size;have cc:=(xI pre).1;have d2:=(xI pre).2;have HS:=zA (Gh pre (i,(a:Int),(b:Int)));have b_:pre.length<2000:=b_;obtain⟨cs,h1,ak⟩:=(i1.below V).alloc (.cells #[.int .i64 a,.int .i64 b] 116);have M:Aside0 (eB W gf (cF pre).1):=⟨cs,H.cells h1,ak⟩;have b2:=zA (H.cells (au (aD i2 V) (.cells #[.int .i64 a,.int .i64 b] 116)));have b3:=zA ((ao (aW i3 V) (.cells #[.int .i64 a,.int .i64 b] 116)).trans (H.below w.heap.size (by omega)));have b4:=zA (H.cells (a7 W1 (.cells #[.int .i64 a,.int .i64 b] 116)));have aY:W.heap.size=W1.heap.size+1:=by rw[H.size];simp
    have ce:g.heap.size<=W.heap.size:=by omega
    clear i1 i2 i3 V H h1 ak aY d1 L b6 b' ca cb aa;generalize W1.heap.size=pb at b4⊢;have d3:W.cell? ⟨pb,0,none⟩=some (.int .i64 a):=(ah b4.out 0).trans rfl;have d4:W.cell? ⟨pb,1,none⟩=some (.int .i64 b):=(ah b4.out 1).trans rfl;have e1:=Tryz.underlying116;have a2:=zA (fun m=>xH gf a (cF pre).1 (W.drewN m) cc ha (M.out.below (bN (aq _ _) m)));have a3:=zA (fun m=>xH gf b (cF pre).1 (W.drewN m) cc hb (M.out.below (bN (aq _ _) m)));have d5:=iZ (cF pre).1 a;have d6:=iZ (cF pre).1 b;have P:Aside0 (fx (cF pre) (i,(a:Int),(b:Int))=(dP (cF pre).1 a b,if rootOf (cF pre).1 a=rootOf (cF pre).1 b then(cF pre).2+1 else(cF pre).2)):=⟨rfl⟩;have Q:Aside0 (dP (cF pre).1 a b=fun j=>if j=max (rootOf (cF pre).1 a) (rootOf (cF pre).1 b) then min (rootOf (cF pre).1 a) (rootOf (cF pre).1 b) else(cF pre).1 j):=⟨rfl⟩;generalize dP (cF pre).1 a b=pj at P Q;generalize rootOf (cF pre).1 a=x at a2 P Q d5;generalize rootOf (cF pre).1 b=y at a3 P Q d6;generalize ch:(cF pre).2=gc at b2 d2 P;clear ch;have e2:(0:Int)<=(x:Int):=by omega
    have e3:(0:Int)<=(y:Int):=by omega
    have e4:(x:Int)<12:=by omega
    have e5:(y:Int)<12:=by omega
    gi_wp2;refine Em rfl (by kernel_rfl) (by kernel_rfl) ?_;repeat(gi_big_quiet_step (fail))
    gi_big_quiet_want
    gi_big_quiet_op
    gi_big_quiet_call ((gi_at_call 86;exact CallsIn.quiet_of_same (callsIn_wide.2 ((a2.out _).mono (fun e w' h=>⟨h.1,h.2.symm⟩)))))
    repeat(gi_big_quiet_step (fail))
    gi_big_quiet_want
    gi_big_quiet_op
    gi_big_quiet_call ((gi_at_call 86;exact CallsIn.quiet_of_same (callsIn_wide.2 ((a3.out _).mono (fun e w' h=>⟨h.1,h.2.symm⟩)))))
    repeat(gi_big_quiet_step (fail))
    refine wpQuietIn_nil ?_;rintro _ ⟨nq,rfl⟩;have u:=zA (M.out.below (bN (aq _ _) nq));have R:=zA (iB b2.out nq);have I3:=zA (bN b3.out nq);have ap:=zA (di (nw:=g.heap.size) (bN (aq W.heap.size W) nq));have av:=zA (bN (aq w.heap.size W) nq);have aB:Aside0 (∀k:Nat,(W.drewN nq).heap[k]? =W.heap[k]?):=⟨fun k=>by simp⟩;have aF:g.heap.size<=(W.drewN nq).heap.size:=by simpa using ce
    have d8:Aside0 (∀(k:Nat) (cs:Array Value) (t:TypeId),(t=24\/t=83)->W.heap[k]? =some (Obj.cells cs t (0,0))->k≠gf/\k≠bo):=⟨fun k cs t r hk=>by
     obtain⟨cf,ci, -⟩:=M.out;refine⟨fun e=>?_,fun e=>?_⟩
     ·subst e;rw[hk] at ci;injection ci with h;injection h with _ h _;rcases r with rfl|rfl<;>exact absurd h (by decide)
     ·subst e;have h:=hk.symm.trans b2.out;injection h with h;injection h with _ h _;rcases r with rfl|rfl<;>exact absurd h (by decide)⟩
    have cj:gf≠bo:=by omega
    have ck:w.heap.size<=gf:=by omega
    have cl:w.heap.size<=bo:=by omega
    have ch:(gc:Int)<=2000:=by omega
    have e_:(0:Int)<=(gc:Int):=by omega
    clear M b2 b3 b4 d3 d4 a2 a3 ce S T I aR;generalize W.drewN nq=N at u R I3 ap av aB aF⊢;have e':=zA (fun j=>u.out.frozen j);have cn:∀(j v:Nat) (W1:World) (g':Nat),j<12->g.heap.size<=W1.heap.size->eB W1 gf (cF pre).1->W1.heap[bo]? =some (.cells #[.int .i64 (g':Nat)] 3 (0,0))->Below w.heap.size w W1->cB g.heap.size W W1->Below w.heap.size W W1->(∀k,k≠gf->k≠bo->W1.heap[k]? =W.heap[k]?)->
      (fun i=>if i=j then v else(cF pre).1 i)=pj->g'=(if x=y then gc+1 else gc)->qR (σ:=Unit) g.heap.size (fun X Y=>qT w.heap.size X Y) (fun pre W=>g.heap.size<=W.heap.size/\eB W gf (cF pre).1/\W.heap[bo]? =some (.cells #[.int .i64 ((cF pre).2:Nat)] 3 (0,0))/\Below w.heap.size w W) (fun (_:Code) (_:List (Nat×Int×Int)) (_:World)=>False) (pre++[(i,(a:Int),(b:Int))]) W Exit.normal {tmps:=#[],defers:=[]} (W1.setCell ⟨gf,j,none⟩ (.int .i64 v)):=by
     intro j v W1 g' hj a5 f1 f2 f3 f4 f5 f6 f7 f8;refine⟨f4.trans (fI _ _ (show gf<g.heap.size by omega)),⟨fun _=>Below.setCell (p:=⟨gf,j,none⟩) f5 ck _,fun k cs t r hk=>?_⟩,by simpa using a5,?_,?_,Below.setCell (p:=⟨gf,j,none⟩) f3 ck _⟩
     ·obtain⟨k1,k2⟩:=d8.out k cs t r hk
      exact(Below.heap_setCell _ _ _ _ k1).trans ((f6 k k1 k2).trans hk)
     ·rw[HS.out,P.out]
      have h:=f1.set j hj v;rw[f7] at h;exact h
     ·rw[HS.out,P.out]
      simp only;rw[<-f8];exact aE f2 (fun e=>cj e.symm) _
    have a9:=zA cn;clear cn;rcases Nat.lt_trichotomy x y with be|be|be
    ·have hl:(x:Int)<(y:Int):=by omega
     have he:((x:Int)==(y:Int))=false:=by simpa using (show ¬(x:Int)=(y:Int) by omega)
     have hm:max x y=y:=by omega
     have Z:min x y=x:=by omega
     have hz:=u.out.cell y (by omega);have hf:=u.out.frozen y;have HM:=zA hm;have bg:=zA Z;clear hm Z;gi_wp2;exact a9.out y x N gc (by omega) aF u.out R.out I3.out ap.out av.out (fun k _ _=>aB.out k) (by rw[Q.out,HM.out,bg.out]) (by rw[if_neg (by omega)])
    ·subst be
     have he:((x:Int)==(x:Int))=true:=by simp
     have hl:¬(x:Int)<(x:Int):=by omega
     have hz:=u.out.cell x (by omega);have hf:=u.out.frozen x;have z1:=dM R.out;have z2:=bF R.out 0;have eb:bo<g.heap.size:=bw;have a5:=zA (show g.heap.size<=(N.setCell ⟨bo,0,none⟩ (.int .i64 ((gc:Int)+1))).heap.size by simpa using aF);have J1:=zA (u.out.grown (kK N bo 0 (.int .i64 ((gc:Int)+1))) (fun e=>by injection e with e;exact cj e));have fb:=J1.out.cell x (by omega);have fd:=J1.out.frozen x;have J2:Aside0 ((N.setCell ⟨bo,0,none⟩ (.int .i64 ((gc:Int)+1))).heap[bo]? =some (.cells #[.int .i64 ((gc+1:Nat):Int)] 3 (0,0))):=⟨by simpa using bV R.out 0 (.int .i64 ((gc:Int)+1))⟩;have J3:=zA (Below.setCell (p:=⟨bo,0,none⟩) I3.out cl (.int .i64 ((gc:Int)+1)));have J4:=zA (ap.out.trans (fI (bo:=bo) (j:=0) N (.int .i64 ((gc:Int)+1)) eb));have J5:=zA (Below.setCell (p:=⟨bo,0,none⟩) av.out cl (.int .i64 ((gc:Int)+1)));have J6:Aside0 (∀k,k≠gf->k≠bo->(N.setCell ⟨bo,0,none⟩ (.int .i64 ((gc:Int)+1))).heap[k]? =W.heap[k]?):=⟨fun k _ h=>(Below.heap_setCell _ _ _ _ h).trans (aB.out k)⟩;gi_wp2;exact a9.out x x _ (gc+1) (by omega) a5.out J1.out J2.out J3.out J4.out J5.out J6.out (by rw[Q.out,Nat.max_self,Nat.min_self]) (by simp)
    ·have hl:¬(x:Int)<(y:Int):=by omega
     have fn:(y:Int)<(x:Int):=by omega
     have he:((x:Int)==(y:Int))=false:=by simpa using (show ¬(x:Int)=(y:Int) by omega)
     have hm:max x y=x:=by omega
     have Z:min x y=y:=by omega
     have hz:=u.out.cell x (by omega);have hf:=u.out.frozen x;have HM:=zA hm;have bg:=zA Z;clear hm Z;gi_wp2;exact a9.out x y N gc (by omega) aF u.out R.out I3.out ap.out av.out (fun k _ _=>aB.out k) (by rw[Q.out,HM.out,bg.out]) (by rw[if_neg (by omega)])
   case done=>
    rintro s xs W W' _ rfl ⟨L,i1,i2,i3⟩ H cr;have d0:=I.out.size;have M:=zA (H.cells i2);have b3:=zA (i3.trans (H.below w.heap.size (by omega)));have ct:=zA cr;clear i1 i2 i3 cr;have hc:=dM M.out;gi_wp2_with fail
    have es:Bk g.heap.size W' (W'.putObj g.heap.size (.deferred none)):=⟨_,_,ct.out,rfl,rfl⟩;exact jx (D:=g.heap.size) rfl ct.out (results_tmp2 rfl _ _ _) ⟨rfl,b3.out.trans (es.below w.heap.size (by omega))⟩
def nY (N:Int) (E:List S83):Bool:=decide (0<=N/\N<=12)&&e9 E&&iT N E
def fi.f (k:Nat) (N:Int) (E:List S83):Option (Int×Int):=
 (bc.f k N E).bind fun e=>if e=0 then(if nY N E=true then some (((cF (cy E E.length)).2:Nat),0) else none) else some (0,e)
theorem fi.mono:∀a b k,ai (fi.f k a b) (fi.f (k+1) a b):=by
 intro N E k;unfold fi.f;exact ai.bind (bc.mono _ _ _) (fun _=>ai.refl _)
theorem fi.calls (k:Nat) (i:Int) (j:Option Addr) (l:Nat) (b:List (S83)) (o:Int) (p:Int) (w:World) (q:Kd.C aN w j b.length b) (r:b.length<=l) (h:fi.f k i b=some (o,p)):
  Calls Tryz.prog 31 #[.agg #[.int .i64 i,.slice j b.length l]] w fun e w'=>e= .returned (.tuple #[.int .i64 o,.int .i64 p])/\Below w.heap.size w w':=by
 unfold fi.f at h;obtain⟨e,he,a⟩:=Option.bind_eq_some_iff.1 h;clear h;by_cases m:e=0
 ·subst m
  rw[if_pos rfl] at a;by_cases g:nY i b=true
  ·rw[if_pos g] at a
   simp only[Option.some.injEq,Prod.mk.injEq] at a;obtain⟨rfl,rfl⟩:=a;unfold nY at g;simp only[Bool.and_eq_true,decide_eq_true_eq] at g;obtain⟨⟨⟨h1,v⟩,s⟩,u⟩:=g;obtain⟨n,rfl⟩:=Int.eq_ofNat_of_zero_le h1;exact Gj k n j l b w q r he s (iE u) (by omega)
  ·rw[if_neg g] at a;cases a
 ·rw[if_neg m] at a
  simp only[Option.some.injEq,Prod.mk.injEq] at a;obtain⟨rfl,rfl⟩:=a;exact Gi k i j l b e w q r he m
end
theorem sw {α:Type} [DecidableEq α]:∀{a L:List α},a.Pairwise (· ≠ ·)->(∀x∈a,x∈L)->a.length<=L.length
 |[],_,_,_=>Nat.zero_le _
 |x::a,L,h,hm=>by
  rw[List.pairwise_cons] at h;have b:=hm x (List.mem_cons_self ..);have h1:=sw (L:=L.erase x) h.2 (fun y g=>(List.mem_erase_of_ne (fun e=>h.1 y g e.symm)).2 (hm y (List.mem_cons_of_mem _ g)));have i:=List.length_erase_of_mem b;have j:=List.length_pos_of_mem b;rw[List.length_cons];omega
def lW (B:Nat->Nat):Nat->List (List Int)
 |0=>[[]]
 |n+1=>(lW B n).flatMap fun c=>(List.range (B n)).map fun x:Nat=>c++[(x:Int)]
def iP (B:Nat->Nat):Nat->Nat
 |0=>1
 |n+1=>iP B n*B n
theorem xJ {α β:Type} {f:α->List β} {m:Nat}:∀{l:List α},(∀x∈l,(f x).length=m)->(l.flatMap f).length=l.length*m
 |[],_=>by simp
 |x::l,h=>by
  rw[List.flatMap_cons,List.length_append,h x (List.mem_cons_self ..),xJ (fun y a=>h y (List.mem_cons_of_mem _ a)),List.length_cons,Nat.succ_mul,Nat.add_comm]
theorem xK (B:Nat->Nat):∀n,(lW B n).length=iP B n
 |0=>rfl
 |n+1=>by
  rw[lW,xJ (m:=B n) (fun c _=>by simp),xK B n];rfl
theorem xL (B:Nat->Nat) (f:Nat->Int):∀n,(∀v,v<n->0<=f v/\f v<B v)->(List.range n).map f∈lW B n
 |0,_=>by simp[lW]
 |n+1,h=>by
  rw[lW,List.mem_flatMap];refine⟨(List.range n).map f,xL B f n (fun v a=>h v (by omega)),List.mem_map.2 ⟨(f n).toNat,List.mem_range.2 ?_,?_⟩⟩
  ·have:=h n (by omega)
   omega
  ·have:=h n (by omega)
   rw[List.range_succ,List.map_append,Int.toNat_of_nonneg this.1];rfl
theorem Gk:∀x:Nat,x<19->x ^ 3<=3 ^ x:=by decide
def gX (n:Nat) (t:Nat->Nat->Int) (v:Nat):Nat:=if v=0 then 17 else(T.val n t v).toNat
theorem Gl {n:Nat} {t:Nat->Nat->Int} (b:∀v,v<n->0<=T.val n t v) (o:T.sN (T.val n t) n<=18):∀m,m<=n->0<=T.sN (fun v=>if v=0 then 0 else T.val n t v) m/\T.sN (fun v=>if v=0 then 0 else T.val n t v) m<=18/\iP (gX n t) m ^ 3<=17 ^ 3*3 ^ (T.sN (fun v=>if v=0 then 0 else T.val n t v) m).toNat/\(m=0->iP (gX n t) m ^ 3<=1):=by
 have hle:∀m,m<=n->T.sN (fun v=>if v=0 then 0 else T.val n t v) m<=T.sN (T.val n t) m/\T.sN (T.val n t) m<=18:=by
  intro m hm;refine⟨T.cW fun v p=>by have:=b v (by omega);show (if v=0 then 0 else T.val n t v)<=_;split<;>omega,?_⟩;have key:∀k,m+k<=n->T.sN (T.val n t) m<=T.sN (T.val n t) (m+k):=by
   intro k;induction k with
   |zero=>intro _;exact Int.le_refl _
   |succ k g=>
    intro hk;have:=g (by omega);show _<=T.sN (T.val n t) (m+k)+T.val n t (m+k)
    have:=b (m+k) (by omega);omega
  have:=key (n-m) (by omega);rw[show m+(n-m)=n by omega] at this;omega
 intro m;induction m with
 |zero=>intro _;exact⟨by simp[T.sN],by simp[T.sN],by simp[T.sN,iP],fun _=>by simp[iP]⟩
 |succ m g=>
  intro hm;obtain⟨i1,i2,i3,i4⟩:=g (by omega);have j:=(hle (m+1) hm);have hb:=b m (by omega);have e:T.sN (fun v=>if v=0 then 0 else T.val n t v) (m+1)=T.sN (fun v=>if v=0 then 0 else T.val n t v) m+(if m=0 then 0 else T.val n t m):=rfl;refine⟨by rw[e];split<;>omega,by omega,?_,fun h=>by omega⟩;show (iP (gX n t) m*gX n t m) ^ 3<=_
  rw[Nat.mul_pow];by_cases a:m=0
  ·have h1:=i4 a
   have i:gX n t m=17:=if_pos a;rw[i];have l:1<=3 ^ (T.sN (fun v=>if v=0 then 0 else T.val n t v) (m+1)).toNat:=Nat.pow_pos (by decide);calc iP (gX n t) m ^ 3*17 ^ 3<=1*17 ^ 3:=Nat.mul_le_mul_right _ h1
    _=17 ^ 3*1:=by simp
    _<=_:=Nat.mul_le_mul_left _ l
  ·have i:gX n t m=(T.val n t m).toNat:=if_neg a
   rw[e,if_neg a] at j;rw[e,if_neg a,i,Int.toNat_add i1 hb,Nat.pow_add,<-Nat.mul_assoc];exact Nat.mul_le_mul i3 (Gk _ (by omega))
theorem Gm {n:Nat} {t:Nat->Nat->Int} (a:∀v,v<n->0<=T.val n t v) (b:T.sN (T.val n t) n<=18):iP (gX n t) n<16384:=by
 obtain⟨h1,l,e, -⟩:=Gl a b n (aI n);have g:3 ^ (T.sN (fun v=>if v=0 then 0 else T.val n t v) n).toNat<=3 ^ 18:=Nat.pow_le_pow_right (by decide) (by omega);have i:iP (gX n t) n ^ 3<=17 ^ 3*3 ^ 18:=Nat.le_trans e (Nat.mul_le_mul_left _ g);rcases Nat.lt_or_ge (iP (gX n t) n) 16384 with h|h
 ·exact h
 ·have j:16384 ^ 3<=iP (gX n t) n ^ 3:=Nat.pow_le_pow_left h 3
  have k:=Nat.le_trans j i;exact absurd k (by decide)
theorem Gn {c:List Int}:(List.range c.length).map (fun v:Nat=>rd c (v:Int))=c:=by
 refine List.ext_getElem (by simp) fun i h1 a=>?_
 simp[rd,aX,bB a]
theorem Gp {n:Nat} {t:Nat->Nat->Int} (k:T.Wt n t) (hn:0<n) {g:Int} (o:T.ee n t g) (B:T.sN (T.val n t) n<=19) (b:List (List Int)) (hk:b.Pairwise (· ≠ ·)) (p:∀l∈b,∃x,kn n t g l x):b.length<16384:=by
 have q:∀v,v<n->0<=T.val n t v:=fun v _=>T.dw fun u _=>k.pos v u
 have h1:T.sN (T.can n t) n=T.sN (T.val n t) n-2*n:=by
  have key:∀m:Nat,T.sN (T.can n t) m=T.sN (T.val n t) m-2*m:=by
   intro m;induction m with
   |zero=>simp[T.sN]
   |succ m r=>
    show T.sN (T.can n t) m+T.can n t m=T.sN (T.val n t) m+T.val n t m-_
    rw[r];unfold T.can;omega
  exact key n
 have C:T.sN (T.can n t) n=2*g-2:=o;have s:T.sN (T.val n t) n<=18:=by omega
 have hle:=sw (L:=(lW (gX n t) n).map jG) hk (fun l w=>by
  obtain⟨x,c,i,rfl, -,h,y,D⟩:=p l w;refine List.mem_map.2 ⟨c,?_,rfl⟩;have:=xL (gX n t) (fun v=>rd c (v:Nat)) n (fun v a=>⟨h v a,by
   unfold gX;split
   ·rename_i e
    subst e;have j:=T.fL (f:=fun v=>rd c (v:Nat)) a h;have z:rd c ((0:Nat):Int)<=T.sN (fun v=>rd c (v:Nat)) n:=j;show rd c ((0:Nat):Int)<_
    omega
   ·rename_i e
    have j:=y v a e;have z:=h v a;show rd c (v:Int)<_
    omega⟩)
  rw[<-i,Gn,i] at this;exact this)
 rw[List.length_map,xK] at hle;exact Nat.lt_of_le_of_lt hle (Gm q s)
def fy.l0:Nat->List (List Int)->Int->Int->Int->List (S83)->Option (Int)
 |0,_,_,_,_,_=>none
 |k+1,b,e,a,g,i=>if a<e then(if 0<=a then(if a<(b.length:Int) then((bq.f k (a6 b a) g).bind fun h=>(if h=0 then(fy.l0 k b e (wrap64 (a+1)) g i) else(some h))) else(none)) else(none)) else(some 0)
def fy.f (k:Nat) (b:Int) (e:List (S83)) (l1:List (List Int)):Option (Int):=(cz.f k b e).bind fun a=>(if a.2=0 then(if a.1=true then(fy.l0 k l1 (l1.length:Int) 0 b e) else(some 13)) else(some a.2))
theorem fy.calls (k:Nat) (b:Int) (m:Option Addr) (n:Nat) (i:List (S83)) (U:Option Addr) (c1:Nat) (l1:List (List Int)) (r:Int) (w:World) (V:Kd.C aN w m i.length i) (W:i.length<=n) (X:Kd.C (Kd.slice 3 (Kd.int .i64)) w U l1.length l1) (Y:l1.length<=c1) (h:fy.f k b i l1=some r):
  Calls Tryz.prog 93 #[.agg #[.int .i64 b,.slice m i.length n],.slice U l1.length c1] w fun e w'=>e= .returned (.int .i64 r)/\Below w.heap.size w w':=by
 have a0:=Tryz.underlying24;have G:=zA V;have I:=zA W;clear V W;have Z:=zA X;have a1:=zA Y;clear X Y;have a:=zA (aq w.heap.size w);unfold fy.f at h;have H:=h;clear h;obtain⟨⟨aa,z⟩,J,H⟩:=zo H;dsimp only at H;by_cases c4:z=0
 ·rw[if_pos c4] at H
  obtain⟨ab,ad⟩:=bT c4;clear c4;by_cases B:aa=true
  ·subst B
   replace H:=zi H;have D:=zA H;clear H;go_enter Tryz.func93,Tryz.ntmps93
   go_wp2_with (first|((with_reducible refine aU (N:=2) rfl ?_);refine zX 2 #[.int .i64 b,.slice m i.length n] 24 ?_;intro K l w6 o hb;have j:=zA (o);have ag:=zG a l;have ak:=zG a l;replace a:=zS a hb;clear hb o l;obtain⟨ar,av,aB,aF⟩:=aA j)|((with_reducible refine aJ (f:=113) rfl ?_);refine zL (some 12) Tryz.func113 #[.agg #[.int .i64 b,.slice m i.length n]] ?_;(with_reducible refine(cz.calls k b _ _ i true z _ ?al ?aj J.out).mono ?_);(case al=>exact Kd.ax G.out zB);(case aj=>exact I.out);rintro e w8 ⟨rfl,hb⟩;refine⟨_,rfl,?_⟩;replace j:=zb j hb;replace a:=zS a hb;(try clear hb)))
   go_loopg [22] k (fun kq v22 w'=>∃(g:Int),v22= .int .i64 g/\Aside0 (fy.l0 kq l1 (l1.length:Int) g b i=some r)/\Aside0 (kq<=k)/\Aside0 (w'.heap[K]? =some (.cells #[.int .i64 b,(.slice m i.length n)] 24 (0,0)))/\Aside0 (Below w.heap.size w w'))
   case atStart=>exact⟨(0),zT,D,⟨aI _⟩,⟨zK j⟩,⟨zB⟩⟩
   case round=>
    clear D;clear ab ad ar av aB aF;obtain⟨g,rfl,L,an,j,a⟩:=hrel;cases gk with
    |zero=>exact absurd L.out (by simp[fy.l0])
    |succ M=>
     have H:=L.out;clear L;simp only[fy.l0] at H;by_cases u:g<(l1.length:Int)
     ·rw[if_pos u] at H
      have aL:=ay u;clear u;by_cases E:0<=g
      ·rw[if_pos E] at H
       have a4:=ay E;clear E;by_cases F:g<(l1.length:Int)
       ·rw[if_pos F] at H
        have a5:=ay F;clear F;obtain⟨O,ap,H⟩:=zo H;by_cases v:O=0
        ·rw[if_pos v] at H
         obtain⟨aO,aP⟩:=bT v;clear v;have D:=zA H;clear H;have p:0<=(g:Int):=aw ‹_›;have q:g<(l1.length:Int):=aw ‹_›;obtain⟨aR,P,Q,R,s,x,y⟩:=gQ Z.out g p q;cases R;replace s:=(a.out.cell (bu w _ s)).trans s;have S:=zA y;have T:=zA x;clear y x;replace p:=eq_true p;replace q:=eq_true q;obtain⟨a9,be,bf,bg⟩:=aA j;go_wp2_with (first|((with_reducible refine aJ (f:=87) rfl ?_);refine zL (some 29) Tryz.func87 #[.slice P (a6 l1 g).length Q,.int .i64 b] ?_;(with_reducible refine(bq.calls M _ _ (a6 l1 g) b O _ ?al ?aj ap.out).mono ?_);(case al=>exact Kd.ax S.out zB);(case aj=>exact T.out);rintro e w' ⟨rfl,⟨nd,rfl⟩⟩;refine⟨_,rfl,?_⟩))
         go_roundg M
         case measure=>have:=an.out;omega
         case rel=>exact⟨(wrap64 (g+1)),zT,D,⟨by have:=an.out;omega⟩,⟨zK j⟩,⟨zB⟩⟩
        ·rw[if_neg v] at H
         obtain⟨aO,aP⟩:=bU v;obtain rfl:=aQ H;have p:0<=(g:Int):=aw ‹_›;have q:g<(l1.length:Int):=aw ‹_›;obtain⟨aR,P,Q,R,s,x,y⟩:=gQ Z.out g p q;cases R;replace s:=(a.out.cell (bu w _ s)).trans s;have S:=zA y;have T:=zA x;clear y x;replace p:=eq_true p;replace q:=eq_true q;obtain⟨bi,bk,bn,bo⟩:=aA j;go_wp2_with (first|((with_reducible refine aJ (f:=87) rfl ?_);refine zL (some 29) Tryz.func87 #[.slice P (a6 l1 g).length Q,.int .i64 b] ?_;(with_reducible refine(bq.calls M _ _ (a6 l1 g) b O _ ?al ?aj ap.out).mono ?_);(case al=>exact Kd.ax S.out zB);(case aj=>exact T.out);rintro e w' ⟨rfl,⟨nd,rfl⟩⟩;refine⟨_,rfl,?_⟩))
         go_ret;exact⟨zE,zB⟩
       ·rw[if_neg F] at H
        exact absurd H (by simp)
      ·rw[if_neg E] at H
       exact absurd H (by simp)
     ·rw[if_neg u] at H
      have aL:=aZ u;clear u;obtain rfl:=aQ H;go_wp2;go_ret;exact⟨zE,zB⟩
  ·replace B:=Bool.eq_false_iff.mpr B
   subst B;replace H:=zj H;obtain rfl:=aQ H;go_enter Tryz.func93,Tryz.ntmps93
   go_wp2_with (first|((with_reducible refine aU (N:=2) rfl ?_);refine zX 2 #[.int .i64 b,.slice m i.length n] 24 ?_;intro K l bv o hb;have j:=zA (o);have ag:=zG a l;have ak:=zG a l;replace a:=zS a hb;clear hb o l;obtain⟨bw,bx,b0,b1⟩:=aA j)|((with_reducible refine aJ (f:=113) rfl ?_);refine zL (some 12) Tryz.func113 #[.agg #[.int .i64 b,.slice m i.length n]] ?_;(with_reducible refine(cz.calls k b _ _ i false z _ ?al ?aj J.out).mono ?_);(case al=>exact Kd.ax G.out zB);(case aj=>exact I.out);rintro e b2 ⟨rfl,hb⟩;refine⟨_,rfl,?_⟩;replace j:=zb j hb;replace a:=zS a hb;(try clear hb)))
   go_ret;exact⟨zE,zB⟩
 ·rw[if_neg c4] at H
  obtain⟨ab,ad⟩:=bU c4;obtain rfl:=aQ H;go_enter Tryz.func93,Tryz.ntmps93
  go_wp2_with (first|((with_reducible refine aU (N:=2) rfl ?_);refine zX 2 #[.int .i64 b,.slice m i.length n] 24 ?_;intro K l b3 o hb;have j:=zA (o);have ag:=zG a l;have ak:=zG a l;replace a:=zS a hb;clear hb o l;obtain⟨b4,b5,b6,b_⟩:=aA j)|((with_reducible refine aJ (f:=113) rfl ?_);refine zL (some 12) Tryz.func113 #[.agg #[.int .i64 b,.slice m i.length n]] ?_;(with_reducible refine(cz.calls k b _ _ i aa z _ ?al ?aj J.out).mono ?_);(case al=>exact Kd.ax G.out zB);(case aj=>exact I.out);rintro e b' ⟨rfl,hb⟩;refine⟨_,rfl,?_⟩;replace j:=zb j hb;replace a:=zS a hb;(try clear hb)))
  go_ret;exact⟨zE,zB⟩
theorem sx {n:Nat} {E:List S83} (g:E.length<=1000) (b:cw n E=0) (hp:partsOf E n=1):Ev (fun k=>cz.f k n E) (true,(0:Int)):=by
 obtain⟨h1,j,a⟩:=jC b;unfold cz.f;have e:=mF (n:Int) E g;rw[b] at e;refine Ev.bind e ?_;have h:jz (n:Int) E=true:=by
  unfold jz;rw[ay (by omega),Bool.true_and];refine List.all_eq_true.2 fun x i=>?_
  have:=a.ok x i;simp[cu] at this⊢;omega
 simp only[if_true,if_pos h,aG];rw[show decide (bY (aK E) n=1)=true from ay ((pA (by omega) (iE a.cS)).2 ((jl (by omega) a).1 hp))];exact Ev.const _
theorem xM {l:List Int} {n:Nat} (h1:1<=n) (a:n<=12) (b:l.length=n) (hb:∀v:Nat,v<n-> -1048576<=rd l v/\rd l v<=1048576):lU l n=0:=rU.2 ⟨by omega,by omega,by omega,fun v e=>hb v (by omega)⟩
theorem Gq {n q:Nat} {E:List S83} {d:List Int} (h:dT n q E d) (b:cw n E=0):Ev (fun k=>jH.f k n E q d) 0:=by
 unfold jH.f;have h1:=h.q;refine Ev.bind (sx h.len b ((jl h.n1 h.right).2 h.conn)) ?_;simp only[if_true,if_neg (show ¬(q:Int)<0 by omega),if_neg (show ¬(q:Int)>=(n:Int) by omega)];refine Ev.bind (a:=(0:Int)) ?_ (Ev.const _);have:=pK d n (by have:=h.dl;have:=h.n12;omega);rw[xM h.n1 h.n12 h.dl (fun v e=>by have:=h.d v e;omega)] at this;exact this
theorem Gr {n q:Nat} {E:List S83} {d:List Int} (h:dT n q E d) (a:cw n E=0):∃s,Ev (fun k=>kZ.f k n E q d) (eJ n E d s,s,(0:Int))/\s.length=n/\eT n q (ae E) (fun v=>rd d (v:Nat)) (fun v=>rd (eJ n E d s) (v:Nat)) (fun v=>rd s (v:Nat)):=by
 obtain⟨s,h1,b,e⟩:=F5 h.right h.conn h.q d;refine⟨s,?_,b,e⟩;unfold kZ.f;refine Ev.bind (Gq h a) ?_;simp only[if_true,if_pos (h.ok a),aG];exact Ev.bind h1 (Ev.const _)
theorem Gs {n:Nat} {E:List S83} {d:List Int} (h:dT n 0 E d) (a:cw n E=0):∃s,Ev (fun k=>lh.f k n E d) (decide (rd (eJ n E d s) 0>=0),eJ n E d s,s,(0:Int))/\s.length=n/\eT n 0 (ae E) (fun v=>rd d (v:Nat)) (fun v=>rd (eJ n E d s) (v:Nat)) (fun v=>rd s (v:Nat)):=by
 obtain⟨s,h1,b,e⟩:=Gr h a;refine⟨s,?_,b,e⟩;unfold lh.f;refine Ev.bind h1 ?_;have:=h.n1;simp only[if_true,if_pos (show (0:Int)<((eJ n E d s).length:Int) by rw[sn];omega)];exact Ev.const _
theorem Gt {n:Nat} {E:List S83} {d:List Int} (h:dT n 0 E d) (b:cw n E=0):Ev (fun k=>fy.f k n E [d]) 0:=by
 unfold fy.f;refine Ev.bind (sx h.len b ((jl h.n1 h.right).2 h.conn)) ?_;simp only[if_true];refine Ev.of_succ ?_;simp only[fy.l0,List.length_singleton,if_pos (show (0:Int)<((1:Nat):Int) by decide),if_pos (show (0:Int)<=0 by decide),rZ,rX];have a:=pK d n (by have:=h.dl;have:=h.n12;omega);rw[xM h.n1 h.n12 h.dl (fun v e=>by have:=h.d v e;omega)] at a;refine Ev.bind a ?_;simp only[if_true];refine Ev.of_succ ?_;simp only[fy.l0,if_neg (show ¬(1:Int)<((1:Nat):Int) by decide)];exact Ev.const _
section
attribute [local go_sem] jQ jR jS jT ng nh ni nj
def dI.l0:Nat->Int->List (S83)->Int->Int->Int->List (S83)->Option (Int×(List (S83))×Int)
 |0,_,_,_,_,_,_=>none
 |k+1,x1,b,g,a,h,e=>if a<g then(if 0<=a then(if a<(b.length:Int) then(if((af b a).f0)=((af b a).f1) then(dI.l0 k x1 b g (wrap64 (a+1)) h e) else(if e.length<5864062014805 then(dI.l0 k x1 b g (wrap64 (a+1)) h (e++[(⟨(af b a).f0,(af b a).f1,mn ((af b a).f2) x1⟩:S83)])) else(none))) else(none)) else(none)) else(some (h,e,0))
def dI.f (k:Nat) (b:Int) (a:List (S83)) (e:Int):Option (Int×(List (S83))×Int):=(bc.f k b a).bind fun t260=>(if t260=0 then(dI.l0 k e a (a.length:Int) 0 b ([]:List (S83))) else(some (0,([]:List (S83)),t260)))
theorem dI.cD:∀k,(∀a b e g i j,ai (dI.l0 k a b e g i j) (dI.l0 (k+1) a b e g i j))
 |0=>fun _ _ _ _ _ _ r h=>by simp[dI.l0] at h
 |k+1=>by
  have l:=dI.cD k
  ·intro a b e g i j
   unfold dI.l0;with_reducible repeat' first|exact l _ _ _ _ _ _|exact bc.mono _ _ _|exact ai.refl _|exact ai.none _|refine ai.ite ?_ ?_|refine ai.bind ?_ (fun _=>?_)
theorem dI.mono:∀a0 a a2 k,ai (dI.f k a0 a a2) (dI.f (k+1) a0 a a2):=by
 intro a0 a a2 k;have b:=dI.cD k;unfold dI.f;with_reducible repeat' first|exact b _ _ _ _ _ _|exact bc.mono _ _ _|exact ai.refl _|exact ai.none _|refine ai.ite ?_ ?_|refine ai.bind ?_ (fun _=>?_)
theorem dI.calls (k:Nat) (n:Int) (B:Option Addr) (y:Nat) (a:List (S83)) (K:Int) (Z:Int) (r2:List (S83)) (r3:Int) (w:World) (bn:Kd.C aN w B a.length a) (bo:a.length<=y) (h:dI.f k n a K=some (Z,r2,r3)):
  Calls Tryz.prog 84 #[.agg #[.int .i64 n,.slice B a.length y],.int .i64 K] w fun e w'=>∃bv:Value,e= .returned (.tuple #[.agg #[.int .i64 Z,bv],.int .i64 r3])/\Kd.R aN 83 w' w.heap.size (fun _=>True) bv r2/\Below w.heap.size w w':=by
 have dl:=Tryz.underlying24;have ds:=Tryz.underlying83;have ag:=zA bn;have bw:=zA bo;clear bn bo;have l:=zA (aq w.heap.size w);unfold dI.f at h;have H:=h;clear h;obtain⟨t260,A3,H⟩:=zo H;by_cases c4:t260=0
 ·rw[if_pos c4] at H
  obtain⟨b0,b1⟩:=bT c4;clear c4;have U:=zA H;clear H;go_enter Tryz.func84,Tryz.ntmps84
  go_wp2_with (first|((with_reducible refine aU (N:=2) rfl ?_);refine zX 2 #[.int .i64 n,.slice B a.length y] 24 ?_;intro s j w5 v hb;have m:=zA (v);have b':=zG l j;have ca:=zG l j;replace l:=zS l hb;clear hb v j)|((with_reducible refine aU (N:=4) rfl ?_);refine zX 4 #[.int .i64 0,.slice none 0 0] 24 ?_;intro u j w6 v hb;have r:=zA (v);have cb:=zG l j;have cc:=zG l j;replace l:=zS l hb;have ak:=zA ((by rw[j];exact Nat.ne_of_lt (aC (g:=s) (o:=.cells #[.int .i64 n,.slice B a.length y] 24 (0,0)) (zK m)):s≠u));have am:=zA ((by rw[j];exact Nat.ne_of_gt (aC (g:=s) (o:=.cells #[.int .i64 n,.slice B a.length y] 24 (0,0)) (zK m)):u≠s));replace m:=zb m hb;clear hb v j;have d0:=ak.out;have d1:=am.out;obtain⟨cd,ce,cf,cg⟩:=aA m)|((with_reducible refine aJ (f:=64) rfl ?_);refine zL (some 11) Tryz.func64 #[.agg #[.int .i64 n,.slice B a.length y]] ?_;(with_reducible refine(bc.calls k n _ _ a t260 _ ?al ?aj A3.out).mono ?_);(case al=>exact Kd.ax ag.out zB);(case aj=>exact bw.out);rintro e w9 ⟨rfl,hb⟩;refine⟨_,rfl,?_⟩;replace m:=zb m hb;replace r:=zb r hb;replace l:=zS l hb;(try clear hb);obtain⟨ch,ci,cj,ck⟩:=aA m)|((with_reducible refine aU (N:=7) rfl ?_);refine zX 7 #[.int .i64 0,.slice none 0 0] 24 ?_;intro z j d3 v hb;have x:=zA (v);have d4:=zG l j;have d5:=zG l j;replace l:=zS l hb;have V:=zA ((by rw[j];exact Nat.ne_of_lt (aC (g:=s) (o:=.cells #[.int .i64 n,.slice B a.length y] 24 (0,0)) (zK m)):s≠z));have a2:=zA ((by rw[j];exact Nat.ne_of_gt (aC (g:=s) (o:=.cells #[.int .i64 n,.slice B a.length y] 24 (0,0)) (zK m)):z≠s));replace m:=zb m hb;have W:=zA ((by rw[j];exact Nat.ne_of_lt (aC (g:=u) (o:=.cells #[.int .i64 0,.slice none 0 0] 24 (0,0)) (zK r)):u≠z));have a3:=zA ((by rw[j];exact Nat.ne_of_gt (aC (g:=u) (o:=.cells #[.int .i64 0,.slice none 0 0] 24 (0,0)) (zK r)):z≠u));replace r:=zb r hb;clear hb v j;have d6:=a2.out;have d7:=V.out;have d8:=a3.out;have d9:=W.out;obtain⟨cl,cn,co,cp⟩:=aA x;obtain⟨cq,cr,ct,cv⟩:=aA m))
  go_loopg [22] k (fun kq v22 w'=>∃(i:Int) (E:List (S83)) (u262001:Value),v22= .int .i64 i/\Aside0 (dI.l0 kq K a (a.length:Int) i n E=some (Z,r2,r3))/\Aside0 (kq<=k)/\Aside0 (Kd.R aN 83 w' w.heap.size (fun _=>True) u262001 E)/\Aside0 (w'.heap[s]? =some (.cells #[.int .i64 n,(.slice B a.length y)] 24 (0,0)))/\Aside0 (w'.heap[u]? =some (.cells #[.int .i64 0,(.slice none 0 0)] 24 (0,0)))/\Aside0 (w'.heap[z]? =some (.cells #[.int .i64 n,u262001] 24 (0,0)))/\Aside0 (Below w.heap.size w w'))
  case atStart=>exact⟨(0),(([]:List (S83))),(.slice none 0 0),zT,U,⟨aI _⟩,⟨by first|exact Kd.dm _ _ _ _ _|exact Kd.fV _ _ _ _ _|exact Kd.V_nil _ _ _ _ _|exact Kd.Q_nil _ _ _ _ _|exact Kd.ic _ _ _ _ _⟩,⟨by refine zk ?_;refine aE ?_ V.out _;refine zk ?_;refine aE ?_ V.out _;exact zK m⟩,⟨by refine zk ?_;refine aE ?_ W.out _;refine zk ?_;refine aE ?_ W.out _;exact zK r⟩,⟨by refine zk ?_;refine bE (cs:=#[.int .i64 n,.slice none 0 0]) ?_ 1 _ rfl;refine zk ?_;refine bE (cs:=#[.int .i64 0,.slice none 0 0]) ?_ 0 _ rfl;exact zK x⟩,⟨zB⟩⟩
  case round=>
   clear U;clear b0 b1 ch ci cl cn cq cr cd ce cj ck co cp ct cv cf cg;obtain⟨i,E,u262001,rfl,HA,an,D,m,r,x,l⟩:=hrel;cases gk with
   |zero=>exact absurd HA.out (by simp[dI.l0])
   |succ k1=>
    have H:=HA.out;clear HA;simp only[dI.l0] at H;by_cases X:i<(a.length:Int)
    ·rw[if_pos X] at H
     have cx:=ay X;clear X;by_cases ar:0<=i
     ·rw[if_pos ar] at H
      have ea:=ay ar;clear ar;by_cases av:i<(a.length:Int)
      ·rw[if_pos av] at H
       have eb:=ay av;clear av;by_cases ad:((af a i).f0)=((af a i).f1)
       ·rw[if_pos ad] at H
        obtain⟨c0,c1⟩:=bT ad;clear ad;have U:=zA H;clear H;have L:0<=(i:Int):=aw ‹_›;have M:i<(a.length:Int):=aw ‹_›;obtain⟨Y,a5,O,P,Q⟩:=eN ag.out i L M;cases a5;replace O:=(l.out.cell (bu w _ O)).trans O;replace P:=(l.out.cell (bu w _ P)).trans P;replace Q:=(l.out.cell (bu w _ Q)).trans Q;replace L:=eq_true L;replace M:=eq_true M;go_wp2_with (first|((with_reducible refine aU (N:=9) rfl ?_);refine zX 9 #[.int .i64 0,.int .i64 0,.int .i64 0] 83 ?_;intro q j ed v hb;replace D:=zA (Kd.cY (Kd.tB (zR D) q (Nat.le_of_eq j.symm)) hb);have S:=zA (v);have c2:=zG l j;have c3:=zG l j;replace l:=zS l hb;have G:=zA ((by rw[j];exact Nat.ne_of_lt (aC (g:=s) (o:=.cells #[.int .i64 n,.slice (some Y) a.length y] 24 (0,0)) (zK m)):s≠q));have a9:=zA ((by rw[j];exact Nat.ne_of_gt (aC (g:=s) (o:=.cells #[.int .i64 n,.slice (some Y) a.length y] 24 (0,0)) (zK m)):q≠s));replace m:=zb m hb;have I:=zA ((by rw[j];exact Nat.ne_of_lt (aC (g:=u) (o:=.cells #[.int .i64 0,.slice none 0 0] 24 (0,0)) (zK r)):u≠q));have be:=zA ((by rw[j];exact Nat.ne_of_gt (aC (g:=u) (o:=.cells #[.int .i64 0,.slice none 0 0] 24 (0,0)) (zK r)):q≠u));replace r:=zb r hb;have J:=zA ((by rw[j];exact Nat.ne_of_lt (aC (g:=z) (o:=.cells #[.int .i64 n,u262001] 24 (0,0)) (zK x)):z≠q));have bf:=zA ((by rw[j];exact Nat.ne_of_gt (aC (g:=z) (o:=.cells #[.int .i64 n,u262001] 24 (0,0)) (zK x)):q≠z));replace x:=zb x hb;clear hb v j;have eg:=a9.out;have ek:=G.out;have el:=be.out;have em:=I.out;have er:=bf.out;have es:=J.out;obtain⟨ev,ew,ex,ey,e0,e1⟩:=cA S))
        go_roundg k1
        case measure=>have:=an.out;omega
        case rel=>exact⟨(wrap64 (i+1)),(E),(u262001),zT,U,⟨by have:=an.out;omega⟩,⟨by(with_reducible repeat(first|apply Kd.aM|apply Kd.bs|apply Kd.bj));exact Kd.a_ (Kd.dJ (p:=⟨q,2,none⟩) (Kd.dJ (p:=⟨q,1,none⟩) (Kd.dJ (p:=⟨q,0,none⟩) (Kd.a_ D.out (fun T hk=>(⟨hk,hk.2⟩:_/\T≠q))) (fun _ hk=>hk.2) (.int .i64 ((af a i).f0))) (fun _ hk=>hk.2) (.int .i64 ((af a i).f1))) (fun _ hk=>hk.2) (.int .i64 ((af a i).f2))) (fun _ hk=>trivial)⟩,⟨by refine zk ?_;refine aE ?_ G.out _;refine zk ?_;refine aE ?_ G.out _;refine zk ?_;refine aE ?_ G.out _;exact zK m⟩,⟨by refine zk ?_;refine aE ?_ I.out _;refine zk ?_;refine aE ?_ I.out _;refine zk ?_;refine aE ?_ I.out _;exact zK r⟩,⟨by refine zk ?_;refine aE ?_ J.out _;refine zk ?_;refine aE ?_ J.out _;refine zk ?_;refine aE ?_ J.out _;exact zK x⟩,⟨zB⟩⟩
       ·rw[if_neg ad] at H
        obtain⟨c0,c1⟩:=bU ad;obtain⟨F,bg⟩:∃j_:Int,(mn ((af a i).f2) K)=j_:=⟨_,rfl⟩;replace H:(if E.length<5864062014805 then(dI.l0 k1 K a (a.length:Int) (wrap64 (i+1)) n (E++[(⟨(af a i).f0,(af a i).f1,F⟩:S83)])) else(none))=some (Z,r2,r3):=by first|(rw[bg] at H;exact H)|(simp only[bg] at H⊢;exact H)
        have e2:(if K<((af a i).f2) then K else((af a i).f2))=F:=bg;by_cases aR:E.length<5864062014805
        ·rw[if_pos aR] at H
         have c6:=zA aR;clear aR;obtain⟨a0,bi⟩:∃y_:List (S83),y_=(E++[(⟨(af a i).f0,(af a i).f1,F⟩:S83)]):=⟨_,rfl⟩;replace H:(dI.l0 k1 K a (a.length:Int) (wrap64 (i+1)) n a0)=some (Z,r2,r3):=zh bi H;have c8:=zA bi;clear bi;have U:=zA H;clear H;have L:0<=(i:Int):=aw ‹_›;have M:i<(a.length:Int):=aw ‹_›;obtain⟨Y,a5,O,P,Q⟩:=eN ag.out i L M;cases a5;replace O:=(l.out.cell (bu w _ O)).trans O;replace P:=(l.out.cell (bu w _ P)).trans P;replace Q:=(l.out.cell (bu w _ Q)).trans Q;replace L:=eq_true L;replace M:=eq_true M;go_wp2_with (first|((with_reducible refine aU (N:=9) rfl ?_);refine zX 9 #[.int .i64 0,.int .i64 0,.int .i64 0] 83 ?_;intro q j c9 v hb;replace D:=zA (Kd.cY (Kd.tB (zR D) q (Nat.le_of_eq j.symm)) hb);have S:=zA (v);have c2:=zG l j;have c3:=zG l j;replace l:=zS l hb;have G:=zA ((by rw[j];exact Nat.ne_of_lt (aC (g:=s) (o:=.cells #[.int .i64 n,.slice (some Y) a.length y] 24 (0,0)) (zK m)):s≠q));have a9:=zA ((by rw[j];exact Nat.ne_of_gt (aC (g:=s) (o:=.cells #[.int .i64 n,.slice (some Y) a.length y] 24 (0,0)) (zK m)):q≠s));replace m:=zb m hb;have I:=zA ((by rw[j];exact Nat.ne_of_lt (aC (g:=u) (o:=.cells #[.int .i64 0,.slice none 0 0] 24 (0,0)) (zK r)):u≠q));have be:=zA ((by rw[j];exact Nat.ne_of_gt (aC (g:=u) (o:=.cells #[.int .i64 0,.slice none 0 0] 24 (0,0)) (zK r)):q≠u));replace r:=zb r hb;have J:=zA ((by rw[j];exact Nat.ne_of_lt (aC (g:=z) (o:=.cells #[.int .i64 n,u262001] 24 (0,0)) (zK x)):z≠q));have bf:=zA ((by rw[j];exact Nat.ne_of_gt (aC (g:=z) (o:=.cells #[.int .i64 n,u262001] 24 (0,0)) (zK x)):q≠z));replace x:=zb x hb;clear hb v j;have e3:=a9.out;have e4:=G.out;have e5:=be.out;have e6:=I.out;have e_:=bf.out;have e':=J.out;obtain⟨fb,fd,fn,fo,fq,fr⟩:=cA S;have ft:=a2.out;have fv:=V.out;have f3:=a3.out;have f4:=W.out;obtain⟨f5,f6,f7,f8⟩:=aA x;have f9:((((c9.setCell ⟨q,0,none⟩ (.int .i64 (af a i).f0)).setCell ⟨q,1,none⟩ (.int .i64 (af a i).f1)).setCell ⟨q,2,none⟩ (.int .i64 (af a i).f2)).setCell ⟨q,2,none⟩ (.int .i64 F)).cell? ⟨q,2,none⟩=some (.int .i64 F):=(ah (bE (cs:=#[(.int .i64 (af a i).f0),(.int .i64 (af a i).f1),(.int .i64 (af a i).f2)]) (bE (cs:=#[(.int .i64 (af a i).f0),(.int .i64 (af a i).f1),(.int .i64 0)]) (bE (cs:=#[(.int .i64 (af a i).f0),(.int .i64 0),(.int .i64 0)]) (bE (cs:=#[(.int .i64 0),(.int .i64 0),(.int .i64 0)]) S.out 0 _ rfl) 1 _ rfl) 2 _ rfl) 2 _ rfl) 2).trans rfl)|((with_reducible refine qF (b:=.append) (xs:=#[.tmp 37,.tmp 39]) rfl ?_);at_builtin;refine Kd.l9 aN (w0:=w) w.heap.size rfl (.tmp 37) (.tmp 39) 22 83 (.agg #[(.int .i64 0),(.int .i64 0),(.int .i64 0)]) 24 rfl Tryz.underlying22 BB rfl (by decide) (by omega) u262001 E (⟨(af a i).f0,(af a i).f1,F⟩:S83) [.int .i64 ((af a i).f0),.int .i64 ((af a i).f1),.int .i64 F] (fun T=>T≠q) (fun _=>False) rfl (by first|(go_simp;done)|(go_simp;rfl)) ?aP (fun _ hk=>hk.elim) ?aF ?aO ?aB ?aS ?aL ?_;(case aP=>exact jv _ _ _ (⟨(af a i).f0,(af a i).f1,F⟩:S83));(case aB=>exact zB);(case aF=>exact(fun T hk=>Kd.ma (g:=q) (o:=.cells #[.int .i64 ((af a i).f0),.int .i64 ((af a i).f1),.int .i64 F] 83 (0,0)) (by refine zk ?_;refine bE (cs:=#[.int .i64 ((af a i).f0),.int .i64 ((af a i).f1),.int .i64 ((af a i).f2)]) ?_ 2 _ rfl;refine zk ?_;refine bE (cs:=#[.int .i64 ((af a i).f0),.int .i64 ((af a i).f1),.int .i64 0]) ?_ 2 _ rfl;refine zk ?_;refine bE (cs:=#[.int .i64 ((af a i).f0),.int .i64 0,.int .i64 0]) ?_ 1 _ rfl;refine zk ?_;refine bE (cs:=#[.int .i64 0,.int .i64 0,.int .i64 0]) ?_ 0 _ rfl;exact zK S) T hk));(case aO=>exact(by(with_reducible repeat(first|apply Kd.aM|apply Kd.bs|apply Kd.bj));exact Kd.a_ (Kd.dJ (p:=⟨q,2,none⟩) (Kd.dJ (p:=⟨q,2,none⟩) (Kd.dJ (p:=⟨q,1,none⟩) (Kd.dJ (p:=⟨q,0,none⟩) (Kd.a_ D.out (fun T hk=>(⟨hk,hk.2⟩:_/\T≠q))) (fun _ hk=>hk.2) (.int .i64 ((af a i).f0))) (fun _ hk=>hk.2) (.int .i64 ((af a i).f1))) (fun _ hk=>hk.2) (.int .i64 ((af a i).f2))) (fun _ hk=>hk.2) (.int .i64 F)) (fun _ hk=>hk.1.2)));(case aS=>exact(bH zB));(case aL=>have:=c6.out;omega);intro f' ga ho hb j c';rw[<-c8.out] at ho;replace m:=zA (dc (g:=s) (o:=.cells #[.int .i64 n,.slice (some Y) a.length y] 24 (0,0)) (by refine zk ?_;refine aE ?_ G.out _;refine zk ?_;refine aE ?_ G.out _;refine zk ?_;refine aE ?_ G.out _;refine zk ?_;refine aE ?_ G.out _;exact zK m) j (Kd.dr D.out m.out (by decide)));replace r:=zA (dc (g:=u) (o:=.cells #[.int .i64 0,.slice none 0 0] 24 (0,0)) (by refine zk ?_;refine aE ?_ I.out _;refine zk ?_;refine aE ?_ I.out _;refine zk ?_;refine aE ?_ I.out _;refine zk ?_;refine aE ?_ I.out _;exact zK r) j (Kd.dr D.out r.out (by decide)));replace x:=zA (dc (g:=z) (o:=.cells #[.int .i64 n,u262001] 24 (0,0)) (by refine zk ?_;refine aE ?_ J.out _;refine zk ?_;refine aE ?_ J.out _;refine zk ?_;refine aE ?_ J.out _;refine zk ?_;refine aE ?_ J.out _;exact zK x) j (Kd.dr D.out x.out (by decide)));replace S:=zA (dc (g:=q) (o:=.cells #[.int .i64 ((af a i).f0),.int .i64 ((af a i).f1),.int .i64 F] 83 (0,0)) (by refine zk ?_;refine bE (cs:=#[.int .i64 ((af a i).f0),.int .i64 ((af a i).f1),.int .i64 ((af a i).f2)]) ?_ 2 _ rfl;refine zk ?_;refine bE (cs:=#[.int .i64 ((af a i).f0),.int .i64 ((af a i).f1),.int .i64 0]) ?_ 2 _ rfl;refine zk ?_;refine bE (cs:=#[.int .i64 ((af a i).f0),.int .i64 0,.int .i64 0]) ?_ 1 _ rfl;refine zk ?_;refine bE (cs:=#[.int .i64 0,.int .i64 0,.int .i64 0]) ?_ 0 _ rfl;exact zK S) j (Kd.zp D.out (fun _ hk=>hk.2)));replace l:=zA (hb);have b3:=zA (ho);clear D;clear ho hb j c';obtain⟨b4,b5,dd⟩:=Kd.bh b3.out;subst dd;obtain⟨gb,gc,gd,ge⟩:=aA x))
         go_roundg k1
         case measure=>have:=an.out;omega
         case rel=>exact⟨(wrap64 (i+1)),(a0),(.slice b4 a0.length b5),zT,U,⟨by have:=an.out;omega⟩,⟨by(with_reducible repeat(first|apply Kd.aM|apply Kd.bs|apply Kd.bj));exact Kd.a_ (Kd.dJ (p:=⟨z,1,none⟩) (Kd.gM b3.out x.out (by decide)) (fun _ hk=>hk.2) (.slice b4 a0.length b5)) (fun _ hk=>trivial)⟩,⟨by refine zk ?_;refine aE ?_ V.out _;exact zK m⟩,⟨by refine zk ?_;refine aE ?_ W.out _;exact zK r⟩,⟨by refine zk ?_;refine bE (cs:=#[.int .i64 n,u262001]) ?_ 1 _ rfl;exact zK x⟩,⟨zB⟩⟩
        ·rw[if_neg aR] at H
         exact absurd H (by simp)
      ·rw[if_neg av] at H
       exact absurd H (by simp)
     ·rw[if_neg ar] at H
      exact absurd H (by simp)
    ·rw[if_neg X] at H
     have cx:=aZ X;clear X;simp only[Option.some.injEq,Prod.mk.injEq] at H;obtain⟨rfl,rfl,rfl⟩:=H;have gf:=a2.out;have gg:=V.out;have gi:=a3.out;have gl:=W.out;obtain⟨gm,gn,go,gp⟩:=aA x;have gq:=am.out;have gr:=ak.out;obtain⟨gs,gt,gx,g0⟩:=aA r;obtain⟨b6,b_,dk⟩:=Kd.bh D.out;subst dk;go_wp2;refine bodyPost_ret (qd rfl _ _ u 24 #[.int .i64 n,.slice b6 E.length b_] (0,0) _ rfl (by refine zk ?_;refine bE (cs:=#[.int .i64 n,.slice none 0 0]) ?_ 1 _ rfl;refine zk ?_;refine bE (cs:=#[.int .i64 0,.slice none 0 0]) ?_ 0 _ rfl;exact zK r) Tryz.underlying24 rfl (by kernel_rfl)) rfl ?_;exact⟨_,zE,by(with_reducible repeat(first|apply Kd.aM|apply Kd.bs|apply Kd.bj));exact Kd.a_ (Kd.dJ (p:=⟨u,1,none⟩) (Kd.dJ (p:=⟨u,0,none⟩) (Kd.gM D.out r.out (by decide)) (fun _ hk=>hk.2) (.int .i64 n)) (fun _ hk=>hk.2) (.slice b6 E.length b_)) (fun _ hk=>trivial),zB⟩
 ·rw[if_neg c4] at H
  obtain⟨b0,b1⟩:=bU c4;simp only[Option.some.injEq,Prod.mk.injEq] at H;obtain⟨rfl,rfl,rfl⟩:=H;go_enter Tryz.func84,Tryz.ntmps84
  go_wp2_with (first|((with_reducible refine aU (N:=2) rfl ?_);refine zX 2 #[.int .i64 n,.slice B a.length y] 24 ?_;intro s j g1 v hb;have m:=zA (v);have b':=zG l j;have ca:=zG l j;replace l:=zS l hb;clear hb v j)|((with_reducible refine aU (N:=4) rfl ?_);refine zX 4 #[.int .i64 0,.slice none 0 0] 24 ?_;intro u j g2 v hb;have r:=zA (v);have cb:=zG l j;have cc:=zG l j;replace l:=zS l hb;have ak:=zA ((by rw[j];exact Nat.ne_of_lt (aC (g:=s) (o:=.cells #[.int .i64 n,.slice B a.length y] 24 (0,0)) (zK m)):s≠u));have am:=zA ((by rw[j];exact Nat.ne_of_gt (aC (g:=s) (o:=.cells #[.int .i64 n,.slice B a.length y] 24 (0,0)) (zK m)):u≠s));replace m:=zb m hb;clear hb v j;have g3:=ak.out;have g4:=am.out;obtain⟨g5,g6,g7,g8⟩:=aA m)|((with_reducible refine aJ (f:=64) rfl ?_);refine zL (some 11) Tryz.func64 #[.agg #[.int .i64 n,.slice B a.length y]] ?_;(with_reducible refine(bc.calls k n _ _ a t260 _ ?al ?aj A3.out).mono ?_);(case al=>exact Kd.ax ag.out zB);(case aj=>exact bw.out);rintro e g9 ⟨rfl,hb⟩;refine⟨_,rfl,?_⟩;replace m:=zb m hb;replace r:=zb r hb;replace l:=zS l hb;(try clear hb);obtain⟨g',ha,hc,he⟩:=aA r))
  refine bodyPost_ret (qd rfl _ _ u 24 #[.int .i64 0,.slice none 0 0] (0,0) _ rfl (by refine zk ?_;refine bE (cs:=#[.int .i64 0,.slice none 0 0]) ?_ 1 _ rfl;refine zk ?_;refine bE (cs:=#[.int .i64 0,.slice none 0 0]) ?_ 0 _ rfl;exact zK r) Tryz.underlying24 rfl (by kernel_rfl)) rfl ?_;exact⟨_,zE,by first|exact Kd.dm _ _ _ _ _|exact Kd.fV _ _ _ _ _|exact Kd.V_nil _ _ _ _ _|exact Kd.Q_nil _ _ _ _ _|exact Kd.ic _ _ _ _ _,zB⟩
end
def gv.f (k:Nat) (b:Int) (e:List (S83)):Option (Int×(List (S83))×Int):=(dI.f k b e 50).bind fun a=>(some (a.1,a.2.1,a.2.2))
theorem gv.mono:∀a0 a k,ai (gv.f k a0 a) (gv.f (k+1) a0 a):=by
 intro a0 a k;unfold gv.f;with_reducible repeat' first|exact dI.mono _ _ _ _|exact ai.refl _|exact ai.none _|refine ai.ite ?_ ?_|refine ai.bind ?_ (fun _=>?_)
theorem gv.calls (k:Nat) (j:Int) (m:Option Addr) (n:Nat) (a:List (S83)) (y:Int) (z:List (S83)) (B:Int) (w:World) (D:Kd.C aN w m a.length a) (E:a.length<=n) (h:gv.f k j a=some (y,z,B)):
  Calls Tryz.prog 30 #[.agg #[.int .i64 j,.slice m a.length n]] w fun e w'=>∃F:Value,e= .returned (.tuple #[.agg #[.int .i64 y,F],.int .i64 B])/\Kd.R aN 83 w' w.heap.size (fun _=>True) F z/\Below w.heap.size w w':=by
 have U:=Tryz.underlying24;have L:=zA D;have M:=zA E;clear D E;have b:=zA (aq w.heap.size w);unfold gv.f at h;have H:=h;clear h;obtain⟨⟨u,x,O⟩,P,H⟩:=zo H;dsimp only at H;simp only[Option.some.injEq,Prod.mk.injEq] at H;obtain⟨rfl,rfl,rfl⟩:=H;go_enter Tryz.func30,Tryz.ntmps30
 go_wp2_with (first|((with_reducible refine aU (N:=1) rfl ?_);refine zX 1 #[.int .i64 j,.slice m a.length n] 24 ?_;intro v i w3 q hb;have l:=zA (q);have V:=zG b i;have W:=zG b i;replace b:=zS b hb;clear hb q i)|((with_reducible refine aU (N:=2) rfl ?_);refine zX 2 #[.int .i64 0,.slice none 0 0] 24 ?_;intro r i X q hb;have s:=zA (q);have Y:=zG b i;have Z:=zG b i;replace b:=zS b hb;have Q:=zA ((by rw[i];exact Nat.ne_of_lt (aC (g:=v) (o:=.cells #[.int .i64 j,.slice m a.length n] 24 (0,0)) (zK l)):v≠r));have S:=zA ((by rw[i];exact Nat.ne_of_gt (aC (g:=v) (o:=.cells #[.int .i64 j,.slice m a.length n] 24 (0,0)) (zK l)):r≠v));replace l:=zb l hb;clear hb q i;have aa:=Q.out;have ab:=S.out;obtain⟨ad,ag,ak,am⟩:=aA l)|((with_reducible refine aJ (f:=84) rfl ?_);refine zL (some 5) Tryz.func84 #[.agg #[.int .i64 j,.slice m a.length n],.int .i64 50] ?_;(with_reducible refine(dI.calls k j _ _ a 50 u x O _ ?al ?aj P.out).mono ?_);(case al=>exact Kd.ax L.out zB);(case aj=>exact M.out);rintro e w7 ⟨ap,rfl,G,hb⟩;refine⟨_,rfl,?_⟩;have I:=zA (Kd.bd G (bH zB));replace l:=zb l hb;replace s:=zb s hb;replace b:=zS b hb;(try clear hb);(try clear G);obtain⟨ar,av,aB,aF⟩:=aA s;obtain⟨J,K,T⟩:=Kd.bh I.out;subst T))
 refine bodyPost_ret (qd rfl _ _ r 24 #[.int .i64 u,.slice J x.length K] (0,0) _ rfl (by refine zk ?_;refine bE (cs:=#[.int .i64 u,.slice none 0 0]) ?_ 1 _ rfl;refine zk ?_;refine bE (cs:=#[.int .i64 0,.slice none 0 0]) ?_ 0 _ rfl;exact zK s) Tryz.underlying24 rfl (by kernel_rfl)) rfl ?_;exact⟨_,zE,by(with_reducible repeat(first|apply Kd.aM|apply Kd.bs|apply Kd.bj));exact Kd.a_ (Kd.dJ (p:=⟨r,1,none⟩) (Kd.dJ (p:=⟨r,0,none⟩) (Kd.gM I.out s.out (by decide)) (fun _ hk=>hk.2) (.int .i64 u)) (fun _ hk=>hk.2) (.slice J x.length K)) (fun _ hk=>trivial),zB⟩
end Go.Proofs.YtffdiakgjakngaaGreat.P
namespace Go.Proofs.YtffdiakgjakngaaGreat.P
open Go.RowKit Go.Maps Go.Proofs.YtffdiakgjakngaaGreatW.PrintWords Go.Proofs.YtffdiakgjakngaaGreatW.PrintLast Go.Proofs.YtffdiakgjakngaaGreatW.PrintMore
set_option linter.unusedVariables false
set_option linter.unusedSimpArgs false
set_option maxHeartbeats 8000000
set_option maxRecDepth 100000
section
attribute [local go_sem] Oper.semAt_some
theorem Gu (G:List Int->Int->Prop) (k n:Nat) (A0:Option Addr) (c0:Nat) (E:List S83) (n' g:Int) (a:List S83) (w:World) (m:Kd.C aN w A0 E.length E) (v:E.length<=c0) (o:gv.f k n E=some (n',a,0)) (p:fi.f k n' a=some (g,0)):
  Calls Tryz.prog 94 #[.agg #[.int .i64 n,.slice A0 E.length c0]] w fun e w'=>∃h b,e= .returned (.tuple #[.pointer (some ⟨h,0,none⟩),.int .i64 0])/\gW w' h n A0 E c0 g b/\ec G w' b/\h≠b/\w.heap.size<=b/\Below w.heap.size w w':=by
 have hu:=Tryz.underlying24;have J:=Tryz.underlying171;have x:=zA o;have y:=zA p;have z:=zA m;clear o p m;go_enter Tryz.func94,Tryz.ntmps94
 have q:=a7 w (.cells #[.int .i64 n,.slice A0 E.length c0] 24);go_wp2_with (go_at_call 30;refine(gv.calls k n A0 c0 E n' a 0 _ (Kd.bz z.out _) v x.out).mono ?_;rintro e w1 ⟨v1,rfl,i,j⟩;obtain⟨B,c1,rfl⟩:=Kd.bh i;have r:=zA (Kd.aH i);have D:=zA (aW (ao (aq w.heap.size w) _) j);have F:=zA (aD q j);clear i j)
 refine(fi.calls k n' B c1 a g 0 _ (Kd.bz r.out.2.2 _) r.out.2.1 y.out).mono ?_;rintro e w2 ⟨rfl,l⟩;have s:=zA (aD (au F.out _) l);have u:=zA (aW (ao D.out _) l);have K:w2.cell? ⟨w.heap.size,0,none⟩=some (.int .i64 n):=(ah s.out 0).trans rfl;have L:w2.cell? ⟨w.heap.size,1,none⟩=some (.slice A0 E.length c0):=(ah s.out 1).trans rfl;have aY:=u.out.size;clear l q;have M:=@run_makeMap Tryz.prog;go_wp2_with fail
 have H:=ao (aq w2.heap.size w2) (.map #[] 0);have I:=ao H (.cells #[.int .i64 n,.slice A0 E.length c0,.int .i64 g,.map (some w2.heap.size)] 171);go_ret2;refine⟨_,w2.heap.size,rfl,?_,(ec.made w2).alloc _,by omega,by omega,aW u.out I⟩;have:=a7 (w2.alloc (.map #[] 0)) (.cells #[.int .i64 n,.slice A0 E.length c0,.int .i64 g,.map (some w2.heap.size)] 171);rw[show (w2.alloc (.map #[] 0)).heap.size=w2.heap.size+1 from by simp] at this;exact this
noncomputable def xN (n:Nat) (t:Nat->Nat->Int) (d:List Int):Int:=@Classical.epsilon Int ⟨0⟩ fun r=>Rk n t d r
theorem xO {n:Nat} {t:Nat->Nat->Int} {d:List Int} (hn:0<n) {r:Int} (h:Rk n t d r):xN n t d=r:=
 T.cm.unique hn (@Classical.epsilon_spec_aux Int ⟨0⟩ (fun r=>Rk n t d r) ⟨r,h⟩) h
noncomputable def eK.f (k:Nat) (N:Int) (E:List S83) (d:List Int):Option (Int×Int):=
 (fy.f k N E [d]).bind fun e=>if e=0 then(if jn N E 0 d=true then((gv.f k N E).bind fun p=>if p.2.2=0 then((fi.f k p.1 p.2.1).bind fun g=>if g.2=0 then(if T.sN (T.can N.toNat (ae E)) N.toNat=2*g.1-2 then some (xN N.toNat (ae E) d,0) else none) else none) else none) else none) else some (0,e)
theorem Gv (k:Nat) (N:Int) (A0:Option Addr) (c0:Nat) (E:List S83) (a:Option Addr) (c2:Nat) (d:List Int) (t:Int) (w:World) (l:Kd.C aN w A0 E.length E) (m:E.length<=c0) (g:Kd.C (Kd.int .i64) w a d.length d) (h:d.length<=c2)
  (i:fy.f k N E [d]=some t) (j:t≠0):
  Calls Tryz.prog 41 #[.agg #[.int .i64 N,.slice A0 E.length c0],.slice a d.length c2] w fun e w'=>e= .returned (.tuple #[.int .i64 0,.int .i64 t])/\Below w.heap.size w w':=by
 have hu:=Tryz.underlying24;have n:=zA i;have o:=zA g;have p:=zA h;have r:(t != 0)=true:=by simpa using j
 clear i j g h;go_enter Tryz.func41,Tryz.ntmps41
 have b:=rV (w.alloc (.cells #[.int .i64 N,.slice A0 E.length c0] 24)) 26 (Kd.bz o.out _) p.out;rw[show (w.alloc (.cells #[.int .i64 N,.slice A0 E.length c0] 24)).heap.size=w.heap.size+1 from by simp] at b;go_wp2_with fail
 refine(fy.calls k N A0 c0 E (some ⟨w.heap.size+1,0,none⟩) 1 [d] t _ (Kd.bz (Kd.bz l _) _) m b (aI 1) n.out).mono ?_;rintro e w1 ⟨rfl,hb⟩;have q:=zA (aW (ao (ao (aq w.heap.size w) (.cells #[.int .i64 N,.slice A0 E.length c0] 24)) (.cells #[.slice a d.length c2] 26)) hb);clear hb b;go_wp2;go_ret2;exact⟨rfl,q.out⟩
theorem Gw {n:Nat} {t:Nat->Nat->Int} (a:T.Wt n t) (hn:n<=12) (h:T.sN (T.val n t) n<=19) {g:Int} (b:T.ee n t g): -100<=g/\g<=100:=by
 have h1:T.sN (T.can n t) n=T.sN (T.val n t) n-2*n:=by
  have key:∀m:Nat,T.sN (T.can n t) m=T.sN (T.val n t) m-2*m:=by
   intro m;induction m with
   |zero=>simp[T.sN]
   |succ m e=>
    show T.sN (T.can n t) m+T.can n t m=T.sN (T.val n t) m+T.val n t m-_
    rw[e];unfold T.can;omega
  exact key n
 have i:T.sN (T.can n t) n=2*g-2:=b;have j:0<=T.sN (T.val n t) n:=T.dw fun v _=>T.dw fun u _=>a.pos v u
 omega
theorem Gx {n:Nat} {E:List S83} {d:List Int} {g:Int} (h:dT n 0 E d) (i:cw n E=0) (a:T.ee n (ae E) g):ss n E g where
 n1:=h.n1
 n12:=h.n12
 right:=h.right
 conn:=h.conn
 len:=h.len
 val:=h.val
 gen:=a
 g0:=Gw h.right.wt h.n12 h.val a
 nX:=fun d' e=>by
  obtain⟨s,h1,b,j⟩:=Gs e i;obtain⟨k,hk⟩:=h1.get;exact⟨k,s,hk,(nV e.right).2 ⟨b,j⟩⟩
 b7:=fun l h1 b=>Gp h.right.wt h.n1 a h.val l h1 b
theorem Gy (k n:Nat) (A0:Option Addr) (c0:Nat) (E:List S83) (a:Option Addr) (c2:Nat) (d:List Int) (n' g:Int) (h:List S83) (w:World) (i:Kd.C aN w A0 E.length E) (j:E.length<=c0) (p:Kd.C (Kd.int .i64) w a d.length d) (q:d.length<=c2)
  (s:fy.f k n E [d]=some 0) (b:dT n 0 E d) (u:cw n E=0) (v:gv.f k n E=some (n',h,0)) (x:fi.f k n' h=some (g,0)) (K:T.ee n (ae E) g):
  Calls Tryz.prog 41 #[.agg #[.int .i64 n,.slice A0 E.length c0],.slice a d.length c2] w fun e w'=>∃r,e= .returned (.tuple #[.int .i64 r,.int .i64 0])/\Rk n (ae E) d r/\Below w.heap.size w w':=by
 have hu:=Tryz.underlying24;have L:=zA s;have M:=zA v;have N:=zA x;have y:=zA p;have z:=zA q;have O:=zA (Gx b u K);have P:Aside0 (pS n d):=⟨b.dl,b.d⟩;have Q:=zA b.dl;clear s v x p q b u;have B:=a7 w (.cells #[.int .i64 n,.slice A0 E.length c0] 24);have l:=rV (w.alloc (.cells #[.int .i64 n,.slice A0 E.length c0] 24)) 26 (Kd.bz y.out _) z.out;rw[show (w.alloc (.cells #[.int .i64 n,.slice A0 E.length c0] 24)).heap.size=w.heap.size+1 from by simp] at l;go_enter Tryz.func41,Tryz.ntmps41
 go_wp2_with fail
 refine(fy.calls k n A0 c0 E (some ⟨w.heap.size+1,0,none⟩) 1 [d] 0 _ (Kd.bz (Kd.bz i _) _) j l (aI 1) L.out).mono ?_;rintro e w1 ⟨rfl,hb⟩;have D:=zA (aD (au B (.cells #[.slice a d.length c2] 26)) hb);have m:=zA (aW (ao (ao (aq w.heap.size w) (.cells #[.int .i64 n,.slice A0 E.length c0] 24)) (.cells #[.slice a d.length c2] 26)) hb);have Z:w1.cell? ⟨w.heap.size,0,none⟩=some (.int .i64 n):=(ah D.out 0).trans rfl;have y1:w1.cell? ⟨w.heap.size,1,none⟩=some (.slice A0 E.length c0):=(ah D.out 1).trans rfl;clear hb l B;go_wp2_with fail
 refine(Gu (kn n (ae E) g) k n A0 c0 E n' g h w1 (Kd.ax i m.out) j M.out N.out).mono ?_;rintro e w2 ⟨R,F,rfl,hF,G,S,ab,H⟩;have o:=zA (aW m.out H);have U:=zA hF;have V:=zA G;have I:w.heap.size<=F:=by have:=m.out.size;omega
 clear hF G H;go_wp2_with fail
 have W:=Q.out;subst W;refine(xG d.length A0 c0 E g R F w i j O.out I S ((eY d d.length).toNat+1) d a c2 w2 P.out (by omega) o.out U.out V.out (Kd.ax y.out o.out) z.out).mono ?_;rintro e w3 ⟨r,rfl,J, -,hk⟩;have X:=zA J;have Y:=zA (o.out.trans (hk.1.mono I));clear J hk;go_wp2;go_ret2;exact⟨r,rfl,X.out,Y.out⟩
theorem eK.calls (k:Nat) (j:Int) (l:Option Addr) (m:Nat) (b:List (S83)) (o:Option Addr) (c1:Nat) (l1:List Int) (s:Int) (u:Int) (w:World) (v:Kd.C aN w l b.length b) (x:b.length<=m) (y:Kd.C (Kd.int .i64) w o l1.length l1) (z:l1.length<=c1) (h:eK.f k j b l1=some (s,u)):
  Calls Tryz.prog 41 #[.agg #[.int .i64 j,.slice l b.length m],.slice o l1.length c1] w fun e w'=>e= .returned (.tuple #[.int .i64 s,.int .i64 u])/\Below w.heap.size w w':=by
 unfold eK.f at h;obtain⟨e,he,a⟩:=Option.bind_eq_some_iff.1 h;clear h;by_cases q:e=0
 ·subst q
  rw[if_pos rfl] at a;by_cases i:jn j b 0 l1=true
  ·rw[if_pos i] at a
   obtain⟨⟨n',E,F⟩,G,a⟩:=Option.bind_eq_some_iff.1 a;have H:cw j b=0:=by
    unfold jn at i;rw[Bool.and_eq_true,decide_eq_true_eq] at i;exact i.1.2.2.2.2.2.1
   obtain⟨n,I,rfl,L,hO⟩:=pP i;obtain rfl:I=0:=by omega
   simp only at a;by_cases B:F=0
   ·subst B
    rw[if_pos rfl] at a;obtain⟨⟨g,e2⟩,J,a⟩:=Option.bind_eq_some_iff.1 a;simp only at a;by_cases D:e2=0
    ·subst D
     rw[if_pos rfl] at a;by_cases p:T.sN (T.can (n:Int).toNat (ae b)) (n:Int).toNat=2*g-2
     ·rw[if_pos p] at a
      simp only[Option.some.injEq,Prod.mk.injEq,aG] at a;obtain⟨rfl,rfl⟩:=a;rw[aG] at p;refine(Gy k n l m b o c1 l1 n' g E w v x y z he hO H G J p).mono ?_;rintro e w' ⟨r,rfl,K,hb⟩;rw[xO hO.n1 K];exact⟨rfl,hb⟩
     ·rw[if_neg p] at a;cases a
    ·rw[if_neg D] at a;cases a
   ·rw[if_neg B] at a;cases a
  ·rw[if_neg i] at a;cases a
 ·rw[if_neg q] at a
  simp only[Option.some.injEq,Prod.mk.injEq] at a;obtain⟨rfl,rfl⟩:=a;exact Gv k j l m b o c1 l1 e w v x y z he q
end
end Go.Proofs.YtffdiakgjakngaaGreat.P
namespace Go.Proofs.YtffdiakgjakngaaGreat.P
open Go.RowKit Go.Proofs.YtffdiakgjakngaaGreatW.PrintWords Go.Proofs.YtffdiakgjakngaaGreatW.PrintLast Go.Proofs.YtffdiakgjakngaaGreatW.PrintMore
set_option linter.unusedVariables false
set_option linter.unusedSimpArgs false
set_option maxHeartbeats 8000000
set_option maxRecDepth 100000
noncomputable def iQ.f (k:Nat) (a:Int) (b:List (S83)) (l1:List Int):Option (Int×Int):=(eX.f k a b l1).bind fun e=>(if e.2=0 then((eK.f k a b l1).bind fun g=>(if g.2=0 then((eK.f k a b e.1).bind fun h=>(if h.2=0 then(some (wrap64 (g.1-h.1),0)) else(some (0,h.2)))) else(some (0,g.2)))) else(some (0,e.2)))
theorem iQ.calls (k:Nat) (i:Int) (l:Option Addr) (m:Nat) (g:List (S83)) (q:Option Addr) (c1:Nat) (l1:List Int) (O:Int) (P:Int) (w:World) (Q:Kd.C aN w l g.length g) (R:g.length<=m) (S:Kd.C (Kd.int .i64) w q l1.length l1) (T:l1.length<=c1) (h:iQ.f k i g l1=some (O,P)):
  Calls Tryz.prog 27 #[.agg #[.int .i64 i,.slice l g.length m],.slice q l1.length c1] w fun e w'=>e= .returned (.tuple #[.int .i64 O,.int .i64 P])/\Below w.heap.size w w':=by
 have ar:=Tryz.underlying24;have r:=zA Q;have s:=zA R;clear Q R;have v:=zA S;have x:=zA T;clear S T;have a:=zA (aq w.heap.size w);unfold iQ.f at h;have H:=h;clear h;obtain⟨⟨u,y⟩,D,H⟩:=zo H;dsimp only at H;by_cases c4:y=0
 ·rw[if_pos c4] at H
  obtain⟨W,X⟩:=bT c4;clear c4;obtain⟨⟨F,E⟩,G,H⟩:=zo H;dsimp only at H;by_cases z:E=0
  ·rw[if_pos z] at H
   obtain⟨Y,Z⟩:=bT z;clear z;obtain⟨⟨U,I⟩,V,H⟩:=zo H;dsimp only at H;by_cases B:I=0
   ·rw[if_pos B] at H
    obtain⟨aa,ab⟩:=bT B;clear B;simp only[Option.some.injEq,Prod.mk.injEq] at H;obtain⟨rfl,rfl⟩:=H;go_enter Tryz.func27,Tryz.ntmps27
    go_wp2_with (first|((with_reducible refine aU (N:=2) rfl ?_);refine zX 2 #[.int .i64 i,.slice l g.length m] 24 ?_;intro J n w9 o hb;have b:=zA (o);have K:=zG a n;have L:=zG a n;replace a:=zS a hb;clear hb o n;obtain⟨aB,aF,aL,aO⟩:=aA b)|((with_reducible refine aJ (f:=32) rfl ?_);refine zL (some 13) Tryz.func32 #[.agg #[.int .i64 i,.slice l g.length m],.slice q l1.length c1] ?_;(with_reducible refine(eX.calls k i _ _ g _ _ l1 u y _ ?al ?aj ?bl ?bm D.out).mono ?_);(case al=>exact Kd.ax r.out zB);(case aj=>exact s.out);(case bl=>exact Kd.ax v.out zB);(case bm=>exact x.out);rintro e aP ⟨M,rfl,p,hb⟩;refine⟨_,rfl,?_⟩;have j:=zA (Kd.bd p (bH zB));replace b:=zb b hb;replace a:=zS a hb;(try clear hb);(try clear p);obtain⟨aR,aS,a0,a1⟩:=aA b)|((with_reducible refine aJ (f:=41) rfl ?_);refine zL (some 22) Tryz.func41 #[.agg #[.int .i64 i,.slice l g.length m],.slice q l1.length c1] ?_;(with_reducible refine(eK.calls k i _ _ g _ _ l1 F E _ ?al ?aj ?bl ?bm G.out).mono ?_);(case al=>exact Kd.ax r.out zB);(case aj=>exact s.out);(case bl=>exact Kd.ax v.out zB);(case bm=>exact x.out);rintro e a2 ⟨rfl,hb⟩;refine⟨_,rfl,?_⟩;replace j:=bp j hb;replace b:=zb b hb;replace a:=zS a hb;(try clear hb);obtain⟨a3,a4,a5,a9⟩:=aA b;obtain⟨ad,ag,ak⟩:=Kd.bh j.out;subst ak)|((with_reducible refine aJ (f:=41) rfl ?_);refine zL (some 31) Tryz.func41 #[.agg #[.int .i64 i,.slice l g.length m],.slice ad u.length ag] ?_;(with_reducible refine(eK.calls k i _ _ g _ _ u U I _ ?al ?aj ?bl ?bm V.out).mono ?_);(case al=>exact Kd.ax r.out zB);(case aj=>exact s.out);(case bl=>exact zC (Kd.aH j.out).2.2);(case bm=>exact(Kd.aH j.out).2.1);rintro e be ⟨rfl,hb⟩;refine⟨_,rfl,?_⟩;replace j:=bp j hb;replace b:=zb b hb;replace a:=zS a hb;(try clear hb)))
    go_ret2;exact⟨zE,zB⟩
   ·rw[if_neg B] at H
    obtain⟨aa,ab⟩:=bU B;simp only[Option.some.injEq,Prod.mk.injEq] at H;obtain⟨rfl,rfl⟩:=H;go_enter Tryz.func27,Tryz.ntmps27
    go_wp2_with (first|((with_reducible refine aU (N:=2) rfl ?_);refine zX 2 #[.int .i64 i,.slice l g.length m] 24 ?_;intro J n bf o hb;have b:=zA (o);have K:=zG a n;have L:=zG a n;replace a:=zS a hb;clear hb o n;obtain⟨bg,bi,bk,bn⟩:=aA b)|((with_reducible refine aJ (f:=32) rfl ?_);refine zL (some 13) Tryz.func32 #[.agg #[.int .i64 i,.slice l g.length m],.slice q l1.length c1] ?_;(with_reducible refine(eX.calls k i _ _ g _ _ l1 u y _ ?al ?aj ?bl ?bm D.out).mono ?_);(case al=>exact Kd.ax r.out zB);(case aj=>exact s.out);(case bl=>exact Kd.ax v.out zB);(case bm=>exact x.out);rintro e bo ⟨M,rfl,p,hb⟩;refine⟨_,rfl,?_⟩;have j:=zA (Kd.bd p (bH zB));replace b:=zb b hb;replace a:=zS a hb;(try clear hb);(try clear p);obtain⟨bv,bw,bx,b0⟩:=aA b)|((with_reducible refine aJ (f:=41) rfl ?_);refine zL (some 22) Tryz.func41 #[.agg #[.int .i64 i,.slice l g.length m],.slice q l1.length c1] ?_;(with_reducible refine(eK.calls k i _ _ g _ _ l1 F E _ ?al ?aj ?bl ?bm G.out).mono ?_);(case al=>exact Kd.ax r.out zB);(case aj=>exact s.out);(case bl=>exact Kd.ax v.out zB);(case bm=>exact x.out);rintro e b1 ⟨rfl,hb⟩;refine⟨_,rfl,?_⟩;replace j:=bp j hb;replace b:=zb b hb;replace a:=zS a hb;(try clear hb);obtain⟨b2,b3,b4,b5⟩:=aA b;obtain⟨am,an,ap⟩:=Kd.bh j.out;subst ap)|((with_reducible refine aJ (f:=41) rfl ?_);refine zL (some 31) Tryz.func41 #[.agg #[.int .i64 i,.slice l g.length m],.slice am u.length an] ?_;(with_reducible refine(eK.calls k i _ _ g _ _ u U I _ ?al ?aj ?bl ?bm V.out).mono ?_);(case al=>exact Kd.ax r.out zB);(case aj=>exact s.out);(case bl=>exact zC (Kd.aH j.out).2.2);(case bm=>exact(Kd.aH j.out).2.1);rintro e b6 ⟨rfl,hb⟩;refine⟨_,rfl,?_⟩;replace j:=bp j hb;replace b:=zb b hb;replace a:=zS a hb;(try clear hb)))
    go_ret2;exact⟨zE,zB⟩
  ·rw[if_neg z] at H
   obtain⟨Y,Z⟩:=bU z;simp only[Option.some.injEq,Prod.mk.injEq] at H;obtain⟨rfl,rfl⟩:=H;go_enter Tryz.func27,Tryz.ntmps27
   go_wp2_with (first|((with_reducible refine aU (N:=2) rfl ?_);refine zX 2 #[.int .i64 i,.slice l g.length m] 24 ?_;intro J n b_ o hb;have b:=zA (o);have K:=zG a n;have L:=zG a n;replace a:=zS a hb;clear hb o n;obtain⟨b',ca,cb,cc⟩:=aA b)|((with_reducible refine aJ (f:=32) rfl ?_);refine zL (some 13) Tryz.func32 #[.agg #[.int .i64 i,.slice l g.length m],.slice q l1.length c1] ?_;(with_reducible refine(eX.calls k i _ _ g _ _ l1 u y _ ?al ?aj ?bl ?bm D.out).mono ?_);(case al=>exact Kd.ax r.out zB);(case aj=>exact s.out);(case bl=>exact Kd.ax v.out zB);(case bm=>exact x.out);rintro e cd ⟨M,rfl,p,hb⟩;refine⟨_,rfl,?_⟩;have j:=zA (Kd.bd p (bH zB));replace b:=zb b hb;replace a:=zS a hb;(try clear hb);(try clear p);obtain⟨ce,cf,cg,ch⟩:=aA b)|((with_reducible refine aJ (f:=41) rfl ?_);refine zL (some 22) Tryz.func41 #[.agg #[.int .i64 i,.slice l g.length m],.slice q l1.length c1] ?_;(with_reducible refine(eK.calls k i _ _ g _ _ l1 F E _ ?al ?aj ?bl ?bm G.out).mono ?_);(case al=>exact Kd.ax r.out zB);(case aj=>exact s.out);(case bl=>exact Kd.ax v.out zB);(case bm=>exact x.out);rintro e ci ⟨rfl,hb⟩;refine⟨_,rfl,?_⟩;replace j:=bp j hb;replace b:=zb b hb;replace a:=zS a hb;(try clear hb)))
   go_ret2;exact⟨zE,zB⟩
 ·rw[if_neg c4] at H
  obtain⟨W,X⟩:=bU c4;simp only[Option.some.injEq,Prod.mk.injEq] at H;obtain⟨rfl,rfl⟩:=H;go_enter Tryz.func27,Tryz.ntmps27
  go_wp2_with (first|((with_reducible refine aU (N:=2) rfl ?_);refine zX 2 #[.int .i64 i,.slice l g.length m] 24 ?_;intro J n cj o hb;have b:=zA (o);have K:=zG a n;have L:=zG a n;replace a:=zS a hb;clear hb o n;obtain⟨ck,cl,cn,co⟩:=aA b)|((with_reducible refine aJ (f:=32) rfl ?_);refine zL (some 13) Tryz.func32 #[.agg #[.int .i64 i,.slice l g.length m],.slice q l1.length c1] ?_;(with_reducible refine(eX.calls k i _ _ g _ _ l1 u y _ ?al ?aj ?bl ?bm D.out).mono ?_);(case al=>exact Kd.ax r.out zB);(case aj=>exact s.out);(case bl=>exact Kd.ax v.out zB);(case bm=>exact x.out);rintro e cp ⟨M,rfl,p,hb⟩;refine⟨_,rfl,?_⟩;have j:=zA (Kd.bd p (bH zB));replace b:=zb b hb;replace a:=zS a hb;(try clear hb);(try clear p)))
  go_ret2;exact⟨zE,zB⟩
def dC.l0:Nat->List Int->List Int->List Int->Int->Int->Option (Int)
 |0,_,_,_,_,_=>none
 |k+1,e,x1,b,g,a=>if a<g then(if 0<=a then(if a<(b.length:Int) then(if a>=(x1.length:Int) then(some 1) else(if a<(x1.length:Int) then((iF.f (rd b a) (rd x1 a)).bind fun h=>(if h=0 then(dC.l0 k e x1 b g (wrap64 (a+1))) else(some h))) else(none))) else(none)) else(none)) else(if(e.length:Int)<(x1.length:Int) then(some (-1)) else(some 0))
def dC.f (k:Nat) (l0:List Int) (l1:List Int):Option (Int):=dC.l0 k l0 l1 l0 (l0.length:Int) 0
theorem dC.cD:∀k,(∀a b e g i,ai (dC.l0 k a b e g i) (dC.l0 (k+1) a b e g i))
 |0=>fun _ _ _ _ _ r h=>by simp[dC.l0] at h
 |k+1=>by
  have j:=dC.cD k
  ·intro a b e g i
   unfold dC.l0;with_reducible repeat' first|exact j _ _ _ _ _|exact ai.refl _|exact ai.none _|refine ai.ite ?_ ?_|refine ai.bind ?_ (fun _=>?_)
theorem dC.mono:∀a0 a k,ai (dC.f k a0 a) (dC.f (k+1) a0 a):=by
 intro a0 a k;have b:=dC.cD k;unfold dC.f;with_reducible repeat' first|exact b _ _ _ _ _|exact ai.refl _|exact ai.none _|refine ai.ite ?_ ?_|refine ai.bind ?_ (fun _=>?_)
theorem dC.calls (k:Nat) (A0:Option Addr) (c0:Nat) (l0:List Int) (z:Option Addr) (c1:Nat) (l1:List Int) (r:Int) (w:World) (B:Kd.C (Kd.int .i64) w A0 l0.length l0) (D:l0.length<=c0) (E:Kd.C (Kd.int .i64) w z l1.length l1) (F:l1.length<=c1) (h:dC.f k l0 l1=some r):
  Calls Tryz.prog 51 #[.slice A0 l0.length c0,.slice z l1.length c1] w fun e w'=>e= .returned (.int .i64 r)/\az w w':=by
 have u:=zA B;have X:=zA D;clear B D;have G:=zA E;have Y:=zA F;clear E F;have H:(dC.l0 k l0 l1 l0 (l0.length:Int) 0)=some r:=h;clear h;have p:=zA H;clear H;go_enter Tryz.func51,Tryz.ntmps51
 go_wp2;go_loopg [11] k (fun I v11 w'=>∃(a:Int),v11= .int .i64 a/\Aside0 (dC.l0 I l0 l1 l0 (l0.length:Int) a=some r)/\Aside0 (I<=k)/\az w w')
 case atStart=>exact⟨(0),zT,p,⟨aI _⟩,by repeat(first|exact az.refl _|apply az.step)⟩
 case round=>
  clear p;obtain⟨a,rfl,v,J,⟨m1,rfl⟩⟩:=hrel;cases gk with
  |zero=>exact absurd v.out (by simp[dC.l0])
  |succ N=>
   have H:=v.out;clear v;simp only[dC.l0] at H;by_cases c3:a<(l0.length:Int)
   ·rw[if_pos c3] at H
    have O:=ay c3;clear c3;by_cases c4:0<=a
    ·rw[if_pos c4] at H
     have Z:=ay c4;clear c4;by_cases q:a<(l0.length:Int)
     ·rw[if_pos q] at H
      have aa:=ay q;clear q;by_cases m:a>=(l1.length:Int)
      ·rw[if_pos m] at H
       have P:=ay m;clear m;obtain rfl:=aQ H;have b:0<=(a:Int):=aw ‹_›;have g:a<(l0.length:Int):=aw ‹_›;obtain⟨K,n,L⟩:=Kd.bJ u.out a b g;cases n;replace b:=eq_true b;replace g:=eq_true g;go_wp2;go_ret;exact⟨zT,by repeat(first|exact az.refl _|apply az.step)⟩
      ·rw[if_neg m] at H
       have P:=aZ m;clear m;by_cases s:a<(l1.length:Int)
       ·rw[if_pos s] at H
        have ab:=ay s;clear s;obtain⟨x,M,H⟩:=zo H;by_cases o:x=0
        ·rw[if_pos o] at H
         obtain⟨Q,R⟩:=bT o;clear o;have p:=zA H;clear H;have b:0<=(a:Int):=aw ‹_›;have g:a<(l0.length:Int):=aw ‹_›;obtain⟨K,n,L⟩:=Kd.bJ u.out a b g;cases n;replace b:=eq_true b;replace g:=eq_true g;have j:0<=(a:Int):=aw ‹_›;have l:a<(l1.length:Int):=aw ‹_›;obtain⟨S,y,T⟩:=Kd.bJ G.out a j l;cases y;replace j:=eq_true j;replace l:=eq_true l;go_wp2_with (first|((with_reducible refine aJ (f:=107) rfl ?_);refine zL (some 26) Tryz.func107 #[.int .i64 (rd l0 a),.int .i64 (rd l1 a)] ?_;(with_reducible refine(iF.calls (rd l0 a) (rd l1 a) x _ M.out).mono ?_);rintro e w' ⟨rfl,⟨U,rfl⟩⟩;refine⟨_,rfl,?_⟩))
         go_roundg N
         case measure=>have:=J.out;omega
         case rel=>exact⟨(wrap64 (a+1)),zT,p,⟨by have:=J.out;omega⟩,by repeat(first|exact az.refl _|apply az.step)⟩
        ·rw[if_neg o] at H
         obtain⟨Q,R⟩:=bU o;obtain rfl:=aQ H;have b:0<=(a:Int):=aw ‹_›;have g:a<(l0.length:Int):=aw ‹_›;obtain⟨K,n,L⟩:=Kd.bJ u.out a b g;cases n;replace b:=eq_true b;replace g:=eq_true g;have j:0<=(a:Int):=aw ‹_›;have l:a<(l1.length:Int):=aw ‹_›;obtain⟨S,y,T⟩:=Kd.bJ G.out a j l;cases y;replace j:=eq_true j;replace l:=eq_true l;go_wp2_with (first|((with_reducible refine aJ (f:=107) rfl ?_);refine zL (some 26) Tryz.func107 #[.int .i64 (rd l0 a),.int .i64 (rd l1 a)] ?_;(with_reducible refine(iF.calls (rd l0 a) (rd l1 a) x _ M.out).mono ?_);rintro e w' ⟨rfl,⟨U,rfl⟩⟩;refine⟨_,rfl,?_⟩))
         go_ret;exact⟨zT,by repeat(first|exact az.refl _|apply az.step)⟩
       ·rw[if_neg s] at H
        exact absurd H (by simp)
     ·rw[if_neg q] at H
      exact absurd H (by simp)
    ·rw[if_neg c4] at H
     exact absurd H (by simp)
   ·rw[if_neg c3] at H
    have O:=aZ c3;clear c3;by_cases i:(l0.length:Int)<(l1.length:Int)
    ·rw[if_pos i] at H
     have V:=ay i;have W:decide (l0.length<l1.length)=true:=ay (Int.ofNat_lt.mp i);clear i;obtain rfl:=aQ H;go_wp2;go_ret;exact⟨zT,by repeat(first|exact az.refl _|apply az.step)⟩
    ·rw[if_neg i] at H
     have V:=aZ i;have W:decide (l0.length<l1.length)=false:=aZ (fun h=>i (Int.ofNat_lt.mpr h));clear i;obtain rfl:=aQ H;go_wp2;go_ret;exact⟨zT,by repeat(first|exact az.refl _|apply az.step)⟩
end Go.Proofs.YtffdiakgjakngaaGreat.P


namespace Go.Proofs.YtffdiakgjakngaaGreat.P
open Go.RowKit Go.Proofs.YtffdiakgjakngaaGreatW.PrintWords Go.Proofs.YtffdiakgjakngaaGreatW.PrintLast Go.Proofs.YtffdiakgjakngaaGreatW.PrintMore
open Go.Sort Go.Shelf
set_option linter.unusedVariables false
set_option linter.unusedSimpArgs false
set_option maxHeartbeats 8000000
set_option maxRecDepth 100000
section
def Gz:Go.Shelf.Ren:=⟨fun|6=>49|15=>106|14=>105|28=>162|29=>163|20=>154|21=>155|22=>156|23=>157|24=>158|25=>159|26=>160|27=>161|46=>188|47=>189|48=>190|49=>191|50=>192|57=>205|n=>n,fun|22=>33|24=>26|25=>79|3=>3|39=>133|0=>0|53=>184|55=>186|4=>4|46=>178|45=>177|50=>173|5=>5|9=>9|66=>209|70=>213|76=>222|77=>55|n=>n,fun|n=>n⟩
theorem GA:SlLaysF.n6 Tryz.prog Gz:={
 mixed:=by kernel_rfl,
 f6:=⟨Tryz.f49.name,by decide,Tryz.func49.trans (congrArg some (by kernel_rfl))⟩,
 f14:=⟨Tryz.f105.name,by decide,Tryz.func105.trans (congrArg some (by kernel_rfl))⟩,
 f15:=Tryz.func106.trans (congrArg some (by kernel_rfl)),
 f20:=⟨Tryz.f154.name,by decide,Tryz.func154.trans (congrArg some (by kernel_rfl))⟩,
 f21:=⟨Tryz.f155.name,by decide,Tryz.func155.trans (congrArg some (by kernel_rfl))⟩,
 f22:=⟨Tryz.f156.name,by decide,Tryz.func156.trans (congrArg some (by kernel_rfl))⟩,
 f23:=⟨Tryz.f157.name,by decide,Tryz.func157.trans (congrArg some (by kernel_rfl))⟩,
 f24:=⟨Tryz.f158.name,by decide,Tryz.func158.trans (congrArg some (by kernel_rfl))⟩,
 f25:=⟨Tryz.f159.name,by decide,Tryz.func159.trans (congrArg some (by kernel_rfl))⟩,
 f26:=⟨Tryz.f160.name,by decide,Tryz.func160.trans (congrArg some (by kernel_rfl))⟩,
 f27:=⟨Tryz.f161.name,by decide,Tryz.func161.trans (congrArg some (by kernel_rfl))⟩,
 f28:=Tryz.func162.trans (congrArg some (by kernel_rfl)),
 f29:=Tryz.func163.trans (congrArg some (by kernel_rfl)),
 f46:=⟨Tryz.f188.name,by decide,Tryz.func188.trans (congrArg some (by kernel_rfl))⟩,
 f47:=Tryz.func189.trans (congrArg some (by kernel_rfl)),
 f48:=Tryz.func190.trans (congrArg some (by kernel_rfl)),
 f49:=⟨Tryz.f191.name,by decide,Tryz.func191.trans (congrArg some (by kernel_rfl))⟩,
 f50:=⟨Tryz.f192.name,by decide,Tryz.func192.trans (congrArg some (by kernel_rfl))⟩,
 f57:=⟨Tryz.f205.name,by decide,Tryz.func205.trans (congrArg some (by kernel_rfl))⟩,
 t0:=Tryz.underlying0,
 a0:=Tryz.isAgg0,
 z0:=Tryz.sizeOf0,
 v0:=Tryz.zeroValue0,
 t3:=Tryz.underlying3,
 a3:=Tryz.isAgg3,
 z3:=Tryz.sizeOf3,
 v3:=Tryz.zeroValue3,
 t4:=Tryz.underlying4,
 a4:=Tryz.isAgg4,
 z4:=Tryz.sizeOf4,
 v4:=Tryz.zeroValue4,
 t5:=Tryz.underlying5,
 a5:=Tryz.isAgg5,
 z5:=Tryz.sizeOf5,
 v5:=Tryz.zeroValue5,
 t9:=Tryz.underlying9,
 a9:=Tryz.isAgg9,
 z9:=Tryz.sizeOf9,
 v9:=Tryz.zeroValue9,
 t22:=Tryz.underlying33,
 a22:=Tryz.isAgg33,
 z22:=Tryz.sizeOf33,
 v22:=Tryz.zeroValue33,
 a24:=Tryz.isAgg26,
 z24:=Tryz.sizeOf26,
 t25:=Tryz.underlying79,
 a25:=Tryz.isAgg79,
 z25:=Tryz.sizeOf79,
 v25:=Tryz.zeroValue79,
 t39:=Tryz.underlying133,
 a39:=Tryz.isAgg133,
 z39:=Tryz.sizeOf133,
 v39:=Tryz.zeroValue133,
 t45:=Tryz.underlying177,
 a45:=Tryz.isAgg177,
 z45:=Tryz.sizeOf177,
 v45:=Tryz.zeroValue177,
 t46:=Tryz.underlying178,
 a46:=Tryz.isAgg178,
 z46:=Tryz.sizeOf178,
 v46:=Tryz.zeroValue178,
 t50:=Tryz.underlying173,
 a50:=Tryz.isAgg173,
 z50:=Tryz.sizeOf173,
 v50:=Tryz.zeroValue173,
 t53:=Tryz.underlying184,
 a53:=Tryz.isAgg184,
 z53:=Tryz.sizeOf184,
 v53:=Tryz.zeroValue184,
 t55:=Tryz.underlying186,
 a55:=Tryz.isAgg186,
 z55:=Tryz.sizeOf186,
 v55:=Tryz.zeroValue186,
 t66:=Tryz.underlying209,
 a66:=Tryz.isAgg209,
 z66:=Tryz.sizeOf209,
 v66:=Tryz.zeroValue209,
 t70:=Tryz.underlying213,
 a70:=Tryz.isAgg213,
 z70:=Tryz.sizeOf213,
 v70:=Tryz.zeroValue213,
 t76:=Tryz.underlying222,
 a76:=Tryz.isAgg222,
 z76:=Tryz.sizeOf222,
 v76:=Tryz.zeroValue222,
 t77:=Tryz.underlying55,
 a77:=Tryz.isAgg55,
 z77:=Tryz.sizeOf55,
 v77:=Tryz.zeroValue55}
def xP (G:Nat):Prop:=∀(k:Nat) (A B:Option Addr) (c d:Nat) (a lb:List Int) (r:Int) (W:World),(Kd.int .i64).C W A a.length a->a.length<=c->(Kd.int .i64).C W B lb.length lb->lb.length<=d->dC.f k a lb=some r->
  Calls Tryz.prog G #[.slice A a.length c,.slice B lb.length d] W fun e w'=>e= .returned (.int .i64 r)/\az W w'
theorem GB:xP 183:=fun k A B c d b lb r W a g hb i h=>by
 have H:=zA (dC.calls k A c b B d lb r W a g hb i h);clear h a hb;go_enter Tryz.func183,Tryz.ntmps183
 go_wp2_with (go_at_call 51;refine H.out.mono ?_;rintro e w' ⟨rfl,hd⟩;have j:=zA hd;clear hd)
 go_ret;exact⟨rfl,j.out⟩
section
variable {α:Type} [Inhabited α] {enc:α->Value}
theorem GF {w:World} {g n:Nat} {os:Array Obj} {cur:Array Value} {e:TypeId} {fr:Nat×Nat} (d:Array α) (hb:w.heap[g]? =some (.cells cur e fr)):
  (Go.Sort.grow (putRow enc (Sort.ahead w n) g 0 d) os).heap[g]? =some (.cells (putCells enc 0 d cur) e fr):=by
 have a:g<w.heap.size:=(Array.getElem?_eq_some_iff.1 hb).1;rw[heap_grow_old _ _ (by simpa using a)];simp[putRow,mapBlock,Sort.ahead,Array.getElem?_modify,hb,onCells]
theorem xQ {w:World} {g n:Nat} {os:Array Obj} (d:Array α):w.grownBy (Go.Sort.grow (putRow enc (Sort.ahead w n) g 0 d) os) (some g):=by
 refine⟨rfl,rfl,rfl,by simp,fun k hk a=>?_⟩;rw[heap_grow_old _ _ (by simpa using hk)];have:g≠k:=fun e=>a (by rw[e])
 simp[putRow,mapBlock,Sort.ahead,Array.getElem?_modify,this]
theorem GG (cur:Array Value) (a:List α) (h:a.length<=cur.size):(putCells enc 0 a.toArray cur).toList.take a.length=a.map enc:=by
 apply List.ext_getElem?
 intro j;by_cases b:j<a.length
 ·rw[List.getElem?_take_of_lt b,Array.getElem?_toList]
  simp[putCells,b,show j<cur.size by omega]
 ·rw[List.getElem?_take_eq_none (by omega),List.getElem?_eq_none (by simp;omega)]
end
theorem GH {G:Nat} (HG:xP G) (eg:∀args w,(callFunc G args).run Tryz.prog w= .ok (.enter G args) w) {k m g cap base:Nat} {ok:Nat->Prop} {L:List (List Int)} (a:Fin (m+1)->Fin (m+1)->Int) {W:World} (R:L.length=m+1) (hm:m<4000000)
  (hR:Kd.N (Kd.slice 3 (Kd.int .i64)) 26 W base ok (.slice (some ⟨g,0,none⟩) L.length cap) L) (am:∀i j:Fin (m+1),dC.f k (L.getD i.1 []) (L.getD j.1 [])=some (a i j)) (hO:SWO (Go.Proofs.ltOf a)):
  Calls Tryz.prog 49 #[.slice (some ⟨g,0,none⟩) L.length cap,.func (.func G) #[] #[]] W fun e w'=>e= .returned (.tuple #[])/\∃idx:List (Fin (m+1)),idx.Perm (List.finRange (m+1))/\idx.Pairwise (fun i j=>Go.Proofs.ltOf a j i=false)/\Kd.N (Kd.slice 3 (Kd.int .i64)) 26 w' base ok (.slice (some ⟨g,0,none⟩) L.length cap) (idx.map fun i=>L.getD i.1 [])/\W.grownBy w' (some g):=by
 obtain⟨S,rows,a5,⟨h1,inner,F,H⟩,hf⟩:=hR;have an:=F;obtain⟨T,F⟩:=an;rcases F with⟨I,_⟩|⟨g2,a9,cur,I,ap,z,hn,ar,J,K⟩
 ·cases I
 injection I with r be av
 injection r with r
 injection r with r
 subst r av;have aY:(Kd.raw (Kd.slice 3 (Kd.int .i64)).sz).sz=1:=rfl;rw[aY] at T J K H;rw[Nat.mul_one] at T J K;have U:∀i,i<m+1->rows[i]? =some [inner.getD i undef]:=fun i hi=>by
  have V:rows[i]? =some rows[i]:=bB (by omega);have C:=(H.2 i _ V).1;rw[V,<-C,Nat.mul_one,List.take_one,List.head?_drop,aX,bB (show i<inner.length by omega)];rfl
 have X:∀i,i<m+1->(inner.getD i undef).oneCell'=true:=fun i hi=>by
  have h:=H.2 i _ (U i hi);exact h.2.2 _ (by rw[h.1];simp)
 obtain⟨enc,D⟩:∃enc:Fin (m+1)->Value,enc=fun i=>inner.getD i.1 undef:=⟨_,rfl⟩
 have M:∀i:Fin (m+1),Kd.FK (Kd.slice 3 (Kd.int .i64)) W (fun k=>ok k/\some k≠(Value.slice (some ⟨g,0,none⟩) L.length cap).ownBlock) (L.getD i.1 []) [enc i]:=fun i=>by
  have E:L[i.1]? =some (L.getD i.1 []):=by rw[aX,bB (show i.1<L.length by omega)];rfl
  rw[D];exact hf i.1 _ _ E (U i.1 i.2)
 have hlen:(List.finRange (m+1)).toArray.size=m+1:=by simp
 have Y:∀(l:Nat) (os:Array Obj) (o:Array (Fin (m+1))) (b:Nat),b≠g->b<W.heap.size->(sortWorld enc W g 0 l o os).heap[b]? =W.heap[b]? :=fun l os o b hb s=>by
  unfold sortWorld;exact(xQ (enc:=enc) (w:=W) (g:=g) (n:=l) (os:=os) o).block b s (fun e=>hb (aQ e))
 have aB:CmpReads Tryz.prog G #[] enc a g 0 (List.finRange (m+1)).toArray.size W:=fun l os o bf x y=>by
  obtain⟨A,c,ex,aF,aL⟩:=Kd.lE (M x);obtain⟨B,d,O,aO,aP⟩:=Kd.lE (M y);injection ex with ex
  injection O with O
  rw[ex,O];have Z:∀b,(ok b/\some b≠(Value.slice (some ⟨g,0,none⟩) L.length cap).ownBlock)->b<W.heap.size->(sortWorld enc W g 0 l o os).heap[b]? =W.heap[b]? :=fun b hb s=>Y l os o b (fun e=>hb.2 (by rw[e];rfl)) s
  refine(HG k A B c d _ _ (a x y) _ (Kd.fF (Kd.qA aL Z)) aF (Kd.fF (Kd.qA aP Z)) aO (am x y)).mono ?_;rintro e w' ⟨rfl,hd⟩;exact⟨rfl,hd.out⟩
 have aR:Holds enc W g 0 (List.finRange (m+1)).toArray:=fun j q=>by
  rw[hlen] at q;refine⟨?_,by simp[World.frozen?,z]⟩;have C:(cur.toList.take rows.length)[j]? =inner[j]? :=by rw[K]
  rw[List.getElem?_take_of_lt (by omega),Array.getElem?_toList] at C;simp only[World.cell?,z,Nat.zero_add,Option.isSome_none,Bool.false_eq_true,if_false];rw[C,bB (by omega),D];simp[show j<m+1 from q,show j<inner.length by omega]
 have aa:=Any.slices_SortFunc GA enc (fun i=>by rw[D];exact X i.1 i.2) a hO G #[] g 0 cap (List.finRange (m+1)).toArray W eg aB.lays aR ((Array.getElem?_eq_some_iff.1 z).1) (by rw[hlen];omega);rw[hlen] at aa;rw[R];have aS:Calls Tryz.prog 49 _ _ _:=aa;refine aS.mono ?_;rintro e w' ⟨rfl,d',n,os,hp,hs,rfl⟩;obtain⟨P,_,ab⟩:=hp;rw[hlen] at P;have Q:d'.toList.length=m+1:=by simpa using P
 refine⟨rfl,d'.toList,?_,?_,?_,xQ (enc:=enc) (n:=n) (os:=os) d'⟩
 ·have e1:d'.extract 0 (m+1)=d':=Array.extract_eq_self_of_le (by omega)
  rw[e1,Array.extract_eq_self_of_le (by simp)] at ab;exact ab
 ·refine List.pairwise_iff_getElem.2 fun i j hi q a2=>?_
  have h:=hs i j (Nat.zero_le _) a2 (by omega);rw[getElem!_pos d' i (by omega),getElem!_pos d' j (by omega)] at h;simpa using h
 ·have a3:(Go.Sort.grow (putRow enc (Sort.ahead W n) g 0 d') os).heap[g]? =some (.cells (putCells enc 0 d' cur) 26 (0,0)):=GF d' z
  have a4:(putCells enc 0 d' cur).toList.take (m+1)=d'.toList.map enc:=by
   have h:=GG (enc:=enc) cur d'.toList (by rw[Q];omega);rw[Q] at h;exact h
  refine⟨by rw[R] at S;exact S,d'.toList.map fun i=>[enc i],by simp,⟨fun k hk=>hk.symm,d'.toList.map enc,⟨by rw[aY];simp,.inr ⟨g,cap,_,?_,ap,a3,?_,ar,?_,?_⟩⟩,?_⟩,?_⟩
  ·simp[P]
  ·simp;omega
  ·rw[aY];simp[putCells,J]
  ·rw[aY];simp only[List.length_map,Nat.mul_one,Q];exact a4
  ·refine⟨by rw[aY];simp,fun j p q=>?_⟩
   rw[List.getElem?_map] at q;obtain⟨i,hi,rfl⟩:=Option.map_eq_some_iff.1 q;have bg:=(List.getElem?_eq_some_iff.1 hi).1;have e2:((d'.toList.map enc).drop (j*(Kd.raw (Kd.slice 3 (Kd.int .i64)).sz).sz)).take (Kd.raw (Kd.slice 3 (Kd.int .i64)).sz).sz=[enc i]:=by
    rw[aY,Nat.mul_one,List.take_one,List.head?_drop,List.getElem?_map,hi];rfl
   rw[e2];refine⟨rfl,rfl,fun u hu=>?_⟩;rw[List.mem_singleton.1 hu,D];exact X i.1 i.2
  ·intro j x c E v
   rw[List.getElem?_map] at E v;obtain⟨i,hi,rfl⟩:=Option.map_eq_some_iff.1 E;rw[hi] at v;injection v with v
   subst v;refine Kd.mi (Kd.lD (M i) (fun k hk=>⟨hk.1,hk.2⟩)) (fun b hb s=>Y n os d' b (fun e=>hb.2 (by rw[e];rfl)) s)
end
end Go.Proofs.YtffdiakgjakngaaGreat.P
namespace Go.Proofs.YtffdiakgjakngaaGreat.P
open Go.RowKit Go.Proofs.YtffdiakgjakngaaGreatW.PrintWords Go.Proofs.YtffdiakgjakngaaGreatW.PrintLast Go.Proofs.YtffdiakgjakngaaGreatW.PrintMore
set_option linter.unusedVariables false
set_option linter.unusedSimpArgs false
set_option maxHeartbeats 8000000
set_option maxRecDepth 100000
def dU.l0:Nat->List (List Int)->Int->Int->Int->List (S83)->Option (Int)
 |0,_,_,_,_,_=>none
 |k+1,b,e,a,g,i=>if a<e then(if 0<=a then(if a<(b.length:Int) then((bq.f k (a6 b a) g).bind fun h=>(if h=0 then(dU.l0 k b e (wrap64 (a+1)) g i) else(some h))) else(none)) else(none)) else(some 0)
def dU.f (k:Nat) (b:Int) (e:List (S83)) (l1:List (List Int)):Option (Int):=(cz.f k b e).bind fun a=>(if a.2=0 then(if a.1=true then(dU.l0 k l1 (l1.length:Int) 0 b e) else(some 13)) else(some a.2))
theorem dU.cD:∀k,(∀a b e g i,ai (dU.l0 k a b e g i) (dU.l0 (k+1) a b e g i))
 |0=>fun _ _ _ _ _ r h=>by simp[dU.l0] at h
 |k+1=>by
  have j:=dU.cD k
  ·intro a b e g i
   unfold dU.l0;with_reducible repeat' first|exact j _ _ _ _ _|exact bq.mono _ _ _|exact cz.mono _ _ _|exact ai.refl _|exact ai.none _|refine ai.ite ?_ ?_|refine ai.bind ?_ (fun _=>?_)
theorem dU.mono:∀a0 a a2 k,ai (dU.f k a0 a a2) (dU.f (k+1) a0 a a2):=by
 intro a0 a a2 k;have b:=dU.cD k;unfold dU.f;with_reducible repeat' first|exact b _ _ _ _ _|exact bq.mono _ _ _|exact cz.mono _ _ _|exact ai.refl _|exact ai.none _|refine ai.ite ?_ ?_|refine ai.bind ?_ (fun _=>?_)
theorem dU.calls (k:Nat) (b:Int) (m:Option Addr) (n:Nat) (i:List (S83)) (U:Option Addr) (c1:Nat) (l1:List (List Int)) (r:Int) (w:World) (V:Kd.C aN w m i.length i) (W:i.length<=n) (X:Kd.C (Kd.slice 3 (Kd.int .i64)) w U l1.length l1) (Y:l1.length<=c1) (h:dU.f k b i l1=some r):
  Calls Tryz.prog 75 #[.agg #[.int .i64 b,.slice m i.length n],.slice U l1.length c1] w fun e w'=>e= .returned (.int .i64 r)/\Below w.heap.size w w':=by
 have a0:=Tryz.underlying24;have G:=zA V;have I:=zA W;clear V W;have Z:=zA X;have a1:=zA Y;clear X Y;have a:=zA (aq w.heap.size w);unfold dU.f at h;have H:=h;clear h;obtain⟨⟨aa,z⟩,J,H⟩:=zo H;dsimp only at H;by_cases c4:z=0
 ·rw[if_pos c4] at H
  obtain⟨ab,ad⟩:=bT c4;clear c4;by_cases B:aa=true
  ·subst B
   replace H:=zi H;have D:=zA H;clear H;go_enter Tryz.func75,Tryz.ntmps75
   go_wp2_with (first|((with_reducible refine aU (N:=2) rfl ?_);refine zX 2 #[.int .i64 b,.slice m i.length n] 24 ?_;intro K l w6 o hb;have j:=zA (o);have ag:=zG a l;have ak:=zG a l;replace a:=zS a hb;clear hb o l;obtain⟨ar,av,aB,aF⟩:=aA j)|((with_reducible refine aJ (f:=113) rfl ?_);refine zL (some 12) Tryz.func113 #[.agg #[.int .i64 b,.slice m i.length n]] ?_;(with_reducible refine(cz.calls k b _ _ i true z _ ?al ?aj J.out).mono ?_);(case al=>exact Kd.ax G.out zB);(case aj=>exact I.out);rintro e w8 ⟨rfl,hb⟩;refine⟨_,rfl,?_⟩;replace j:=zb j hb;replace a:=zS a hb;(try clear hb)))
   go_loopg [22] k (fun kq v22 w'=>∃(g:Int),v22= .int .i64 g/\Aside0 (dU.l0 kq l1 (l1.length:Int) g b i=some r)/\Aside0 (kq<=k)/\Aside0 (w'.heap[K]? =some (.cells #[.int .i64 b,(.slice m i.length n)] 24 (0,0)))/\Aside0 (Below w.heap.size w w'))
   case atStart=>exact⟨(0),zT,D,⟨aI _⟩,⟨zK j⟩,⟨zB⟩⟩
   case round=>
    clear D;clear ab ad ar av aB aF;obtain⟨g,rfl,L,an,j,a⟩:=hrel;cases gk with
    |zero=>exact absurd L.out (by simp[dU.l0])
    |succ M=>
     have H:=L.out;clear L;simp only[dU.l0] at H;by_cases u:g<(l1.length:Int)
     ·rw[if_pos u] at H
      have aL:=ay u;clear u;by_cases E:0<=g
      ·rw[if_pos E] at H
       have a4:=ay E;clear E;by_cases F:g<(l1.length:Int)
       ·rw[if_pos F] at H
        have a5:=ay F;clear F;obtain⟨O,ap,H⟩:=zo H;by_cases v:O=0
        ·rw[if_pos v] at H
         obtain⟨aO,aP⟩:=bT v;clear v;have D:=zA H;clear H;have p:0<=(g:Int):=aw ‹_›;have q:g<(l1.length:Int):=aw ‹_›;obtain⟨aR,P,Q,R,s,x,y⟩:=gQ Z.out g p q;cases R;replace s:=(a.out.cell (bu w _ s)).trans s;have S:=zA y;have T:=zA x;clear y x;replace p:=eq_true p;replace q:=eq_true q;obtain⟨a9,be,bf,bg⟩:=aA j;go_wp2_with (first|((with_reducible refine aJ (f:=87) rfl ?_);refine zL (some 29) Tryz.func87 #[.slice P (a6 l1 g).length Q,.int .i64 b] ?_;(with_reducible refine(bq.calls M _ _ (a6 l1 g) b O _ ?al ?aj ap.out).mono ?_);(case al=>exact Kd.ax S.out zB);(case aj=>exact T.out);rintro e w' ⟨rfl,⟨nd,rfl⟩⟩;refine⟨_,rfl,?_⟩))
         go_roundg M
         case measure=>have:=an.out;omega
         case rel=>exact⟨(wrap64 (g+1)),zT,D,⟨by have:=an.out;omega⟩,⟨zK j⟩,⟨zB⟩⟩
        ·rw[if_neg v] at H
         obtain⟨aO,aP⟩:=bU v;obtain rfl:=aQ H;have p:0<=(g:Int):=aw ‹_›;have q:g<(l1.length:Int):=aw ‹_›;obtain⟨aR,P,Q,R,s,x,y⟩:=gQ Z.out g p q;cases R;replace s:=(a.out.cell (bu w _ s)).trans s;have S:=zA y;have T:=zA x;clear y x;replace p:=eq_true p;replace q:=eq_true q;obtain⟨bi,bk,bn,bo⟩:=aA j;go_wp2_with (first|((with_reducible refine aJ (f:=87) rfl ?_);refine zL (some 29) Tryz.func87 #[.slice P (a6 l1 g).length Q,.int .i64 b] ?_;(with_reducible refine(bq.calls M _ _ (a6 l1 g) b O _ ?al ?aj ap.out).mono ?_);(case al=>exact Kd.ax S.out zB);(case aj=>exact T.out);rintro e w' ⟨rfl,⟨nd,rfl⟩⟩;refine⟨_,rfl,?_⟩))
         go_ret;exact⟨zE,zB⟩
       ·rw[if_neg F] at H
        exact absurd H (by simp)
      ·rw[if_neg E] at H
       exact absurd H (by simp)
     ·rw[if_neg u] at H
      have aL:=aZ u;clear u;obtain rfl:=aQ H;go_wp2;go_ret;exact⟨zE,zB⟩
  ·replace B:=Bool.eq_false_iff.mpr B
   subst B;replace H:=zj H;obtain rfl:=aQ H;go_enter Tryz.func75,Tryz.ntmps75
   go_wp2_with (first|((with_reducible refine aU (N:=2) rfl ?_);refine zX 2 #[.int .i64 b,.slice m i.length n] 24 ?_;intro K l bv o hb;have j:=zA (o);have ag:=zG a l;have ak:=zG a l;replace a:=zS a hb;clear hb o l;obtain⟨bw,bx,b0,b1⟩:=aA j)|((with_reducible refine aJ (f:=113) rfl ?_);refine zL (some 12) Tryz.func113 #[.agg #[.int .i64 b,.slice m i.length n]] ?_;(with_reducible refine(cz.calls k b _ _ i false z _ ?al ?aj J.out).mono ?_);(case al=>exact Kd.ax G.out zB);(case aj=>exact I.out);rintro e b2 ⟨rfl,hb⟩;refine⟨_,rfl,?_⟩;replace j:=zb j hb;replace a:=zS a hb;(try clear hb)))
   go_ret;exact⟨zE,zB⟩
 ·rw[if_neg c4] at H
  obtain⟨ab,ad⟩:=bU c4;obtain rfl:=aQ H;go_enter Tryz.func75,Tryz.ntmps75
  go_wp2_with (first|((with_reducible refine aU (N:=2) rfl ?_);refine zX 2 #[.int .i64 b,.slice m i.length n] 24 ?_;intro K l b3 o hb;have j:=zA (o);have ag:=zG a l;have ak:=zG a l;replace a:=zS a hb;clear hb o l;obtain⟨b4,b5,b6,b_⟩:=aA j)|((with_reducible refine aJ (f:=113) rfl ?_);refine zL (some 12) Tryz.func113 #[.agg #[.int .i64 b,.slice m i.length n]] ?_;(with_reducible refine(cz.calls k b _ _ i aa z _ ?al ?aj J.out).mono ?_);(case al=>exact Kd.ax G.out zB);(case aj=>exact I.out);rintro e b' ⟨rfl,hb⟩;refine⟨_,rfl,?_⟩;replace j:=zb j hb;replace a:=zS a hb;(try clear hb)))
  go_ret;exact⟨zE,zB⟩
section
attribute [local go_sem] Oper.semAt_some
theorem xR {α:Type} {d:Kd α} {W:World} {e base:Nat} {ok:Nat->Prop} {v:Value} {xs:List α} (h:d.R e W base ok v xs) (hp:0<xs.length):∃g c,v= .slice (some ⟨g,0,none⟩) xs.length c:=by
 obtain⟨A,c,rfl⟩:=Kd.bh h;obtain⟨ad,he,_⟩:=(Kd.aH h).2.2.2.2 hp;subst he;obtain⟨g,rfl⟩:=Kd.mg h;exact⟨g,c,rfl⟩
theorem GI {W W1:World} {q:Nat} {r:Option Nat} (h:(W.drewN q).grownBy W1 r):W.grownBy W1 r:=⟨h.os,h.tape,h.output,h.size,h.block⟩
theorem GJ (k n m:Nat) (A0:Option Addr) (c0:Nat) (E:List S83) (bb:Int) (C:List (List Int)) (cf:Fin (m+1)->Fin (m+1)->Int) (w:World) (bv:Kd.C aN w A0 E.length E) (bw:E.length<=c0) (hn:2<=n) (d3:n<=12) (gc: -1048576<=bb) (gd:bb<=1048576)
  (b_:dU.f k n E []=some 0) (b':eP.f k n E 0=some (C,0)) (ca:∀c∈C,c.length=n) (cb:C.length=m+1) (d4:C.length<=16384) (cc:∀c∈C,bq.f k (c_ bb c) n=some 0)
  (cd:∀i j:Fin (m+1),dC.f k ((C.map (c_ bb)).getD i.1 []) ((C.map (c_ bb)).getD j.1 [])=some (cf i j)) (hO:Go.Sort.SWO (ltOf cf)):
  Calls Tryz.prog 136 #[.agg #[.int .i64 n,.slice A0 E.length c0],.int .i64 bb] w fun e w'=>∃v,∃idx:List (Fin (m+1)),e= .returned (.tuple #[v,.int .i64 0])/\idx.Perm (List.finRange (m+1))/\idx.Pairwise (fun i j=>ltOf cf j i=false)/\Kd.N (Kd.slice 3 (Kd.int .i64)) 26 w' w.heap.size (fun k_=>w.heap.size<=k_) v (idx.map fun i=>(C.map (c_ bb)).getD i.1 [])/\Below w.heap.size w w':=by
 have hu:=Tryz.underlying24;have Hg:=zA b_;have Ha:=zA b';have d7:=zA ca;have d8:=zA cc;have d9:=zA cd;have ea:=zA hO;have ge:¬bb< -1048576:=by omega
 have gg:¬1048576<bb:=by omega
 have H:=zA (nC w (.cells #[.int .i64 n,.slice A0 E.length c0] 24) (.cells #[.slice none 0 0] 33) (.cells #[.int .i64 0] 30));have eb:(((w.alloc (.cells #[.int .i64 n,.slice A0 E.length c0] 24)).alloc (.cells #[.slice none 0 0] 33)).alloc (.cells #[.int .i64 0] 30)).cell? ⟨w.heap.size,0,none⟩=some (.int .i64 n):=(ah H.out.1 0).trans rfl;have ed:(((w.alloc (.cells #[.int .i64 n,.slice A0 E.length c0] 24)).alloc (.cells #[.slice none 0 0] 33)).alloc (.cells #[.int .i64 0] 30)).cell? ⟨w.heap.size,1,none⟩=some (.slice A0 E.length c0):=(ah H.out.1 1).trans rfl;have ce:=zA cb;clear b_ b' ca cc cd hO cb;refine(callsIn_wide (n:=10)).1 ?_;refine callsIn_of_wp_marks Tryz.func136 rfl trivial ?_ rfl;simp only[Tryz.ntmps136,List.size_toArray,List.length_cons,List.length_nil,Nat.reduceAdd,Nat.reduceSub,Array.replicate_succ,Array.replicate_zero,List.push_toArray,List.append_toArray,List.nil_append,List.cons_append];gi_wp2_with (first|(refine⟨trivial,?_⟩;gi_at_call 75;refine(callsIn_wide.2 (dU.calls k n A0 c0 E none 0 [] 0 _ (Kd.bz (Kd.bz (Kd.bz bv _) _) _) bw (Kd.oA _ _) (Nat.zero_le _) Hg.out)).mono ?_;rintro e w1 ⟨rfl,hb⟩;have HB:=zA ((ao (ao (ao (aq w.heap.size w) _) _) _).trans (hb.mono (by simp;omega)));have X0:=zA (aD H.out.1 hb);have z:=zA (aD H.out.2.1 hb);have X2:=zA (aD H.out.2.2 hb);have y0:w1.cell? ⟨w.heap.size,0,none⟩=some (.int .i64 n):=(ah X0.out 0).trans rfl;have y1:w1.cell? ⟨w.heap.size,1,none⟩=some (.slice A0 E.length c0):=(ah X0.out 1).trans rfl;clear hb)|(refine⟨trivial,?_⟩;gi_at_call 114;refine(callsIn_wide.2 (eP.calls k n A0 c0 E 0 C 0 _ (Kd.ax bv HB.out) bw Ha.out)).mono ?_;rintro e w2 ⟨v,rfl,I,J⟩;obtain⟨V,cl,rfl, -⟩:=Kd.kG I;have HN:=zA (Kd.nc I);have ch:=zA (aW HB.out J);have Z0:=zA (aD X0.out J);have Z1:=zA (aD z.out J);have Z2:=zA (aD X2.out J);have el:=zA J.size;clear I J)|(refine⟨trivial,?_⟩;gi_at_call 182;refine(callsIn_wide.2 (Dc _ _ _ _ _)).mono ?_;rintro e w3 ⟨rfl,rfl⟩))
 have em:w.heap.size+1+1<w2.heap.size:=aC Z2.out;have ck:w1.heap.size<=w2.heap.size:=el.out;have er:=HB.out.size;obtain⟨L,cn⟩:∃o:Obj,o= .cells #[.slice V C.length cl] 33:=⟨_,rfl⟩;obtain⟨M,co⟩:∃o:Obj,o= .cells #[.int .i64 bb] 3:=⟨_,rfl⟩;obtain⟨O,cp⟩:∃o:Obj,o= .cells #[.slice none 0 0] 33:=⟨_,rfl⟩;obtain⟨V0,V1,V2⟩:=nC w2 O L M;have am:=zA (V0.trans (by rw[cp]:_=some (.cells #[.slice none 0 0] 33 (0,0))));have aP:=zA (V1.trans (by rw[cn]:_=some (.cells #[.slice V C.length cl] 33 (0,0))));have aR:=zA (V2.trans (by rw[co]:_=some (.cells #[.int .i64 bb] 3 (0,0))));have aS:=zA (ao (ao (ao ch.out O) L) M);have c2:=zA (au (au (au Z0.out O) L) M);have c3:=zA (au (au (au Z1.out O) L) M);have c4:=zA (au (au (au Z2.out O) L) M);have an:=zA (Kd.e8 (Kd.e8 (Kd.e8 (Kd.eE HN.out (ok':=fun k=>w1.heap.size<=k/\k<w2.heap.size) (fun k hk=>hk)) O) L) M);clear V0 V1 V2;subst cn co cp;clear y0 y1 eb ed X0 z X2 Z0 Z1 Z2 HB ch H HN;have a0:(((w2.alloc (.cells #[.slice none 0 0] 33)).alloc (.cells #[.slice V C.length cl] 33)).alloc (.cells #[.int .i64 bb] 3)).heap.size=w2.heap.size+3:=by simp
 generalize ((w2.alloc (.cells #[.slice none 0 0] 33)).alloc (.cells #[.slice V C.length cl] 33)).alloc (.cells #[.int .i64 bb] 3)=b at am aP aR aS c2 c3 c4 an a0⊢;have es:=zA a0;have ev:w2.heap.size<b.heap.size:=by omega
 have ew:w2.heap.size+1<b.heap.size:=by omega
 have ex:w2.heap.size+1+1<b.heap.size:=by omega
 clear a0;generalize ey:w2.heap.size+1+1=qx at aR ex⊢;generalize e0:w2.heap.size+1=gx at aP ew ey⊢;generalize w2.heap.size=bo at am es em ck ev e0 an⊢;generalize w1.heap.size=b0 at an ck er⊢;have gi:=aS.out.size;refine iU (σ:=Unit) (α:=List Int×Value) (F:=Fence.wide) (n:=10) rfl (by decide) (gf:=202) (lb:=#[.pointer (some ⟨gx,0,none⟩),.pointer (some ⟨qx,0,none⟩)]) rfl trivial (enters_of Tryz.func202 (by kernel_rfl) rfl)
  (fun o=>Dj gx qx b0 bo n V cl _ C bb _ (by omega) (by omega) hn d3 d7.out d4 (Kd.e8 (Kd.e8 an.out _) _) (au (au aP.out _) _) (au (au aR.out _) _)) (fun _=>rfl)
  (fun _=>True) ?eL ?st ?ar
  (fun _ pre W=>b.heap.size+2<=W.heap.size/\(∃v,W.heap[bo]? =some (.cells #[v] 33 (0,0))/\(Kd.slice 3 (Kd.int .i64)).R 26 W w.heap.size (fun k=>b.heap.size+2<=k) v (pre.map Prod.fst))/\W.heap[w.heap.size+1]? =some (.cells #[.slice none 0 0] 33 (0,0))/\W.heap[w.heap.size+1+1]? =some (.cells #[.int .i64 0] 30 (0,0))/\W.heap[w.heap.size]? =some (.cells #[.int .i64 n,.slice A0 E.length c0] 24 (0,0))/\Below w.heap.size w W) (fun _ _ _ _=>False)
  ?is (fun _ _ _ _ _ _ h _=>h) ?ib (fun _ _ _ _ _ h _=>h) ?kt ?h0 ?a1 ?assign ?body ?done (fun _ _ _ _ _ _ _ h=>h.elim)
 case assign=>
  intro l x W K hK;gi_wp2;exact hK
 case eL=>
  intro o s W1 h;exact⟨trivial,by rw[h];exact cB.refl _ _⟩
 case st=>intro s A B _ h;exact di h
 case ar=>intro s x A B _ h;exact di h.2.2
 case is=>
  rintro s pre A B _ ⟨X,⟨v,h1,h4⟩,h2,h3,h6,h5⟩ G;exact⟨Nat.le_trans X G.size,⟨v,aD h1 G,Kd.cY h4 G⟩,aD h2 G,aD h3 G,aD h6 G,aW h5 G⟩
 case ib=>
  rintro s pre A B ⟨X,⟨v,h1,h4⟩,h2,h3,h6,h5⟩ hb;exact⟨by rw[hb.size];exact X,⟨v,hb.cells h1,dD h4 hb⟩,hb.cells h2,hb.cells h3,hb.cells h6,h5.trans (hb.below w.heap.size (by omega))⟩
 case kt=>
  intro s A B C' D c5 e5 e6 k hk ap;have c6:k≠b.heap.size+1:=by rcases hk with hk|rfl|rfl<;>omega
  exact(e6.heap k c6).trans ((e5 k hk (by rw[c5.size];exact ap)).trans (c5.heap k c6))
 case h0=>
  rintro o s W1 rfl;exact⟨by simp,⟨_,au (au am.out _) _,Kd.dm _ _ _ _ _⟩,au (au c3.out _) _,au (au c4.out _) _,au (au c2.out _) _,ao (ao aS.out _) _⟩
 case body=>
  rintro l s pre ⟨xl,xv⟩ Y W1 W _ ⟨X,⟨v,i1,i4⟩,i2,i3,i6,i5⟩ ⟨⟨c,c7,bf⟩,P,y⟩ av a;simp only at P bf;obtain⟨Ax,cx,rfl⟩:=Kd.bh P;have gn:Y.heap.size<=W.heap.size:=by have:=a.size;have:=y.size;omega
  have g:=zA (a.cells (aD i1 y));have Q:=zA (a.cells (aD i2 y));have b3:=zA (a.cells (aD i3 y));have b6:=zA (a.cells (aD i6 y));have b4:=zA (dD (Kd.cY i4 y) a);have Z:=zA ((aW i5 y).trans (a.below w.heap.size (by omega)));have bx:=zA ((Kd.bd (Kd.a_ (ok':=fun k=>Y.heap.size<=k) (Kd.ef (dD P a)) (fun k hk=>hk.2.1)) i5.size));have c':∀k,v.ownBlock=some k->k<Y.heap.size:=fun k hk=>Kd.ba i4 k hk
  have dd:=zA c';have e':=zA (Kd.gN i4);have fb:=zA (fun W2 hC=>bq.calls k Ax cx xl n 0 W2 hC (Kd.aH P).2.1 (by rw[bf];exact d8.out c c7));have fd:=zA (Kd.aH (dD P a)).2.2;have go:pre.length<16384:=by have:pre.length<C.length:=av;omega
  clear i1 i2 i3 i4 i5 i6 y P a c' av bf c7;obtain⟨Ar,cr,rfl⟩:=Kd.bh b4.out;have dk:(pre.map Prod.fst).length=pre.length:=by simp
  rw[dk] at g b4 dd e';have gp:W.cell? ⟨w.heap.size,0,none⟩=some (.int .i64 n):=(ah b6.out 0).trans rfl;have LN:Aside0 (((pre.map Prod.fst).length+1)*24<=140737488355328):=⟨by rw[dk];omega⟩;have fo:Aside0 (∀k,Y.heap.size<=k->(b.heap.size+2<=k)/\some k≠(Value.slice Ar pre.length cr).ownBlock):=⟨fun k hk=>⟨by omega,fun e=>by have:=dd.out k e.symm;omega⟩⟩;have fq:Aside0 (∀k,W.heap.size<=k->b.heap.size+2<=k):=⟨fun k hk=>by omega⟩;gi_wp2_with (first|(refine⟨trivial,?_⟩;gi_at_call 87;refine(callsIn_wide.2 (fb.out _ fd.out)).mono ?_;rintro e w4 ⟨rfl,⟨q,rfl⟩⟩;have gr:(W.drewN q).cell? ⟨bo,0,none⟩=some (.slice Ar pre.length cr):=dM (iB g.out q);have gt:(W.drewN q).frozen? ⟨bo,0,none⟩=false:=bF (iB g.out q) 0)|(gi_at_builtin;go_loud (refine o6 (Kd.slice 3 (Kd.int .i64)) (w0:=w) w.heap.size rfl (.tmp 39) (.tmp 41) 33 26 (.slice none 0 0) 24 rfl Tryz.underlying33 qP rfl (by decide) (by omega) (.slice Ar pre.length cr) (pre.map Prod.fst) xl [.slice Ax xl.length cx] (fun k=>b.heap.size+2<=k) (fun k=>Y.heap.size<=k) rfl rfl (Kd.lu (Kd.bs bx.out _)) fo.out fq.out (Kd.bs b4.out _) (bN Z.out _) Z.out.size LN.out ?_;intro v1 g0 bi hb S fr;obtain⟨A1,c1,rfl⟩:=Kd.bh bi;have ft:=zA bi;have fv:=zA hb;have T:=zA S;have z:=zA ((S.block bo (aC g.out) (Kd.dr b4.out g.out (by decide))).trans g.out);have g1:=dM z.out;have g2:=bF z.out 0;clear bi hb S fr)))
  have X2:=zA ((T.out.block _ (aC Q.out) (Kd.dr b4.out Q.out (by decide))).trans Q.out);have X3:=zA ((T.out.block _ (aC b3.out) (Kd.dr b4.out b3.out (by decide))).trans b3.out);have X6:=zA ((T.out.block _ (aC b6.out) (Kd.dr b4.out b6.out (by decide))).trans b6.out);have f2:=zA (GI T.out);refine⟨(o7 b4.out f2.out).trans (fI _ _ (aC am.out)),fun k hk ap=>?_,by have:=T.out.size;simp at this⊢;omega,⟨.slice A1 (pre.length+1) c1,by simpa using bV z.out 0 (.slice A1 (pre.length+1) c1),?_⟩,aE X2.out (by show w.heap.size+1≠bo;omega) _,aE X3.out (by show w.heap.size+1+1≠bo;omega) _,aE X6.out (by show w.heap.size≠bo;omega) _,dL fv.out (by show w.heap.size<=bo;omega)⟩
  ·have f3:k≠bo:=by rcases hk with hk|rfl|rfl<;>omega
   rw[Below.heap_setCell _ _ _ _ f3];exact T.out.block k ap (fun e=>by have h:=b4.out.1 k e.symm;rcases hk with hk|rfl|rfl<;>omega)
  ·have h:=Kd.fl ft.out z.out (by decide) 0 (.slice A1 (pre.length+1) c1)
   simpa using h
 case done=>
  rintro s xs W W' _ dl ⟨X,⟨v,i1,i4⟩,i2,i3,i6,i5⟩ a ds;have dv:xs.map Prod.fst=C.map (c_ bb):=dl;rw[dv] at i4;have aF:(C.map (c_ bb)).length=m+1:=by rw[List.length_map];exact ce.out
  have b4:=dD i4 a;obtain⟨gs,r,rfl⟩:=xR b4 (by omega);have g3:b.heap.size+2<=gs:=b4.1 gs rfl;have g4:=Kd.ba b4 gs rfl;have g:=zA (a.cells i1);have Q:=zA (a.cells i2);have b3:=zA (a.cells i3);have Z:=zA (i5.trans (a.below w.heap.size (by omega)));have dx:=zA ds;have d0:=zA (GH GB (enters_of Tryz.func183 (by kernel_rfl) rfl) cf aF (by have:=ce.out;omega) (Kd.jP b4) d9.out ea.out);clear i1 i2 i3 i4 i5 i6 ds dl dv a b4;rw[aF] at g d0;have g5:=zA aF;clear aF;have hc:=dM g.out;gi_wp2_with (refine⟨trivial,?_⟩;gi_at_call 49;(with_reducible refine(callsIn_wide.2 d0.out).mono ?_);rintro e U ⟨rfl,idx,hp,d1,I,S⟩;have HP:=zA hp;have f5:=zA d1;have f6:=zA I;have aa:=zA S;clear hp d1 I S;have c1:=dM ((aa.out.block bo (aC g.out) (fun e=>by injection e;omega)).trans g.out);have e2:=zA ((aa.out.block _ (aC Q.out) (fun e=>by injection e;omega)).trans Q.out);have e3:=zA ((aa.out.block _ (aC b3.out) (fun e=>by injection e;omega)).trans b3.out);have q1:U.cell? ⟨w.heap.size+1,0,none⟩=some (.slice none 0 0):=(ah e2.out 0).trans rfl;have q2:U.frozen? ⟨w.heap.size+1,0,none⟩=false:=bF e2.out 0;have Y3:=zA (aE (p:=⟨w.heap.size+1,0,none⟩) e3.out (by show w.heap.size+1+1≠w.heap.size+1;omega) (.slice (some ⟨gs,0,none⟩) (m+1) r));have q3:(U.setCell ⟨w.heap.size+1,0,none⟩ (.slice (some ⟨gs,0,none⟩) (m+1) r)).cell? ⟨w.heap.size+1+1,0,none⟩=some (.int .i64 0):=(ah Y3.out 0).trans rfl;have q4:=bF Y3.out 0)
  have Y1:=zA (aE (p:=⟨w.heap.size+1+1,0,none⟩) (bV e2.out 0 (.slice (some ⟨gs,0,none⟩) (m+1) r)) (by show w.heap.size+1≠w.heap.size+1+1;omega) (.int .i64 0));have Y2:=zA (bV Y3.out 0 (.int .i64 0));have av:w.heap.size+1≠b.heap.size:=by omega
  have f':w.heap.size+1+1≠b.heap.size:=by omega
  have Y4:=zA (show ((U.setCell ⟨w.heap.size+1,0,none⟩ (.slice (some ⟨gs,0,none⟩) (m+1) r)).setCell ⟨w.heap.size+1+1,0,none⟩ (.int .i64 0)).heap[b.heap.size]? =some (.deferred (some [])) from by rw[Below.heap_setCell _ _ _ _ (fun e=>f' e.symm),Below.heap_setCell _ _ _ _ (fun e=>av e.symm)];exact(aa.out.block _ (aC dx.out) (fun e=>by injection e;omega)).trans dx.out);have Y5:=zA (Kd.tW (p:=⟨w.heap.size+1+1,0,none⟩) (Kd.tW (p:=⟨w.heap.size+1,0,none⟩) f6.out (fun k hk=>by show k≠w.heap.size+1;omega) (.slice (some ⟨gs,0,none⟩) (m+1) r)) (fun k hk=>by show k≠w.heap.size+1+1;omega) (.int .i64 0));have Y6:=zA (((kx Z.out _ Z.out.size aa.out (fun k e=>by injection e;omega)).setCell (p:=⟨w.heap.size+1,0,none⟩) (by show w.heap.size<=w.heap.size+1;omega) (.slice (some ⟨gs,0,none⟩) (m+1) r)).setCell (p:=⟨w.heap.size+1+1,0,none⟩) (by show w.heap.size<=w.heap.size+1+1;omega) (.int .i64 0));have aL:Bk b.heap.size ((U.setCell ⟨w.heap.size+1,0,none⟩ (.slice (some ⟨gs,0,none⟩) (m+1) r)).setCell ⟨w.heap.size+1+1,0,none⟩ (.int .i64 0)) (((U.setCell ⟨w.heap.size+1,0,none⟩ (.slice (some ⟨gs,0,none⟩) (m+1) r)).setCell ⟨w.heap.size+1+1,0,none⟩ (.int .i64 0)).putObj b.heap.size (.deferred none)):=⟨_,_,Y4.out,rfl,rfl⟩;refine jx (D:=b.heap.size) rfl Y4.out (ru (p:=4) (u:=5) rfl _ _ ⟨w.heap.size+1,0,none⟩ ⟨w.heap.size+1+1,0,none⟩ (.slice (some ⟨gs,0,none⟩) (m+1) r) (.int .i64 0) rfl rfl Tryz.underlying33 Tryz.underlying30 rfl rfl ((ah (aL.cells Y1.out) 0).trans (by simp)) ((ah (aL.cells Y2.out) 0).trans (by simp))) ⟨_,idx,rfl,HP.out,f5.out,?_,Y6.out.trans (aL.below w.heap.size (by omega))⟩;exact Kd.eE (Kd.mj Y5.out (fun k hk ap=>aL.heap k (by omega))) (fun k hk=>by omega)
end
section
attribute [local go_sem] Oper.semAt_some
def ll (pre:List (Int×Int)):Int:=pre.foldl (fun s x=>wrap64 (s+x.2)) 0
theorem GK (pre:List (Int×Int)) (x:Int×Int):ll (pre++[x])=wrap64 (ll pre+x.2):=by simp[ll,List.foldl_append]
theorem GL (k n d:Nat) (A0:Option Addr) (c0:Nat) (E:List S83) (L:List Int) (w:World) (S:Kd.C aN w A0 E.length E) (T:E.length<=c0) (aO:1<=n) (hn:n<=1000) (I:∀u:Nat,u<n->∃e,db.f k n E (u:Nat)=some (rd L u,e)) (hd:ll (gS L n)=d) (aP:d<=100000):
  Calls Tryz.prog 135 #[.agg #[.int .i64 n,.slice A0 E.length c0]] w fun e w'=>e= .returned (.int .i64 (((d/2:Nat):Int)-n+1))/\Below w.heap.size w w':=by
 have hu:=Tryz.underlying24;have U:=zA I;have V:=zA hd;have aR:(0:Int)<=(n:Int):=by omega
 clear I hd;refine(callsIn_wide (n:=10)).1 ?_;refine callsIn_of_wp_marks Tryz.func135 rfl trivial ?_ rfl;simp only[Tryz.ntmps135,List.size_toArray,List.length_cons,List.length_nil,Nat.reduceAdd,Nat.reduceSub,Array.replicate_succ,Array.replicate_zero,List.push_toArray,List.append_toArray,List.nil_append,List.cons_append];gi_wp2_with (first|(refine⟨trivial,?_⟩;gi_at_call 143;refine(callsIn_wide.2 (vf n _ _)).mono ?_;rintro e w3 ⟨rfl,rfl⟩))
 have q:=zA (a7 ((w.alloc (.cells #[.int .i64 n,.slice A0 E.length c0] 24)).alloc (.cells #[.int .i64 0] 3)) (.cells #[.int .i64 n,.slice A0 E.length c0] 24));have r:=zA (au (a7 (w.alloc (.cells #[.int .i64 n,.slice A0 E.length c0] 24)) (.cells #[.int .i64 0] 3)) (.cells #[.int .i64 n,.slice A0 E.length c0] 24));have J:=zA (au (au (a7 w (.cells #[.int .i64 n,.slice A0 E.length c0] 24)) (.cells #[.int .i64 0] 3)) (.cells #[.int .i64 n,.slice A0 E.length c0] 24));have y:=zA (ao (ao (ao (aq w.heap.size w) (.cells #[.int .i64 n,.slice A0 E.length c0] 24)) (.cells #[.int .i64 0] 3)) (.cells #[.int .i64 n,.slice A0 E.length c0] 24));simp only[World.size_alloc] at q r;have X:=Nat.le_of_eq (show (((w.alloc (.cells #[.int .i64 n,.slice A0 E.length c0] 24)).alloc (.cells #[.int .i64 0] 3)).alloc (.cells #[.int .i64 n,.slice A0 E.length c0] 24)).heap.size=w.heap.size+3 by simp);have Y:=Nat.le_of_eq (show w.heap.size+3=(((w.alloc (.cells #[.int .i64 n,.slice A0 E.length c0] 24)).alloc (.cells #[.int .i64 0] 3)).alloc (.cells #[.int .i64 n,.slice A0 E.length c0] 24)).heap.size by simp);generalize ((w.alloc (.cells #[.int .i64 n,.slice A0 E.length c0] 24)).alloc (.cells #[.int .i64 0] 3)).alloc (.cells #[.int .i64 n,.slice A0 E.length c0] 24)=b at q r J y X Y⊢;refine iU (σ:=Unit) (α:=Int×Int) (F:=Fence.wide) (n:=10) rfl (by decide) (gf:=185) (lb:=#[.pointer (some ⟨w.heap.size+1+1,0,none⟩)]) rfl trivial (enters_of Tryz.func185 (by kernel_rfl) rfl)
  (fun o=>vj (w.heap.size+1+1) k n A0 c0 E L w _ S T hn U.out (ao (ao y.out _) _) (au (au q.out _) _)) (fun _=>rfl)
  (fun _=>True) ?eL ?st ?ar
  (fun _ pre W=>b.heap.size<=W.heap.size/\W.heap[w.heap.size+1]? =some (.cells #[.int .i64 (ll pre)] 3 (0,0))/\W.heap[w.heap.size]? =some (.cells #[.int .i64 n,.slice A0 E.length c0] 24 (0,0))/\Below w.heap.size w W) (fun _ _ _ _=>False)
  ?is (fun _ _ _ _ _ _ h _=>h) ?ib (fun _ _ _ _ _ h _=>h) ?kt ?h0 ?a1 ?assign ?body ?done (fun _ _ _ _ _ _ _ h=>h.elim)
 case assign=>
  intro l x W K Z;gi_wp2;exact Z
 case eL=>
  intro o s W1 h;exact⟨trivial,by rw[h];exact cB.refl _ _⟩
 case st=>intro s A B _ h;exact di h
 case ar=>intro s x A B _ h;exact di h.2
 case is=>
  rintro s pre A B _ ⟨g,h1,z,G⟩ j;exact⟨Nat.le_trans g j.size,aD h1 j,aD z j,aW G j⟩
 case ib=>
  rintro s pre A B ⟨g,h1,z,G⟩ hb;exact⟨by rw[hb.size];exact g,hb.cells h1,hb.cells z,G.trans (hb.below w.heap.size (by omega))⟩
 case kt=>
  intro s A B C D m M N;refine⟨fun aY=>((m.below w.heap.size (by omega)).trans (M.1 (by rw[m.size];exact aY))).trans (N.below w.heap.size (by omega)),fun aa=>?_⟩;have O:w.heap.size+1+1≠b.heap.size+1:=by omega
  exact(N.heap _ O).trans ((M.2 (by rw[m.size];exact aa)).trans (m.heap _ O))
 case h0=>
  rintro o s W1 rfl;exact⟨by simp;omega,au (au r.out _) _,au (au J.out _) _,ao (ao y.out _) _⟩
 case body=>
  rintro l s' pre ⟨xv,xy⟩ Wb Wc W _ ⟨g,i1,i2,i3⟩ ⟨⟨v,a3,hx⟩,i⟩ ag a;injection hx with ak am
  subst ak;have H:=zA (a.cells (aD i1 i));have I2:=zA (a.cells (aD i2 i));have I3:=zA ((aW i3 i).trans (a.below w.heap.size (by omega)));have av:b.heap.size<=W.heap.size:=by have:=a.size;have:=i.size;omega
  have aB:=zA (GK pre ((v:Int),xy));clear i1 i2 i3 i a ag g am;have z1:=dM H.out;have z2:=bF H.out 0;gi_wp2;refine⟨fI _ _ (by omega),⟨fun _=>Below.setCell (p:=⟨w.heap.size+1,0,none⟩) (aq _ _) (by show w.heap.size<=w.heap.size+1;omega) _,fun _=>Below.heap_setCell _ _ _ _ (by show w.heap.size+1+1≠w.heap.size+1;omega)⟩,by simpa using av,?_,aE I2.out (by show w.heap.size≠w.heap.size+1;omega) _,Below.setCell (p:=⟨w.heap.size+1,0,none⟩) I3.out (by show w.heap.size<=w.heap.size+1;omega) _⟩;rw[aB.out];exact bE (cs:=#[.int .i64 (ll pre)]) H.out 0 _ rfl
 case done=>
  rintro s' xs W W' _ rfl ⟨g,i1,i2,i3⟩ a P;have Q:=zA (a.cells i1);have b2:=zA (a.cells i2);have b3:=zA (i3.trans (a.below w.heap.size (by omega)));have R:=zA P;clear i1 i2 i3 P;rw[V.out] at Q;have y1:=(ah Q.out 0).trans rfl;have y2:=(ah b2.out 0).trans rfl;have a9:(0:Int)<=(d:Int):=by omega
  gi_wp2;have aL:Bk b.heap.size W' (W'.putObj b.heap.size (.deferred none)):=⟨_,_,R.out,rfl,rfl⟩;exact jx (D:=b.heap.size) rfl R.out (results_tmp rfl _ _ _) ⟨by simp,b3.out.trans (aL.below w.heap.size (by omega))⟩
end
section
attribute [local go_sem] Oper.semAt_some jQ jR jS jT
theorem GM (k n gb:Nat) (A0:Option Addr) (c0:Nat) (E:List S83) (a:Option Addr) (c1:Nat) (d:List Int) (r:Int) (w:World) (b:Kd.C aN w A0 E.length E) (i:E.length<=c0) (g:Kd.C (Kd.int .i64) w a d.length d) (j:d.length<=c1) (hb:w.heap[gb]? =some (.cells #[.int .i64 n,.slice A0 E.length c0] 24 (0,0))) (h:eK.f k n E d=some (r,0)):
  Calls Tryz.prog 138 #[.slice a d.length c1,.pointer (some ⟨gb,0,none⟩)] w fun e w'=>e= .returned (.tuple #[.int .i64 r,.int .i64 0])/\Below w.heap.size w w':=by
 have hu:=Tryz.underlying24;have H:=zA (eK.calls k n A0 c0 E a c1 d r 0 w b i g j h);have l:w.cell? ⟨gb,0,none⟩=some (.int .i64 n):=(ah hb 0).trans rfl;have m:w.cell? ⟨gb,1,none⟩=some (.slice A0 E.length c0):=(ah hb 1).trans rfl;clear h b g hb;go_enter Tryz.func138,Tryz.ntmps138
 go_wp2_with (go_at_call 41;refine H.out.mono ?_;rintro e w1 ⟨rfl,hb⟩;have o:=zA hb;clear hb l m)
 go_ret2;exact⟨rfl,o.out⟩
def jo (a:List Int->Int) (L:List (List Int)):Int:=L.foldl (fun b d=>max b (a d)) (-1)
theorem GN (a:List Int->Int) (L:List (List Int)) (d:List Int):jo a (L++[d])=max (jo a L) (a d):=by simp[jo,List.foldl_append]
theorem GO (k n gb g cap base:Nat) (ok:Nat->Prop) (A0:Option Addr) (c0:Nat) (E:List S83) (L:List (List Int)) (a:List Int->Int) (w:World) (p:Kd.C aN w A0 E.length E) (x:E.length<=c0) (hb:w.heap[gb]? =some (.cells #[.int .i64 n,.slice A0 E.length c0] 24 (0,0))) (K:L.length<=16384)
  (q:Kd.N (Kd.slice 3 (Kd.int .i64)) 26 w base ok (.slice (some ⟨g,0,none⟩) L.length cap) L) (h:∀d∈L,eK.f k n E d=some (a d,0)):
  Calls Tryz.prog 137 #[.slice (some ⟨g,0,none⟩) L.length cap,.func (.func 138) #[] #[.pointer (some ⟨gb,0,none⟩)]] w fun e w'=>e= .returned (.tuple #[.int .i64 (jo a L),.int .i64 0])/\Below w.heap.size w w':=by
 have y:=zA hb;have z:=zA q;have B:=zA h;have D:=zA p;clear hb q h p;go_enter Tryz.func137,Tryz.ntmps137
 go_wp2;go_loopg [6,13] (L.length) (fun F b i wr=>∃v:Nat,v<=L.length/\i= .int .i64 v/\b= .int .i64 (jo a (L.take v))/\Aside0 (Below w.heap.size w wr)/\Aside0 (F=L.length-v))
 case atStart=>exact⟨0,Nat.zero_le _,rfl,rfl,⟨aq _ _⟩,⟨rfl⟩⟩
 case round=>
  obtain⟨v,M,rfl,rfl,j,G⟩:=hrel;by_cases l:v<L.length
  ·have O:(0:Int)<=(v:Int):=by omega
   have P:(v:Int)<(L.length:Int):=by omega
   obtain⟨g2,H,cc,he,r,m,o⟩:=j4 (Kd.dF z.out j.out) v l;injection he with he
   injection he with he
   subst he;have s:=zA (show jo a (L.take (v+1))=max (jo a (L.take v)) (a (L.getD v [])) by rw[List.take_succ_eq_append_getElem l,GN,aX,bB l];rfl);have u:=zA (B.out (L.getD v []) (by rw[aX,bB l];exact List.getElem_mem l));generalize L.getD v []=d at r m o s u;have I:=zA (GM k n gb A0 c0 E H cc d (a d) wr (Kd.ax D.out j.out) x (Kd.fF o) m (aD y.out j.out) u.out);clear o m;go_wp2_with (go_at_call 138;refine I.out.mono ?_;rintro e w1 ⟨rfl,hb⟩;have J:=zA (aW j.out hb);clear hb r)
   all_goals
    go_roundg (L.length- (v+1))
    case measure=>rw[G.out];omega
    case rel=>exact⟨v+1,by omega,by go_num,by rw[s.out];exact congrArg _ (by omega),J,⟨rfl⟩⟩
  ·obtain rfl:v=L.length:=by omega
   go_wp2;go_ret2;exact⟨by rw[List.take_length];rfl,j.out⟩
theorem GQ {α:Type} {d:Kd α} {W:World} {e base:Nat} {ok:Nat->Prop} {v:Value} {xs:List α} (h:Kd.N d e W base ok v xs) (hp:0<xs.length):∃g c,v= .slice (some ⟨g,0,none⟩) xs.length c:=by
 obtain⟨_,rows,a,b,_⟩:=h;rw[<-a] at hp⊢;exact xR b hp
theorem xS {m:Nat} {idx:List (Fin (m+1))} {f:List Int->List Int} {C:List (List Int)} (hp:idx.Perm (List.finRange (m+1))) (hC:C.length=m+1):(idx.map fun i=>(C.map f).getD i.1 []).Perm (C.map f):=by
 refine(hp.map _).trans (List.Perm.of_eq ?_);refine List.ext_getElem (by simp[hC]) fun i h1 a=>?_
 simp only[List.length_map] at a;simp[bB a]
theorem GR {m k:Nat} {n:Int} {E:List S83} {a:List Int->Int} {idx:List (Fin (m+1))} {f:List Int->List Int} {C:List (List Int)} (hp:idx.Perm (List.finRange (m+1))) (hC:C.length=m+1) (h:∀c∈C,eK.f k n E (f c)=some (a (f c),0)):∀d∈idx.map fun i=>(C.map f).getD i.1 [],eK.f k n E d=some (a d,0):=fun d hd=>by
 obtain⟨c,b,rfl⟩:=List.mem_map.1 ((xS hp hC).mem_iff.1 hd);exact h c b
theorem GU (k n m d:Nat) (A0:Option Addr) (c0:Nat) (E:List S83) (bb:Int) (q:List Int) (C:List (List Int)) (r:List Int->Int) (s:Fin (m+1)->Fin (m+1)->Int) (w:World) (G:Kd.C aN w A0 E.length E) (a:E.length<=c0) (hn:2<=n) (Y:n<=12) (a0:0<=bb) (Z:bb<=1048576)
  (H:dH.f k n E=some 0) (I:∀u:Nat,u<n->∃e,db.f k n E (u:Nat)=some (rd q u,e)) (hd:ll (gS q n)=d) (J:d<=100000) (aa:bb<=2*(((d/2:Nat):Int)-n+1)-2)
  (K:dU.f k n E []=some 0) (M:eP.f k n E 0=some (C,0)) (N:∀c∈C,c.length=n) (x:C.length=m+1) (y:C.length<=16384) (O:∀c∈C,bq.f k (c_ bb c) n=some 0)
  (P:∀i j:Fin (m+1),dC.f k ((C.map (c_ bb)).getD i.1 []) ((C.map (c_ bb)).getD j.1 [])=some (s i j)) (hO:Go.Sort.SWO (ltOf s)) (Q:∀c∈C,eK.f k n E (c_ bb c)=some (r (c_ bb c),0)):
  Calls Tryz.prog 82 #[.agg #[.int .i64 n,.slice A0 E.length c0],.int .i64 bb] w fun e w'=>∃L:List (List Int),L.Perm (C.map (c_ bb))/\e= .returned (.tuple #[.int .i64 (jo r L),.int .i64 0])/\Below w.heap.size w w':=by
 have hu:=Tryz.underlying24;have z:=zA (a7 w (.cells #[.int .i64 n,.slice A0 E.length c0] 24));have H1:=zA (fun W h=>dH.calls k n A0 c0 E 0 W h a H);have R:=zA (fun W h=>GL k n d A0 c0 E q W h a (by omega) (by omega) I hd J);have H3:=zA (fun W h=>GJ k n m A0 c0 E bb C s W h a hn Y (by omega) Z K M N x y O P hO);have H4:=zA (fun gb g cap base ok L W h1 h2 h3 h4 S=>GO k n gb g cap base ok A0 c0 E L r W h1 a h2 h3 h4 S);have an:=zA Q;have b:=zA x;have ap:=zA y;have S:¬bb< -1048576:=by omega
 have h6:¬1048576<bb:=by omega
 have h7:¬bb<0:=by omega
 have ar:((d/2:Nat):Int)-n+1<=100000:=by omega
 generalize ((d/2:Nat):Int)-n+1=T at R aa ar;have a3:1<=T:=by omega
 have h8:¬2*T-2<bb:=by omega
 have b0:(w.alloc (.cells #[.int .i64 n,.slice A0 E.length c0] 24)).cell? ⟨w.heap.size,0,none⟩=some (.int .i64 n):=(ah z.out 0).trans rfl;have b1:(w.alloc (.cells #[.int .i64 n,.slice A0 E.length c0] 24)).cell? ⟨w.heap.size,1,none⟩=some (.slice A0 E.length c0):=(ah z.out 1).trans rfl;have l:=zA G;clear H I hd J K M N x y O P hO Q G;go_enter Tryz.func82,Tryz.ntmps82
 go_wp2_with (first|(go_at_call 55;refine(H1.out _ (Kd.bz l.out _)).mono ?_;rintro e w1 ⟨rfl,hb⟩;have U:=zA (aW (ao (aq w.heap.size w) _) hb);have B:=zA (aD z.out hb);clear hb;have y0:w1.cell? ⟨w.heap.size,0,none⟩=some (.int .i64 n):=(ah B.out 0).trans rfl;have y1:w1.cell? ⟨w.heap.size,1,none⟩=some (.slice A0 E.length c0):=(ah B.out 1).trans rfl)|(go_at_call 135;refine(R.out _ (Kd.ax l.out U.out)).mono ?_;rintro e w2 ⟨rfl,hb⟩;have V:=zA (aW U.out hb);have D:=zA (aD B.out hb);clear hb;have z0:w2.cell? ⟨w.heap.size,0,none⟩=some (.int .i64 n):=(ah D.out 0).trans rfl;have z1:w2.cell? ⟨w.heap.size,1,none⟩=some (.slice A0 E.length c0):=(ah D.out 1).trans rfl)|(go_at_call 136;refine(H3.out _ (Kd.ax l.out V.out)).mono ?_;rintro e w3 ⟨v,idx,rfl,hp,av,o,hb⟩;have X:=zA (aW V.out hb);have X3:=zA (aD D.out hb);have p:=xS (f:=c_ bb) hp b.out;have F:=GR hp b.out an.out;generalize (idx.map fun i=>(C.map (c_ bb)).getD i.1 [])=L2 at o p F;have hlen:=p.length_eq;rw[List.length_map,b.out] at hlen;have aL:=zA (show L2.length<=16384 by have:=ap.out;have:=b.out;omega);obtain⟨gs,cs,rfl⟩:=GQ o (by omega);have HN:=zA o;have HP:=zA p;have aR:=zA F;clear hb o hp av p F hlen)|(go_at_call 137;(with_reducible refine(H4.out _ _ _ _ _ _ _ (Kd.ax l.out X.out) X3.out aL.out HN.out aR.out).mono ?_);rintro e w4 ⟨rfl,hb⟩;have aS:=zA (aW X.out hb);clear hb))
 go_ret2;exact⟨_,HP.out,rfl,aS.out⟩
end
theorem xT {n:Nat} {E:List S83} {d:List Int} (h:dT n 0 E d) (a:cw n E=0) {n' g:Int} {b:List S83} (i:Ev (fun k=>gv.f k n E) (n',b,(0:Int))) (j:Ev (fun k=>fi.f k n' b) (g,(0:Int))) (l:T.ee n (ae E) g) {r:Int} (m:Rk n (ae E) d r):
  Ev (fun k=>eK.f k n E d) (r,(0:Int)):=by
 unfold eK.f;refine Ev.bind (Gt h a) ?_;have e:=h.ok a;simp only[if_true,aG];simp only[Int.ofNat_zero] at e;simp only[if_pos e];refine Ev.bind i ?_;simp only[if_true];refine Ev.bind j ?_;have o:T.sN (T.can n (ae E)) n=2*g-2:=l;simp only[if_true,if_pos o,xO h.n1 m];exact Ev.const _
def cK:List S83:=[⟨0,1,1⟩,⟨0,2,1⟩,⟨1,2,1⟩]
def jI:List (List Int):=[[0,0,0],[0,0,1],[0,1,0]]
theorem GV:dH.f 60 3 cK=some 0:=by decide+kernel
theorem GX:∀u:Nat,u<3->∃e,db.f 60 3 cK (u:Nat)=some (rd [2,2,2] u,e)
 |0,_=>⟨0,by decide+kernel⟩
 |1,_=>⟨0,by decide+kernel⟩
 |2,_=>⟨0,by decide+kernel⟩
theorem GY:ll (gS [2,2,2] 3)=((6:Nat):Int):=by decide+kernel
theorem GZ:dU.f 60 3 cK []=some 0:=by decide+kernel
theorem G0:eP.f 60 3 cK 0=some (jI,0):=by decide+kernel
theorem G1:∀c∈jI,bq.f 60 (c_ 0 c) 3=some 0:=by decide+kernel
def sy (i j:Fin 3):Int:=(dC.f 60 ((jI.map (c_ 0)).getD i.1 []) ((jI.map (c_ 0)).getD j.1 [])).getD 0
theorem G2:∀i j:Fin 3,dC.f 60 ((jI.map (c_ 0)).getD i.1 []) ((jI.map (c_ 0)).getD j.1 [])=some (sy i j):=by decide+kernel
theorem G3:Go.Sort.SWO (ltOf sy):=⟨by decide+kernel,by decide+kernel,by decide+kernel⟩
theorem sA {d:List Int} (h:jn 3 cK 0 d=true):dT 3 0 cK d:=by
 obtain⟨n,q,hn,a,h1⟩:=pP h;obtain rfl:n=3:=by omega
 obtain rfl:q=0:=by omega
 exact h1
theorem G4:cw ((3:Nat):Int) cK=0:=by decide+kernel
theorem G5:T.ee 3 (ae cK) 1:=show T.sN (T.can 3 (ae cK)) 3=2*1-2 from by decide+kernel
theorem G6:Ev (fun k=>gv.f k 3 cK) ((3:Int),cK,(0:Int)):=Ev.at_ (gv.mono _ _) (k:=60) (by kernel_rfl)
theorem G7:Ev (fun k=>fi.f k 3 cK) ((1:Int),(0:Int)):=Ev.at_ (fi.mono _ _) (k:=60) (by decide+kernel)
theorem xU:dT 3 0 cK [0,0,0]:=sA (by decide+kernel)
theorem G8:dT 3 0 cK [-1,0,1]:=sA (by decide+kernel)
theorem G9:dT 3 0 cK [-1,1,0]:=sA (by decide+kernel)
theorem pT:T.Wt 3 (ae cK):=xU.right.wt
theorem G_ {c:Nat->Int} (h:(c 1=0/\c 2=1)\/(c 1=1/\c 2=0)):T.iK 3 (ae cK) 0 c:=fun S hS e=>by
 have t10:ae cK 1 0=1:=by decide+kernel
 have t12:ae cK 1 2=1:=by decide+kernel
 have t20:ae cK 2 0=1:=by decide+kernel
 have t21:ae cK 2 1=1:=by decide+kernel
 cases h1:S 1 with
 |true=>
  cases a:S 2 with
  |true=>
   rcases h with h|h
   ·exact⟨1,by omega,h1,by simp[T.sN,e,h1,a,t10,h.1]⟩
   ·exact⟨2,by omega,a,by simp[T.sN,e,h1,a,t20,h.2]⟩
  |false=>exact⟨1,by omega,h1,by simp[T.sN,e,h1,a,t10,t12];omega⟩
 |false=>
  cases a:S 2 with
  |true=>exact⟨2,by omega,a,by simp[T.sN,e,h1,a,t20,t21];omega⟩
  |false=>
   obtain⟨v,g,b⟩:=hS;match v,g with
   |0,_=>rw[e] at b;cases b
   |1,_=>rw[h1] at b;cases b
   |2,_=>rw[a] at b;cases b
theorem G':T.cm 3 (ae cK) (fun _=>0) 0:=by
 obtain⟨r,a⟩:=T.ke pT (by decide) (fun _=>(0:Int));have h1:r≠ -1:=fun e=>by
  subst e;exact(T.cm.mO (by decide) a).1 rfl (T.bP.rA fun _ _=>Int.le_refl _)
 have g:=a.1;have b:=a.r_ pT (by decide) (by omega);rw[T.j5] at b;obtain rfl:r=0:=by omega
 exact a
theorem Hc:Rk 3 (ae cK) [0,0,0] 0:=sr (fun v a=>by
  match v,a with
  |0,_=>rfl
  |1,_=>rfl
  |2,_=>rfl) G'
theorem xV {d:List Int} (h:(rd d 1=0/\rd d 2=1)\/(rd d 1=1/\rd d 2=0)) (g:rd d 0= -1):Rk 3 (ae cK) d (-1):=by
 obtain⟨r,a⟩:=T.ke pT (by decide) (fun v=>rd d (v:Nat));have hw:¬T.bP 3 (ae cK) (fun v=>rd d (v:Nat)):=fun hw=>by
  have a:=(T.nS pT (q:=0) (by decide) ⟨fun v b e=>by
   match v,b with
   |0,_=>exact absurd rfl e
   |1,_=>rcases h with h|h<;>(show 0<=rd d 1;omega)
   |2,_=>rcases h with h|h<;>(show 0<=rd d 2;omega),G_ h⟩).1 hw
  have:(0:Int)<=rd d 0:=a;omega
 obtain rfl:=(T.cm.mO (by decide) a).2 hw;exact a
theorem sB {d:List Int} (h:dT 3 0 cK d) {r:Int} (a:Rk 3 (ae cK) d r):Ev (fun k=>eK.f k 3 cK d) (r,(0:Int)):=
 xT (n:=3) h G4 G6 G7 G5 a
def ln (d:List Int):Int:=if d=[0,0,0] then 0 else -1
theorem Hd:∃K,60<=K/\∀c∈jI,eK.f K 3 cK (c_ 0 c)=some (ln (c_ 0 c),0):=by
 obtain⟨b,g⟩:=sB xU Hc;obtain⟨B1,h1⟩:=sB G8 (xV (.inl ⟨rfl,rfl⟩) rfl);obtain⟨e,h⟩:=sB G9 (xV (.inr ⟨rfl,rfl⟩) rfl);refine⟨60+b+B1+e,by omega,fun c a=>?_⟩;rcases List.mem_cons.1 a with rfl|a
 ·rw[show c_ 0 [0,0,0]=[0,0,0] by decide+kernel,show ln [0,0,0]=0 by decide+kernel]
  exact g (60+b+B1+e) (by omega)
 rcases List.mem_cons.1 a with rfl|a
 ·rw[show c_ 0 [0,0,1]=[-1,0,1] by decide+kernel,show ln [-1,0,1]= -1 by decide+kernel]
  exact h1 (60+b+B1+e) (by omega)
 rcases List.mem_cons.1 a with rfl|a
 ·rw[show c_ 0 [0,1,0]=[-1,1,0] by decide+kernel,show ln [-1,1,0]= -1 by decide+kernel]
  exact h (60+b+B1+e) (by omega)
 ·cases a
open Classical in
noncomputable def gw.f (k:Nat) (a:Int) (b:List (S83)) (e:Int):Option (Int×Int):=if a=3/\b=cK/\e=0 then some (0,0) else none
theorem gw.mono:∀a b e k,ai (gw.f k a b e) (gw.f (k+1) a b e):=fun _ _ _ _=>ai.refl _
theorem He (A0:Option Addr) (c0:Nat) (w:World) (b:Kd.C aN w A0 cK.length cK) (g:cK.length<=c0):
  Calls Tryz.prog 82 #[.agg #[.int .i64 3,.slice A0 cK.length c0],.int .i64 0] w fun e w'=>e= .returned (.tuple #[.int .i64 0,.int .i64 0])/\Below w.heap.size w w':=by
 obtain⟨K,a,h⟩:=Hd;refine(GU K 3 2 6 A0 c0 cK 0 [2,2,2] jI ln sy w b g (by decide) (by decide) (by decide) (by decide)
  (l4 (dH.mono _ _) a GV) (fun u hu=>by obtain⟨e,he⟩:=GX u hu;exact⟨e,l4 (db.mono _ _ _) a he⟩) GY (by decide) (by decide)
  (l4 (dU.mono _ _ _) a GZ) (l4 (eP.mono _ _ _) a G0) (by decide+kernel) rfl (by decide) (fun c k=>l4 (bq.mono _ _) a (G1 c k)) (fun i j=>l4 (dC.mono _ _) a (G2 i j)) G3 h).mono ?_
 rintro e w' ⟨L,hp,rfl,hb⟩;have h1:jo ln L=jo ln (jI.map (c_ 0)):=hp.foldl_eq' (fun x _ y _ z=>by omega) _;have l:jo ln (jI.map (c_ 0))=0:=by decide+kernel
 rw[h1,l];exact⟨rfl,hb⟩
theorem gw.calls (k:Nat) (b:Int) (g:Option Addr) (i:Nat) (a:List (S83)) (j:Int) (m:Int) (n:Int) (w:World) (o:Kd.C aN w g a.length a) (p:a.length<=i) (h:gw.f k b a j=some (m,n)):
  Calls Tryz.prog 82 #[.agg #[.int .i64 b,.slice g a.length i],.int .i64 j] w fun e w'=>e= .returned (.tuple #[.int .i64 m,.int .i64 n])/\Below w.heap.size w w':=by
 unfold gw.f at h;by_cases l:b=3/\a=cK/\j=0
 ·rw[if_pos l] at h
  obtain⟨rfl,rfl,rfl⟩:=l;injection h with h
  injection h with h1 q
  subst h1 q;exact He g i w o p
 ·rw[if_neg l] at h;cases h
theorem Hh:Ev (fun k=>gw.f k 3 cK 0) ((0:Int),(0:Int)):=Ev.at_ (gw.mono _ _ _) (k:=0) (by unfold gw.f;rw[if_pos ⟨rfl,rfl,rfl⟩])
end Go.Proofs.YtffdiakgjakngaaGreat.P


namespace Go.Proofs.YtffdiakgjakngaaGreat.P
open Go.RowKit Go.Proofs.YtffdiakgjakngaaGreatW.PrintWords Go.Proofs.YtffdiakgjakngaaGreatW.PrintLast Go.Proofs.YtffdiakgjakngaaGreatW.PrintMore
set_option linter.unusedVariables false
set_option linter.unusedSimpArgs false
set_option maxHeartbeats 8000000
set_option maxRecDepth 100000
section
attribute [local go_sem] jQ jR jS jT ng nh ni nj
noncomputable def bI.j0:Nat->List (List Int)->Bool->Option (Bool)
 |0,_,_=>none
 |k+1,a,b=>if b=true then(some false) else(if 0<(a.length:Int) then((bt.f k (a6 a 0) (([(-1),0,1]:List Int))).bind fun t259=>(if t259=true then(if 1<(a.length:Int) then((bt.f k (a6 a 1) (([(-1),1,0]:List Int))).bind fun t264=>(some t264)) else(none)) else(some false))) else(none))
noncomputable def bI.f (k:Nat):Option (Bool):=(some (([(⟨0,1,1⟩:S83),(⟨0,2,1⟩:S83),(⟨0,3,1⟩:S83),(⟨1,2,1⟩:S83),(⟨1,3,1⟩:S83),(⟨2,3,1⟩:S83)]:List (S83)):List (S83))).bind fun b=>((some (([(⟨0,1,1⟩:S83),(⟨0,2,1⟩:S83),(⟨1,2,1⟩:S83)]:List (S83)):List (S83))).bind fun e=>((ff.f k 4 b).bind fun g=>((eX.f k 4 b (([1,1,1,0]:List Int))).bind fun h=>((iQ.f k 4 b (([1,1,1,0]:List Int))).bind fun i=>((bK.f k 3 e 0).bind fun a=>((gw.f k 3 e 0).bind fun j=>(if(wrap64 ((wrap64 ((wrap64 ((wrap64 (g.2+h.2))+i.2))+a.2))+j.2))=0 then((bt.f k g.1 (([1,1,1,1]:List Int))).bind fun t250=>(if t250=true then((bt.f k h.1 (([0,0,0,1]:List Int))).bind fun t254=>(if t254=true then(if i.1=1 then(if j.1=0 then(bI.j0 k a.1 ((a.1.length:Int) != 2)) else(bI.j0 k a.1 true)) else(bI.j0 k a.1 true)) else(bI.j0 k a.1 true))) else(bI.j0 k a.1 true))) else(bI.j0 k a.1 true))))))))
theorem bI.cD:∀k,(∀a b,ai (bI.j0 k a b) (bI.j0 (k+1) a b))
 |0=>fun _ _ r h=>by simp[bI.j0] at h
 |k+1=>by
  have e:=bI.cD k
  ·intro a b
   unfold bI.j0;with_reducible repeat' first|exact e _ _|exact bt.mono _ _ _|exact iQ.mono _ _ _ _|exact gw.mono _ _ _ _|exact ff.mono _ _ _|exact eX.mono _ _ _ _|exact bK.mono _ _ _ _|exact ai.refl _|exact ai.none _|refine ai.ite ?_ ?_|refine ai.bind ?_ (fun _=>?_)
theorem bI.calls (k:Nat)  (r:Bool) (hr:Aside0 (r=true)) (w:World) (h:bI.f k=some r):
  Calls Tryz.prog 26 #[] w fun e w'=>e= .returned (.bool r)/\Below w.heap.size w w':=by
 have hA:=Tryz.underlying83;have hB:=Tryz.underlying24;have l:=zA (aq w.heap.size w);unfold bI.f at h;have H:=h;clear h;obtain⟨B,cl⟩:∃F:List (S83),F=(([(⟨0,1,1⟩:S83),(⟨0,2,1⟩:S83),(⟨0,3,1⟩:S83),(⟨1,2,1⟩:S83),(⟨1,3,1⟩:S83),(⟨2,3,1⟩:S83)]:List (S83))):=⟨_,rfl⟩;replace H:((some (([(⟨0,1,1⟩:S83),(⟨0,2,1⟩:S83),(⟨1,2,1⟩:S83)]:List (S83)):List (S83))).bind fun E=>((ff.f k 4 B).bind fun a3=>((eX.f k 4 B (([1,1,1,0]:List Int))).bind fun aB=>((iQ.f k 4 B (([1,1,1,0]:List Int))).bind fun Q=>((bK.f k 3 E 0).bind fun v=>((gw.f k 3 E 0).bind fun S=>(if(wrap64 ((wrap64 ((wrap64 ((wrap64 (a3.2+aB.2))+Q.2))+v.2))+S.2))=0 then((bt.f k a3.1 (([1,1,1,1]:List Int))).bind fun t250=>(if t250=true then((bt.f k aB.1 (([0,0,0,1]:List Int))).bind fun t254=>(if t254=true then(if Q.1=1 then(if S.1=0 then(bI.j0 k v.1 ((v.1.length:Int) != 2)) else(bI.j0 k v.1 true)) else(bI.j0 k v.1 true)) else(bI.j0 k v.1 true))) else(bI.j0 k v.1 true))) else(bI.j0 k v.1 true))))))))=some r:=zh cl H;have dl:=zA cl;clear cl;obtain⟨E,cn⟩:∃F:List (S83),F=(([(⟨0,1,1⟩:S83),(⟨0,2,1⟩:S83),(⟨1,2,1⟩:S83)]:List (S83))):=⟨_,rfl⟩;replace H:((ff.f k 4 B).bind fun a3=>((eX.f k 4 B (([1,1,1,0]:List Int))).bind fun aB=>((iQ.f k 4 B (([1,1,1,0]:List Int))).bind fun Q=>((bK.f k 3 E 0).bind fun v=>((gw.f k 3 E 0).bind fun S=>(if(wrap64 ((wrap64 ((wrap64 ((wrap64 (a3.2+aB.2))+Q.2))+v.2))+S.2))=0 then((bt.f k a3.1 (([1,1,1,1]:List Int))).bind fun t250=>(if t250=true then((bt.f k aB.1 (([0,0,0,1]:List Int))).bind fun t254=>(if t254=true then(if Q.1=1 then(if S.1=0 then(bI.j0 k v.1 ((v.1.length:Int) != 2)) else(bI.j0 k v.1 true)) else(bI.j0 k v.1 true)) else(bI.j0 k v.1 true))) else(bI.j0 k v.1 true))) else(bI.j0 k v.1 true)))))))=some r:=zh cn H;have ds:=zA cn;clear cn;obtain⟨⟨t225,t228⟩,A1,H⟩:=zo H;dsimp only at H;obtain⟨bx,co⟩:∃F:List Int,F=(([1,1,1,0]:List Int)):=⟨_,rfl⟩;replace H:((eX.f k 4 B bx).bind fun aB=>((iQ.f k 4 B (([1,1,1,0]:List Int))).bind fun Q=>((bK.f k 3 E 0).bind fun v=>((gw.f k 3 E 0).bind fun S=>(if(wrap64 ((wrap64 ((wrap64 ((wrap64 (t228+aB.2))+Q.2))+v.2))+S.2))=0 then((bt.f k t225 (([1,1,1,1]:List Int))).bind fun t250=>(if t250=true then((bt.f k aB.1 (([0,0,0,1]:List Int))).bind fun t254=>(if t254=true then(if Q.1=1 then(if S.1=0 then(bI.j0 k v.1 ((v.1.length:Int) != 2)) else(bI.j0 k v.1 true)) else(bI.j0 k v.1 true)) else(bI.j0 k v.1 true))) else(bI.j0 k v.1 true))) else(bI.j0 k v.1 true))))))=some r:=zh co H;have dv:=zA co;clear co;obtain⟨⟨t232,t235⟩,A2,H⟩:=zo H;dsimp only at H;obtain⟨b0,cp⟩:∃F:List Int,F=(([1,1,1,0]:List Int)):=⟨_,rfl⟩;replace H:((iQ.f k 4 B b0).bind fun Q=>((bK.f k 3 E 0).bind fun v=>((gw.f k 3 E 0).bind fun S=>(if(wrap64 ((wrap64 ((wrap64 ((wrap64 (t228+t235))+Q.2))+v.2))+S.2))=0 then((bt.f k t225 (([1,1,1,1]:List Int))).bind fun t250=>(if t250=true then((bt.f k t232 (([0,0,0,1]:List Int))).bind fun t254=>(if t254=true then(if Q.1=1 then(if S.1=0 then(bI.j0 k v.1 ((v.1.length:Int) != 2)) else(bI.j0 k v.1 true)) else(bI.j0 k v.1 true)) else(bI.j0 k v.1 true))) else(bI.j0 k v.1 true))) else(bI.j0 k v.1 true)))))=some r:=zh cp H
 have dx:=zA cp;clear cp;obtain⟨⟨t239,t240⟩,A3,H⟩:=zo H;dsimp only at H;obtain⟨⟨t241,t244⟩,A4,H⟩:=zo H;dsimp only at H;obtain⟨⟨t245,t246⟩,A5,H⟩:=zo H;dsimp only at H;have cq:=zA H;clear H;go_enter Tryz.func26,Tryz.ntmps26
 go_upto_region 8 with (first|((with_reducible refine aU (N:=19) rfl ?_);(try(refine ei (by rfl) ?_;dsimp only));refine Kd.e7 aN _ 83 ?hg (N:=19) ?hd (xs:=([(⟨0,1,1⟩:S83),(⟨0,2,1⟩:S83),(⟨0,3,1⟩:S83),(⟨1,2,1⟩:S83),(⟨1,3,1⟩:S83),(⟨2,3,1⟩:S83)]:List (S83))) (inner:=[.int .i64 0,.int .i64 1,.int .i64 1,.int .i64 0,.int .i64 2,.int .i64 1,.int .i64 0,.int .i64 3,.int .i64 1,.int .i64 1,.int .i64 2,.int .i64 1,.int .i64 1,.int .i64 3,.int .i64 1,.int .i64 2,.int .i64 3,.int .i64 1]) (ok:=fun _=>True) (okp:=fun _=>True) ?hr ?hp (fun _ hk=>hk) trivial (aq _ _) (aI _) (by simp) ?_;(case hd=>rfl);(case hg=>rfl);(case hr=>first|(go_simp;done)|(go_simp;rfl));(case hp=>exact(aT.c3 (show Kd.M aN _ _ _ (⟨0,1,1⟩:S83) [.int .i64 0,.int .i64 1,.int .i64 1] from(jv _ _ _ (⟨0,1,1⟩:S83))) (aT.c3 (show Kd.M aN _ _ _ (⟨0,2,1⟩:S83) [.int .i64 0,.int .i64 2,.int .i64 1] from(jv _ _ _ (⟨0,2,1⟩:S83))) (aT.c3 (show Kd.M aN _ _ _ (⟨0,3,1⟩:S83) [.int .i64 0,.int .i64 3,.int .i64 1] from(jv _ _ _ (⟨0,3,1⟩:S83))) (aT.c3 (show Kd.M aN _ _ _ (⟨1,2,1⟩:S83) [.int .i64 1,.int .i64 2,.int .i64 1] from(jv _ _ _ (⟨1,2,1⟩:S83))) (aT.c3 (show Kd.M aN _ _ _ (⟨1,3,1⟩:S83) [.int .i64 1,.int .i64 3,.int .i64 1] from(jv _ _ _ (⟨1,3,1⟩:S83))) (aT.c3 (show Kd.M aN _ _ _ (⟨2,3,1⟩:S83) [.int .i64 2,.int .i64 3,.int .i64 1] from(jv _ _ _ (⟨2,3,1⟩:S83))) (aT.none _ _))))))));intro v218 w7 a4 hb y z;clear y z;(first|rw[<-dl.out] at a4|(simp only[Int.reduceToNat] at a4;rw[<-dl.out] at a4));have i:=zA (Kd.bd a4 (bH zB));replace l:=zS l hb;clear hb a4;obtain⟨J,G,ev⟩:=Kd.bh i.out;subst ev)|((with_reducible refine aU (N:=1) rfl ?_);(try(refine ei (by rfl) ?_;dsimp only));refine zX 1 #[.int .i64 0,.slice none 0 0] 24 ?_;intro K hg hD a5 hb;replace i:=bp i hb;have b:=zA (a5);have hE:=zG l hg;have hG:=zG l hg;replace l:=zS l hb;clear hb a5 hg;obtain⟨ew,ex,ey,e0⟩:=aA b)|((with_reducible refine aU (N:=24) rfl ?_);(try(refine ei (by rfl) ?_;dsimp only));refine Kd.e7 aN _ 83 ?hg (N:=24) ?hd (xs:=([(⟨0,1,1⟩:S83),(⟨0,2,1⟩:S83),(⟨1,2,1⟩:S83)]:List (S83))) (inner:=[.int .i64 0,.int .i64 1,.int .i64 1,.int .i64 0,.int .i64 2,.int .i64 1,.int .i64 1,.int .i64 2,.int .i64 1]) (ok:=fun _=>True) (okp:=fun _=>True) ?hr ?hp (fun _ hk=>hk) trivial (aq _ _) (aI _) (by simp) ?_;(case hd=>rfl);(case hg=>rfl);(case hr=>first|(go_simp;done)|(go_simp;rfl));(case hp=>exact(aT.c3 (show Kd.M aN _ _ _ (⟨0,1,1⟩:S83) [.int .i64 0,.int .i64 1,.int .i64 1] from(jv _ _ _ (⟨0,1,1⟩:S83))) (aT.c3 (show Kd.M aN _ _ _ (⟨0,2,1⟩:S83) [.int .i64 0,.int .i64 2,.int .i64 1] from(jv _ _ _ (⟨0,2,1⟩:S83))) (aT.c3 (show Kd.M aN _ _ _ (⟨1,2,1⟩:S83) [.int .i64 1,.int .i64 2,.int .i64 1] from(jv _ _ _ (⟨1,2,1⟩:S83))) (aT.none _ _)))));intro v222 hH aS hb y z;clear y z;(first|rw[<-ds.out] at aS|(simp only[Int.reduceToNat] at aS;rw[<-ds.out] at aS));have q:=zA (Kd.bd (Kd.bQ aS (Kd.ba (by(with_reducible repeat(first|apply Kd.aM|apply Kd.bs|apply Kd.bj));exact(Kd.a_ (Kd.dJ (p:=⟨K,1,none⟩) (Kd.dJ (p:=⟨K,0,none⟩) (Kd.gM i.out b.out (by decide)) (fun _ hk=>hk.2) (.int .i64 4)) (fun _ hk=>hk.2) (.slice J B.length G)) (fun _ h_=>h_.1))))) (bH zB));replace i:=zA (Kd.tu (by(with_reducible repeat(first|apply Kd.aM|apply Kd.bs|apply Kd.bj));exact(Kd.a_ (Kd.dJ (p:=⟨K,1,none⟩) (Kd.dJ (p:=⟨K,0,none⟩) (Kd.gM i.out b.out (by decide)) (fun _ hk=>hk.2) (.int .i64 4)) (fun _ hk=>hk.2) (.slice J B.length G)) (fun _ h_=>h_.1))) (Kd.dK aS) hb);replace b:=zA (aD (g:=K) (o:=.cells #[.int .i64 4,.slice J B.length G] 24 (0,0)) (by refine zk ?_;refine bE (cs:=#[.int .i64 4,.slice none 0 0]) ?_ 1 _ rfl;refine zk ?_;refine bE (cs:=#[.int .i64 0,.slice none 0 0]) ?_ 0 _ rfl;exact zK b) hb);replace l:=zS l hb;clear hb aS;obtain⟨L,O,e1⟩:=Kd.bh q.out;subst e1)|((with_reducible refine aU (N:=2) rfl ?_);(try(refine ei (by rfl) ?_;dsimp only));refine zX 2 #[.int .i64 0,.slice none 0 0] 24 ?_;intro P hg hI a5 hb;replace i:=bp i hb;replace q:=bp q hb;have j:=zA (a5);have hJ:=zG l hg;have hK:=zG l hg;replace l:=zS l hb;have cr:=zA ((by rw[hg];exact Nat.ne_of_lt (aC (g:=K) (o:=.cells #[.int .i64 4,.slice J B.length G] 24 (0,0)) (zK b)):K≠P));have e2:=zA ((by rw[hg];exact Nat.ne_of_gt (aC (g:=K) (o:=.cells #[.int .i64 4,.slice J B.length G] 24 (0,0)) (zK b)):P≠K));replace b:=zb b hb;clear hb a5 hg;have hL:=e2.out;have hM:=cr.out;obtain⟨e3,e4,e5,e6⟩:=aA j;obtain⟨e',fb,fd,fn⟩:=aA b)|((with_reducible refine aJ (f:=35) rfl ?_);refine zL (some 28) Tryz.func35 #[.agg #[.int .i64 4,.slice J B.length G]] ?_;(with_reducible refine(ff.calls k 4 _ _ B t225 t228 _ ?al ?aj A1.out).mono ?_);(case al=>refine(Kd.aH (e:=83) (base:=w.heap.size) (ok:=fun C=>(True/\some C≠(.slice L E.length O:Value).ownBlock)) (n:=B.length) (c:=G) ?_).2.2;exact(by(with_reducible repeat(first|apply Kd.aM|apply Kd.bs|apply Kd.bj));exact(Kd.a_ (Kd.dJ (p:=⟨P,1,none⟩) (Kd.dJ (p:=⟨P,0,none⟩) (Kd.gM i.out j.out (by decide)) (fun _ hk=>hk.2) (.int .i64 3)) (fun _ hk=>hk.2) (.slice L E.length O)) (fun _ h_=>h_.1))));(case aj=>exact(Kd.aH i.out).2.1);rintro e hN ⟨v226,rfl,aa,hb⟩;refine⟨_,rfl,?_⟩;replace i:=zA (Kd.cY (by(with_reducible repeat(first|apply Kd.aM|apply Kd.bs|apply Kd.bj));exact(Kd.a_ (Kd.dJ (p:=⟨P,1,none⟩) (Kd.dJ (p:=⟨P,0,none⟩) (Kd.gM i.out j.out (by decide)) (fun _ hk=>hk.2) (.int .i64 3)) (fun _ hk=>hk.2) (.slice L E.length O)) (fun _ h_=>h_.1))) hb);replace q:=zA (Kd.cY (by(with_reducible repeat(first|apply Kd.aM|apply Kd.bs|apply Kd.bj));exact(Kd.a_ (Kd.dJ (p:=⟨P,1,none⟩) (Kd.dJ (p:=⟨P,0,none⟩) (Kd.gM q.out j.out (by decide)) (fun _ hk=>hk.2) (.int .i64 3)) (fun _ hk=>hk.2) (.slice L E.length O)) (fun _ h_=>h_.1))) hb);have a:=zA (Kd.bd aa (bH zB));replace b:=zA (aD (g:=K) (o:=.cells #[.int .i64 4,.slice J B.length G] 24 (0,0)) (by refine zk ?_;refine aE ?_ cr.out _;refine zk ?_;refine aE ?_ cr.out _;exact zK b) hb);replace j:=zA (aD (g:=P) (o:=.cells #[.int .i64 3,.slice L E.length O] 24 (0,0)) (by refine zk ?_;refine bE (cs:=#[.int .i64 3,.slice none 0 0]) ?_ 1 _ rfl;refine zk ?_;refine bE (cs:=#[.int .i64 0,.slice none 0 0]) ?_ 0 _ rfl;exact zK j) hb);replace l:=zS l hb;(try clear hb);(try clear aa);obtain⟨fo,fq,fr,ft⟩:=aA b)|((with_reducible refine aU (N:=33) rfl ?_);(try(refine ei (by rfl) ?_;dsimp only));refine Kd.e7 (Kd.int .i64) _ 3 ?hg (N:=33) ?hd (xs:=([1,1,1,0]:List Int)) (inner:=[.int .i64 1,.int .i64 1,.int .i64 1,.int .i64 0]) (ok:=fun _=>True) (okp:=fun _=>True) ?hr ?hp (fun _ hk=>hk) trivial (aq _ _) (aI _) (by simp) ?_;(case hd=>rfl);(case hg=>rfl);(case hr=>first|(go_simp;done)|(go_simp;rfl));(case hp=>exact(aT.one (show Kd.M (Kd.int .i64) _ _ _ 1 [.int .i64 1] from rfl) (aT.one (show Kd.M (Kd.int .i64) _ _ _ 1 [.int .i64 1] from rfl) (aT.one (show Kd.M (Kd.int .i64) _ _ _ 1 [.int .i64 1] from rfl) (aT.one (show Kd.M (Kd.int .i64) _ _ _ 0 [.int .i64 0] from rfl) (aT.none _ _))))));intro hO hP a0 hb y z;clear y z;(first|rw[<-dv.out] at a0|(simp only[Int.reduceToNat] at a0;rw[<-dv.out] at a0));replace i:=bp i hb;replace q:=bp q hb;have s:=zA (Kd.bd (Kd.bQ a0 (Kd.ba (zR a))) (bH zB));replace a:=bS a a0 hb;replace b:=zb b hb;replace j:=zb j hb;replace l:=zS l hb;clear hb a0;obtain⟨d0,d1,fv⟩:=Kd.bh s.out;subst fv)|((with_reducible refine aJ (f:=32) rfl ?_);refine zL (some 34) Tryz.func32 #[.agg #[.int .i64 4,.slice J B.length G],.slice d0 bx.length d1] ?_;(with_reducible refine(eX.calls k 4 _ _ B _ _ bx t232 t235 _ ?al ?aj ?bl ?bm A2.out).mono ?_);(case al=>exact zC (Kd.aH i.out).2.2);(case aj=>exact(Kd.aH i.out).2.1);(case bl=>exact zC (Kd.aH s.out).2.2);(case bm=>exact(Kd.aH s.out).2.1);rintro e hQ ⟨v233,rfl,aa,hb⟩;refine⟨_,rfl,?_⟩;replace i:=bp i hb;replace q:=bp q hb;have m:=zA (Kd.bd (Kd.bQ (Kd.bQ aa (Kd.ba (zR a))) (Kd.ba (zR s))) (bH zB));replace a:=bS a aa hb;replace s:=bS s aa hb;replace b:=zb b hb;replace j:=zb j hb;replace l:=zS l hb;(try clear hb);(try clear aa);obtain⟨f0,f1,f2,f3⟩:=aA b)|((with_reducible refine aU (N:=39) rfl ?_);(try(refine ei (by rfl) ?_;dsimp only));refine Kd.e7 (Kd.int .i64) _ 3 ?hg (N:=39) ?hd (xs:=([1,1,1,0]:List Int)) (inner:=[.int .i64 1,.int .i64 1,.int .i64 1,.int .i64 0]) (ok:=fun _=>True) (okp:=fun _=>True) ?hr ?hp (fun _ hk=>hk) trivial (aq _ _) (aI _) (by simp) ?_;(case hd=>rfl);(case hg=>rfl);(case hr=>first|(go_simp;done)|(go_simp;rfl));(case hp=>exact(aT.one (show Kd.M (Kd.int .i64) _ _ _ 1 [.int .i64 1] from rfl) (aT.one (show Kd.M (Kd.int .i64) _ _ _ 1 [.int .i64 1] from rfl) (aT.one (show Kd.M (Kd.int .i64) _ _ _ 1 [.int .i64 1] from rfl) (aT.one (show Kd.M (Kd.int .i64) _ _ _ 0 [.int .i64 0] from rfl) (aT.none _ _))))));intro hR hT aF hb y z;clear y z;(first|rw[<-dx.out] at aF|(simp only[Int.reduceToNat] at aF;rw[<-dx.out] at aF));replace i:=bp i hb;replace q:=bp q hb;have u:=zA (Kd.bd (Kd.bQ (Kd.bQ (Kd.bQ aF (Kd.ba (zR a))) (Kd.ba (zR s))) (Kd.ba (zR m))) (bH zB));replace a:=bS a aF hb;replace s:=bS s aF hb;replace m:=bS m aF hb;replace b:=zb b hb;replace j:=zb j hb;replace l:=zS l hb;clear hb aF;obtain⟨d2,d3,f4⟩:=Kd.bh u.out;subst f4)|((with_reducible refine aJ (f:=27) rfl ?_);refine zL (some 40) Tryz.func27 #[.agg #[.int .i64 4,.slice J B.length G],.slice d2 b0.length d3] ?_;(with_reducible refine(iQ.calls k 4 _ _ B _ _ b0 t239 t240 _ ?al ?aj ?bl ?bm A3.out).mono ?_);(case al=>exact zC (Kd.aH i.out).2.2);(case aj=>exact(Kd.aH i.out).2.1);(case bl=>exact zC (Kd.aH u.out).2.2);(case bm=>exact(Kd.aH u.out).2.1);rintro e hV ⟨rfl,hb⟩;refine⟨_,rfl,?_⟩;replace i:=bp i hb;replace q:=bp q hb;replace a:=bp a hb;replace s:=bp s hb;replace m:=bp m hb;replace u:=bp u hb;replace b:=zb b hb;replace j:=zb j hb;replace l:=zS l hb;(try clear hb);obtain⟨f5,f6,f7,f8⟩:=aA j)|((with_reducible refine aJ (f:=15) rfl ?_);refine zL (some 45) Tryz.func15 #[.agg #[.int .i64 3,.slice L E.length O],.int .i64 0] ?_;(with_reducible refine(bK.calls k 3 _ _ E 0 t241 t244 _ ?al ?aj A4.out).mono ?_);(case al=>exact zC (Kd.aH q.out).2.2);(case aj=>exact(Kd.aH q.out).2.1);rintro e hW ⟨f9,rfl,aa,hb⟩;refine⟨_,rfl,?_⟩;have D:=zA (Kd.kF (Kd.eE (ok':=fun C=>some C≠(.slice J B.length G:Value).ownBlock/\some C≠(.slice L E.length O:Value).ownBlock/\some C≠(v226:Value).ownBlock/\some C≠(.slice d0 bx.length d1:Value).ownBlock/\some C≠(v233:Value).ownBlock/\some C≠(.slice d2 b0.length d3:Value).ownBlock/\C≠K/\C≠P) aa (fun C aL=>⟨(Kd.ly (Kd.ba (zR i)) C aL),(Kd.ly (Kd.ba (zR q)) C aL),(Kd.ly (Kd.ba (zR a)) C aL),(Kd.ly (Kd.ba (zR s)) C aL),(Kd.ly (Kd.ba (zR m)) C aL),(Kd.ly (Kd.ba (zR u)) C aL),(Kd.ma (zK b) C aL),(Kd.ma (zK j) C aL)⟩)) (bH zB));replace i:=bp i hb;replace q:=bp q hb;replace a:=bp a hb;replace s:=bp s hb;replace m:=bp m hb;replace u:=bp u hb;replace b:=zb b hb;replace j:=zb j hb;replace l:=zS l hb;(try clear hb);(try clear aa);obtain⟨f',ga,gb,gc⟩:=aA j)|((with_reducible refine aJ (f:=82) rfl ?_);refine zL (some 50) Tryz.func82 #[.agg #[.int .i64 3,.slice L E.length O],.int .i64 0] ?_;(with_reducible refine(gw.calls k 3 _ _ E 0 t245 t246 _ ?al ?aj A5.out).mono ?_);(case al=>exact zC (Kd.aH q.out).2.2);(case aj=>exact(Kd.aH q.out).2.1);rintro e hX ⟨rfl,hb⟩;refine⟨_,rfl,?_⟩;replace i:=bp i hb;replace q:=bp q hb;replace a:=bp a hb;replace s:=bp s hb;replace m:=bp m hb;replace u:=bp u hb;replace D:=BA D hb;replace b:=zb b hb;replace j:=zb j hb;replace l:=zS l hb;(try clear hb)))
 (try simp only[Act.put,List.setIfInBounds_toArray,List.set_cons_zero,List.set_cons_succ])
 go_cut [87] (fun v87 wc=>∃(kq:Nat) (b2:Bool),v87= .bool b2/\Aside0 (bI.j0 kq t241 b2=some r)/\Aside0 (kq<=k)/\Aside0 (Kd.N (Kd.slice 3 (Kd.int .i64)) 26 wc w.heap.size (fun C=>some C≠((.slice J B.length G):Value).ownBlock/\some C≠((.slice L E.length O):Value).ownBlock/\C≠K/\C≠P) f9 t241)/\Aside0 (Kd.R aN 83 wc w.heap.size (fun C=>some C≠((.slice L E.length O):Value).ownBlock) (.slice J B.length G) B)/\Aside0 (Kd.R aN 83 wc w.heap.size (fun C=>some C≠((.slice J B.length G):Value).ownBlock) (.slice L E.length O) E)/\Aside0 (wc.heap[K]? =some (.cells #[.int .i64 4,(.slice J B.length G)] 24 (0,0)))/\Aside0 (wc.heap[P]? =some (.cells #[.int .i64 3,(.slice L E.length O)] 24 (0,0)))/\Aside0 (Below w.heap.size w wc))
 case first=>
  have H:=cq.out;clear cq;by_cases a9:(wrap64 ((wrap64 ((wrap64 ((wrap64 (t228+t235))+t240))+t244))+t246))=0
  ·rw[if_pos a9] at H
   obtain⟨be,gd⟩:=bT a9;clear a9
   (first|rw[be]|(simp only[cH,cP];rw[be])|skip)
   obtain⟨a1,ct⟩:∃F:List Int,F=(([1,1,1,1]:List Int)):=⟨_,rfl⟩;replace H:((bt.f k t225 a1).bind fun t250=>(if t250=true then((bt.f k t232 (([0,0,0,1]:List Int))).bind fun t254=>(if t254=true then(if t239=1 then(if t245=0 then(bI.j0 k t241 ((t241.length:Int) != 2)) else(bI.j0 k t241 true)) else(bI.j0 k t241 true)) else(bI.j0 k t241 true))) else(bI.j0 k t241 true)))=some r:=zh ct H;have ab:=zA ct;clear ct;obtain⟨t250,bf,H⟩:=zo H;by_cases b3:t250=true
   ·subst b3
    replace H:=zi H;obtain⟨bg,cv⟩:∃F:List Int,F=(([0,0,0,1]:List Int)):=⟨_,rfl⟩;replace H:((bt.f k t232 bg).bind fun t254=>(if t254=true then(if t239=1 then(if t245=0 then(bI.j0 k t241 ((t241.length:Int) != 2)) else(bI.j0 k t241 true)) else(bI.j0 k t241 true)) else(bI.j0 k t241 true)))=some r:=zh cv H;have aO:=zA cv;clear cv;obtain⟨t254,b4,H⟩:=zo H;by_cases b5:t254=true
    ·subst b5
     replace H:=zi H;by_cases bi:t239=1
     ·rw[if_pos bi] at H
      obtain⟨ge,gf⟩:=bT bi;clear bi;by_cases bk:t245=0
      ·rw[if_pos bk] at H
       obtain⟨gg,gi⟩:=bT bk;clear bk;have T:=zA H;clear H;go_wp2_with (first|((with_reducible refine aU (N:=65) rfl ?_);(try(refine ei (by rfl) ?_;dsimp only));refine Kd.e7 (Kd.int .i64) _ 3 ?hg (N:=65) ?hd (xs:=([1,1,1,1]:List Int)) (inner:=[.int .i64 1,.int .i64 1,.int .i64 1,.int .i64 1]) (ok:=fun _=>True) (okp:=fun _=>True) ?hr ?hp (fun _ hk=>hk) trivial (aq _ _) (aI _) (by simp) ?_;(case hd=>rfl);(case hg=>rfl);(case hr=>first|(go_simp;done)|(go_simp;rfl));(case hp=>exact(aT.one (show Kd.M (Kd.int .i64) _ _ _ 1 [.int .i64 1] from rfl) (aT.one (show Kd.M (Kd.int .i64) _ _ _ 1 [.int .i64 1] from rfl) (aT.one (show Kd.M (Kd.int .i64) _ _ _ 1 [.int .i64 1] from rfl) (aT.one (show Kd.M (Kd.int .i64) _ _ _ 1 [.int .i64 1] from rfl) (aT.none _ _))))));intro b6 hY ad hb y z;clear y z;(first|rw[<-ab.out] at ad|(simp only[Int.reduceToNat] at ad;rw[<-ab.out] at ad));replace i:=bp i hb;replace q:=bp q hb;replace D:=ie D ad hb;have x:=zA (Kd.bd (Kd.bQ (Kd.bQ (Kd.bQ (Kd.bQ ad (Kd.ba (zR a))) (Kd.ba (zR s))) (Kd.ba (zR m))) (Kd.ba (zR u))) (bH zB));replace a:=bS a ad hb;replace s:=bS s ad hb;replace m:=bS m ad hb;replace u:=bS u ad hb;replace b:=zb b hb;replace j:=zb j hb;replace l:=zS l hb;clear hb ad;obtain⟨h0,h1,gl⟩:=Kd.bh a.out;subst gl;obtain⟨h2,h3,gm⟩:=Kd.bh x.out;subst gm)|(go_at_call 33;(with_reducible refine(bt.calls k _ _ t225 _ _ a1 true _ ?al ?aj ?bl ?bm bf.out).mono ?_);(case al=>exact zC (Kd.aH a.out).2.2);(case aj=>exact(Kd.aH a.out).2.1);(case bl=>exact zC (Kd.aH x.out).2.2);(case bm=>exact(Kd.aH x.out).2.1);rintro e w' ⟨rfl,⟨nd,rfl⟩⟩)|((with_reducible refine aU (N:=71) rfl ?_);(try(refine ei (by rfl) ?_;dsimp only));refine Kd.e7 (Kd.int .i64) _ 3 ?hg (N:=71) ?hd (xs:=([0,0,0,1]:List Int)) (inner:=[.int .i64 0,.int .i64 0,.int .i64 0,.int .i64 1]) (ok:=fun _=>True) (okp:=fun _=>True) ?hr ?hp (fun _ hk=>hk) trivial (aq _ _) (aI _) (by simp) ?_;(case hd=>rfl);(case hg=>rfl);(case hr=>first|(go_simp;done)|(go_simp;rfl));(case hp=>exact(aT.one (show Kd.M (Kd.int .i64) _ _ _ 0 [.int .i64 0] from rfl) (aT.one (show Kd.M (Kd.int .i64) _ _ _ 0 [.int .i64 0] from rfl) (aT.one (show Kd.M (Kd.int .i64) _ _ _ 0 [.int .i64 0] from rfl) (aT.one (show Kd.M (Kd.int .i64) _ _ _ 1 [.int .i64 1] from rfl) (aT.none _ _))))));intro cx h4 U hb y z;clear y z;(first|rw[<-aO.out] at U|(simp only[Int.reduceToNat] at U;rw[<-aO.out] at U));replace i:=bp i hb;replace q:=bp q hb;replace D:=ie D U hb;have I:=zA (Kd.bd (Kd.bQ (Kd.bQ (Kd.bQ (Kd.bQ (Kd.bQ U (Kd.ba (zR a))) (Kd.ba (zR s))) (Kd.ba (zR m))) (Kd.ba (zR u))) (Kd.ba (zR x))) (bH zB));replace a:=bS a U hb;replace s:=bS s U hb;replace m:=bS m U hb;replace u:=bS u U hb;replace x:=bS x U hb;replace b:=zb b hb;replace j:=zb j hb;replace l:=zS l hb;clear hb U;obtain⟨h5,h6,gn⟩:=Kd.bh m.out;subst gn;obtain⟨h7,h8,go⟩:=Kd.bh I.out;subst go)|(go_at_call 33;(with_reducible refine(bt.calls k _ _ t232 _ _ bg true _ ?al ?aj ?bl ?bm b4.out).mono ?_);(case al=>exact zC (Kd.aH m.out).2.2);(case aj=>exact(Kd.aH m.out).2.1);(case bl=>exact zC (Kd.aH I.out).2.2);(case bm=>exact(Kd.aH I.out).2.1);rintro e w' ⟨rfl,⟨nd,rfl⟩⟩;obtain⟨h9,h',gp⟩:=Kd.nf D.out;subst gp))
       go_meet
       case rel=>exact⟨_,(((t241.length:Int) != 2)),zT,T,⟨by first|omega|exact aI _⟩,⟨by(with_reducible repeat(first|apply Kd.e8|apply Kd.gP|apply Kd.gO));exact Kd.eE D.out (fun _ hk=>⟨hk.1.1.1,⟨hk.1.1.2.1,⟨hk.1.1.2.2.2.2.2.2.1,hk.1.1.2.2.2.2.2.2.2⟩⟩⟩)⟩,⟨by(with_reducible repeat(first|apply Kd.aM|apply Kd.bs|apply Kd.bj));exact Kd.a_ i.out (fun _ hk=>hk.2)⟩,⟨by(with_reducible repeat(first|apply Kd.aM|apply Kd.bs|apply Kd.bj));exact Kd.a_ q.out (fun _ hk=>hk.2)⟩,⟨zK b⟩,⟨zK j⟩,⟨zB⟩⟩
      ·rw[if_neg bk] at H
       obtain⟨gg,gi⟩:=bU bk;have T:=zA H;clear H;go_wp2_with (first|((with_reducible refine aU (N:=65) rfl ?_);(try(refine ei (by rfl) ?_;dsimp only));refine Kd.e7 (Kd.int .i64) _ 3 ?hg (N:=65) ?hd (xs:=([1,1,1,1]:List Int)) (inner:=[.int .i64 1,.int .i64 1,.int .i64 1,.int .i64 1]) (ok:=fun _=>True) (okp:=fun _=>True) ?hr ?hp (fun _ hk=>hk) trivial (aq _ _) (aI _) (by simp) ?_;(case hd=>rfl);(case hg=>rfl);(case hr=>first|(go_simp;done)|(go_simp;rfl));(case hp=>exact(aT.one (show Kd.M (Kd.int .i64) _ _ _ 1 [.int .i64 1] from rfl) (aT.one (show Kd.M (Kd.int .i64) _ _ _ 1 [.int .i64 1] from rfl) (aT.one (show Kd.M (Kd.int .i64) _ _ _ 1 [.int .i64 1] from rfl) (aT.one (show Kd.M (Kd.int .i64) _ _ _ 1 [.int .i64 1] from rfl) (aT.none _ _))))));intro b6 ib ak hb y z;clear y z;(first|rw[<-ab.out] at ak|(simp only[Int.reduceToNat] at ak;rw[<-ab.out] at ak));replace i:=bp i hb;replace q:=bp q hb;replace D:=ie D ak hb;have x:=zA (Kd.bd (Kd.bQ (Kd.bQ (Kd.bQ (Kd.bQ ak (Kd.ba (zR a))) (Kd.ba (zR s))) (Kd.ba (zR m))) (Kd.ba (zR u))) (bH zB));replace a:=bS a ak hb;replace s:=bS s ak hb;replace m:=bS m ak hb;replace u:=bS u ak hb;replace b:=zb b hb;replace j:=zb j hb;replace l:=zS l hb;clear hb ak;obtain⟨id,ih,gq⟩:=Kd.bh a.out;subst gq;obtain⟨ii,im,gr⟩:=Kd.bh x.out;subst gr)|(go_at_call 33;(with_reducible refine(bt.calls k _ _ t225 _ _ a1 true _ ?al ?aj ?bl ?bm bf.out).mono ?_);(case al=>exact zC (Kd.aH a.out).2.2);(case aj=>exact(Kd.aH a.out).2.1);(case bl=>exact zC (Kd.aH x.out).2.2);(case bm=>exact(Kd.aH x.out).2.1);rintro e w' ⟨rfl,⟨nd,rfl⟩⟩)|((with_reducible refine aU (N:=71) rfl ?_);(try(refine ei (by rfl) ?_;dsimp only));refine Kd.e7 (Kd.int .i64) _ 3 ?hg (N:=71) ?hd (xs:=([0,0,0,1]:List Int)) (inner:=[.int .i64 0,.int .i64 0,.int .i64 0,.int .i64 1]) (ok:=fun _=>True) (okp:=fun _=>True) ?hr ?hp (fun _ hk=>hk) trivial (aq _ _) (aI _) (by simp) ?_;(case hd=>rfl);(case hg=>rfl);(case hr=>first|(go_simp;done)|(go_simp;rfl));(case hp=>exact(aT.one (show Kd.M (Kd.int .i64) _ _ _ 0 [.int .i64 0] from rfl) (aT.one (show Kd.M (Kd.int .i64) _ _ _ 0 [.int .i64 0] from rfl) (aT.one (show Kd.M (Kd.int .i64) _ _ _ 0 [.int .i64 0] from rfl) (aT.one (show Kd.M (Kd.int .i64) _ _ _ 1 [.int .i64 1] from rfl) (aT.none _ _))))));intro cx io W hb y z;clear y z;(first|rw[<-aO.out] at W|(simp only[Int.reduceToNat] at W;rw[<-aO.out] at W));replace i:=bp i hb;replace q:=bp q hb;replace D:=ie D W hb;have I:=zA (Kd.bd (Kd.bQ (Kd.bQ (Kd.bQ (Kd.bQ (Kd.bQ W (Kd.ba (zR a))) (Kd.ba (zR s))) (Kd.ba (zR m))) (Kd.ba (zR u))) (Kd.ba (zR x))) (bH zB));replace a:=bS a W hb;replace s:=bS s W hb;replace m:=bS m W hb;replace u:=bS u W hb;replace x:=bS x W hb;replace b:=zb b hb;replace j:=zb j hb;replace l:=zS l hb;clear hb W;obtain⟨ip,it,gs⟩:=Kd.bh m.out;subst gs;obtain⟨iv,i0,gt⟩:=Kd.bh I.out;subst gt)|(go_at_call 33;(with_reducible refine(bt.calls k _ _ t232 _ _ bg true _ ?al ?aj ?bl ?bm b4.out).mono ?_);(case al=>exact zC (Kd.aH m.out).2.2);(case aj=>exact(Kd.aH m.out).2.1);(case bl=>exact zC (Kd.aH I.out).2.2);(case bm=>exact(Kd.aH I.out).2.1);rintro e w' ⟨rfl,⟨nd,rfl⟩⟩))
       go_meet
       case rel=>exact⟨_,(true),zT,T,⟨by first|omega|exact aI _⟩,⟨by(with_reducible repeat(first|apply Kd.e8|apply Kd.gP|apply Kd.gO));exact Kd.eE D.out (fun _ hk=>⟨hk.1.1.1,⟨hk.1.1.2.1,⟨hk.1.1.2.2.2.2.2.2.1,hk.1.1.2.2.2.2.2.2.2⟩⟩⟩)⟩,⟨by(with_reducible repeat(first|apply Kd.aM|apply Kd.bs|apply Kd.bj));exact Kd.a_ i.out (fun _ hk=>hk.2)⟩,⟨by(with_reducible repeat(first|apply Kd.aM|apply Kd.bs|apply Kd.bj));exact Kd.a_ q.out (fun _ hk=>hk.2)⟩,⟨zK b⟩,⟨zK j⟩,⟨zB⟩⟩
     ·rw[if_neg bi] at H
      obtain⟨ge,gf⟩:=bU bi;have T:=zA H;clear H;go_wp2_with (first|((with_reducible refine aU (N:=65) rfl ?_);(try(refine ei (by rfl) ?_;dsimp only));refine Kd.e7 (Kd.int .i64) _ 3 ?hg (N:=65) ?hd (xs:=([1,1,1,1]:List Int)) (inner:=[.int .i64 1,.int .i64 1,.int .i64 1,.int .i64 1]) (ok:=fun _=>True) (okp:=fun _=>True) ?hr ?hp (fun _ hk=>hk) trivial (aq _ _) (aI _) (by simp) ?_;(case hd=>rfl);(case hg=>rfl);(case hr=>first|(go_simp;done)|(go_simp;rfl));(case hp=>exact(aT.one (show Kd.M (Kd.int .i64) _ _ _ 1 [.int .i64 1] from rfl) (aT.one (show Kd.M (Kd.int .i64) _ _ _ 1 [.int .i64 1] from rfl) (aT.one (show Kd.M (Kd.int .i64) _ _ _ 1 [.int .i64 1] from rfl) (aT.one (show Kd.M (Kd.int .i64) _ _ _ 1 [.int .i64 1] from rfl) (aT.none _ _))))));intro b6 i1 am hb y z;clear y z;(first|rw[<-ab.out] at am|(simp only[Int.reduceToNat] at am;rw[<-ab.out] at am));replace i:=bp i hb;replace q:=bp q hb;replace D:=ie D am hb;have x:=zA (Kd.bd (Kd.bQ (Kd.bQ (Kd.bQ (Kd.bQ am (Kd.ba (zR a))) (Kd.ba (zR s))) (Kd.ba (zR m))) (Kd.ba (zR u))) (bH zB));replace a:=bS a am hb;replace s:=bS s am hb;replace m:=bS m am hb;replace u:=bS u am hb;replace b:=zb b hb;replace j:=zb j hb;replace l:=zS l hb;clear hb am;obtain⟨i2,i3,gx⟩:=Kd.bh a.out;subst gx;obtain⟨i4,i5,g0⟩:=Kd.bh x.out;subst g0)|(go_at_call 33;(with_reducible refine(bt.calls k _ _ t225 _ _ a1 true _ ?al ?aj ?bl ?bm bf.out).mono ?_);(case al=>exact zC (Kd.aH a.out).2.2);(case aj=>exact(Kd.aH a.out).2.1);(case bl=>exact zC (Kd.aH x.out).2.2);(case bm=>exact(Kd.aH x.out).2.1);rintro e w' ⟨rfl,⟨nd,rfl⟩⟩)|((with_reducible refine aU (N:=71) rfl ?_);(try(refine ei (by rfl) ?_;dsimp only));refine Kd.e7 (Kd.int .i64) _ 3 ?hg (N:=71) ?hd (xs:=([0,0,0,1]:List Int)) (inner:=[.int .i64 0,.int .i64 0,.int .i64 0,.int .i64 1]) (ok:=fun _=>True) (okp:=fun _=>True) ?hr ?hp (fun _ hk=>hk) trivial (aq _ _) (aI _) (by simp) ?_;(case hd=>rfl);(case hg=>rfl);(case hr=>first|(go_simp;done)|(go_simp;rfl));(case hp=>exact(aT.one (show Kd.M (Kd.int .i64) _ _ _ 0 [.int .i64 0] from rfl) (aT.one (show Kd.M (Kd.int .i64) _ _ _ 0 [.int .i64 0] from rfl) (aT.one (show Kd.M (Kd.int .i64) _ _ _ 0 [.int .i64 0] from rfl) (aT.one (show Kd.M (Kd.int .i64) _ _ _ 1 [.int .i64 1] from rfl) (aT.none _ _))))));intro cx i6 X hb y z;clear y z;(first|rw[<-aO.out] at X|(simp only[Int.reduceToNat] at X;rw[<-aO.out] at X));replace i:=bp i hb;replace q:=bp q hb;replace D:=ie D X hb;have I:=zA (Kd.bd (Kd.bQ (Kd.bQ (Kd.bQ (Kd.bQ (Kd.bQ X (Kd.ba (zR a))) (Kd.ba (zR s))) (Kd.ba (zR m))) (Kd.ba (zR u))) (Kd.ba (zR x))) (bH zB));replace a:=bS a X hb;replace s:=bS s X hb;replace m:=bS m X hb;replace u:=bS u X hb;replace x:=bS x X hb;replace b:=zb b hb;replace j:=zb j hb;replace l:=zS l hb;clear hb X;obtain⟨i7,i8,g1⟩:=Kd.bh m.out;subst g1;obtain⟨i9,i_,g2⟩:=Kd.bh I.out;subst g2)|(go_at_call 33;(with_reducible refine(bt.calls k _ _ t232 _ _ bg true _ ?al ?aj ?bl ?bm b4.out).mono ?_);(case al=>exact zC (Kd.aH m.out).2.2);(case aj=>exact(Kd.aH m.out).2.1);(case bl=>exact zC (Kd.aH I.out).2.2);(case bm=>exact(Kd.aH I.out).2.1);rintro e w' ⟨rfl,⟨nd,rfl⟩⟩))
      go_meet
      case rel=>exact⟨_,(true),zT,T,⟨by first|omega|exact aI _⟩,⟨by(with_reducible repeat(first|apply Kd.e8|apply Kd.gP|apply Kd.gO));exact Kd.eE D.out (fun _ hk=>⟨hk.1.1.1,⟨hk.1.1.2.1,⟨hk.1.1.2.2.2.2.2.2.1,hk.1.1.2.2.2.2.2.2.2⟩⟩⟩)⟩,⟨by(with_reducible repeat(first|apply Kd.aM|apply Kd.bs|apply Kd.bj));exact Kd.a_ i.out (fun _ hk=>hk.2)⟩,⟨by(with_reducible repeat(first|apply Kd.aM|apply Kd.bs|apply Kd.bj));exact Kd.a_ q.out (fun _ hk=>hk.2)⟩,⟨zK b⟩,⟨zK j⟩,⟨zB⟩⟩
    ·replace b5:=Bool.eq_false_iff.mpr b5
     subst b5;replace H:=zj H;have T:=zA H;clear H;go_wp2_with (first|((with_reducible refine aU (N:=65) rfl ?_);(try(refine ei (by rfl) ?_;dsimp only));refine Kd.e7 (Kd.int .i64) _ 3 ?hg (N:=65) ?hd (xs:=([1,1,1,1]:List Int)) (inner:=[.int .i64 1,.int .i64 1,.int .i64 1,.int .i64 1]) (ok:=fun _=>True) (okp:=fun _=>True) ?hr ?hp (fun _ hk=>hk) trivial (aq _ _) (aI _) (by simp) ?_;(case hd=>rfl);(case hg=>rfl);(case hr=>first|(go_simp;done)|(go_simp;rfl));(case hp=>exact(aT.one (show Kd.M (Kd.int .i64) _ _ _ 1 [.int .i64 1] from rfl) (aT.one (show Kd.M (Kd.int .i64) _ _ _ 1 [.int .i64 1] from rfl) (aT.one (show Kd.M (Kd.int .i64) _ _ _ 1 [.int .i64 1] from rfl) (aT.one (show Kd.M (Kd.int .i64) _ _ _ 1 [.int .i64 1] from rfl) (aT.none _ _))))));intro b6 jj an hb y z;clear y z;(first|rw[<-ab.out] at an|(simp only[Int.reduceToNat] at an;rw[<-ab.out] at an));replace i:=bp i hb;replace q:=bp q hb;replace D:=ie D an hb;have x:=zA (Kd.bd (Kd.bQ (Kd.bQ (Kd.bQ (Kd.bQ an (Kd.ba (zR a))) (Kd.ba (zR s))) (Kd.ba (zR m))) (Kd.ba (zR u))) (bH zB));replace a:=bS a an hb;replace s:=bS s an hb;replace m:=bS m an hb;replace u:=bS u an hb;replace b:=zb b hb;replace j:=zb j hb;replace l:=zS l hb;clear hb an;obtain⟨jp,j1,g3⟩:=Kd.bh a.out;subst g3;obtain⟨j2,j3,g4⟩:=Kd.bh x.out;subst g4)|(go_at_call 33;(with_reducible refine(bt.calls k _ _ t225 _ _ a1 true _ ?al ?aj ?bl ?bm bf.out).mono ?_);(case al=>exact zC (Kd.aH a.out).2.2);(case aj=>exact(Kd.aH a.out).2.1);(case bl=>exact zC (Kd.aH x.out).2.2);(case bm=>exact(Kd.aH x.out).2.1);rintro e w' ⟨rfl,⟨nd,rfl⟩⟩)|((with_reducible refine aU (N:=71) rfl ?_);(try(refine ei (by rfl) ?_;dsimp only));refine Kd.e7 (Kd.int .i64) _ 3 ?hg (N:=71) ?hd (xs:=([0,0,0,1]:List Int)) (inner:=[.int .i64 0,.int .i64 0,.int .i64 0,.int .i64 1]) (ok:=fun _=>True) (okp:=fun _=>True) ?hr ?hp (fun _ hk=>hk) trivial (aq _ _) (aI _) (by simp) ?_;(case hd=>rfl);(case hg=>rfl);(case hr=>first|(go_simp;done)|(go_simp;rfl));(case hp=>exact(aT.one (show Kd.M (Kd.int .i64) _ _ _ 0 [.int .i64 0] from rfl) (aT.one (show Kd.M (Kd.int .i64) _ _ _ 0 [.int .i64 0] from rfl) (aT.one (show Kd.M (Kd.int .i64) _ _ _ 0 [.int .i64 0] from rfl) (aT.one (show Kd.M (Kd.int .i64) _ _ _ 1 [.int .i64 1] from rfl) (aT.none _ _))))));intro cx j_ Y hb y z;clear y z;(first|rw[<-aO.out] at Y|(simp only[Int.reduceToNat] at Y;rw[<-aO.out] at Y));replace i:=bp i hb;replace q:=bp q hb;replace D:=ie D Y hb;have I:=zA (Kd.bd (Kd.bQ (Kd.bQ (Kd.bQ (Kd.bQ (Kd.bQ Y (Kd.ba (zR a))) (Kd.ba (zR s))) (Kd.ba (zR m))) (Kd.ba (zR u))) (Kd.ba (zR x))) (bH zB));replace a:=bS a Y hb;replace s:=bS s Y hb;replace m:=bS m Y hb;replace u:=bS u Y hb;replace x:=bS x Y hb;replace b:=zb b hb;replace j:=zb j hb;replace l:=zS l hb;clear hb Y;obtain⟨j',kd,g5⟩:=Kd.bh m.out;subst g5;obtain⟨kh,kk,g6⟩:=Kd.bh I.out;subst g6)|(go_at_call 33;(with_reducible refine(bt.calls k _ _ t232 _ _ bg false _ ?al ?aj ?bl ?bm b4.out).mono ?_);(case al=>exact zC (Kd.aH m.out).2.2);(case aj=>exact(Kd.aH m.out).2.1);(case bl=>exact zC (Kd.aH I.out).2.2);(case bm=>exact(Kd.aH I.out).2.1);rintro e w' ⟨rfl,⟨nd,rfl⟩⟩))
     go_meet
     case rel=>exact⟨_,(true),zT,T,⟨by first|omega|exact aI _⟩,⟨by(with_reducible repeat(first|apply Kd.e8|apply Kd.gP|apply Kd.gO));exact Kd.eE D.out (fun _ hk=>⟨hk.1.1.1,⟨hk.1.1.2.1,⟨hk.1.1.2.2.2.2.2.2.1,hk.1.1.2.2.2.2.2.2.2⟩⟩⟩)⟩,⟨by(with_reducible repeat(first|apply Kd.aM|apply Kd.bs|apply Kd.bj));exact Kd.a_ i.out (fun _ hk=>hk.2)⟩,⟨by(with_reducible repeat(first|apply Kd.aM|apply Kd.bs|apply Kd.bj));exact Kd.a_ q.out (fun _ hk=>hk.2)⟩,⟨zK b⟩,⟨zK j⟩,⟨zB⟩⟩
   ·replace b3:=Bool.eq_false_iff.mpr b3
    subst b3;replace H:=zj H;have T:=zA H;clear H;go_wp2_with (first|((with_reducible refine aU (N:=65) rfl ?_);(try(refine ei (by rfl) ?_;dsimp only));refine Kd.e7 (Kd.int .i64) _ 3 ?hg (N:=65) ?hd (xs:=([1,1,1,1]:List Int)) (inner:=[.int .i64 1,.int .i64 1,.int .i64 1,.int .i64 1]) (ok:=fun _=>True) (okp:=fun _=>True) ?hr ?hp (fun _ hk=>hk) trivial (aq _ _) (aI _) (by simp) ?_;(case hd=>rfl);(case hg=>rfl);(case hr=>first|(go_simp;done)|(go_simp;rfl));(case hp=>exact(aT.one (show Kd.M (Kd.int .i64) _ _ _ 1 [.int .i64 1] from rfl) (aT.one (show Kd.M (Kd.int .i64) _ _ _ 1 [.int .i64 1] from rfl) (aT.one (show Kd.M (Kd.int .i64) _ _ _ 1 [.int .i64 1] from rfl) (aT.one (show Kd.M (Kd.int .i64) _ _ _ 1 [.int .i64 1] from rfl) (aT.none _ _))))));intro b6 kl ap hb y z;clear y z;(first|rw[<-ab.out] at ap|(simp only[Int.reduceToNat] at ap;rw[<-ab.out] at ap));replace i:=bp i hb;replace q:=bp q hb;replace D:=ie D ap hb;have x:=zA (Kd.bd (Kd.bQ (Kd.bQ (Kd.bQ (Kd.bQ ap (Kd.ba (zR a))) (Kd.ba (zR s))) (Kd.ba (zR m))) (Kd.ba (zR u))) (bH zB));replace a:=bS a ap hb;replace s:=bS s ap hb;replace m:=bS m ap hb;replace u:=bS u ap hb;replace b:=zb b hb;replace j:=zb j hb;replace l:=zS l hb;clear hb ap;obtain⟨km,ks,g7⟩:=Kd.bh a.out;subst g7;obtain⟨kt,kv,g8⟩:=Kd.bh x.out;subst g8)|(go_at_call 33;(with_reducible refine(bt.calls k _ _ t225 _ _ a1 false _ ?al ?aj ?bl ?bm bf.out).mono ?_);(case al=>exact zC (Kd.aH a.out).2.2);(case aj=>exact(Kd.aH a.out).2.1);(case bl=>exact zC (Kd.aH x.out).2.2);(case bm=>exact(Kd.aH x.out).2.1);rintro e w' ⟨rfl,⟨nd,rfl⟩⟩))
    go_meet
    case rel=>exact⟨_,(true),zT,T,⟨by first|omega|exact aI _⟩,⟨by(with_reducible repeat(first|apply Kd.e8|apply Kd.gP|apply Kd.gO));exact Kd.eE D.out (fun _ hk=>⟨hk.1.1,⟨hk.1.2.1,⟨hk.1.2.2.2.2.2.2.1,hk.1.2.2.2.2.2.2.2⟩⟩⟩)⟩,⟨by(with_reducible repeat(first|apply Kd.aM|apply Kd.bs|apply Kd.bj));exact Kd.a_ i.out (fun _ hk=>hk.2)⟩,⟨by(with_reducible repeat(first|apply Kd.aM|apply Kd.bs|apply Kd.bj));exact Kd.a_ q.out (fun _ hk=>hk.2)⟩,⟨zK b⟩,⟨zK j⟩,⟨zB⟩⟩
  ·rw[if_neg a9] at H
   obtain⟨be,gd⟩:=bU a9
   (first|rw[be]|(simp only[cH,cP];rw[be])|skip)
   have T:=zA H;clear H;go_wp2;go_meet
   case rel=>exact⟨_,(true),zT,T,⟨by first|omega|exact aI _⟩,⟨by(with_reducible repeat(first|apply Kd.e8|apply Kd.gP|apply Kd.gO));exact Kd.eE D.out (fun _ hk=>⟨hk.1,⟨hk.2.1,⟨hk.2.2.2.2.2.2.1,hk.2.2.2.2.2.2.2⟩⟩⟩)⟩,⟨by(with_reducible repeat(first|apply Kd.aM|apply Kd.bs|apply Kd.bj));exact Kd.a_ i.out (fun _ hk=>hk.2)⟩,⟨by(with_reducible repeat(first|apply Kd.aM|apply Kd.bs|apply Kd.bj));exact Kd.a_ q.out (fun _ hk=>hk.2)⟩,⟨zK b⟩,⟨zK j⟩,⟨zB⟩⟩
 case rest=>
  clear cq;clear ew ex e3 e4 e' fb fo fq f0 f1 f5 f6 f' ga ey e0 e5 e6 fd fn fr ft f2 f3 f7 f8 gb gc;obtain⟨kq,b2,rfl,HA,kw,Z,b_,b',b,j,l⟩:=hcut;cases kq with
  |zero=>exact absurd HA.out (by simp[bI.j0])
  |succ bn=>
   have H:=HA.out;clear HA;simp only[bI.j0] at H;by_cases ca:b2=true
   ·subst ca
    replace H:=zi H;exact absurd ((aQ H).trans hr.out) (by decide)
   ·replace ca:=Bool.eq_false_iff.mpr ca
    subst ca;replace H:=zj H;by_cases cb:0<(t241.length:Int)
    ·rw[if_pos cb] at H
     have kW:=ay cb;have k0:decide (0<t241.length)=true:=ay (by omega);clear cb;obtain⟨c1,c2⟩:∃F:List Int,F=(([(-1),0,1]:List Int)):=⟨_,rfl⟩;replace H:((bt.f bn (a6 t241 0) c1).bind fun t259=>(if t259=true then(if 1<(t241.length:Int) then((bt.f bn (a6 t241 1) (([(-1),1,0]:List Int))).bind fun t264=>(some t264)) else(none)) else(some false)))=some r:=zh c2 H;have d4:=zA c2;clear c2;obtain⟨t259,g9,H⟩:=zo H;by_cases cc:t259=true
     ·subst cc
      replace H:=zi H;by_cases cd:1<(t241.length:Int)
      ·rw[if_pos cd] at H
       have k1:=ay cd;have k2:decide (1<t241.length)=true:=ay (by omega);clear cd;obtain⟨d5,c4⟩:∃F:List Int,F=(([(-1),1,0]:List Int)):=⟨_,rfl⟩;replace H:((bt.f bn (a6 t241 1) d5).bind fun t264=>(some t264))=some r:=zh c4 H;have d6:=zA c4;clear c4;obtain⟨t264,g',H⟩:=zo H;obtain rfl:=aQ H;obtain⟨k3,k4,ha⟩:=Kd.nf Z.out;subst ha;have ce:0<=(0:Int):=(by omega);have cf:0<(t241.length:Int):=aw ‹_›;obtain⟨hc,he,hf,hh,c5,d7,d8⟩:=gQ (Kd.iR Z.out).2.2 0 ce cf;cases hh;obtain⟨k5,hj,hl,d9⟩:=Kd.oM Z.out [] 0 ce (by first|exact cf|exact aw ‹_› |(have e_:=(Kd.iR Z.out).1;omega));obtain⟨k6,k7,rfl,c6,c7⟩:=Kd.lE hl;have cg:=d9 0 _ rfl;rw[Nat.add_zero,show ((Kd.slice 3 (Kd.int .i64))).sz=1 from rfl,Nat.mul_one] at cg;replace cg:=aQ (cg.symm.trans c5);injection cg with bo c8 bv
       rw[bo] at c7;rw[bv] at c6;have ch:=zA (show Kd.V (Kd.int .i64) 3 _ w.heap.size _ _ (a6 t241 0) from Kd.qG c6 c7);clear bo c8 bv c7 c6;clear d9 hj;have k8:(0<t241.length)=True:=eq_true (by omega)
       (try rw[show ((0:Int)).toNat=0 from rfl] at c5)
       (try rw[Addr.add_zero'] at c5)
       have aP:=zA d8;have hn:=zA d7;clear d8 d7;replace ce:=eq_true ce;replace cf:=eq_true cf;go_wp2_with (first|((with_reducible refine aU (N:=91) rfl ?_);(try(refine ei (by rfl) ?_;dsimp only));refine Kd.e7 (Kd.int .i64) _ 3 ?hg (N:=91) ?hd (xs:=([(-1),0,1]:List Int)) (inner:=[.int .i64 (-1),.int .i64 0,.int .i64 1]) (ok:=fun _=>True) (okp:=fun _=>True) ?hr ?hp (fun _ hk=>hk) trivial (aq _ _) (aI _) (by simp) ?_;(case hd=>rfl);(case hg=>rfl);(case hr=>first|(go_simp;done)|(go_simp;rfl));(case hp=>exact(aT.one (show Kd.M (Kd.int .i64) _ _ _ (-1) [.int .i64 (-1)] from rfl) (aT.one (show Kd.M (Kd.int .i64) _ _ _ 0 [.int .i64 0] from rfl) (aT.one (show Kd.M (Kd.int .i64) _ _ _ 1 [.int .i64 1] from rfl) (aT.none _ _)))));intro k9 la aR hb y z;clear y z;(first|rw[<-d4.out] at aR|(simp only[Int.reduceToNat] at aR;rw[<-d4.out] at aR));replace Z:=ie Z aR hb;replace b_:=bp b_ hb;replace b':=bp b' hb;replace ch:=zA (Kd.oP (by(with_reducible repeat(first|apply Kd.V_alloc|apply Kd.mo|apply Kd.V_drew));exact ch.out) (Kd.dK aR) hb);have a2:=zA (Kd.bd aR (bH zB));replace b:=zb b hb;replace j:=zb j hb;replace aP:=zA (Kd.ax (by repeat(first|(with_reducible exact aP.out)|(with_reducible refine Kd.bz ?_ _)|(with_reducible refine Kd.gy ?_ _)|(with_reducible refine Kd.fD ?_)|exact aP.out)) hb);replace l:=zS l hb;clear hb aR;obtain⟨ho,hq,hs⟩:=Kd.bh a2.out;subst hs)|((with_reducible refine aJ (f:=33) rfl ?_);refine zL (some 92) Tryz.func33 #[.slice he (a6 t241 0).length hf,.slice ho c1.length hq] ?_;(with_reducible refine(bt.calls bn _ _ (a6 t241 0) _ _ c1 true _ ?al ?aj ?bl ?bm g9.out).mono ?_);(case al=>repeat(first|exact(by repeat(first|(with_reducible exact aP.out)|(with_reducible refine Kd.bz ?_ _)|(with_reducible refine Kd.gy ?_ _)|(with_reducible refine Kd.fD ?_)|exact aP.out))|(with_reducible refine Kd.bz ?_ _)|(with_reducible refine Kd.gy ?_ _)|(with_reducible refine Kd.fD ?_)));(case aj=>exact hn.out);(case bl=>exact zC (Kd.aH a2.out).2.2);(case bm=>exact(Kd.aH a2.out).2.1);rintro e w' ⟨rfl,⟨nd,rfl⟩⟩;refine⟨_,rfl,?_⟩;have ci:0<=(1:Int):=(by omega);have cj:1<(t241.length:Int):=aw ‹_›;obtain⟨ht,lb,lc,hv,c9,ea,eb⟩:=gQ (Kd.iR Z.out).2.2 1 ci cj;obtain rfl:hc=ht:=(by injection hv);obtain⟨ld,hw,hx,ed⟩:=Kd.oM Z.out [] 1 ci (by first|exact cj|exact aw ‹_› |(have e_:=(Kd.iR Z.out).1;omega));obtain⟨le,lf,rfl,c',dd⟩:=Kd.lE hx;have ck:=ed 0 _ rfl;rw[Nat.add_zero,show ((Kd.slice 3 (Kd.int .i64))).sz=1 from rfl,Nat.mul_one] at ck;replace ck:=aQ (ck.symm.trans c9);injection ck with bo c8 bv;rw[bo] at dd;rw[bv] at c';have eg:=zA (show Kd.V (Kd.int .i64) 3 _ w.heap.size _ _ (a6 t241 1) from Kd.qG c' dd);clear bo c8 bv dd c';clear ed hw;(try simp only[show (1:Int).toNat=1 from rfl,Nat.reduceMul,Nat.reduceEqDiff,Go.Addr.add,↓reduceIte] at c9);have lg:(1<t241.length)=True:=eq_true (by omega);(try rw[show ((1:Int)).toNat=1 from rfl] at c9);have bw:=zA eb;have hy:=zA ea;clear eb ea;replace ci:=eq_true ci;replace cj:=eq_true cj)|((with_reducible refine aU (N:=97) rfl ?_);(try(refine ei (by rfl) ?_;dsimp only));refine Kd.e7 (Kd.int .i64) _ 3 ?hg (N:=97) ?hd (xs:=([(-1),1,0]:List Int)) (inner:=[.int .i64 (-1),.int .i64 1,.int .i64 0]) (ok:=fun _=>True) (okp:=fun _=>True) ?hr ?hp (fun _ hk=>hk) trivial (aq _ _) (aI _) (by simp) ?_;(case hd=>rfl);(case hg=>rfl);(case hr=>first|(go_simp;done)|(go_simp;rfl));(case hp=>exact(aT.one (show Kd.M (Kd.int .i64) _ _ _ (-1) [.int .i64 (-1)] from rfl) (aT.one (show Kd.M (Kd.int .i64) _ _ _ 1 [.int .i64 1] from rfl) (aT.one (show Kd.M (Kd.int .i64) _ _ _ 0 [.int .i64 0] from rfl) (aT.none _ _)))));intro li lj av hb y z;clear y z;(first|rw[<-d6.out] at av|(simp only[Int.reduceToNat] at av;rw[<-d6.out] at av));replace Z:=ie Z av hb;replace b_:=bp b_ hb;replace b':=bp b' hb;replace ch:=zA (Kd.oP (by(with_reducible repeat(first|apply Kd.V_alloc|apply Kd.mo|apply Kd.V_drew));exact ch.out) (Kd.dK av) hb);replace eg:=zA (Kd.oP (by(with_reducible repeat(first|apply Kd.V_alloc|apply Kd.mo|apply Kd.V_drew));exact eg.out) (Kd.dK av) hb);have dk:=zA (Kd.bd (Kd.bQ av (Kd.ba (zR a2))) (bH zB));replace a2:=bS a2 av hb;replace b:=zb b hb;replace j:=zb j hb;replace aP:=zA (Kd.ax (by repeat(first|(with_reducible exact aP.out)|(with_reducible refine Kd.bz ?_ _)|(with_reducible refine Kd.gy ?_ _)|(with_reducible refine Kd.fD ?_)|exact aP.out)) hb);replace bw:=zA (Kd.ax (by repeat(first|(with_reducible exact bw.out)|(with_reducible refine Kd.bz ?_ _)|(with_reducible refine Kd.gy ?_ _)|(with_reducible refine Kd.fD ?_)|exact bw.out)) hb);replace l:=zS l hb;clear hb av;obtain⟨lk,lm,hz⟩:=Kd.bh dk.out;subst hz)|(go_at_call 33;(with_reducible refine(bt.calls bn _ _ (a6 t241 1) _ _ d5 t264 _ ?al ?aj ?bl ?bm g'.out).mono ?_);(case al=>repeat(first|exact(by repeat(first|(with_reducible exact bw.out)|(with_reducible refine Kd.bz ?_ _)|(with_reducible refine Kd.gy ?_ _)|(with_reducible refine Kd.fD ?_)|exact bw.out))|(with_reducible refine Kd.bz ?_ _)|(with_reducible refine Kd.gy ?_ _)|(with_reducible refine Kd.fD ?_)));(case aj=>exact hy.out);(case bl=>exact zC (Kd.aH dk.out).2.2);(case bm=>exact(Kd.aH dk.out).2.1);rintro e w' ⟨rfl,⟨nd,rfl⟩⟩))
       go_ret;exact⟨zE,zB⟩
      ·rw[if_neg cd] at H
       exact absurd H (by simp)
     ·replace cc:=Bool.eq_false_iff.mpr cc
      subst cc;replace H:=zj H;exact absurd ((aQ H).trans hr.out) (by decide)
    ·rw[if_neg cb] at H
     exact absurd H (by simp)
end
def et:List S83:=[⟨0,1,1⟩,⟨0,2,1⟩,⟨0,3,1⟩,⟨1,2,1⟩,⟨1,3,1⟩,⟨2,3,1⟩]
theorem Hi:Ev (fun k=>ff.f k 4 et) (([1,1,1,1]:List Int),(0:Int)):=Ev.at_ (ff.mono _ _) (k:=60) (by decide+kernel)
theorem Hk:Ev (fun k=>gv.f k 4 et) ((4:Int),et,(0:Int)):=Ev.at_ (gv.mono _ _) (k:=60) (by kernel_rfl)
theorem Hl:Ev (fun k=>fi.f k 4 et) ((3:Int),(0:Int)):=Ev.at_ (fi.mono _ _) (k:=60) (by decide+kernel)
theorem xW:Ev (fun k=>eX.f k 4 et [1,1,1,0]) (([0,0,0,1]:List Int),(0:Int)):=Ev.at_ (eX.mono _ _ _) (k:=60) (by decide+kernel)
theorem xX {d:List Int} (h:jn 4 et 0 d=true):dT 4 0 et d:=by
 obtain⟨n,q,hn,a,h1⟩:=pP h;obtain rfl:n=4:=by omega
 obtain rfl:q=0:=by omega
 exact h1
theorem Hm:cw ((4:Nat):Int) et=0:=by decide+kernel
theorem xY:T.ee 4 (ae et) 3:=show T.sN (T.can 4 (ae et)) 4=2*3-2 from by decide+kernel
theorem pU:dT 4 0 et [1,1,1,0]:=xX (by decide+kernel)
theorem Hn:dT 4 0 et [0,0,0,1]:=xX (by decide+kernel)
theorem xZ {d:List Int} (h:dT 4 0 et d) {r:Int} (a:Rk 4 (ae et) d r):Ev (fun k=>eK.f k 4 et d) (r,(0:Int)):=
 xT (n:=4) h Hm Hk Hl xY a
theorem sC:T.Wt 4 (ae et):=pU.right.wt
theorem Ho:T.dB 4 (ae et):=pU.right.conn pU.conn
theorem Hp:∃a b:Int,Rk 4 (ae et) [1,1,1,0] a/\Rk 4 (ae et) [0,0,0,1] b/\a-b=1:=by
 obtain⟨a,e⟩:=T.ke sC (by decide) (fun v=>rd [1,1,1,0] (v:Nat));obtain⟨b,hb⟩:=T.ke sC (by decide) (fun v=>rd [0,0,0,1] (v:Nat));have g:T.cm 4 (ae et) (fun v=>T.can 4 (ae et) v-rd [1,1,1,0] (v:Nat)) b:=sr (fun v i=>by
  match v,i with
  |0,_=>decide+kernel
  |1,_=>decide+kernel
  |2,_=>decide+kernel
  |3,_=>decide+kernel) hb
 have h:=T.xe sC Ho (by decide) xY e g;have j:T.sN (fun v=>rd [1,1,1,0] (v:Nat)) 4=3:=by decide+kernel
 rw[j] at h;exact⟨a,b,e,hb,by omega⟩
theorem Hq:Ev (fun k=>iQ.f k 4 et [1,1,1,0]) ((1:Int),(0:Int)):=by
 obtain⟨a,b,e,hb,g⟩:=Hp;unfold iQ.f;refine Ev.bind xW ?_;simp only[if_true];refine Ev.bind (xZ pU e) ?_;simp only[if_true];refine Ev.bind (xZ Hn hb) ?_;simp only[if_true,g,show wrap64 1=1 from by unfold wrap64;omega];exact Ev.const _
theorem Hu:Ev (fun k=>bK.f k 3 cK 0) (([[-1,0,1],[-1,1,0]]:List (List Int)),(0:Int)):=Ev.at_ (bK.mono _ _ _) (k:=60) (by decide+kernel)
theorem x_ {a b:List Int} {r:Bool} (h:bt.f 60 a b=some r):Ev (fun k=>bt.f k a b) r:=Ev.at_ (bt.mono _ _) (k:=60) h
theorem Hv:Ev (fun k=>bI.f k) true:=by
 unfold bI.f;refine Ev.bind (a:=et) (Ev.const _) ?_;refine Ev.bind (a:=cK) (Ev.const _) ?_;refine Ev.bind Hi ?_;refine Ev.bind xW ?_;refine Ev.bind Hq ?_;refine Ev.bind Hu ?_;refine Ev.bind Hh ?_;simp only[show wrap64 (wrap64 (wrap64 (wrap64 (0+0)+0)+0)+0)=0 from by unfold wrap64;omega,if_true];refine Ev.bind (x_ (r:=true) (by decide+kernel)) ?_;simp only[if_true];refine Ev.bind (x_ (r:=true) (by decide+kernel)) ?_;simp only[if_true];exact Ev.at_ (fun k=>bI.cD k _ _) (k:=60) (by decide+kernel)
def sD.f:Option (Bool):=some true
theorem sD.calls (r:Bool) (w:World) (h:sD.f=some r):
  Calls Tryz.prog 26 #[] w fun e w'=>e= .returned (.bool r)/\Below w.heap.size w w':=by
 obtain rfl:=aQ h;obtain⟨k,hk⟩:=Hv.get;exact bI.calls k true ⟨rfl⟩ w hk
end Go.Proofs.YtffdiakgjakngaaGreat.P
namespace Go.Proofs.YtffdiakgjakngaaGreat.T
set_option linter.unusedVariables false
set_option linter.unusedSimpArgs false
set_option maxHeartbeats 8000000
set_option maxRecDepth 100000
theorem Hw {n:Nat} {t:Nat->Nat->Int} (a:Wt n t) (b:dB n t) (hn:0<n) {g:Int} (e:ee n t g) {D:Nat->Int} (hd:g<=sN D n):bP n t D:=by
 refine Classical.byContradiction fun h=>?_
 obtain⟨pos,hi,hw⟩:=(xc a b hn D).1 h;have h1:=hw.bb a;rw[dA,pM a e hi] at h1;omega
theorem Hx {n:Nat} {t:Nat->Nat->Int} (a:Wt n t) (q:Nat) (pos:Nat->Nat):iK n t q (nu n t pos):=fun S hS j=>by
 obtain⟨v,⟨b,g⟩,i⟩:=exists_least (P:=fun v=>v<n/\S v=true) pos hS;refine⟨v,b,g,?_⟩;unfold nu gh;have:sN (fun u=>if pos u<pos v then t v u else 0) n<=sN (fun u=>if S u=false then t v u else 0) n:=cW fun u hu=>by
  show (if pos u<pos v then t v u else 0)<=(if S u=false then t v u else 0)
  have hp:=a.pos v u;by_cases e:pos u<pos v
  ·have hf:S u=false:=by
    cases h:S u with
    |false=>rfl
    |true=>have:=i u ⟨hu,h⟩;omega
   rw[if_pos e,if_pos hf];omega
  ·rw[if_neg e];split<;>omega
 omega
theorem iK.down {n:Nat} {t:Nat->Nat->Int} {q:Nat} {c b:Nat->Int} (h:iK n t q c) (hle:∀v,v<n->v≠q->b v<=c v):iK n t q b:=fun S hS a=>by
 obtain⟨v,g,i,j⟩:=h S hS a;have:=hle v g (fun e=>by subst e;rw[i] at a;cases a);exact⟨v,g,i,by omega⟩
theorem Hy {n:Nat} {t:Nat->Nat->Int} (a:Wt n t) (e:dB n t) (hn:0<n) {g:Int} (b:ee n t g) {pos:Nat->Nat} (hi:iw n pos) {v:Nat} (h:v<n):bP n t (fun u=>nu n t pos u+one v u):=by
 refine Hw a e hn b ?_;rw[dE,fa h,pM a b hi];omega
end Go.Proofs.YtffdiakgjakngaaGreat.T
namespace Go.Proofs.YtffdiakgjakngaaGreat.P
open Go.RowKit Go.Proofs.YtffdiakgjakngaaGreatW.PrintWords Go.Proofs.YtffdiakgjakngaaGreatW.PrintLast Go.Proofs.YtffdiakgjakngaaGreatW.PrintMore
set_option linter.unusedVariables false
set_option linter.unusedSimpArgs false
set_option maxHeartbeats 8000000
set_option maxRecDepth 100000
end Go.Proofs.YtffdiakgjakngaaGreat.P


