/- RiemannrochHolds answers true whatever the input (text 4 of 20): own walks and plain laws; no conditions. -/
import Derived.Deep.RegionLaw
import Derived.Lib.Hide
import Derived.Maps.OwnOps
import Derived.Maps.Views
import Derived.Outline
import Derived.WalkSpells
import Derived.Test.YtffdiakgjakngaaGreatHolds3
namespace Go.Proofs.YtffdiakgjakngaaGreat.P
open Go.RowKit Go.Proofs.YtffdiakgjakngaaGreatW.PrintWords Go.Proofs.YtffdiakgjakngaaGreatW.PrintLast Go.Proofs.YtffdiakgjakngaaGreatW.PrintMore
set_option linter.unusedVariables false
set_option linter.unusedSimpArgs false
set_option maxHeartbeats 8000000
set_option maxRecDepth 100000
def gI (x y:S83):Prop:=x.f0<y.f0∨x.f0=y.f0∧x.f1<y.f1
structure bm (N:Int) (E:List S83):Prop where
 ok:∀x∈E,bQ N x=true
 le:∀x∈E,x.f0<=x.f1
 order:E.Pairwise gI
theorem sK {N:Int}:∀{E:List S83} {a e:Int},f_ N a e E=0->(∀x∈E,bQ N x=true∧x.f0<=x.f1∧(a<x.f0∨a=x.f0∧e<x.f1))∧E.Pairwise gI
 |[],_,_,_=>⟨fun x b=>absurd b (by simp),List.Pairwise.nil⟩
 |y::E,a,e,h=>by
  rw[f_] at h;by_cases he:dB N a e y=0
  ·rw[if_pos he] at h
   obtain⟨h1,i⟩:=sK h;have j:bQ N y=true∧y.f0<=y.f1∧(a<y.f0∨a=y.f0∧e<y.f1):=by
    unfold dB at he;cases g:bQ N y with
    |false=>rw[g] at he;simp at he
    |true=>
     rw[g,if_neg (show ¬(true=false) by decide)] at he;by_cases k:y.f0<a∨y.f0=a∧y.f1<=e∨y.f0>y.f1
     ·rw[if_pos k] at he;exact absurd he (by decide)
     ·exact⟨rfl,by omega,by omega⟩
   refine⟨fun x b=>?_,List.Pairwise.cons (fun x b=>(h1 x b).2.2) i⟩;rcases List.mem_cons.1 b with rfl|b
   ·exact j
   ·have:=h1 x b
    exact⟨this.1,this.2.1,by omega⟩
  ·rw[if_neg he] at h;exact absurd h he
theorem gJ {N:Int} {E:List S83} (h:cG N E=0):1<=N∧N<=12∧bm N E:=by
 unfold cG at h;by_cases b:N<1∨N>12
 ·rw[if_pos b] at h;exact absurd h (by decide)
 ·rw[if_neg b] at h
  obtain⟨h1,e⟩:=sK h;exact⟨by omega,by omega,fun x a=>(h1 x a).1,fun x a=>(h1 x a).2.1,e⟩
theorem bm.cT {N:Int} {E:List S83} (h:bm N E):iI N E=true:=by
 refine List.all_eq_true.2 fun x a=>?_
 have:=h.ok x a;simpa [bQ] using this
def fG (a b:Int) (x:S83):Bool:=decide (x.f0=min a b∧x.f1=max a b)
def dj (E:List S83) (a b:Int):Int:=match E.find? (fG a b) with|some x=>x.f2|none=>0
theorem zw (x:S83) (E:List S83) (a b:Int):dj (x::E) a b=if x.f0=min a b∧x.f1=max a b then x.f2 else dj E a b:=by
 unfold dj;rw[List.find?_cons];unfold fG;by_cases h:x.f0=min a b∧x.f1=max a b
 ·simp[h]
 ·rw[decide_eq_false h,if_neg h]
theorem sL (E:List S83) (a b:Int):dj E a b=dj E b a:=by
 unfold dj fG;rw[show min a b=min b a by omega,show max a b=max b a by omega]
theorem sM {E:List S83} {a b:Int} (h:∀x∈E,¬(x.f0=min a b∧x.f1=max a b)):E.find? (fG a b)=none:=by
 rw[List.find?_eq_none];intro x e;simp[fG,h x e]
theorem sO (a b:Nat) (j:a≠b):∀(E:List S83) (f:Nat->Nat->Int),(∀x∈E,0<=x.f0∧x.f0<=x.f1)->E.Pairwise gI->E.foldl cH f a b=match E.find? (fG a b) with|some x=>x.f2|none=>f a b
 |[],f,_,_=>rfl
 |x::E,f,h,hp=>by
  have m:=h x (List.mem_cons_self ..);obtain⟨h1,k⟩:=List.pairwise_cons.1 hp;rw[List.foldl_cons,sO a b j E _ (fun y g=>h y (List.mem_cons_of_mem _ g)) k,List.find?_cons];by_cases l:x.f0=min (a:Int) b∧x.f1=max (a:Int) b
  ·rw[show fG a b x=true from by simp[fG,l]]
   rw[sM (fun y g n=>by have:=h1 y g;unfold gI at this;omega)];show cH f x a b=x.f2
   unfold cH;rw[if_neg (by omega)];by_cases i:a=x.f1.toNat∧b=x.f0.toNat
   ·rw[if_pos i]
   ·rw[if_neg i,if_pos (by omega)]
  ·rw[show fG a b x=false from by simp[fG];omega]
   have e:cH f x a b=f a b:=by
    unfold cH;split
    ·rfl
    ·dsimp only
     rw[if_neg (by omega),if_neg (by omega)]
   rw[e]
theorem ma {N:Int} {E:List S83} (h:bm N E) (a b:Nat) (g:a≠b):aj E a b=dj E a b:=by
 unfold aj dj;exact sO a b g E _ (fun x e=>⟨by have:=h.ok x e;simp[bQ] at this;omega,h.le x e⟩) h.order
theorem zx {N:Int} {E:List S83} (h:bm N E) (a b:Int):0<=dj E a b∧dj E a b<=50:=by
 unfold dj;split
 ·rename_i x e
  have:=h.ok x (List.mem_of_find?_eq_some e);simp[bQ] at this;omega
 ·omega
section
attribute [local go_sem] iU iV iW iX lU lV lW lX
def dC.l0:Nat->Int->Int->Int->Int->List (S83)->Option (Int)
 |0,_,_,_,_,_=>none
 |k+1,x1,x2,a,e,b=>if a<(b.length:Int) then(if 0<=a then(if((ai b a).f0)=(mn x1 x2) then(if((ai b a).f1)=(mx x1 x2) then(some ((ai b a).f2)) else(dC.l0 k x1 x2 (wrap64 (a+1)) e b)) else(dC.l0 k x1 x2 (wrap64 (a+1)) e b)) else(none)) else(some 0)
def dC.f (k:Nat) (a:Int) (b:List (S83)) (e:Int) (a2:Int):Option (Int):=dC.l0 k e a2 0 a b
theorem dC.calls (k:Nat) (m:Int) (P:Option Addr) (B:Nat) (a:List (S83)) (n:Int) (a2:Int) (r:Int) (w:World) (Z:Kd.C aK w P a.length a) (aa:a.length<=B) (h:dC.f k m a n a2=some r):
  Calls Tryz.prog 147 #[.agg #[.int .i64 m,.slice P a.length B],.int .i64 n,.int .i64 a2] w fun e w'=>e= .returned (.int .i64 r)∧Below w.heap.size w w':=by
 have aB:=Tryz.underlying24;have aF:=Tryz.underlying83;have U:=Aside0.mk Z;have aL:=Aside0.mk aa;clear Z aa;have b:=Aside0.mk (Below.refl w.heap.size w);have H:(dC.l0 k n a2 0 m a)=some r:=h;clear h;have F:=Aside0.mk H;clear H;go_enter Tryz.func147,Tryz.ntmps147
 go_wp2_with (first|((with_reducible refine aH (N:=3) rfl ?_);(try(refine dA (by rfl) ?_;dsimp only));refine zX 3 #[.int .i64 m,.slice P a.length B] 24 ?_;intro p j w4 q hb;have l:=Aside0.mk (q);have aP:=zG b j;have aS:=zG b j;replace b:=zS b hb;clear hb q j))
 go_loopg [7] k (fun kq v7 w'=>∃(i:Int),v7= .int .i64 i∧Aside0 (dC.l0 kq n a2 i m a=some r)∧Aside0 (kq<=k)∧Aside0 (w'.heap[p]? =some (.cells #[.int .i64 m,(.slice P a.length B)] 24 (0,0)))∧Aside0 (Below w.heap.size w w'))
 case atStart=>exact⟨(0),zT,F,⟨Nat.le_refl _⟩,⟨zK l⟩,⟨zB⟩⟩
 case round=>
  clear F;try clear c1
  try clear p2
  obtain⟨i,rfl,V,Q,l,b⟩:=hrel;cases gk with
  |zero=>exact absurd V.out (by simp[dC.l0])
  |succ I=>
   have H:=V.out;clear V;simp only[dC.l0] at H;by_cases G:i<(a.length:Int)
   ·rw[if_pos G] at H
    have am:=decide_eq_true G;clear G;by_cases R:0<=i
    ·rw[if_pos R] at H
     have a3:=decide_eq_true R;clear R;obtain⟨W,S⟩:∃X:Int,(mn n a2)=X:=⟨_,rfl⟩;replace H:(if((ai a i).f0)=(W) then(if((ai a i).f1)=(mx n a2) then(some ((ai a i).f2)) else(dC.l0 I n a2 (wrap64 (i+1)) m a)) else(dC.l0 I n a2 (wrap64 (i+1)) m a))=some r:=by first|(rw[S] at H;exact H)|(simp only[S] at H⊢;exact H)
     have a4:(if a2<n then a2 else n)=W:=S;by_cases J:((ai a i).f0)=(W)
     ·rw[if_pos J] at H
      obtain⟨an,ap⟩:=bt J;clear J;obtain⟨Y,T⟩:∃X:Int,(mx n a2)=X:=⟨_,rfl⟩;replace H:(if((ai a i).f1)=(Y) then(some ((ai a i).f2)) else(dC.l0 I n a2 (wrap64 (i+1)) m a))=some r:=by first|(rw[T] at H;exact H)|(simp only[T] at H⊢;exact H)
      have a5:(if n<a2 then a2 else n)=Y:=T;by_cases K:((ai a i).f1)=(Y)
      ·rw[if_pos K] at H
       obtain⟨ar,av⟩:=bt K;clear K;obtain rfl:=Option.some.inj H;obtain⟨a9,be,bf,bg⟩:=au l;have s:0<=(i:Int):=of_decide_eq_true ‹_›;have u:i<(a.length:Int):=of_decide_eq_true ‹_›;obtain⟨D,L,v,x,y⟩:=eo U.out i s u;cases L;replace v:=(b.out.cell (World.block_lt_of_cell? w _ v)).trans v;replace x:=(b.out.cell (World.block_lt_of_cell? w _ x)).trans x;replace y:=(b.out.cell (World.block_lt_of_cell? w _ y)).trans y;replace s:=eq_true s;replace u:=eq_true u;go_wp2_with (first|((with_reducible refine aH (N:=8) rfl ?_);(try(refine dA (by rfl) ?_;dsimp only));refine zX 8 #[.int .i64 0,.int .i64 0,.int .i64 0] 83 ?_;intro E j bi q hb;have M:=Aside0.mk (q);have ad:=zG b j;have ag:=zG b j;replace b:=zS b hb;have z:=Aside0.mk ((by rw[j];exact Nat.ne_of_lt (ay (g:=p) (o:=.cells #[.int .i64 m,.slice (some D) a.length B] 24 (0,0)) (zK l)):p≠E));have O:=Aside0.mk ((by rw[j];exact Nat.ne_of_gt (ay (g:=p) (o:=.cells #[.int .i64 m,.slice (some D) a.length B] 24 (0,0)) (zK l)):E≠p));replace l:=zb l hb;clear hb q j;have bk:=O.out;have bn:=z.out;obtain⟨bo,bv,bw,bx,b0,b1⟩:=bV M))
       go_ret;exact⟨by first|rfl|(simp[eW,eX]<;>rfl)|(simp only[<-S,<-T];first|rfl|(simp[eW,eX]<;>rfl))|(simp[*,eW,eX]<;>rfl),zB⟩
      ·rw[if_neg K] at H
       obtain⟨ar,av⟩:=bu K;have F:=Aside0.mk H;clear H;obtain⟨b2,b3,b4,b5⟩:=au l;have s:0<=(i:Int):=of_decide_eq_true ‹_›;have u:i<(a.length:Int):=of_decide_eq_true ‹_›;obtain⟨D,L,v,x,y⟩:=eo U.out i s u;cases L;replace v:=(b.out.cell (World.block_lt_of_cell? w _ v)).trans v;replace x:=(b.out.cell (World.block_lt_of_cell? w _ x)).trans x;replace y:=(b.out.cell (World.block_lt_of_cell? w _ y)).trans y;replace s:=eq_true s;replace u:=eq_true u;go_wp2_with (first|((with_reducible refine aH (N:=8) rfl ?_);(try(refine dA (by rfl) ?_;dsimp only));refine zX 8 #[.int .i64 0,.int .i64 0,.int .i64 0] 83 ?_;intro E j b6 q hb;have M:=Aside0.mk (q);have ad:=zG b j;have ag:=zG b j;replace b:=zS b hb;have z:=Aside0.mk ((by rw[j];exact Nat.ne_of_lt (ay (g:=p) (o:=.cells #[.int .i64 m,.slice (some D) a.length B] 24 (0,0)) (zK l)):p≠E));have O:=Aside0.mk ((by rw[j];exact Nat.ne_of_gt (ay (g:=p) (o:=.cells #[.int .i64 m,.slice (some D) a.length B] 24 (0,0)) (zK l)):E≠p));replace l:=zb l hb;clear hb q j;have b_:=O.out;have b':=z.out;obtain⟨ca,cb,cc,cd,ce,cf⟩:=bV M))
       go_roundg I
       case measure=>have:=Q.out;omega
       case rel=>exact⟨(wrap64 (i+1)),zT,F,⟨by have:=Q.out;omega⟩,⟨by refine zk ?_;refine aC ?_ z.out _;refine zk ?_;refine aC ?_ z.out _;refine zk ?_;refine aC ?_ z.out _;exact zK l⟩,⟨zB⟩⟩
     ·rw[if_neg J] at H
      obtain⟨an,ap⟩:=bu J;have F:=Aside0.mk H;clear H;obtain⟨ch,ci,cj,ck⟩:=au l;have s:0<=(i:Int):=of_decide_eq_true ‹_›;have u:i<(a.length:Int):=of_decide_eq_true ‹_›;obtain⟨D,L,v,x,y⟩:=eo U.out i s u;cases L;replace v:=(b.out.cell (World.block_lt_of_cell? w _ v)).trans v;replace x:=(b.out.cell (World.block_lt_of_cell? w _ x)).trans x;replace y:=(b.out.cell (World.block_lt_of_cell? w _ y)).trans y;replace s:=eq_true s;replace u:=eq_true u;go_wp2_with (first|((with_reducible refine aH (N:=8) rfl ?_);(try(refine dA (by rfl) ?_;dsimp only));refine zX 8 #[.int .i64 0,.int .i64 0,.int .i64 0] 83 ?_;intro E j cl q hb;have M:=Aside0.mk (q);have ad:=zG b j;have ag:=zG b j;replace b:=zS b hb;have z:=Aside0.mk ((by rw[j];exact Nat.ne_of_lt (ay (g:=p) (o:=.cells #[.int .i64 m,.slice (some D) a.length B] 24 (0,0)) (zK l)):p≠E));have O:=Aside0.mk ((by rw[j];exact Nat.ne_of_gt (ay (g:=p) (o:=.cells #[.int .i64 m,.slice (some D) a.length B] 24 (0,0)) (zK l)):E≠p));replace l:=zb l hb;clear hb q j;have co:=O.out;have cq:=z.out;obtain⟨cr,cs,cv,cx,c0,c2⟩:=bV M))
      go_roundg I
      case measure=>have:=Q.out;omega
      case rel=>exact⟨(wrap64 (i+1)),zT,F,⟨by have:=Q.out;omega⟩,⟨by refine zk ?_;refine aC ?_ z.out _;refine zk ?_;refine aC ?_ z.out _;refine zk ?_;refine aC ?_ z.out _;exact zK l⟩,⟨zB⟩⟩
    ·rw[if_neg R] at H
     exact absurd H (by simp)
   ·rw[if_neg G] at H
    have am:=decide_eq_false G;clear G;obtain rfl:=Option.some.inj H;obtain⟨c3,c4,c7,c9⟩:=au l;go_wp2;go_ret;exact⟨zE,zB⟩
end
theorem sP (N:Int) (E:List S83) (a b:Int) (j:E.length<=1000):∀(m i:Nat),i+m=E.length->Ev (fun k=>dC.l0 k a b i N E) (dj (E.drop i) a b)
 |0,i,hi=>by
  refine Ev.of_succ ?_;simp only[dC.l0,if_neg (show ¬((i:Int)<(E.length:Int)) by omega)];rw[List.drop_eq_nil_of_le (by omega)];exact Ev.const _
 |m+1,i,hi=>by
  have g:=sP N E a b j m (i+1) (by omega);refine Ev.of_succ ?_;simp only[dC.l0,if_pos (show (i:Int)<(E.length:Int) by omega),if_pos (show (0:Int)<=(i:Int) by omega),dU (show i<=1000000 by omega)];rw[l6 (by omega),zw];rw[show mn a b=min a b from by unfold mn;omega,show mx a b=max a b from by unfold mx;omega];by_cases e:(ai E i).f0=min a b
  ·simp only[if_pos e]
   by_cases h1:(ai E i).f1=max a b
   ·simp only[if_pos h1];rw[if_pos ⟨e,h1⟩];exact Ev.const _
   ·simp only[if_neg h1];rw[if_neg (fun h=>h1 h.2)];exact g
  ·simp only[if_neg e];rw[if_neg (fun h=>e h.1)];exact g
theorem sQ (N:Int) (E:List S83) (a b:Int) (e:E.length<=1000):Ev (fun k=>dC.f k N E a b) (dj E a b):=by
 unfold dC.f;have:=sP N E a b e E.length 0 (by omega);simpa using this
section
theorem jJ (w:World) (g j:Nat) (v:Value):w.grownBy (w.setCell ⟨g,j,none⟩ v) (some g):=⟨rfl,rfl,rfl,by simp,fun k _ hk=>Below.heap_setCell w _ v k (fun e=>hk (by rw[e]))⟩
def dN (w:World) (g:Nat) (p:Nat->Nat):Prop:=∃cs:Array Value,w.heap[g]? =some (.cells cs 217 (0,0))∧cs.size=12∧∀i,i<12->cs[i]? =some (.int .i64 (p i:Nat))
namespace dN
variable {w w':World} {g:Nat} {p:Nat->Nat}
theorem lt (h:dN w g p):g<w.heap.size:=by
 obtain⟨cs,hb,_⟩:=h;exact ay hb
theorem cell (h:dN w g p) (i:Nat) (hi:i<12):w.cell? ⟨g,i,none⟩=some (.int .i64 (p i:Nat)):=by
 obtain⟨cs,hb,_,a⟩:=h;exact(ao hb i).trans (a i hi)
theorem frozen (h:dN w g p) (k:Nat):w.frozen? ⟨g,k,none⟩=false:=by
 obtain⟨cs,hb,_⟩:=h;exact bq hb k
theorem below (h:dN w g p) (hb:Below w.heap.size w w'):dN w' g p:=by
 obtain⟨cs,a,b⟩:=h;exact⟨cs,aG a hb,b⟩
theorem alloc (h:dN w g p) (o:Obj):dN (w.alloc o) g p:=h.below (aq (Below.refl _ _) o)
theorem set (h:dN w g p) (i:Nat) (hi:i<12) (x:Nat):dN (w.setCell ⟨g,i,none⟩ (.int .i64 x)) g (fun j=>if j=i then x else p j):=by
 obtain⟨cs,a,b,l⟩:=h;refine⟨cs.setIfInBounds i (.int .i64 x),by simpa using bE a i (.int .i64 x),by simp[b],?_⟩;intro k hk;by_cases e:k=i
 ·subst e
  rw[Array.getElem?_setIfInBounds_self_of_lt (by omega)];simp
 ·rw[Array.getElem?_setIfInBounds_ne (by omega),l k hk];simp[e]
theorem congr {q:Nat->Nat} (h:dN w g p) (he:∀i,i<12->q i=p i):dN w g q:=by
 obtain⟨cs,a,b,e⟩:=h;exact⟨cs,a,b,fun i hi=>by rw[he i hi];exact e i hi⟩
end dN
def gK (p:Nat->Nat):Prop:=∀i,p i<=i
def rootOf (p:Nat->Nat) (v:Nat):Nat:=if h:p v<v then rootOf p (p v) else v
termination_by v
theorem hZ (p:Nat->Nat) (v:Nat):rootOf p v<=v:=by
 induction v using Nat.strongRecOn with
 |ind v a=>
  rw[rootOf];split
  ·rename_i h
   exact Nat.le_trans (a _ h) (Nat.le_of_lt h)
  ·exact Nat.le_refl _
def dq (p:Nat->Nat) (a b:Nat):Nat->Nat:=fun j=>if j=max (rootOf p a) (rootOf p b) then min (rootOf p a) (rootOf p b) else p j
theorem sR {p:Nat->Nat} (h:gK p) (a b:Nat):gK (dq p a b):=fun i=>by
 unfold dq;split
 ·subst_vars;omega
 ·exact h i
def aJ (E:List S83):Nat->Nat:=E.foldl (fun p x=>dq p x.f0.toNat x.f1.toNat) id
theorem zy (E:List S83) (k:Nat) (h:k<E.length):aJ (E.take (k+1))=dq (aJ (E.take k)) (ai E k).f0.toNat (ai E k).f1.toNat:=by
 unfold aJ;rw[List.take_succ_eq_append_getElem h,List.foldl_append];simp[ai,List.getD_eq_getElem?_getD,List.getElem?_eq_getElem h]
theorem sS (E:List S83):gK (aJ E):=by
 suffices h:∀(E:List S83) p,gK p->gK (E.foldl (fun p x=>dq p x.f0.toNat x.f1.toNat) p) from h E id (fun i=>Nat.le_refl _)
 intro E;induction E with
 |nil=>exact fun p h=>h
 |cons x E a=>exact fun p h=>a _ (sR h _ _)
theorem sT {k:IntKind} {a b:Int} (h:a=b):Ending.returned (.int k a)= .returned (.int k b):=by rw[h]
theorem pB (g v:Nat) (p:Nat->Nat) (w:World) (hf:gK p) (m:v<12) (hw:dN w g p):
  Calls Tryz.prog 210 #[.pointer (some ⟨g,0,none⟩),.int .i64 v] w fun e w'=>e= .returned (.int .i64 (rootOf p v:Nat))∧w=w':=by
 go_enter Tryz.func210,Tryz.ntmps210
 go_wp2;go_loop [1] (fun u=>∃k:Nat,k<12∧u= .int .i64 k∧rootOf p k=rootOf p v) (fun u=>(intOf u).toNat)
 case atStart=>exact⟨v,m,rfl,rfl⟩
 case round=>
  obtain⟨k,hk,rfl,h⟩:=hrel;have i:=Lib.hid h;clear h;have n:=hw.cell k hk;have o:(0:Int)<=(k:Int):=by omega
  have q:(k:Int)<12:=by omega
  have hle:=hf k;by_cases j:p k<k
  ·have a:rootOf p k=rootOf p (p k):=by rw[rootOf,dif_pos j]
   have b:=Lib.hid a;clear a;have r:((p k:Nat):Int)≠(k:Int):=by omega
   go_wp2;go_round
   case rel=>exact⟨p k,by omega,rfl,by rw[<-i.out,b.out]⟩
   case measure=>simp[intOf];omega
  ·have a:rootOf p k=k:=by rw[rootOf,dif_neg j]
   have b:=Lib.hid a;clear a;have l:p k=k:=by omega
   rw[l] at n;clear l;go_wp2;go_ret;exact⟨sT (by rw[<-i.out,b.out]),rfl⟩
theorem zz (g a b:Nat) (p:Nat->Nat) (w:World) (hf:gK p) (u:a<12) (hb:b<12) (hw:dN w g p):
  Calls Tryz.prog 209 #[.pointer (some ⟨g,0,none⟩),.int .i64 a,.int .i64 b] w fun e w'=>e= .returned (.tuple #[])∧dN w' g (dq p a b)∧w.grownBy w' (some g):=by
 have h1:=hZ p a;have q:=hZ p b;generalize k:rootOf p a=h at h1;generalize l:rootOf p b=i at q;have m:=pB g a p w hf u hw;have cb:=pB g b p w hf hb hw;rw[k] at m;rw[l] at cb;have n:=Aside0.mk m;have o:=Aside0.mk cb;have j:Aside0 (dN (w.setCell ⟨g,max h i,none⟩ (.int .i64 (min h i:Nat))) g (dq p a b)):=⟨by unfold dq;rw[k,l];exact hw.set _ (by omega) _⟩;have Hg:Aside0 (w.grownBy (w.setCell ⟨g,max h i,none⟩ (.int .i64 (min h i:Nat))) (some g)):=⟨jJ ..⟩;clear k l m cb;have r:h<12:=by omega
 have s:i<12:=by omega
 have G:(0:Int)<=(h:Int):=by omega
 have H:(h:Int)<12:=by omega
 have v:(0:Int)<=(i:Int):=by omega
 have x:(i:Int)<12:=by omega
 have I:=hw.cell h r;have J:=hw.frozen h;have y:=hw.cell i s;have z:=hw.frozen i;have K:=Aside0.mk hw;clear hw h1 q r s;rcases Nat.lt_trichotomy h i with B|heq|B
 ·rw[show max h i=i from by omega,show min h i=h from by omega] at j Hg
  have C:(h:Int)<(i:Int):=by omega
  have D:¬(i:Int)<(h:Int):=by omega
  have E:(h:Int)<=(i:Int):=by omega
  have F:¬(i:Int)<=(h:Int):=by omega
  go_enter Tryz.func209,Tryz.ntmps209
  go_wp2_with (first|(go_at_call 210;(first|(with_reducible refine n.out.mono ?_)|(with_reducible refine o.out.mono ?_));rintro e w1 ⟨rfl,rfl⟩))
  go_end0;exact⟨rfl,j.out,Hg.out⟩
 ·subst heq
  rw[Nat.max_self,Nat.min_self] at j Hg;clear y z v x;go_enter Tryz.func209,Tryz.ntmps209
  go_wp2_with (first|(go_at_call 210;(first|(with_reducible refine n.out.mono ?_)|(with_reducible refine o.out.mono ?_));rintro e w1 ⟨rfl,rfl⟩))
  go_end0;exact⟨rfl,j.out,Hg.out⟩
 ·rw[show max h i=h from by omega,show min h i=i from by omega] at j Hg
  have C:(i:Int)<(h:Int):=by omega
  have D:¬(h:Int)<(i:Int):=by omega
  have E:(i:Int)<=(h:Int):=by omega
  have F:¬(h:Int)<=(i:Int):=by omega
  go_enter Tryz.func209,Tryz.ntmps209
  go_wp2_with (first|(go_at_call 210;(first|(with_reducible refine n.out.mono ?_)|(with_reducible refine o.out.mono ?_));rintro e w1 ⟨rfl,rfl⟩))
  go_end0;exact⟨rfl,j.out,Hg.out⟩
theorem zA (w:World):Calls Tryz.prog 208 #[] w fun e w'=>e= .returned (.agg #[.int .i64 0,.int .i64 1,.int .i64 2,.int .i64 3,.int .i64 4,.int .i64 5,.int .i64 6,.int .i64 7,.int .i64 8,.int .i64 9,.int .i64 10,.int .i64 11])∧Below w.heap.size w w':=by
 go_enter Tryz.func208,Tryz.ntmps208
 go_wp2;have g:=aq (aq (Below.refl w.heap.size w) (.cells #[.int .i64 0,.int .i64 0,.int .i64 0,.int .i64 0,.int .i64 0,.int .i64 0,.int .i64 0,.int .i64 0,.int .i64 0,.int .i64 0,.int .i64 0,.int .i64 0] 217)) (.cells #[.int .i64 0,.int .i64 0,.int .i64 0,.int .i64 0,.int .i64 0,.int .i64 0,.int .i64 0,.int .i64 0,.int .i64 0,.int .i64 0,.int .i64 0,.int .i64 0] 217);have h:((w.alloc (.cells #[.int .i64 0,.int .i64 0,.int .i64 0,.int .i64 0,.int .i64 0,.int .i64 0,.int .i64 0,.int .i64 0,.int .i64 0,.int .i64 0,.int .i64 0,.int .i64 0] 217)).alloc (.cells #[.int .i64 0,.int .i64 0,.int .i64 0,.int .i64 0,.int .i64 0,.int .i64 0,.int .i64 0,.int .i64 0,.int .i64 0,.int .i64 0,.int .i64 0,.int .i64 0] 217)).heap[w.heap.size]? =some (.cells #[.int .i64 0,.int .i64 0,.int .i64 0,.int .i64 0,.int .i64 0,.int .i64 0,.int .i64 0,.int .i64 0,.int .i64 0,.int .i64 0,.int .i64 0,.int .i64 0] 217 (0,0)):=aw (heap_alloc_new w _) _;have h1:dN ((w.alloc (.cells #[.int .i64 0,.int .i64 0,.int .i64 0,.int .i64 0,.int .i64 0,.int .i64 0,.int .i64 0,.int .i64 0,.int .i64 0,.int .i64 0,.int .i64 0,.int .i64 0] 217)).alloc (.cells #[.int .i64 0,.int .i64 0,.int .i64 0,.int .i64 0,.int .i64 0,.int .i64 0,.int .i64 0,.int .i64 0,.int .i64 0,.int .i64 0,.int .i64 0,.int .i64 0] 217)) (w.heap.size+1) (fun i=>if i<0 then i else 0):=by
  refine⟨#[.int .i64 0,.int .i64 0,.int .i64 0,.int .i64 0,.int .i64 0,.int .i64 0,.int .i64 0,.int .i64 0,.int .i64 0,.int .i64 0,.int .i64 0,.int .i64 0],by simpa using heap_alloc_new (w.alloc (.cells #[.int .i64 0,.int .i64 0,.int .i64 0,.int .i64 0,.int .i64 0,.int .i64 0,.int .i64 0,.int .i64 0,.int .i64 0,.int .i64 0,.int .i64 0,.int .i64 0] 217)) (.cells #[.int .i64 0,.int .i64 0,.int .i64 0,.int .i64 0,.int .i64 0,.int .i64 0,.int .i64 0,.int .i64 0,.int .i64 0,.int .i64 0,.int .i64 0,.int .i64 0] 217),rfl,fun i hi=>?_⟩;match i,hi with|0,_=>rfl|1,_=>rfl|2,_=>rfl|3,_=>rfl|4,_=>rfl|5,_=>rfl|6,_=>rfl|7,_=>rfl|8,_=>rfl|9,_=>rfl|10,_=>rfl|11,_=>rfl
 generalize n:w.heap.size=gb at h h1 g⊢;generalize ((w.alloc (.cells #[.int .i64 0,.int .i64 0,.int .i64 0,.int .i64 0,.int .i64 0,.int .i64 0,.int .i64 0,.int .i64 0,.int .i64 0,.int .i64 0,.int .i64 0,.int .i64 0] 217)).alloc (.cells #[.int .i64 0,.int .i64 0,.int .i64 0,.int .i64 0,.int .i64 0,.int .i64 0,.int .i64 0,.int .i64 0,.int .i64 0,.int .i64 0,.int .i64 0,.int .i64 0] 217))=W0 at h h1 g⊢;go_loopw [2,3] (fun _ i wr=>∃k:Nat,k<=12∧i= .int .i64 k∧Aside0 (wr.heap[gb]? =some (.cells #[.int .i64 0,.int .i64 0,.int .i64 0,.int .i64 0,.int .i64 0,.int .i64 0,.int .i64 0,.int .i64 0,.int .i64 0,.int .i64 0,.int .i64 0,.int .i64 0] 217 (0,0)))∧Aside0 (dN wr (gb+1) (fun i=>if i<k then i else 0))∧Aside0 (Below gb w wr)) (fun _ i _=>12- (intOf i).toNat)
 case atStart=>exact⟨0,by omega,rfl,⟨h⟩,⟨h1⟩,⟨g⟩⟩
 case round=>
  obtain⟨k,hk,rfl,a,H1,l⟩:=hrel;by_cases m:k<12
  ·have r:=H1.out.cell k m
   have hf:=H1.out.frozen k;have s:(0:Int)<=(k:Int):=by omega
   have u:(k:Int)<12:=by omega
   have o:=Aside0.mk (cI a.out (jJ wr (gb+1) k (.int .i64 k)) (by simp));have n1:=Aside0.mk ((H1.out.set k m k).congr (q:=fun i=>if i<k+1 then i else 0) (fun i hi=>by(try dsimp only);split<;>split<;>(try split)<;>omega));have p:=Aside0.mk (l.out.grown (jJ wr (gb+1) k (.int .i64 k)) (by have:=H1.out.lt;omega) (fun j e=>by cases e;omega));go_wp2;go_roundw
   case rel=>exact⟨k+1,by omega,by go_num,o,n1,p⟩
   case measure=>(show 12- ((k:Int)+1).toNat<12- ((k:Int)).toNat;omega)
  ·obtain rfl:k=12:=by omega
   have x:wr.cell? ⟨gb+1,0,none⟩=some (.int .i64 0):=H1.out.cell 0 (by omega);have y:wr.cell? ⟨gb,0,none⟩=some (.int .i64 0):=(ao a.out 0).trans rfl;have z:=bq a.out 0;have B:wr.cell? ⟨gb+1,1,none⟩=some (.int .i64 1):=H1.out.cell 1 (by omega);have C:wr.cell? ⟨gb,1,none⟩=some (.int .i64 0):=(ao a.out 1).trans rfl;have D:=bq a.out 1;have E:wr.cell? ⟨gb+1,2,none⟩=some (.int .i64 2):=H1.out.cell 2 (by omega);have F:wr.cell? ⟨gb,2,none⟩=some (.int .i64 0):=(ao a.out 2).trans rfl;have G:=bq a.out 2;have H:wr.cell? ⟨gb+1,3,none⟩=some (.int .i64 3):=H1.out.cell 3 (by omega);have I:wr.cell? ⟨gb,3,none⟩=some (.int .i64 0):=(ao a.out 3).trans rfl;have J:=bq a.out 3;have K:wr.cell? ⟨gb+1,4,none⟩=some (.int .i64 4):=H1.out.cell 4 (by omega);have L:wr.cell? ⟨gb,4,none⟩=some (.int .i64 0):=(ao a.out 4).trans rfl;have M:=bq a.out 4;have N:wr.cell? ⟨gb+1,5,none⟩=some (.int .i64 5):=H1.out.cell 5 (by omega);have O:wr.cell? ⟨gb,5,none⟩=some (.int .i64 0):=(ao a.out 5).trans rfl;have P:=bq a.out 5;have Q:wr.cell? ⟨gb+1,6,none⟩=some (.int .i64 6):=H1.out.cell 6 (by omega);have R:wr.cell? ⟨gb,6,none⟩=some (.int .i64 0):=(ao a.out 6).trans rfl;have S:=bq a.out 6;have T:wr.cell? ⟨gb+1,7,none⟩=some (.int .i64 7):=H1.out.cell 7 (by omega);have U:wr.cell? ⟨gb,7,none⟩=some (.int .i64 0):=(ao a.out 7).trans rfl;have V:=bq a.out 7;have W:wr.cell? ⟨gb+1,8,none⟩=some (.int .i64 8):=H1.out.cell 8 (by omega);have X:wr.cell? ⟨gb,8,none⟩=some (.int .i64 0):=(ao a.out 8).trans rfl;have Y:=bq a.out 8;have Z:wr.cell? ⟨gb+1,9,none⟩=some (.int .i64 9):=H1.out.cell 9 (by omega);have aa:wr.cell? ⟨gb,9,none⟩=some (.int .i64 0):=(ao a.out 9).trans rfl;have ab:=bq a.out 9;have ad:wr.cell? ⟨gb+1,10,none⟩=some (.int .i64 10):=H1.out.cell 10 (by omega);have ag:wr.cell? ⟨gb,10,none⟩=some (.int .i64 0):=(ao a.out 10).trans rfl;have ak:=bq a.out 10;have am:wr.cell? ⟨gb+1,11,none⟩=some (.int .i64 11):=H1.out.cell 11 (by omega);have an:wr.cell? ⟨gb,11,none⟩=some (.int .i64 0):=(ao a.out 11).trans rfl;have ap:=bq a.out 11;go_wp2;have b:=a.out;replace b:=bE b 0 (.int .i64 0);replace b:=bE b 1 (.int .i64 1);replace b:=bE b 2 (.int .i64 2);replace b:=bE b 3 (.int .i64 3);replace b:=bE b 4 (.int .i64 4);replace b:=bE b 5 (.int .i64 5);replace b:=bE b 6 (.int .i64 6);replace b:=bE b 7 (.int .i64 7);replace b:=bE b 8 (.int .i64 8);replace b:=bE b 9 (.int .i64 9);replace b:=bE b 10 (.int .i64 10);replace b:=bE b 11 (.int .i64 11);simp only[List.setIfInBounds_toArray,List.set_cons_zero,List.set_cons_succ] at b;refine bodyPost_ret (v:=.agg #[.int .i64 0,.int .i64 1,.int .i64 2,.int .i64 3,.int .i64 4,.int .i64 5,.int .i64 6,.int .i64 7,.int .i64 8,.int .i64 9,.int .i64 10,.int .i64 11]) (results_cell_row rfl _ _ gb 217 #[.int .i64 0,.int .i64 1,.int .i64 2,.int .i64 3,.int .i64 4,.int .i64 5,.int .i64 6,.int .i64 7,.int .i64 8,.int .i64 9,.int .i64 10,.int .i64 11] (0,0) _ rfl b Tryz.underlying217 rfl rfl) rfl ⟨rfl,?_⟩;iterate 12 (refine ec ?_ (by omega))
   rw[n];exact l.out
end
theorem zD (N:Int) (A0:Option Addr) (c0:Nat) (E:List S83) (w:World) (G:Kd.C aK w A0 E.length E) (H:dV 12 E):
  Calls Tryz.prog 196 #[.agg #[.int .i64 N,.slice A0 E.length c0]] w fun e w'=>e= .returned (.agg #[.int .i64 (aJ E 0:Nat),.int .i64 (aJ E 1:Nat),.int .i64 (aJ E 2:Nat),.int .i64 (aJ E 3:Nat),.int .i64 (aJ E 4:Nat),.int .i64 (aJ E 5:Nat),.int .i64 (aJ E 6:Nat),.int .i64 (aJ E 7:Nat),.int .i64 (aJ E 8:Nat),.int .i64 (aJ E 9:Nat),.int .i64 (aJ E 10:Nat),.int .i64 (aJ E 11:Nat)])∧Below w.heap.size w w':=by
 have hu:=Tryz.underlying24;have W:=Tryz.underlying83;have M:=Aside0.mk H.get;clear H;go_enter Tryz.func196,Tryz.ntmps196
 go_wp2_with (first|(go_at_call 208;refine(zA _).mono ?_;rintro e w1 ⟨rfl,hb⟩;have z:w1.heap[w.heap.size]? =some (.cells #[.int .i64 N,.slice A0 E.length c0] 24 (0,0)):=aG (aw (heap_alloc_new w _) _) hb;have B:w1.heap[w.heap.size+1]? =some (.cells #[.int .i64 0,.int .i64 0,.int .i64 0,.int .i64 0,.int .i64 0,.int .i64 0,.int .i64 0,.int .i64 0,.int .i64 0,.int .i64 0,.int .i64 0,.int .i64 0] 217 (0,0)):=aG (heap_alloc2_new w _ _) hb;have I:=Aside0.mk (aU (aq (aq (Below.refl w.heap.size w) _) _) hb);clear hb;have J:(w1.alloc (.cells #[.int .i64 0,.int .i64 1,.int .i64 2,.int .i64 3,.int .i64 4,.int .i64 5,.int .i64 6,.int .i64 7,.int .i64 8,.int .i64 9,.int .i64 10,.int .i64 11] 217)).cell? ⟨w.heap.size,1,none⟩=some (.slice A0 E.length c0):=(ao (aw z _) 1).trans rfl))
 have o:=Aside0.mk (aw z (.cells #[.int .i64 0,.int .i64 1,.int .i64 2,.int .i64 3,.int .i64 4,.int .i64 5,.int .i64 6,.int .i64 7,.int .i64 8,.int .i64 9,.int .i64 10,.int .i64 11] 217));have g:=Aside0.mk (aw B (.cells #[.int .i64 0,.int .i64 1,.int .i64 2,.int .i64 3,.int .i64 4,.int .i64 5,.int .i64 6,.int .i64 7,.int .i64 8,.int .i64 9,.int .i64 10,.int .i64 11] 217));have n:=Aside0.mk (aq I.out (.cells #[.int .i64 0,.int .i64 1,.int .i64 2,.int .i64 3,.int .i64 4,.int .i64 5,.int .i64 6,.int .i64 7,.int .i64 8,.int .i64 9,.int .i64 10,.int .i64 11] 217));have l:Aside0 (dN (w1.alloc (.cells #[.int .i64 0,.int .i64 1,.int .i64 2,.int .i64 3,.int .i64 4,.int .i64 5,.int .i64 6,.int .i64 7,.int .i64 8,.int .i64 9,.int .i64 10,.int .i64 11] 217)) w1.heap.size (aJ (E.take 0))):=⟨⟨#[.int .i64 0,.int .i64 1,.int .i64 2,.int .i64 3,.int .i64 4,.int .i64 5,.int .i64 6,.int .i64 7,.int .i64 8,.int .i64 9,.int .i64 10,.int .i64 11],heap_alloc_new _ _,rfl,fun i hi=>by
  match i,hi with|0,_=>rfl|1,_=>rfl|2,_=>rfl|3,_=>rfl|4,_=>rfl|5,_=>rfl|6,_=>rfl|7,_=>rfl|8,_=>rfl|9,_=>rfl|10,_=>rfl|11,_=>rfl⟩⟩
 have O:w.heap.size+1<w1.heap.size:=ay B;clear z B I J;generalize (w1.alloc (.cells #[.int .i64 0,.int .i64 1,.int .i64 2,.int .i64 3,.int .i64 4,.int .i64 5,.int .i64 6,.int .i64 7,.int .i64 8,.int .i64 9,.int .i64 10,.int .i64 11] 217))=W0 at o g n l⊢;generalize w1.heap.size=gf at l O⊢;clear w1;go_loopw [10] (fun i wr=>∃k:Nat,k<=E.length∧i= .int .i64 k∧Aside0 (wr.heap[w.heap.size]? =some (.cells #[.int .i64 N,.slice A0 E.length c0] 24 (0,0)))∧Aside0 (wr.heap[w.heap.size+1]? =some (.cells #[.int .i64 0,.int .i64 0,.int .i64 0,.int .i64 0,.int .i64 0,.int .i64 0,.int .i64 0,.int .i64 0,.int .i64 0,.int .i64 0,.int .i64 0,.int .i64 0] 217 (0,0)))∧Aside0 (dN wr gf (aJ (E.take k)))∧Aside0 (Below w.heap.size w wr)) (fun i _=>E.length- (intOf i).toNat)
 case atStart=>exact⟨0,by omega,rfl,o,g,l,n⟩
 case round=>
  clear o g l n;obtain⟨k,hk,rfl,o,g,l,p⟩:=hrel;by_cases K:k<E.length
  ·obtain⟨h1,D,u,F, -, -⟩:=M.out k K
   have L:=Lib.hid (zy E k K);obtain⟨ad,rfl,q,r,s⟩:=eo G k (by omega) (by omega);rw[Int.toNat_natCast] at q r s;generalize ai E k=x at h1 D u F q r s L;obtain⟨a,b,m⟩:=x;simp only at h1 D u F q r s;obtain⟨a,rfl⟩:=Int.eq_ofNat_of_zero_le h1;obtain⟨b,rfl⟩:=Int.eq_ofNat_of_zero_le u;have q:=gU p.out q;have r:=gU p.out r;have s:=gU p.out s;have X:(0:Int)<=(k:Int):=by omega
   have Y:(k:Int)<(E.length:Int):=by omega
   have Z:=G.2.1;have aa:wrap64 ((k:Int)+1)=(k:Int)+1:=by unfold wrap64;omega
   have P:=Aside0.mk (l.out.alloc (.cells #[.int .i64 a,.int .i64 b,.int .i64 m] 83));have Q:=Aside0.mk (aw o.out (.cells #[.int .i64 a,.int .i64 b,.int .i64 m] 83));have R:=Aside0.mk (aw g.out (.cells #[.int .i64 a,.int .i64 b,.int .i64 m] 83));have n:=Aside0.mk (aq p.out (.cells #[.int .i64 a,.int .i64 b,.int .i64 m] 83));have S:a<12:=by omega
   have hb:b<12:=by omega
   clear h1 D u F;go_wp2_with (first|(go_at_call 209;refine(zz gf a b _ _ (sS _) S hb P.out).mono ?_;rintro e w2 ⟨rfl,hf,y⟩;have T:=Aside0.mk hf;have n1:=Aside0.mk (cI Q.out y (by simp;omega));have U:=Aside0.mk (cI R.out y (by simp;omega));have V:=Aside0.mk (Below.grown n.out y n.out.size (fun j e=>by cases e;omega));clear hf y))
   go_roundw
   case rel=>exact⟨k+1,by omega,by go_num,n1,U,⟨by rw[L.out];exact T.out⟩,V⟩
   case measure=>(show E.length- ((k:Int)+1).toNat<E.length- ((k:Int)).toNat;omega)
  ·obtain rfl:k=E.length:=by omega
   rw[List.take_length] at l;have ab:=l.out.cell 0 (by omega);have ag:wr.cell? ⟨w.heap.size+1,0,none⟩=some (.int .i64 0):=(ao g.out 0).trans rfl;have ak:=bq g.out 0;have J:=l.out.cell 1 (by omega);have am:wr.cell? ⟨w.heap.size+1,1,none⟩=some (.int .i64 0):=(ao g.out 1).trans rfl;have an:=bq g.out 1;have ap:=l.out.cell 2 (by omega);have ar:wr.cell? ⟨w.heap.size+1,2,none⟩=some (.int .i64 0):=(ao g.out 2).trans rfl;have av:=bq g.out 2;have aB:=l.out.cell 3 (by omega);have aF:wr.cell? ⟨w.heap.size+1,3,none⟩=some (.int .i64 0):=(ao g.out 3).trans rfl;have aL:=bq g.out 3;have aO:=l.out.cell 4 (by omega);have aP:wr.cell? ⟨w.heap.size+1,4,none⟩=some (.int .i64 0):=(ao g.out 4).trans rfl;have aS:=bq g.out 4;have a0:=l.out.cell 5 (by omega);have a1:wr.cell? ⟨w.heap.size+1,5,none⟩=some (.int .i64 0):=(ao g.out 5).trans rfl;have a2:=bq g.out 5;have a3:=l.out.cell 6 (by omega);have a4:wr.cell? ⟨w.heap.size+1,6,none⟩=some (.int .i64 0):=(ao g.out 6).trans rfl;have a5:=bq g.out 6;have a9:=l.out.cell 7 (by omega);have be:wr.cell? ⟨w.heap.size+1,7,none⟩=some (.int .i64 0):=(ao g.out 7).trans rfl;have bf:=bq g.out 7;have bg:=l.out.cell 8 (by omega);have bi:wr.cell? ⟨w.heap.size+1,8,none⟩=some (.int .i64 0):=(ao g.out 8).trans rfl;have bk:=bq g.out 8;have bn:=l.out.cell 9 (by omega);have bo:wr.cell? ⟨w.heap.size+1,9,none⟩=some (.int .i64 0):=(ao g.out 9).trans rfl;have bv:=bq g.out 9;have bw:=l.out.cell 10 (by omega);have bx:wr.cell? ⟨w.heap.size+1,10,none⟩=some (.int .i64 0):=(ao g.out 10).trans rfl;have b0:=bq g.out 10;have b1:=l.out.cell 11 (by omega);have b2:wr.cell? ⟨w.heap.size+1,11,none⟩=some (.int .i64 0):=(ao g.out 11).trans rfl;have b3:=bq g.out 11;go_wp2;have h:=g.out;replace h:=bE h 0 (.int .i64 (aJ E 0:Nat));replace h:=bE h 1 (.int .i64 (aJ E 1:Nat));replace h:=bE h 2 (.int .i64 (aJ E 2:Nat));replace h:=bE h 3 (.int .i64 (aJ E 3:Nat));replace h:=bE h 4 (.int .i64 (aJ E 4:Nat));replace h:=bE h 5 (.int .i64 (aJ E 5:Nat));replace h:=bE h 6 (.int .i64 (aJ E 6:Nat));replace h:=bE h 7 (.int .i64 (aJ E 7:Nat));replace h:=bE h 8 (.int .i64 (aJ E 8:Nat));replace h:=bE h 9 (.int .i64 (aJ E 9:Nat));replace h:=bE h 10 (.int .i64 (aJ E 10:Nat));replace h:=bE h 11 (.int .i64 (aJ E 11:Nat));simp only[List.setIfInBounds_toArray,List.set_cons_zero,List.set_cons_succ] at h;refine bodyPost_ret (v:=.agg #[.int .i64 (aJ E 0:Nat),.int .i64 (aJ E 1:Nat),.int .i64 (aJ E 2:Nat),.int .i64 (aJ E 3:Nat),.int .i64 (aJ E 4:Nat),.int .i64 (aJ E 5:Nat),.int .i64 (aJ E 6:Nat),.int .i64 (aJ E 7:Nat),.int .i64 (aJ E 8:Nat),.int .i64 (aJ E 9:Nat),.int .i64 (aJ E 10:Nat),.int .i64 (aJ E 11:Nat)]) (results_cell_row rfl _ _ (w.heap.size+1) 217 #[.int .i64 (aJ E 0:Nat),.int .i64 (aJ E 1:Nat),.int .i64 (aJ E 2:Nat),.int .i64 (aJ E 3:Nat),.int .i64 (aJ E 4:Nat),.int .i64 (aJ E 5:Nat),.int .i64 (aJ E 6:Nat),.int .i64 (aJ E 7:Nat),.int .i64 (aJ E 8:Nat),.int .i64 (aJ E 9:Nat),.int .i64 (aJ E 10:Nat),.int .i64 (aJ E 11:Nat)] (0,0) _ rfl h Tryz.underlying217 rfl rfl) rfl ⟨rfl,?_⟩;iterate 12 (refine ec ?_ (by simp))
   exact p.out
end Go.Proofs.YtffdiakgjakngaaGreat.P
namespace Go.Proofs.YtffdiakgjakngaaGreat.P
open Go.RowKit Go.Maps Go.Proofs.YtffdiakgjakngaaGreatW.PrintWords Go.Proofs.YtffdiakgjakngaaGreatW.PrintLast Go.Proofs.YtffdiakgjakngaaGreatW.PrintMore
set_option linter.unusedVariables false
set_option linter.unusedSimpArgs false
set_option maxHeartbeats 8000000
set_option maxRecDepth 100000
def bN (p:Nat->Nat):Nat->Nat
 |0=>0
 |u+1=>bN p u+(if rootOf p u=u then 1 else 0)
theorem mc (p:Nat->Nat):∀u,bN p u<=u
 |0=>Nat.le_refl _
 |u+1=>by
  have:=mc p u;simp only[bN];split<;>omega
theorem kU (p:Nat->Nat) (v:Nat):rootOf p (rootOf p v)=rootOf p v:=by
 induction v using Nat.strongRecOn with
 |ind v a=>
  by_cases h:p v<v
  ·rw[show rootOf p v=rootOf p (p v) by rw[rootOf,dif_pos h]]
   exact a _ h
  ·have e:rootOf p v=v:=by rw[rootOf,dif_neg h]
   rw[e,e]
theorem pC (w:World):(zeroValue 3).run Tryz.prog w= .ok (.int .i64 0) w:=by kernel_rfl
theorem pD:Keyed Tryz.prog 3:=int_keyed Tryz.underlying3
theorem pE {a:Nat} (h:a<=1000):keyOf Tryz.prog 3 (.int .i64 a)=some (.int .i64 a):=keyOf_int_mk Tryz.underlying3 (WalkArith.wf_i64 (by omega))
def ka (p:Nat->Nat) (k m:Nat) (D:DataW Unit):Prop:=IsMap D∧∀r,r<k->rootOf p r=r->∃c:Nat,c<m∧D.atKey (.int .i64 r) (.lit (.int .i64 0))= .lit (.int .i64 c)
theorem ka.skip {p:Nat->Nat} {k m:Nat} {D:DataW Unit} (h:ka p k m D) (b:rootOf p k≠k):ka p (k+1) m D:=by
 refine⟨h.1,fun r g a=>?_⟩;by_cases e:r=k
 ·subst e;exact absurd a b
 ·exact h.2 r (by omega) a
theorem ka.put {p:Nat->Nat} {k m:Nat} {D:DataW Unit} (h:ka p k m D) (hk:k<=1000):ka p (k+1) (m+1) (D.put (.int .i64 k) (.lit (.int .i64 m))):=by
 refine⟨h.1.put _ _,fun r g a=>?_⟩;by_cases e:r=k
 ·subst e
  exact⟨m,by omega,atKey_put_same h.1 (by simp[WideAt.IsKeyLit]) _ _⟩
 ·obtain⟨c,i,b⟩:=h.2 r (by omega) a
  refine⟨c,by omega,?_⟩;rw[atKey_put_other (fun e2=>e (by injection e2;omega))];exact b
theorem sU {W a:World} {b g0 cap c:Nat} {X:List (List Int)} {oki:Nat->Prop} {ev s:Value} {e:List Int} (hH:Kd.H (Kd.slice 3 (Kd.int .i64)) 25 W b (fun q=>True∧¬W.heap.size<=q) (.slice (some ⟨g0,0,none⟩) X.length cap) X (c:Int) oki [ev]) (m:c<X.length)
  (i:W.drew.grownBy a ev.ownBlock) (k:∀q,ev.ownBlock=some q->oki q) (l:(Kd.int .i64).R 3 a b (fun q=>oki q∨W.heap.size<=q) s e) (n:g0<W.heap.size):
  Kd.S (Kd.slice 3 (Kd.int .i64)) 25 (a.setCell ⟨g0,c,none⟩ s) b (fun _=>True) (.slice (some ⟨g0,0,none⟩) X.length cap) (X.set c e):=by
 have h:=(Kd.x_ (d:=Kd.slice 3 (Kd.int .i64)) (okg:=fun q=>W.heap.size<=q) (ok:=fun _=>True) (okp:=fun q=>oki q∨W.heap.size<=q) (seg:=[s]) (j:=0) (x':=e) (Kd.rV (Kd.xV hH) i k) (by omega) (by omega) (by simp[Kd.slice]) (Kd.lK l) (fun q g=>g) (fun q g=>⟨trivial,by omega⟩)).1;rw[Int.toNat_natCast] at h;simpa [Kd.slice,World.setCells] using h
theorem sV {X:List (List Int)} {c k:Nat} {y:List Int} {x:Int} (h:∀z∈X,z.length<=k) (b:y.length<=k):∀z∈X.set c (y++[x]),z.length<=k+1:=fun z a=>by
 rcases List.mem_or_eq_of_mem_set a with h1|h1
 ·exact Nat.le_succ_of_le (h z h1)
 ·subst h1;simp;omega
theorem zF (g n:Nat) (p:Nat->Nat) (w:World) (hn:n<=12) (hf:gK p) (hw:dN w g p):
  Calls Tryz.prog 197 #[.pointer (some ⟨g,0,none⟩),.int .i64 n] w fun e w'=>∃A c,e= .returned (.slice A (bN p n) c)∧Below w.heap.size w w':=by
 have c6:=@run_makeMap Tryz.prog;have d8:=hw.lt;go_enter Tryz.func197,Tryz.ntmps197
 go_wp2;have hB:=aq (Below.refl w.heap.size w) (.map #[] 0);have hM:=World.ownsMap_made (H:=Unit) w Tryz.prog 3 (plainElem Tryz.prog 3);generalize cl:w.heap.size=b at hM hB⊢;generalize (w.alloc (.map #[] 0))=W0 at hM hB⊢;clear c6;go_loopw [5,11] (fun v i wr=>∃(k:Nat) (xs:List (List Int)) (D:DataW Unit),k<=n∧i= .int .i64 k∧Aside0 (xs.length=bN p k)∧Aside0 (∀y∈xs,y.length<=k)∧Aside0 (Kd.S (Kd.slice 3 (Kd.int .i64)) 25 wr b (fun _=>True) v xs)∧Aside0 (wr.ownsMap Tryz.prog 3 (plainElem Tryz.prog 3) b k D)∧Aside0 (ka p k (bN p k) D)∧Aside0 (Below b w wr)) (fun _ i _=>n- (intOf i).toNat)
 case atStart=>exact⟨0,[],_,by omega,rfl,⟨rfl⟩,⟨fun y hy=>absurd hy (by simp)⟩,⟨Kd.fB _ _ _ _ _⟩,⟨hM⟩,⟨isMap_empty,fun r hr=>absurd hr (by omega)⟩,⟨hB⟩⟩
 case round=>
  clear hM hB;obtain⟨k,xs,D,hk,rfl,Y,HY,Z,HM,HP,HB⟩:=hrel;by_cases d9:k<n
  ·have hle:=hZ p k
   have ea:=mc p k;have CR:=Aside0.mk (pB g k p wr hf (by omega) (hw.below (by rw[cl];exact HB.out)));have cq:=Lib.hid (kU p k);have Hs:Hid (bN p (k+1)=bN p k+(if rootOf p k=k then 1 else 0)):=Lib.hid rfl;by_cases F:rootOf p k=k
   ·have cv:=Lib.hid F
    rw[F] at CR;clear F hle;obtain⟨Ao,co,rfl⟩:=Kd.kJ Z.out;have eb:xs.length<=12:=by have:=Y.out;omega
    obtain⟨es,ck,s, -⟩:=HM.out;have c8:some b≠(Value.slice Ao xs.length co).ownBlock:=fun e=>by
     obtain⟨cs,u⟩:=Kd.mY Z.out b e.symm;rw[s] at u;cases u
    have c9:=Aside0.mk (Kd.j4 (ok':=fun q=>q≠b) (Kd.lP Z.out) (fun q m e=>by obtain⟨t,_,cs,u⟩:=m.2.2.2;subst e;rw[s] at u;cases u));clear s es ck;have bv:=HP.out.put (by omega);have G:bN p (k+1)=bN p k+1:=by rw[Hs.out,if_pos cv.out]
    rw[<-G,<-Y.out] at bv;have bi:bN p (k+1)=xs.length+1:=by rw[G,Y.out]
    have dd:=Aside0.mk bi;clear G bi;have dk:=Aside0.mk bv;clear bv;go_wp2_with (first|(go_at_call 210;refine CR.out.mono ?_;rintro e w1 ⟨rfl,rfl⟩)|(at_mapUpdate;refine wpList_mapUpdate_own _ rfl _ _ _ 229 rfl 3 3 pD Tryz.underlying229 _ b k _ rfl HM.out (by unfold maxLen;omega) _ _ _ rfl rfl (pE (by omega)) _ [] (plainElem_int Tryz.underlying3 (WalkArith.wf_i64 (by omega))) ?_;intro w2 c0 bw;have c1:=Aside0.mk c0;have dl:=Aside0.mk (Kd.rP c9.out bw (fun q m e=>m (by injection e)));have ds:=Aside0.mk (HB.out.grown bw (by have:=HM.out.lt;omega) (fun q e=>by injection e with e;omega));clear c0 bw)|(at_builtin;refine Kd.xS (Kd.slice 3 (Kd.int .i64)) (w0:=w) b rfl (.tmp 24) (.tmp 25) 73 25 (.slice none 0 0) 24 rfl Tryz.underlying73 sn rfl (by decide) (by omega) _ xs [] [.slice none 0 0] (fun _=>True) (fun _=>False) rfl rfl (Kd.lK (Kd.cV _ _ _ _ _)) (fun _ hk=>hk.elim) (fun _ _=>trivial) (Kd.j4 dl.out (fun q _=>⟨trivial,fun h=>h⟩)) ds.out (by have:=c1.out.lt;omega) (by omega) ?_;intro v3 W c2 c3 c4 dv;have I:=Aside0.mk c2;have am:=Aside0.mk c3;have l:=Aside0.mk (c1.out.kept c4 c8);have J:=dk;clear c2 c3 c4 dv))
    generalize ed:D.put (.int .i64 k) (.lit (.int .i64 xs.length))=K at l J;have aa:Aside0 ((xs++[[]]).length=bN p (k+1)):=⟨by rw[dd.out];simp⟩;have ab:Aside0 (∀y∈xs++[[]],y.length<=k):=⟨fun y hy=>by
     rcases List.mem_append.1 hy with h|h
     ·exact HY.out y h
     ·simp at h;subst h;simp⟩
    generalize hX:xs++[[]]=X at I aa ab;obtain⟨c,bx,an⟩:=J.out.2 k (by omega) cv.out;have C:∀w':World,w'.ownsMap Tryz.prog 3 (plainElem Tryz.prog 3) b (k+1) K->(Instr.lookup 229 (.map (some b)) (.int .i64 (k:Nat)) false).run Tryz.prog w'= .ok (.int .i64 c) w':=fun w' h=>by
     obtain⟨c',b0,o,_⟩:=h.lookup_int pD Tryz.underlying229 Tryz.underlying3 (pC _) (pE (a:=k) (by omega));rw[an] at o;injection o with o
     injection o with _ o
     rw[b0,o]
    have b1:=aa.out;have b2:=mc p (k+1);obtain⟨g0,cap,hv,d1,L,cells,M⟩:=Kd.oY I.out (by omega)
    (first|subst hv|(injection hv with b3 _ b4;subst b3;subst b4))
    obtain⟨oki,cc,b5,⟨ev,rfl,j⟩,ar,av,N,hH⟩:=Kd.rW (Kd.j4 (ok':=fun q=>True∧¬W.heap.size<=q) (Kd.lP I.out) (fun q m=>⟨trivial,by have:=m.2.2.1;omega⟩)) [] (c:Int) (by omega) (by omega);have O:(X.getD (c:Int).toNat []).length<=k:=by
     have P:c<X.length:=by omega
     rw[Int.toNat_natCast,List.getD_eq_getElem?_getD,List.getElem?_eq_getElem P];exact ab.out _ (List.getElem_mem P)
    have aB:W.cell? ⟨g0,c,none⟩=some ev:=by have h1:=ar 0 _ rfl;rw[Int.toNat_natCast] at h1;simpa [Kd.slice] using h1
    have aF:W.frozen? ⟨g0,c,none⟩=false:=by have h1:=av 0;rw[Int.toNat_natCast] at h1;simpa [Kd.slice] using h1
    rw[Int.toNat_natCast] at j O;have b6:=Lib.hid (show (X.getD (c:Int).toNat [])=X.getD c [] by rw[Int.toNat_natCast]);generalize X.getD c []=y at j O b6;obtain⟨Q,ce,rfl⟩:=Kd.aZ j;have aL:some b≠(Value.slice Q y.length ce).ownBlock:=fun e=>by
     obtain⟨cs,u⟩:=Kd.fS j b e.symm;obtain⟨es,ck,s, -⟩:=l.out;rw[s] at u;cases u
    have d2:g0≠b:=fun e=>by
     subst e;obtain⟨es,ck,s, -⟩:=l.out;rw[s] at M;cases M
    have aO:some g0≠(Value.slice Q y.length ce).ownBlock:=fun e=>(N g0 (j.1 g0 e.symm)).2 rfl
    have HR:=Aside0.mk (Kd.a8 (Kd.aV (ok':=fun q=>oki q∨W.heap.size<=q) j (fun q m=>.inl m)));have aS:=Aside0.mk hH;have a0:=Aside0.mk j.1;have b_:=Aside0.mk N;clear hH ar av j N M cells b5;have b':=C _ l.out.drew;have ca:=C _ ((l.out.alloc (.cells #[.int .i64 k] 3)).drew);have d3:(0:Int)<=(c:Int):=by omega
    have d4:(c:Int)<(X.length:Int):=by omega
    have a1:=Aside0.mk C;have d5:c<12:=by omega
    have bi:X.length<=12:=by omega
    have P:c<X.length:=by omega
    clear C an bx b1 b2;go_region_law ((refine Kd.oO (Kd.int .i64) (w0:=w) (W:=W.drew) b (by rfl) (.tmp 36) (.tmp 38) 25 3 (.int .i64 0) 8 (by rfl) Tryz.underlying25 fY rfl (by decide) (by omega) _ y (k:Int) [.int .i64 k] (fun q=>oki q∨W.heap.size<=q) (fun _=>False) (by rfl) (by rfl) rfl (fun _ hk=>hk.elim) (fun q m=>.inr m) HR.out (bL am.out) (by have:=am.out.size;show b<=W.heap.size;omega) (by omega) ?_;intro v4 x R a2 B cb;obtain⟨T,U,a3⟩:=Kd.aZ R;rw[show (y++[(k:Int)]).length=y.length+1 by simp] at a3;subst a3;have a4:=Aside0.mk R;have V:=Aside0.mk a2;have E:=Aside0.mk B;have cd:=a1.out _ (l.out.drew.kept B aL);have cf:x.cell? ⟨g0,c,none⟩=some (.slice Q y.length ce):=(B.cell_far ⟨g0,c,none⟩ L aO).trans aB;have ch:x.frozen? ⟨g0,c,none⟩=false:=(B.frozen_far ⟨g0,c,none⟩ L aO).trans aF;clear R a2 B cb))
    all_goals have n0:=Aside0.mk (sU aS.out (by omega) E.out a0.out a4.out L)
    all_goals have n1:=Aside0.mk ((l.out.drew.kept E.out aL).kept (jJ x g0 c (.slice T (y.length+1) U)) (by simp;omega))
    all_goals have n2:=Aside0.mk (V.out.grown (jJ x g0 c (.slice T (y.length+1) U)) (by have:=V.out.size;have:=l.out.lt;have:W.drew.heap.size=W.heap.size:=rfl;have:=E.out.size;omega) (fun q e=>by injection e with e;omega))
    all_goals have n3:=Aside0.mk (J.out)
    all_goals have n4:Aside0 (∀z∈X.set c (y++[(k:Int)]),z.length<=k+1):=⟨sV ab.out O⟩
    all_goals have n5:Aside0 ((X.set c (y++[(k:Int)])).length=X.length):=⟨List.length_set⟩
    all_goals clear b' ca cd aB aF cf ch E V a4 a1 aS a0 b_ HR
    all_goals generalize (x.setCell ⟨g0,c,none⟩ (.slice T (y.length+1) U))=w5 at n0 n1 n2⊢
    all_goals go_wp2
    all_goals exact⟨⟨k+1,_,K,by omega,by go_num,⟨by rw[n5.out];exact aa.out⟩,n4,n0,n1,n3,n2⟩,(show n- ((k:Int)+1).toNat<n- ((k:Int)).toNat by omega)⟩
   ·have d7:rootOf p k<k:=by omega
    have ek:=Lib.hid F;have J:=Aside0.mk (HP.out.skip F);have G:bN p (k+1)=bN p k:=by rw[Hs.out,if_neg F];rfl
    have aa:=Aside0.mk (Y.out.trans G.symm);rw[<-G] at J;clear G F hle;have ab:=HY;have l:=Aside0.mk (HM.out.mono (Nat.le_succ k));have I:=Z;have am:=HB;clear HM Z HB HP Y HY;obtain⟨Ao,co,rfl⟩:=Kd.kJ I.out;obtain⟨W,rfl⟩:∃W,W=wr:=⟨_,rfl⟩;obtain⟨X,rfl⟩:∃X,X=xs:=⟨_,rfl⟩;obtain⟨K,rfl⟩:∃K,K=D:=⟨_,rfl⟩;generalize c5:rootOf p k=r at d7 CR cq;have el:=Lib.hid c5;clear c5;have em:((r:Nat):Int)≠(k:Int):=by omega
    go_wp2_with (first|(go_at_call 210;refine CR.out.mono ?_;rintro e w1 ⟨rfl,rfl⟩))
    obtain⟨c,bx,an⟩:=J.out.2 r (by omega) cq.out;have C:∀w':World,w'.ownsMap Tryz.prog 3 (plainElem Tryz.prog 3) b (k+1) K->(Instr.lookup 229 (.map (some b)) (.int .i64 (r:Nat)) false).run Tryz.prog w'= .ok (.int .i64 c) w':=fun w' h=>by
     obtain⟨c',b0,o,_⟩:=h.lookup_int pD Tryz.underlying229 Tryz.underlying3 (pC _) (pE (a:=r) (by omega));rw[an] at o;injection o with o
     injection o with _ o
     rw[b0,o]
    have b1:=aa.out;have b2:=mc p (k+1);obtain⟨g0,cap,hv,d1,L,cells,M⟩:=Kd.oY I.out (by omega)
    (first|subst hv|(injection hv with b3 _ b4;subst b3;subst b4))
    obtain⟨oki,cc,b5,⟨ev,rfl,j⟩,ar,av,N,hH⟩:=Kd.rW (Kd.j4 (ok':=fun q=>True∧¬W.heap.size<=q) (Kd.lP I.out) (fun q m=>⟨trivial,by have:=m.2.2.1;omega⟩)) [] (c:Int) (by omega) (by omega);have O:(X.getD (c:Int).toNat []).length<=k:=by
     have P:c<X.length:=by omega
     rw[Int.toNat_natCast,List.getD_eq_getElem?_getD,List.getElem?_eq_getElem P];exact ab.out _ (List.getElem_mem P)
    have aB:W.cell? ⟨g0,c,none⟩=some ev:=by have h1:=ar 0 _ rfl;rw[Int.toNat_natCast] at h1;simpa [Kd.slice] using h1
    have aF:W.frozen? ⟨g0,c,none⟩=false:=by have h1:=av 0;rw[Int.toNat_natCast] at h1;simpa [Kd.slice] using h1
    rw[Int.toNat_natCast] at j O;have b6:=Lib.hid (show (X.getD (c:Int).toNat [])=X.getD c [] by rw[Int.toNat_natCast]);generalize X.getD c []=y at j O b6;obtain⟨Q,ce,rfl⟩:=Kd.aZ j;have aL:some b≠(Value.slice Q y.length ce).ownBlock:=fun e=>by
     obtain⟨cs,u⟩:=Kd.fS j b e.symm;obtain⟨es,ck,s, -⟩:=l.out;rw[s] at u;cases u
    have d2:g0≠b:=fun e=>by
     subst e;obtain⟨es,ck,s, -⟩:=l.out;rw[s] at M;cases M
    have aO:some g0≠(Value.slice Q y.length ce).ownBlock:=fun e=>(N g0 (j.1 g0 e.symm)).2 rfl
    have HR:=Aside0.mk (Kd.a8 (Kd.aV (ok':=fun q=>oki q∨W.heap.size<=q) j (fun q m=>.inl m)));have aS:=Aside0.mk hH;have a0:=Aside0.mk j.1;have b_:=Aside0.mk N;clear hH ar av j N M cells b5;have b':=C _ l.out.drew;have ca:=C _ ((l.out.alloc (.cells #[.int .i64 k] 3)).drew);have d3:(0:Int)<=(c:Int):=by omega
    have d4:(c:Int)<(X.length:Int):=by omega
    have a1:=Aside0.mk C;have d5:c<12:=by omega
    have bi:X.length<=12:=by omega
    have P:c<X.length:=by omega
    clear C an bx b1 b2;go_region_law ((refine Kd.oO (Kd.int .i64) (w0:=w) (W:=W.drew) b (by rfl) (.tmp 36) (.tmp 38) 25 3 (.int .i64 0) 8 (by rfl) Tryz.underlying25 fY rfl (by decide) (by omega) _ y (k:Int) [.int .i64 k] (fun q=>oki q∨W.heap.size<=q) (fun _=>False) (by rfl) (by rfl) rfl (fun _ hk=>hk.elim) (fun q m=>.inr m) HR.out (bL am.out) (by have:=am.out.size;show b<=W.heap.size;omega) (by omega) ?_;intro v4 x R a2 B cb;obtain⟨T,U,a3⟩:=Kd.aZ R;rw[show (y++[(k:Int)]).length=y.length+1 by simp] at a3;subst a3;have a4:=Aside0.mk R;have V:=Aside0.mk a2;have E:=Aside0.mk B;have cd:=a1.out _ (l.out.drew.kept B aL);have cf:x.cell? ⟨g0,c,none⟩=some (.slice Q y.length ce):=(B.cell_far ⟨g0,c,none⟩ L aO).trans aB;have ch:x.frozen? ⟨g0,c,none⟩=false:=(B.frozen_far ⟨g0,c,none⟩ L aO).trans aF;clear R a2 B cb))
    all_goals have n0:=Aside0.mk (sU aS.out (by omega) E.out a0.out a4.out L)
    all_goals have n1:=Aside0.mk ((l.out.drew.kept E.out aL).kept (jJ x g0 c (.slice T (y.length+1) U)) (by simp;omega))
    all_goals have n2:=Aside0.mk (V.out.grown (jJ x g0 c (.slice T (y.length+1) U)) (by have:=V.out.size;have:=l.out.lt;have:W.drew.heap.size=W.heap.size:=rfl;have:=E.out.size;omega) (fun q e=>by injection e with e;omega))
    all_goals have n3:=Aside0.mk (J.out)
    all_goals have n4:Aside0 (∀z∈X.set c (y++[(k:Int)]),z.length<=k+1):=⟨sV ab.out O⟩
    all_goals have n5:Aside0 ((X.set c (y++[(k:Int)])).length=X.length):=⟨List.length_set⟩
    all_goals clear b' ca cd aB aF cf ch E V a4 a1 aS a0 b_ HR
    all_goals generalize (x.setCell ⟨g0,c,none⟩ (.slice T (y.length+1) U))=w5 at n0 n1 n2⊢
    all_goals go_wp2
    all_goals exact⟨⟨k+1,_,K,by omega,by go_num,⟨by rw[n5.out];exact aa.out⟩,n4,n0,n1,n3,n2⟩,(show n- ((k:Int)+1).toNat<n- ((k:Int)).toNat by omega)⟩
  ·obtain rfl:k=n:=by omega
   go_wp2;go_ret;obtain⟨A,c,rfl⟩:=Kd.kJ Z.out;exact⟨A,c,by rw[Y.out];rfl,by rw[cl];exact HB.out⟩
end Go.Proofs.YtffdiakgjakngaaGreat.P
namespace Go.Proofs.YtffdiakgjakngaaGreat.P
open Go.RowKit Go.Proofs.YtffdiakgjakngaaGreatW.PrintWords Go.Proofs.YtffdiakgjakngaaGreatW.PrintLast Go.Proofs.YtffdiakgjakngaaGreatW.PrintMore
set_option linter.unusedVariables false
set_option linter.unusedSimpArgs false
set_option maxHeartbeats 8000000
set_option maxRecDepth 100000
def e7 (n:Nat) (E:List S83):Prop:=∀S:Nat->Bool,(∃v,v<n∧S v=true)->(∃v,v<n∧S v=false)->∃x,x∈E∧S x.f0.toNat≠S x.f1.toNat
theorem nC {p:Nat->Nat} {v:Nat} (h:p v<v):rootOf p v=rootOf p (p v):=by rw[rootOf,dif_pos h]
theorem kV {p:Nat->Nat} {v:Nat} (h:¬p v<v):rootOf p v=v:=by rw[rootOf,dif_neg h]
theorem zH {p:Nat->Nat} {v:Nat} (h:rootOf p v=v):¬p v<v:=fun a=>by
 have h1:=nC a;have b:=hZ p (p v);omega
theorem kX (p:Nat->Nat) (a b v:Nat):rootOf (dq p a b) v=if rootOf p v=max (rootOf p a) (rootOf p b) then min (rootOf p a) (rootOf p b) else rootOf p v:=by
 have l:=kU p a;have hb:=kU p b;have i:rootOf p (max (rootOf p a) (rootOf p b))=max (rootOf p a) (rootOf p b):=by rw[Nat.max_def];split<;>assumption
 have hm:rootOf p (min (rootOf p a) (rootOf p b))=min (rootOf p a) (rootOf p b):=by rw[Nat.min_def];split<;>assumption
 have hle:min (rootOf p a) (rootOf p b)<=max (rootOf p a) (rootOf p b):=by omega
 have h:∀j,dq p a b j=if j=max (rootOf p a) (rootOf p b) then min (rootOf p a) (rootOf p b) else p j:=fun j=>rfl
 generalize max (rootOf p a) (rootOf p b)=M at*;generalize min (rootOf p a) (rootOf p b)=m at*;generalize dq p a b=q at*;induction v using Nat.strongRecOn with
 |ind v k=>
  by_cases e:v=M
  ·subst e
   rw[i,if_pos rfl];by_cases g:m<v
   ·have h1:q v=m:=by rw[h,if_pos rfl]
    rw[nC (by omega),h1];refine kV ?_;rw[h,if_neg (by omega)];exact zH hm
   ·rw[kV (by rw[h,if_pos rfl];exact g)]
    omega
  ·have h1:q v=p v:=by rw[h,if_neg e]
   by_cases g:p v<v
   ·rw[nC (p:=q) (by omega),h1,k _ g,nC (p:=p) g]
   ·rw[kV (p:=q) (by omega),kV (p:=p) g,if_neg e]
theorem zI (S:Nat->Bool):∀(E:List S83) (p:Nat->Nat),(∀x∈E,S x.f0.toNat=S x.f1.toNat)->(∀v,S (rootOf p v)=S v)->∀v,S (rootOf (E.foldl (fun p x=>dq p x.f0.toNat x.f1.toNat) p) v)=S v:=by
 intro E;induction E with
 |nil=>exact fun p _ h=>h
 |cons x E g=>
  intro p a h;refine g _ (fun y i=>a y (List.mem_cons_of_mem _ i)) fun v=>?_
  rw[kX];split
  ·rename_i e
   have j:=a x (List.mem_cons_self ..);have h1:=h x.f0.toNat;have k:=h x.f1.toNat;have b:=h v;rw[e] at b;rw[<-b];rw[Nat.min_def,Nat.max_def];split<;>simp_all
  ·exact h v
theorem zJ:∀(E:List S83) (p:Nat->Nat) (u v:Nat),rootOf p u=rootOf p v->rootOf (E.foldl (fun p x=>dq p x.f0.toNat x.f1.toNat) p) u=rootOf (E.foldl (fun p x=>dq p x.f0.toNat x.f1.toNat) p) v:=by
 intro E;induction E with
 |nil=>exact fun p u v h=>h
 |cons x E a=>
  intro p u v h;refine a _ u v ?_;rw[kX,kX,h]
theorem zM:∀(E:List S83) (p:Nat->Nat),∀x∈E,rootOf (E.foldl (fun p x=>dq p x.f0.toNat x.f1.toNat) p) x.f0.toNat=rootOf (E.foldl (fun p x=>dq p x.f0.toNat x.f1.toNat) p) x.f1.toNat:=by
 intro E;induction E with
 |nil=>exact fun p x a=>absurd a (by simp)
 |cons y E e=>
  intro p x a;rcases List.mem_cons.1 a with rfl|a
  ·refine zJ E _ _ _ ?_
   rw[kX,kX];by_cases h1:rootOf p x.f0.toNat=max (rootOf p x.f0.toNat) (rootOf p x.f1.toNat)<;>by_cases b:rootOf p x.f1.toNat=max (rootOf p x.f0.toNat) (rootOf p x.f1.toNat)
   ·rw[if_pos h1,if_pos b]
   ·rw[if_pos h1,if_neg b];omega
   ·rw[if_neg h1,if_pos b];omega
   ·omega
  ·exact e _ x a
theorem sW (p:Nat->Nat) (a:rootOf p 0=0):∀u,1<=u->1<=bN p u
 |0,h=>by omega
 |u+1,_=>by
  by_cases e:u=0
  ·subst e;simp[bN,a]
  ·have:=sW p a u (by omega)
   simp only[bN];omega
theorem sX (p:Nat->Nat) (a:rootOf p 0=0):∀u,bN p u=1->∀v,v<u->rootOf p v=v->v=0
 |0,h=>by simp[bN] at h
 |u+1,h=>by
  intro v g b;simp only[bN] at h;by_cases e:u=0
  ·omega
  ·have h1:=sW p a u (by omega)
   by_cases hu:rootOf p u=u
   ·rw[if_pos hu] at h;omega
   ·rw[if_neg hu] at h
    by_cases ev:v=u
    ·subst ev;exact absurd b hu
    ·exact sX p a u (by omega) v (by omega) b
theorem sY (p:Nat->Nat):∀u,1<=u->(∀v,v<u->rootOf p v=0)->bN p u=1
 |0,h,_=>by omega
 |u+1,_,h=>by
  by_cases e:u=0
  ·subst e;simp[bN,h 0 (by omega)]
  ·have:=sY p u (by omega) (fun v a=>h v (by omega))
   simp only[bN];rw[this,h u (by omega),if_neg (fun e2=>e e2.symm)]
theorem sZ {n:Nat} {E:List S83} (hn:1<=n) (r:dV n E):bN (aJ E) n=1↔e7 n E:=by
 have i:rootOf (aJ E) 0=0:=Nat.le_zero.1 (hZ _ 0);constructor
 ·rintro h S ⟨u,hu,l⟩ ⟨v,b,m⟩
  refine Classical.byContradiction fun e=>?_
  have hS:∀x∈E,S x.f0.toNat=S x.f1.toNat:=fun x o=>Classical.byContradiction fun g=>e ⟨x,o,g⟩
  have j:=zI S E id hS (fun v=>by rw[kV (by simp)]);have k:∀w,w<n->rootOf (aJ E) w=0:=fun w hw=>sX _ i n h _ (Nat.lt_of_le_of_lt (hZ _ w) hw) (kU _ w)
  have h1:=j u;have a:=j v;rw[show E.foldl (fun p x=>dq p x.f0.toNat x.f1.toNat) id=aJ E from rfl] at h1 a;rw[k u hu] at h1;rw[k v b] at a;rw[h1,l] at a;rw[m] at a;cases a
 ·intro h
  refine sY _ n hn fun v b=>?_
  refine Classical.byContradiction fun g=>?_
  obtain⟨x,e,q⟩:=h (fun u=>decide (rootOf (aJ E) u=0)) ⟨0,by omega,by simp[i]⟩ ⟨v,b,by simp[g]⟩;have:=zM E id x e;rw[show E.foldl (fun p x=>dq p x.f0.toNat x.f1.toNat) id=aJ E from rfl] at this;simp only[this,ne_eq,not_true_eq_false] at q
mutual
def bO.l0:Nat->List Bool->Int->Int->List (S83)->Option (List Bool)
 |0,_,_,_,_=>none
 |k+1,a,b,e,g=>if b<e then(bO.l1 k a b 0 e g) else(some a)
def bO.l1:Nat->List Bool->Int->Int->Int->List (S83)->Option (List Bool)
 |0,_,_,_,_,_=>none
 |k+1,b,e,g,a,h=>if g<a then(bO.l2 k b e g 0 a h) else(bO.l0 k b (wrap64 (e+1)) a h)
def bO.l2:Nat->List Bool->Int->Int->Int->Int->List (S83)->Option (List Bool)
 |0,_,_,_,_,_,_=>none
 |k+1,e,i,a,b,g,h=>if b<g then(if 0<=a then(if a<(e.length:Int) then(if bH false e a=true then((dC.f k g h a b).bind fun t132=>(if t132>0 then(if 0<=b then(if b<(e.length:Int) then(bO.l2 k (e.set (b:Int).toNat true) i a (wrap64 (b+1)) g h) else(none)) else(none)) else(bO.l2 k e i a (wrap64 (b+1)) g h))) else(bO.l2 k e i a (wrap64 (b+1)) g h)) else(none)) else(none)) else(bO.l1 k e i (wrap64 (a+1)) g h)
end
def bO.f (k:Nat) (a:Int) (g:List (S83)) (b:Int):Option (List Bool):=if 0<=a then(if(a:Int).toNat<=281474976710656 then((some (List.replicate (a:Int).toNat false:List Bool)).bind fun e=>(if 0<=b then(if b<(e.length:Int) then(bO.l0 k (e.set (b:Int).toNat true) 0 a g) else(none)) else(none))) else(none)) else(none)
theorem bO.calls (k:Nat) (g:Int) (Y:Option Addr) (Z:Nat) (l:List (S83)) (x:Int) (r:List Bool) (w:World) (ch:Kd.C aK w Y l.length l) (ci:l.length<=Z) (h:bO.f k g l x=some r):
  Calls Tryz.prog 131 #[.agg #[.int .i64 g,.slice Y l.length Z],.int .i64 x] w fun e w'=>∃cj:Value,e= .returned (cj)∧Kd.R Kd.bool 4 w' w.heap.size (fun _=>True) cj r∧Below w.heap.size w w':=by
 have es:=Tryz.underlying24;have ck:=Aside0.mk ch;have cl:=Aside0.mk ci;clear ch ci;have q:=Aside0.mk (Below.refl w.heap.size w);unfold bO.f at h;have H:=h;clear h;by_cases c3:0<=g
 ·rw[if_pos c3] at H
  have a5:=eq_true c3;have a9:=decide_eq_true c3;clear c3;by_cases c4:(g:Int).toNat<=281474976710656
  ·rw[if_pos c4] at H
   have be:=eq_true c4;have bf:=decide_eq_true c4;clear c4;obtain⟨T,ag⟩:∃y_:List Bool,y_=(List.replicate (g:Int).toNat false):=⟨_,rfl⟩;replace H:(if 0<=x then(if x<(T.length:Int) then(bO.l0 k (T.set (x:Int).toNat true) 0 g l) else(none)) else(none))=some r:=by first|(rw[ag];with_reducible exact H)|(have D:=(Option.bind_some _ _).symm.trans H;rw[ag];with_reducible exact D)|(have D:=(Option.bind_some _ _).symm.trans H;with_reducible exact D)|with_reducible exact H|(rw[ag];exact H)|exact H
   have co:=Aside0.mk ag;clear ag;by_cases U:0<=x
   ·rw[if_pos U] at H
    have bg:=decide_eq_true U;clear U;by_cases V:x<(T.length:Int)
    ·rw[if_pos V] at H
     have bi:=decide_eq_true V;clear V;obtain⟨bk,am⟩:∃y_:List Bool,y_=(T.set (x:Int).toNat true):=⟨_,rfl⟩;replace H:(bO.l0 k bk 0 g l)=some r:=by first|(rw[am];with_reducible exact H)|(have D:=(Option.bind_some _ _).symm.trans H;rw[am];with_reducible exact D)|(have D:=(Option.bind_some _ _).symm.trans H;with_reducible exact D)|with_reducible exact H|(rw[am];exact H)|exact H
     have d2:=Aside0.mk am;clear am;have n:=Aside0.mk H;clear H;go_enter Tryz.func131,Tryz.ntmps131
     go_wp2_with (first|((with_reducible refine aH (N:=2) rfl ?_);refine zX 2 #[.int .i64 g,.slice Y l.length Z] 24 ?_;intro bn z w8 cq hb;have a:=Aside0.mk (cq);have ew:=zG q z;have ex:=zG q z;replace q:=zS q hb;clear hb cq z;obtain⟨bo,bv,bw,bx⟩:=au a)|((with_reducible refine aH (N:=11) rfl ?_);refine Kd.jx Kd.bool _ 4 rfl (N:=11) rfl 43 _ _ rfl g rfl rfl Tryz.underlying43 (.bool false) 1 l4 rfl (by decide) (by omega) false (ok:=fun _=>True) (okp:=fun _=>True) rfl (fun _ hk=>hk) trivial (of_decide_eq_true ‹_›) (Nat.le_trans (Nat.mul_le_mul_right _ (of_decide_eq_true ‹_› :g.toNat<=281474976710656)) (by omega)) (Below.refl _ _) (Nat.le_refl _) ?_;intro ey cr an hb d3 d4;clear d3 d4;(first|rw[<-co.out] at an|(simp only[Int.reduceToNat] at an;rw[<-co.out] at an));have W:=Aside0.mk (Kd.aW an (a_ zB));replace a:=zb a hb;replace q:=zS q hb;clear hb an;have M:0<=(x:Int):=of_decide_eq_true ‹_›;have O:(x:Int)<((T.length:Int):Int):=of_decide_eq_true ‹_›;obtain⟨B,ap,cs,cv,d5,e0,cx⟩:=Kd.fg W.out (by omega);(first|cases cs|(injection cs with aO d6 d7;(first|subst aO|(injection aO with aO;subst aO));subst d7;clear d6));have c0:=Aside0.mk cv;have e1:=Aside0.mk cx;clear cv d5 cx;obtain⟨b0,e2⟩:=Kd.bJ false W.out (x:Int) M O;replace M:=eq_true M;replace O:=eq_true O;obtain⟨e3,e4⟩:=Kd.bJ false W.out (x:Int) (of_decide_eq_true ‹_›) (of_decide_eq_true ‹_›);have b1:=Kd.cZ W.out (x:Int) true)|((with_reducible refine jz (t:=4) (p:=14) rfl ?_);refine jy (t:=4) (p:=14) (v:=?Fz) (w1:=(cr.setCell ⟨B,(x:Int).toNat,none⟩ (.bool true))) ?z ?ho ?hn ?hr ?_;(case ho=>rfl);(case z=>rfl);(case hn=>rfl);(case hr=>first|(go_simp;done)|(go_simp;rfl));intro b4 hw;have z:cr.grownBy b4 (some B):=(by rw[hw];exact b1.2);have ar:Kd.R Kd.bool 4 b4 w.heap.size (fun _=>True) (.slice (some ⟨B,0,none⟩) T.length ap) bk:=(by rw[hw,d2.out];exact b1.1);clear b1;replace a:=Aside0.mk (cI (zK a) z (Kd.dh W.out a.out (by decide)));replace W:=Aside0.mk (ar);replace q:=Aside0.mk ((by rw[hw];exact ec (q.out) c0.out:Below w.heap.size w b4));clear z hw ar))
     go_loopg [6] k (fun P v6 w'=>∃(av:List Bool) (E:Int),v6= .int .i64 E∧Aside0 (bO.l0 P av E g l=some r)∧Aside0 (P<=k)∧Aside0 (Kd.R Kd.bool 4 w' w.heap.size (fun _=>True) (.slice (some ⟨B,0,none⟩) T.length ap) av)∧Aside0 (w'.heap[bn]? =some (.cells #[.int .i64 g,(.slice Y l.length Z)] 24 (0,0)))∧Aside0 (Below w.heap.size w w'))
     case atStart=>exact⟨(bk),(0),zT,n,⟨Nat.le_refl _⟩,⟨zR W⟩,⟨zK a⟩,⟨zB⟩⟩
     case round=>
      clear n;try clear c1
      try clear p2
      try clear c3
      try clear a5
      try clear a9
      try clear c4
      try clear be
      try clear bf
      try clear U
      try clear bg
      try clear V
      try clear bi
      try clear M
      try clear O
      try clear c2
      try clear c7
      try clear c8
      try clear bo
      try clear bv
      try clear bw
      try clear bx
      try clear b0
      try clear M
      try clear O
      obtain⟨av,E,rfl,F,K,b,a,q⟩:=hrel;have o:=(Kd.aA b.out).1;rw[o] at b
      (try simp only[o])
      (try simp only[o] at a)
      cases gk with
      |zero=>exact absurd F.out (by simp[bO.l0])
      |succ k1=>
       have H:=F.out;clear F;simp only[bO.l0] at H;by_cases Q:E<g
       ·rw[if_pos Q] at H
        have b5:=decide_eq_true Q;clear Q;have n:=Aside0.mk H;clear H;obtain⟨c',dd,dk,dl⟩:=au a;go_wp2;go_loopg [7] k1 (fun P v7 w'=>∃(aa:List Bool) (j:Int),v7= .int .i64 j∧Aside0 (bO.l1 P aa E j g l=some r)∧Aside0 (P<=k1)∧Aside0 (Kd.R Kd.bool 4 w' w.heap.size (fun _=>True) (.slice (some ⟨B,0,none⟩) av.length ap) aa)∧Aside0 (w'.heap[bn]? =some (.cells #[.int .i64 g,(.slice Y l.length Z)] 24 (0,0)))∧Aside0 (Below w.heap.size w w'))
        case atStart=>exact⟨(av),(0),zT,n,⟨Nat.le_refl _⟩,⟨by(try simp only[o]);(with_reducible repeat(first|apply Kd.aI|apply Kd.ba|apply Kd.a8));exact b.out⟩,⟨by(try simp only[o]);exact zK a⟩,⟨zB⟩⟩
        case round=>
         clear n;try clear c1
         try clear p2
         try clear c3
         try clear a5
         try clear a9
         try clear c4
         try clear be
         try clear bf
         try clear U
         try clear bg
         try clear V
         try clear bi
         try clear M
         try clear O
         try clear c2
         try clear c7
         try clear c8
         try clear Q
         try clear b5
         try clear c'
         try clear dd
         try clear bo
         try clear bv
         try clear dk
         try clear dl
         try clear bw
         try clear bx
         try clear b0
         try clear p2
         try clear M
         try clear O
         obtain⟨aa,j,rfl,F,L,b,a,q⟩:=hrel;have s:=(Kd.aA b.out).1;rw[s] at b
         (try simp only[s])
         (try simp only[s] at a)
         cases gk with
         |zero=>exact absurd F.out (by simp[bO.l1])
         |succ k2=>
          have H:=F.out;clear F;simp only[bO.l1] at H;by_cases X:j<g
          ·rw[if_pos X] at H
           have ds:=decide_eq_true X;clear X;have n:=Aside0.mk H;clear H;obtain⟨d9,ea,eb,ed⟩:=au a;go_wp2;go_loopg [8] k2 (fun P v8 w'=>∃(m:List Bool) (i:Int),v8= .int .i64 i∧Aside0 (bO.l2 P m E j i g l=some r)∧Aside0 (P<=k2)∧Aside0 (Kd.R Kd.bool 4 w' w.heap.size (fun _=>True) (.slice (some ⟨B,0,none⟩) aa.length ap) m)∧Aside0 (w'.heap[bn]? =some (.cells #[.int .i64 g,(.slice Y l.length Z)] 24 (0,0)))∧Aside0 (Below w.heap.size w w'))
           case atStart=>exact⟨(aa),(0),zT,n,⟨Nat.le_refl _⟩,⟨by(try simp only[o]);(try simp only[s]);(with_reducible repeat(first|apply Kd.aI|apply Kd.ba|apply Kd.a8));exact b.out⟩,⟨by(try simp only[o]);(try simp only[s]);exact zK a⟩,⟨zB⟩⟩
           case round=>
            clear n;try clear c1
            try clear p2
            try clear c3
            try clear a5
            try clear a9
            try clear c4
            try clear be
            try clear bf
            try clear U
            try clear bg
            try clear V
            try clear bi
            try clear M
            try clear O
            try clear c2
            try clear c7
            try clear c8
            try clear Q
            try clear b5
            try clear X
            try clear ds
            try clear c'
            try clear dd
            try clear d9
            try clear ea
            try clear bo
            try clear bv
            try clear dk
            try clear dl
            try clear eb
            try clear ed
            try clear bw
            try clear bx
            try clear b0
            try clear p2
            try clear M
            try clear O
            obtain⟨m,i,rfl,F,S,b,a,q⟩:=hrel;have u:=(Kd.aA b.out).1;rw[u] at b
            (try simp only[u])
            (try simp only[u] at a)
            cases gk with
            |zero=>exact absurd F.out (by simp[bO.l2])
            |succ G=>
             have H:=F.out;clear F;simp only[bO.l2] at H;by_cases ab:i<g
             ·rw[if_pos ab] at H
              have ek:=decide_eq_true ab;clear ab;by_cases aS:0<=j
              ·rw[if_pos aS] at H
               have e5:=decide_eq_true aS;clear aS;by_cases a0:j<(m.length:Int)
               ·rw[if_pos a0] at H
                have e6:=decide_eq_true a0;clear a0;obtain⟨dv,b'⟩:∃b_:Bool,b_=(bH false m j):=⟨_,rfl⟩;replace H:(if dv=true then((dC.f G g l j i).bind fun t132=>(if t132>0 then(if 0<=i then(if i<(m.length:Int) then(bO.l2 G (m.set (i:Int).toNat true) E j (wrap64 (i+1)) g l) else(none)) else(none)) else(bO.l2 G m E j (wrap64 (i+1)) g l))) else(bO.l2 G m E j (wrap64 (i+1)) g l))=some r:=by rw[<-b'] at H;exact H
                have ca:=Aside0.mk b';clear b';by_cases a2:dv=true
                ·subst a2
                 replace H:=zi H;obtain⟨t132,d0,H⟩:=zo H;by_cases ad:t132>0
                 ·rw[if_pos ad] at H
                  have em:=decide_eq_true ad;clear ad;by_cases a3:0<=i
                  ·rw[if_pos a3] at H
                   have e_:=decide_eq_true a3;clear a3;by_cases a4:i<(m.length:Int)
                   ·rw[if_pos a4] at H
                    have e':=decide_eq_true a4;clear a4;obtain⟨cb,aB⟩:∃y_:List Bool,y_=(m.set (i:Int).toNat true):=⟨_,rfl⟩;replace H:(bO.l2 G cb E j (wrap64 (i+1)) g l)=some r:=by first|(rw[aB];with_reducible exact H)|(have D:=(Option.bind_some _ _).symm.trans H;rw[aB];with_reducible exact D)|(have D:=(Option.bind_some _ _).symm.trans H;with_reducible exact D)|with_reducible exact H|(rw[aB];exact H)|exact H
                    have er:=Aside0.mk aB;clear aB;have n:=Aside0.mk H;clear H;obtain⟨fb,fd,fn,fo⟩:=au a;have I:0<=(j:Int):=of_decide_eq_true ‹_›;have J:j<(m.length:Int):=of_decide_eq_true ‹_›;obtain⟨aF,aL,y⟩:=Kd.jw (Kd.aA b.out).2.2 j I J
                    (try rw[<-ca.out] at y)
                    obtain rfl:(⟨B,0,none⟩:Addr)=aF:=(by injection aL)
                    (first|simp only[add_plain] at y|simp only[gW] at y|simp only[Addr.add,Nat.zero_add] at y|skip)
                    replace I:=eq_true I;replace J:=eq_true J;go_wp2_with (first|(go_at_call 147;(with_reducible refine(dC.calls G g _ _ l j i t132 _ ?af ?ah d0.out).mono ?_);(case af=>exact Kd.al ck.out zB);(case ah=>exact cl.out);rintro e d1 ⟨rfl,hb⟩;replace b:=aR b hb;replace a:=zb a hb;replace q:=zS q hb;(try clear hb);have cc:0<=(i:Int):=of_decide_eq_true ‹_›;have cd:(i:Int)<((m.length:Int):Int):=of_decide_eq_true ‹_›;obtain⟨fq,fr⟩:=Kd.bJ false b.out (i:Int) cc cd;replace cc:=eq_true cc;replace cd:=eq_true cd;obtain⟨ft,fv⟩:=Kd.bJ false b.out (i:Int) (of_decide_eq_true ‹_›) (of_decide_eq_true ‹_›);have ce:=Kd.cZ b.out (i:Int) true)|((with_reducible refine jz (t:=4) (p:=46) rfl ?_);refine jy (t:=4) (p:=46) (v:=?Gm) (w1:=(d1.setCell ⟨B,(i:Int).toNat,none⟩ (.bool true))) ?z ?ho ?hn ?hr ?_;(case ho=>rfl);(case z=>rfl);(case hn=>rfl);(case hr=>first|(go_simp;done)|(go_simp;rfl));intro cf hw;have z:d1.grownBy cf (some B):=(by rw[hw];exact ce.2);have ar:Kd.R Kd.bool 4 cf w.heap.size (fun _=>True) (.slice (some ⟨B,0,none⟩) m.length ap) cb:=(by rw[hw,er.out];exact ce.1);clear ce;replace a:=Aside0.mk (cI (zK a) z (Kd.dh b.out a.out (by decide)));replace b:=Aside0.mk (ar);replace q:=Aside0.mk ((by rw[hw];exact ec (q.out) c0.out:Below w.heap.size w cf));clear z hw ar))
                    (try simp only[<-u])
                    go_roundg G
                    case measure=>have:=K.out;have:=L.out;have:=S.out;omega
                    case rel=>exact⟨(cb),(wrap64 (i+1)),zT,n,⟨by have:=K.out;have:=L.out;have:=S.out;omega⟩,⟨by(try simp only[o]);(try simp only[s]);(try simp only[u]);(with_reducible repeat(first|apply Kd.aI|apply Kd.ba|apply Kd.a8));exact b.out⟩,⟨by(try simp only[o]);(try simp only[s]);(try simp only[u]);exact zK a⟩,⟨zB⟩⟩
                   ·rw[if_neg a4] at H
                    exact absurd H (by simp)
                  ·rw[if_neg a3] at H
                   exact absurd H (by simp)
                 ·rw[if_neg ad] at H
                  have em:=decide_eq_false ad;clear ad;have n:=Aside0.mk H;clear H;obtain⟨f0,f1,f2,f3⟩:=au a;have I:0<=(j:Int):=of_decide_eq_true ‹_›;have J:j<(m.length:Int):=of_decide_eq_true ‹_›;obtain⟨aF,aL,y⟩:=Kd.jw (Kd.aA b.out).2.2 j I J
                  (try rw[<-ca.out] at y)
                  obtain rfl:(⟨B,0,none⟩:Addr)=aF:=(by injection aL)
                  (first|simp only[add_plain] at y|simp only[gW] at y|simp only[Addr.add,Nat.zero_add] at y|skip)
                  replace I:=eq_true I;replace J:=eq_true J;go_wp2_with (first|(go_at_call 147;(with_reducible refine(dC.calls G g _ _ l j i t132 _ ?af ?ah d0.out).mono ?_);(case af=>exact Kd.al ck.out zB);(case ah=>exact cl.out);rintro e f4 ⟨rfl,hb⟩;replace b:=aR b hb;replace a:=zb a hb;replace q:=zS q hb;(try clear hb)))
                  (try simp only[<-u])
                  go_roundg G
                  case measure=>have:=K.out;have:=L.out;have:=S.out;omega
                  case rel=>exact⟨(m),(wrap64 (i+1)),zT,n,⟨by have:=K.out;have:=L.out;have:=S.out;omega⟩,⟨by(try simp only[o]);(try simp only[s]);(try simp only[u]);(with_reducible repeat(first|apply Kd.aI|apply Kd.ba|apply Kd.a8));exact b.out⟩,⟨by(try simp only[o]);(try simp only[s]);(try simp only[u]);exact zK a⟩,⟨zB⟩⟩
                ·replace a2:=Bool.eq_false_iff.mpr a2
                 subst a2;replace H:=zj H;have n:=Aside0.mk H;clear H;obtain⟨f5,f6,f7,f8⟩:=au a;have I:0<=(j:Int):=of_decide_eq_true ‹_›;have J:j<(m.length:Int):=of_decide_eq_true ‹_›;obtain⟨aF,aL,y⟩:=Kd.jw (Kd.aA b.out).2.2 j I J
                 (try rw[<-ca.out] at y)
                 obtain rfl:(⟨B,0,none⟩:Addr)=aF:=(by injection aL)
                 (first|simp only[add_plain] at y|simp only[gW] at y|simp only[Addr.add,Nat.zero_add] at y|skip)
                 replace I:=eq_true I;replace J:=eq_true J;go_wp2
                 (try simp only[<-u])
                 go_roundg G
                 case measure=>have:=K.out;have:=L.out;have:=S.out;omega
                 case rel=>exact⟨(m),(wrap64 (i+1)),zT,n,⟨by have:=K.out;have:=L.out;have:=S.out;omega⟩,⟨by(try simp only[o]);(try simp only[s]);(try simp only[u]);(with_reducible repeat(first|apply Kd.aI|apply Kd.ba|apply Kd.a8));exact b.out⟩,⟨by(try simp only[o]);(try simp only[s]);(try simp only[u]);exact zK a⟩,⟨zB⟩⟩
               ·rw[if_neg a0] at H
                exact absurd H (by simp)
              ·rw[if_neg aS] at H
               exact absurd H (by simp)
             ·rw[if_neg ab] at H
              have ek:=decide_eq_false ab;clear ab;have n:=Aside0.mk H;clear H;obtain⟨f9,f',gb,gc⟩:=au a;go_wp2
              (try simp only[<-s,<-u])
              go_roundg G
              case measure=>have:=K.out;have:=L.out;have:=S.out;omega
              case rel=>exact⟨(m),(wrap64 (j+1)),zT,n,⟨by have:=K.out;have:=L.out;have:=S.out;omega⟩,⟨by(try simp only[o]);(try simp only[s]);(try simp only[u]);(with_reducible repeat(first|apply Kd.aI|apply Kd.ba|apply Kd.a8));exact b.out⟩,⟨by(try simp only[o]);(try simp only[s]);(try simp only[u]);exact zK a⟩,⟨zB⟩⟩
          ·rw[if_neg X] at H
           have ds:=decide_eq_false X;clear X;have n:=Aside0.mk H;clear H;obtain⟨gd,ge,gf,gg⟩:=au a;go_wp2
           (try simp only[<-o,<-s])
           go_roundg k2
           case measure=>have:=K.out;have:=L.out;omega
           case rel=>exact⟨(aa),(wrap64 (E+1)),zT,n,⟨by have:=K.out;have:=L.out;omega⟩,⟨by(try simp only[o]);(try simp only[s]);(with_reducible repeat(first|apply Kd.aI|apply Kd.ba|apply Kd.a8));exact b.out⟩,⟨by(try simp only[o]);(try simp only[s]);exact zK a⟩,⟨zB⟩⟩
       ·rw[if_neg Q] at H
        have b5:=decide_eq_false Q;clear Q;obtain rfl:=Option.some.inj H;obtain⟨gi,gl,gm,gn⟩:=au a;go_wp2;go_ret;exact⟨_,zE,by(with_reducible repeat(first|apply Kd.aI|apply Kd.ba|apply Kd.a8));exact b.out,zB⟩
    ·rw[if_neg V] at H
     exact absurd H (by simp)
   ·rw[if_neg U] at H
    exact absurd H (by simp)
  ·rw[if_neg c4] at H
   exact absurd H (by simp)
 ·rw[if_neg c3] at H
  exact absurd H (by simp)
end Go.Proofs.YtffdiakgjakngaaGreat.P

