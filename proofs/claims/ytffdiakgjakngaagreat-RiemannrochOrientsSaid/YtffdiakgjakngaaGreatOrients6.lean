/- Orients answers true whatever the input (text 6 of 7): own walks and plain laws; no conditions. -/
import Derived.BigQuiet
import Derived.Deep.QuietTactic
import Derived.DeepKeys3
import Derived.Laws.CopyRow
import Derived.Maps.Keyed
import Derived.Maps.Own
import Derived.Shelf.SlSortCmp.NoneTotal
import Derived.StillTailTactics
import Derived.Test.YtffdiakgjakngaaGreatOrients5
namespace Go.Proofs.YtffdiakgjakngaaGreat.P
open Go.RowKit Go.Proofs.YtffdiakgjakngaaGreatW.PrintWords Go.Proofs.YtffdiakgjakngaaGreatW.PrintLast Go.Proofs.YtffdiakgjakngaaGreatW.PrintMore
set_option linter.unusedVariables false
set_option linter.unusedSimpArgs false
set_option maxHeartbeats 8000000
set_option maxRecDepth 100000
section
theorem s9:∀(L a:List (Nat×Nat)) (u v:Nat),T.mult (L++a) u v=T.mult L u v+T.mult a u v
 |[],a,u,v=>by show T.mult a u v=0+T.mult a u v;omega
 |x::L,a,u,v=>by
  show _+T.mult (L++a) u v=_+T.mult L u v+T.mult a u v
  rw[s9 L a u v];omega
def ot (x:S83) (u v:Nat):Int:=if x.f0.toNat=u/\x.f1.toNat=v\/x.f0.toNat=v/\x.f1.toNat=u then x.f2 else 0
theorem yU (s:Nat) (a b:Int) (u v:Nat):∀m,T.mult (cM (fO s a b m)) u v=if a.toNat=u/\b.toNat=v\/a.toNat=v/\b.toNat=u then(m:Int) else 0
 |0=>by simp[fO,cM,T.mult]
 |m+1=>by
  rw[fO,cM,List.map_append,s9];have e:=yU s a b u v m;unfold cM at e;rw[e];show _+((if a.toNat=u/\b.toNat=v\/a.toNat=v/\b.toNat=u then 1 else 0)+0)=_
  split<;>omega
def kZ (E:List S83) (u v:Nat):Int:=(E.map fun x=>ot x u v).sum
theorem yV {E:List S83} (a:∀x∈E,0<=x.f2) (u v:Nat):∀k,k<=E.length->T.mult (cM (bu E k)) u v=kZ (E.take k) u v
 |0,_=>by simp[bu,cM,T.mult,kZ]
 |k+1,hk=>by
  have b:=yV a u v k (by omega);rw[bu,cM,List.map_append,s9];unfold cM at b;have e:ae E k=E[k]:=by simp[ae,aW,bp (show k<E.length by omega)]
  have g:=yU (cV E k) (ae E k).f0 (ae E k).f1 u v (ae E k).f2.toNat;unfold cM at g;rw[b,g,e,List.take_succ_eq_append_getElem (by omega)];unfold kZ;rw[List.map_append,List.sum_append];have hp:=a E[k] (List.getElem_mem _);simp only[List.map_cons,List.map_nil,List.sum_cons,List.sum_nil];unfold ot;split<;>omega
theorem yW {n:Nat}:∀(E:List S83) (f:Nat->Nat->Int),(∀x∈E,bQ n x=true/\x.f0<x.f1/\f x.f0.toNat x.f1.toNat=0/\f x.f1.toNat x.f0.toNat=0)->E.Pairwise iP->∀u v,E.foldl cY f u v=f u v+kZ E u v
 |[],f,_,_,u,v=>by simp[kZ]
 |x::E,f,h,hp,u,v=>by
  obtain⟨g,i⟩:=List.pairwise_cons.1 hp;obtain⟨h1,q,j,k⟩:=h x (List.mem_cons_self ..);simp[bQ] at h1;rw[List.foldl_cons,yW (n:=n) E (cY f x) (fun y a=>by
   obtain⟨b,l,m,o⟩:=h y (List.mem_cons_of_mem _ a);have hb:=g y a;unfold iP at hb;have p:=b;simp[bQ] at p;unfold cY;rw[if_neg (show ¬x.f0=x.f1 by omega)];refine⟨b,l,?_,?_⟩
   ·show (if _ then _ else _)=_
    rw[if_neg (by omega),if_neg (by omega)];exact m
   ·show (if _ then _ else _)=_
    rw[if_neg (by omega),if_neg (by omega)];exact o) i u v]
  have e:kZ (x::E) u v=ot x u v+kZ E u v:=by simp[kZ]
  rw[e];have e2:cY f x u v=f u v+ot x u v:=by
   unfold cY ot;rw[if_neg (show ¬x.f0=x.f1 by omega)];by_cases c1:u=x.f1.toNat/\v=x.f0.toNat
   ·rw[if_pos c1,if_pos (.inr ⟨c1.2.symm,c1.1.symm⟩),c1.1,c1.2,k];omega
   ·rw[if_neg c1]
    by_cases c2:u=x.f0.toNat/\v=x.f1.toNat
    ·rw[if_pos c2,if_pos (.inl ⟨c2.1.symm,c2.2.symm⟩),c2.1,c2.2,j];omega
    ·rw[if_neg c2,if_neg ?_]
     ·omega
     ·rintro(c|c)
      ·exact c2 ⟨c.1.symm,c.2.symm⟩
      ·exact c1 ⟨c.2.symm,c.1.symm⟩
  omega
theorem Iq {n:Nat} {E:List S83} (h:bt n E) (b:∀x∈E,x.f0≠x.f1) (u v:Nat):T.mult (cM (bu E E.length)) u v=af E u v:=by
 have e:∀x∈E,0<=x.f2:=fun x a=>by have:=h.ok x a;simp[bQ] at this;omega
 rw[yV e u v E.length (aI _),List.take_length];unfold af;rw[yW (n:=n) E _ (fun x a=>⟨h.ok x a,by have:=h.le x a;have:=b x a;omega,rfl,rfl⟩) h.order u v];omega
theorem Ir {n:Nat} {E:List S83} (h:bt n E) (b:∀x∈E,x.f0≠x.f1):T.kJ n (cM (bu E E.length)):=fun x e=>by
 obtain⟨y,g,rfl⟩:=List.mem_map.1 e;obtain⟨z,a,h1,j⟩:=nB E E.length (aI _) y g;have i:=h.ok z a;have k:=b z a;simp[bQ] at i;refine⟨?_,?_,?_⟩
 ·show y.2.1.toNat<n;omega
 ·show y.2.2.toNat<n;omega
 ·show y.2.1.toNat≠y.2.2.toNat;omega
theorem Is {n:Nat} {E:List S83} (h:bt n E):fj n (bu E E.length):=fun j a=>by
 rw[show (bu E E.length).getD j (0,0,0)=(bu E E.length)[j] by rw[aW,bp a];rfl];obtain⟨z,b,h1,g⟩:=nB E E.length (aI _) _ (List.getElem_mem a);have e:=h.ok z b;simp[bQ] at e;omega
def dy (n:Nat) (S:List (Nat×Int×Int)) (o:List Bool):List Int:=dp (cB n S o) n n
theorem lV (n:Nat) (S:List (Nat×Int×Int)) (o:List Bool):(dy n S o).length=n:=rp _ _ _
section
variable {n q:Nat} {E:List S83} {S:List (Nat×Int×Int)}
theorem mM (h:fj n S) (i:S.length<=100000) {o:List Bool} (a:o.length=S.length) {v:Nat} (b:v<n):rd (dy n S o) v=T.gw (cM S) o v-1:=by
 have h1:=pY h a i b;have j:=T.pr (T.arr (cM S) o) (fun _=>true) v;have g:=T.rK (T.arr (cM S) o) (fun _=>true) v;rw[od a] at g;rw[<-T.mB] at j g;have e:rd (dy n S o) v=wrap64 (rd (cB n S o) v-1):=by
  simp[dy,dp,rd,aW,List.getElem?_map,List.getElem?_range,b]
 rw[e,h1];exact jm (by omega)
theorem mN (i:q<n) (b:fj n S) (e:S.length<=100000) {o:List Bool}:o∈uniq n S q↔o.length=S.length/\(∃pos,T.eW n pos/\T.iO (cM S) o pos)/\∀v:Nat,v<n->(T.gw (cM S) o v=0↔v=q):=by
 unfold uniq gZ;rw[List.mem_filter,T.pZ,Bool.and_eq_true,decide_eq_true_iff,G_ i];constructor
 ·rintro⟨h1,g,h⟩
  exact⟨h1,(yo b h1 e).1 g,fun v a=>by rw[<-pY b h1 e a];exact h v a⟩
 ·rintro⟨h1,g,h⟩
  exact⟨h1,(yo b h1 e).2 g,fun v a=>by rw[pY b h1 e a];exact h v a⟩
structure jy (n q:Nat) (E:List S83) (S:List (Nat×Int×Int)):Prop where
 small:Small n q E
 ok:fj n S
 len:S.length<=100000
 p9:T.kJ n (cM S)
 mult:∀u v,T.mult (cM S) u v=af E u v
theorem jy.nu (h:jy n q E S) {o:List Bool} (a:o.length=S.length) {pos:Nat->Nat} (e:T.iO (cM S) o pos) {v:Nat} (b:v<n):rd (dy n S o) v=T.nu n (af E) pos v:=by
 rw[mM h.ok h.len a b,T.po (by rw[oa];exact a) h.p9 e v b];unfold T.nu;rw[T.D3 fun u _=>h.mult v u]
theorem jy.mem (h:jy n q E S) {g:Int} (B:T.ep n (af E) g) (x:List Int):x∈(uniq n S q).map (dy n S)↔x∈(Small.fY n q E).map fun c=>c.set q (-1):=by
 have i:=h.small;have j:=i.q;have b:=i.right.wt;rw[List.mem_map,List.mem_map];constructor
 ·rintro⟨o,K,rfl⟩
  obtain⟨C,⟨pos,hi,m⟩,D⟩:=(mN j h.ok h.len).1 K;have r:∀v:Nat,v<n->rd (dy n S o) v=T.nu n (af E) pos v:=fun v a=>h.nu C m a
  have s:∀v:Nat,v<n->rd (dy n S o) v=T.gw (cM S) o v-1:=fun v a=>mM h.ok h.len C a
  have L:∀v:Nat,0<=T.gw (cM S) o v:=fun v=>by rw[T.mB];exact T.pr _ _ _
  have F:=lV n S o;generalize dy n S o=x at r s F;have G:rd x (q:Nat)= -1:=by rw[s q j,(D q j).2 rfl];rfl
  have l:∀v:Nat,v≠q->rd (x.set q 0) (v:Nat)=rd x (v:Nat):=fun v e=>eM (fun k=>e k.symm) _
  have H:rd (x.set q 0) (q:Nat)=0:=et (by omega) _;have M:∀v:Nat,v<n->v≠q->0<=rd x (v:Nat):=fun v a e=>by
   have h1:=L v;have N:=s v a;have O:T.gw (cM S) o v≠0:=fun k=>e ((D v a).1 k)
   omega
  have P:x.set q 0∈dZ n E q:=(i.iQ _).2 ⟨by rw[List.length_set];exact F,fun v=>by
   by_cases e:v=q
   ·subst e;rw[H];exact Int.le_refl _
   ·by_cases a:v<n
    ·rw[l v e];exact M v a e
    ·rw[nS (by rw[List.length_set];omega)];exact Int.le_refl _,H,(kT b).1 ((T.vY b q pos).down fun v a e=>by
    show rd (x.set q 0) (v:Nat)<=_
    rw[l v e,r v a];exact Int.le_refl _)⟩
  refine⟨x.set q 0,List.mem_filter.2 ⟨P,Small.pX.2 fun v a e=>?_⟩,?_⟩
  ·refine Bool.eq_false_iff.2 fun Q=>?_
   obtain⟨pos',p,I,w⟩:=T.rD b j ((kT b).2 Q);have hle:∀u,u<n->rd x (u:Nat)+T.one v u<=T.nu n (af E) pos' u:=fun u hu=>by
    by_cases e2:u=q
    ·subst e2
     rw[T.rE I,G];unfold T.one;rw[if_neg (fun k=>e k.symm)];exact Int.le_refl _
    ·have h1:=(w u hu e2).2
     have N:rd ((x.set q 0).set v (rd (x.set q 0) (v:Nat)+1)) (u:Nat)=rd x (u:Nat)+T.one v u:=by
      unfold T.one;by_cases y:u=v
      ·subst y;rw[et (by rw[List.length_set];omega),if_pos rfl,l u e2]
      ·rw[eM (fun k=>y k.symm),if_neg y,l u e2];omega
     have O:rd ((x.set q 0).set v (rd (x.set q 0) (v:Nat)+1)) (u:Nat)<=T.nu n (af E) pos' u:=h1;omega
   have R:=T.cZ hle;rw[T.dF,T.fl a,T.nK b B p,T.bK r,T.nK b B hi] at R;omega
  ·refine yx (by simp) fun v a=>?_
   rw[List.length_set,List.length_set] at a;by_cases e:v=q
   ·subst e;rw[et (by rw[List.length_set];omega),G]
   ·rw[eM (fun k=>e k.symm),l v e]
 ·rintro⟨c,J,rfl⟩
  obtain⟨pos,p,I,w⟩:=i.G7 J;obtain⟨c1,c2,c3,c4⟩:=(i.iQ c).1 (List.mem_filter.1 J).1;have z:(T.kK pos (cM S)).length=S.length:=by simp[T.kK,oa]
  have m:=T.vZ p h.p9;have heq:dy n S (T.kK pos (cM S))=c.set q (-1):=yx (by rw[lV,List.length_set,c1]) fun v a=>by
   rw[lV] at a;rw[h.nu z m a,w v a]
  refine⟨T.kK pos (cM S),(mN j h.ok h.len).2 ⟨z,⟨pos,p,m⟩,fun v a=>?_⟩,heq⟩;have h1:=mM h.ok h.len z a;rw[heq] at h1;by_cases e:v=q
  ·subst e
   rw[et (by omega)] at h1;exact⟨fun _=>rfl,fun _=>by omega⟩
  ·rw[eM (fun k=>e k.symm)] at h1
   have:=c2 v;exact⟨fun k=>by omega,fun k=>absurd k e⟩
theorem jy.inj (h:jy n q E S) {o a:List Bool} (j:o∈uniq n S q) (k:a∈uniq n S q) (he:dy n S o=dy n S a):o=a:=by
 have b:=h.small.q;obtain⟨e,⟨pos,hi,l⟩,_⟩:=(mN b h.ok h.len).1 j;obtain⟨g,⟨pos',hi',m⟩,_⟩:=(mN b h.ok h.len).1 k;have hw:T.Wt n (T.mult (cM S)):=by
  have:=h.small.right.wt;exact⟨fun u v=>by rw[h.mult];exact this.pos u v,fun u v=>by rw[h.mult,h.mult];exact this.sym u v,fun v=>by rw[h.mult];exact this.self v⟩
 refine T.D6 hw h.p9 (by rw[oa];exact e) (by rw[oa];exact g) hi hi' l m fun v i=>?_
 have h1:=mM h.ok h.len e i;have p:=mM h.ok h.len g i;rw[he] at h1;omega
theorem jy.nodup (h:jy n q E S):((uniq n S q).map (dy n S)).Nodup:=by
 unfold List.Nodup;rw[List.pairwise_map];have e:(uniq n S q).Nodup:=by unfold uniq;exact(T.sV S.length).filter _
 refine List.Pairwise.imp_of_mem ?_ e;intro a b g hb i he;exact i (h.inj g hb he)
theorem jy.count (h:jy n q E S) {g:Int} (j:T.ep n (af E) g):(uniq n S q).length=((Small.fY n q E).map fun c=>c.set q (-1)).length:=by
 have h1:=T.nL h.nodup fun x i=>(h.mem j x).1 i
 have k:=T.nL (l:=(Small.fY n q E).map fun c=>c.set q (-1)) (l':=(uniq n S q).map (dy n S)) ((h.small.yz (-1)).imp fun {a b} m e=>by subst e;exact Lex.irrefl _ m) fun x i=>(h.mem j x).2 i
 simp only[List.length_map] at h1 k⊢;omega
end
end
def cA.l0:Nat->List Int->List Int->List Int->Int->Int->Option (Int)
 |0,_,_,_,_,_=>none
 |k+1,e,x1,b,g,a=>if a<g then(if 0<=a then(if a<(b.length:Int) then(if a>=(x1.length:Int) then(some 1) else(if a<(x1.length:Int) then((iH.f (rd b a) (rd x1 a)).bind fun h=>(if h=0 then(cA.l0 k e x1 b g (wrap64 (a+1))) else(some h))) else(none))) else(none)) else(none)) else(if(e.length:Int)<(x1.length:Int) then(some (-1)) else(some 0))
def cA.f (k:Nat) (l0:List Int) (l1:List Int):Option (Int):=cA.l0 k l0 l1 l0 (l0.length:Int) 0
theorem cA.cE:∀k,(∀a b e g i,al (cA.l0 k a b e g i) (cA.l0 (k+1) a b e g i))
 |0=>fun _ _ _ _ _ r h=>by simp[cA.l0] at h
 |k+1=>by
  have j:=cA.cE k
  ·intro a b e g i
   unfold cA.l0;with_reducible repeat' first|exact j _ _ _ _ _|exact al.refl _|exact al.none _|refine al.ite ?_ ?_|refine al.bind ?_ (fun _=>?_)
theorem cA.mono:∀a0 a k,al (cA.f k a0 a) (cA.f (k+1) a0 a):=by
 intro a0 a k;have b:=cA.cE k;unfold cA.f;with_reducible repeat' first|exact b _ _ _ _ _|exact al.refl _|exact al.none _|refine al.ite ?_ ?_|refine al.bind ?_ (fun _=>?_)
theorem cA.calls (k:Nat) (A0:Option Addr) (c0:Nat) (l0:List Int) (z:Option Addr) (c1:Nat) (l1:List Int) (r:Int) (w:World) (B:Kd.C (Kd.int .i64) w A0 l0.length l0) (D:l0.length<=c0) (E:Kd.C (Kd.int .i64) w z l1.length l1) (F:l1.length<=c1) (h:cA.f k l0 l1=some r):
  Calls Tryz.prog 51 #[.slice A0 l0.length c0,.slice z l1.length c1] w fun e w'=>e= .returned (.int .i64 r)/\aH w w':=by
 have u:=zA B;have W:=zA D;clear B D;have G:=zA E;have X:=zA F;clear E F;have H:(cA.l0 k l0 l1 l0 (l0.length:Int) 0)=some r:=h;clear h;have p:=zA H;clear H;go_enter Tryz.func51,Tryz.ntmps51
 go_wp2;go_loopg [11] k (fun I v11 w'=>∃(a:Int),v11= .int .i64 a/\Aside0 (cA.l0 I l0 l1 l0 (l0.length:Int) a=some r)/\Aside0 (I<=k)/\aH w w')
 case atStart=>exact⟨(0),zT,p,⟨aI _⟩,by repeat(first|exact aH.refl _|apply aH.step)⟩
 case round=>
  clear p;obtain⟨a,rfl,v,J,⟨m1,rfl⟩⟩:=hrel;cases gk with
  |zero=>exact absurd v.out (by simp[cA.l0])
  |succ N=>
   have H:=v.out;clear v;simp only[cA.l0] at H;by_cases c3:a<(l0.length:Int)
   ·rw[if_pos c3] at H
    have O:=aE c3;clear c3;by_cases c4:0<=a
    ·rw[if_pos c4] at H
     have Y:=aE c4;clear c4;by_cases q:a<(l0.length:Int)
     ·rw[if_pos q] at H
      have Z:=aE q;clear q;by_cases m:a>=(l1.length:Int)
      ·rw[if_pos m] at H
       have P:=aE m;clear m;obtain rfl:=aX H;have b:0<=(a:Int):=aA ‹_›;have g:a<(l0.length:Int):=aA ‹_›;obtain⟨K,n,L⟩:=Kd.cI u.out a b g;cases n;replace b:=eq_true b;replace g:=eq_true g;go_wp2;go_ret;exact⟨zT,by repeat(first|exact aH.refl _|apply aH.step)⟩
      ·rw[if_neg m] at H
       have P:=ba m;clear m;by_cases s:a<(l1.length:Int)
       ·rw[if_pos s] at H
        have aa:=aE s;clear s;obtain⟨x,M,H⟩:=zo H;by_cases o:x=0
        ·rw[if_pos o] at H
         obtain⟨Q,R⟩:=bZ o;clear o;have p:=zA H;clear H;have b:0<=(a:Int):=aA ‹_›;have g:a<(l0.length:Int):=aA ‹_›;obtain⟨K,n,L⟩:=Kd.cI u.out a b g;cases n;replace b:=eq_true b;replace g:=eq_true g;have j:0<=(a:Int):=aA ‹_›;have l:a<(l1.length:Int):=aA ‹_›;obtain⟨S,y,T⟩:=Kd.cI G.out a j l;cases y;replace j:=eq_true j;replace l:=eq_true l;go_wp2_with (first|((with_reducible refine aR (f:=107) rfl ?_);refine zL (some 26) Tryz.func107 #[.int .i64 (rd l0 a),.int .i64 (rd l1 a)] ?_;(with_reducible refine(iH.calls (rd l0 a) (rd l1 a) x _ M.out).mono ?_);rintro e w' ⟨rfl,⟨nd,rfl⟩⟩;refine⟨_,rfl,?_⟩))
         go_roundg N
         case measure=>have:=J.out;omega
         case rel=>exact⟨(wrap64 (a+1)),zT,p,⟨by have:=J.out;omega⟩,by repeat(first|exact aH.refl _|apply aH.step)⟩
        ·rw[if_neg o] at H
         obtain⟨Q,R⟩:=b7 o;obtain rfl:=aX H;have b:0<=(a:Int):=aA ‹_›;have g:a<(l0.length:Int):=aA ‹_›;obtain⟨K,n,L⟩:=Kd.cI u.out a b g;cases n;replace b:=eq_true b;replace g:=eq_true g;have j:0<=(a:Int):=aA ‹_›;have l:a<(l1.length:Int):=aA ‹_›;obtain⟨S,y,T⟩:=Kd.cI G.out a j l;cases y;replace j:=eq_true j;replace l:=eq_true l;go_wp2_with (first|((with_reducible refine aR (f:=107) rfl ?_);refine zL (some 26) Tryz.func107 #[.int .i64 (rd l0 a),.int .i64 (rd l1 a)] ?_;(with_reducible refine(iH.calls (rd l0 a) (rd l1 a) x _ M.out).mono ?_);rintro e w' ⟨rfl,⟨nd,rfl⟩⟩;refine⟨_,rfl,?_⟩))
         go_ret;exact⟨zT,by repeat(first|exact aH.refl _|apply aH.step)⟩
       ·rw[if_neg s] at H
        exact absurd H (by simp)
     ·rw[if_neg q] at H
      exact absurd H (by simp)
    ·rw[if_neg c4] at H
     exact absurd H (by simp)
   ·rw[if_neg c3] at H
    have O:=ba c3;clear c3;by_cases i:(l0.length:Int)<(l1.length:Int)
    ·rw[if_pos i] at H
     have U:=aE i;have V:decide (l0.length<l1.length)=true:=aE (Int.ofNat_lt.mp i);clear i;obtain rfl:=aX H;go_wp2;go_ret;exact⟨zT,by repeat(first|exact aH.refl _|apply aH.step)⟩
    ·rw[if_neg i] at H
     have U:=ba i;have V:decide (l0.length<l1.length)=false:=ba (fun h=>i (Int.ofNat_lt.mpr h));clear i;obtain rfl:=aX H;go_wp2;go_ret;exact⟨zT,by repeat(first|exact aH.refl _|apply aH.step)⟩
end Go.Proofs.YtffdiakgjakngaaGreat.P
namespace Go.Proofs.YtffdiakgjakngaaGreat.P
open Go.RowKit Go.Proofs.YtffdiakgjakngaaGreatW.PrintWords Go.Proofs.YtffdiakgjakngaaGreatW.PrintLast Go.Proofs.YtffdiakgjakngaaGreatW.PrintMore
open Go.Sort Go.Shelf
set_option linter.unusedVariables false
set_option linter.unusedSimpArgs false
set_option maxHeartbeats 8000000
set_option maxRecDepth 100000
section
def It:Go.Shelf.Ren:=⟨fun|6=>49|15=>106|14=>105|28=>162|29=>163|20=>154|21=>155|22=>156|23=>157|24=>158|25=>159|26=>160|27=>161|46=>188|47=>189|48=>190|49=>191|50=>192|57=>205|n=>n,fun|22=>33|24=>26|25=>79|3=>3|39=>133|0=>0|53=>184|55=>186|4=>4|46=>178|45=>177|50=>173|5=>5|9=>9|66=>209|70=>213|76=>222|77=>55|n=>n,fun|n=>n⟩
theorem Iu:SlLaysF.n6 Tryz.prog It:={
 mixed:=by kernel_rfl,
 f6:=⟨Tryz.f49.name,by decide,Tryz.func49.trans (congrArg some (by kernel_rfl))⟩,
 f14:=⟨Tryz.f105.name,by decide,Tryz.func105.trans (congrArg some (by kernel_rfl))⟩,
 f15:=Tryz.func106.trans (congrArg some (by kernel_rfl)),
 f20:=⟨Tryz.f154.name,by decide,Tryz.func154.trans (congrArg some (by kernel_rfl))⟩,
 f21:=⟨Tryz.f155.name,by decide,Tryz.func155.trans (congrArg some (by kernel_rfl))⟩,
 f22:=⟨Tryz.f156.name,by decide,Tryz.func156.trans (congrArg some (by kernel_rfl))⟩,
 f23:=⟨Tryz.f157.name,by decide,Tryz.func157.trans (congrArg some (by kernel_rfl))⟩,
 f24:=⟨Tryz.f158.name,by decide,Tryz.func158.trans (congrArg some (by kernel_rfl))⟩,
 f25:=⟨Tryz.f159.name,by decide,Tryz.func159.trans (congrArg some (by kernel_rfl))⟩,
 f26:=⟨Tryz.f160.name,by decide,Tryz.func160.trans (congrArg some (by kernel_rfl))⟩,
 f27:=⟨Tryz.f161.name,by decide,Tryz.func161.trans (congrArg some (by kernel_rfl))⟩,
 f28:=Tryz.func162.trans (congrArg some (by kernel_rfl)),
 f29:=Tryz.func163.trans (congrArg some (by kernel_rfl)),
 f46:=⟨Tryz.f188.name,by decide,Tryz.func188.trans (congrArg some (by kernel_rfl))⟩,
 f47:=Tryz.func189.trans (congrArg some (by kernel_rfl)),
 f48:=Tryz.func190.trans (congrArg some (by kernel_rfl)),
 f49:=⟨Tryz.f191.name,by decide,Tryz.func191.trans (congrArg some (by kernel_rfl))⟩,
 f50:=⟨Tryz.f192.name,by decide,Tryz.func192.trans (congrArg some (by kernel_rfl))⟩,
 f57:=⟨Tryz.f205.name,by decide,Tryz.func205.trans (congrArg some (by kernel_rfl))⟩,
 t0:=Tryz.underlying0,
 a0:=Tryz.isAgg0,
 z0:=Tryz.sizeOf0,
 v0:=Tryz.zeroValue0,
 t3:=Tryz.underlying3,
 a3:=Tryz.isAgg3,
 z3:=Tryz.sizeOf3,
 v3:=Tryz.zeroValue3,
 t4:=Tryz.underlying4,
 a4:=Tryz.isAgg4,
 z4:=Tryz.sizeOf4,
 v4:=Tryz.zeroValue4,
 t5:=Tryz.underlying5,
 a5:=Tryz.isAgg5,
 z5:=Tryz.sizeOf5,
 v5:=Tryz.zeroValue5,
 t9:=Tryz.underlying9,
 a9:=Tryz.isAgg9,
 z9:=Tryz.sizeOf9,
 v9:=Tryz.zeroValue9,
 t22:=Tryz.underlying33,
 a22:=Tryz.isAgg33,
 z22:=Tryz.sizeOf33,
 v22:=Tryz.zeroValue33,
 a24:=Tryz.isAgg26,
 z24:=Tryz.sizeOf26,
 t25:=Tryz.underlying79,
 a25:=Tryz.isAgg79,
 z25:=Tryz.sizeOf79,
 v25:=Tryz.zeroValue79,
 t39:=Tryz.underlying133,
 a39:=Tryz.isAgg133,
 z39:=Tryz.sizeOf133,
 v39:=Tryz.zeroValue133,
 t45:=Tryz.underlying177,
 a45:=Tryz.isAgg177,
 z45:=Tryz.sizeOf177,
 v45:=Tryz.zeroValue177,
 t46:=Tryz.underlying178,
 a46:=Tryz.isAgg178,
 z46:=Tryz.sizeOf178,
 v46:=Tryz.zeroValue178,
 t50:=Tryz.underlying173,
 a50:=Tryz.isAgg173,
 z50:=Tryz.sizeOf173,
 v50:=Tryz.zeroValue173,
 t53:=Tryz.underlying184,
 a53:=Tryz.isAgg184,
 z53:=Tryz.sizeOf184,
 v53:=Tryz.zeroValue184,
 t55:=Tryz.underlying186,
 a55:=Tryz.isAgg186,
 z55:=Tryz.sizeOf186,
 v55:=Tryz.zeroValue186,
 t66:=Tryz.underlying209,
 a66:=Tryz.isAgg209,
 z66:=Tryz.sizeOf209,
 v66:=Tryz.zeroValue209,
 t70:=Tryz.underlying213,
 a70:=Tryz.isAgg213,
 z70:=Tryz.sizeOf213,
 v70:=Tryz.zeroValue213,
 t76:=Tryz.underlying222,
 a76:=Tryz.isAgg222,
 z76:=Tryz.sizeOf222,
 v76:=Tryz.zeroValue222,
 t77:=Tryz.underlying55,
 a77:=Tryz.isAgg55,
 z77:=Tryz.sizeOf55,
 v77:=Tryz.zeroValue55}
def s_ (G:Nat):Prop:=∀(k:Nat) (A B:Option Addr) (c d:Nat) (a lb:List Int) (r:Int) (W:World),(Kd.int .i64).C W A a.length a->a.length<=c->(Kd.int .i64).C W B lb.length lb->lb.length<=d->cA.f k a lb=some r->
  Calls Tryz.prog G #[.slice A a.length c,.slice B lb.length d] W fun e w'=>e= .returned (.int .i64 r)/\aH W w'
theorem Iv:s_ 183:=fun k A B c d b lb r W a g hb i h=>by
 have H:=zA (cA.calls k A c b B d lb r W a g hb i h);clear h a hb;go_enter Tryz.func183,Tryz.ntmps183
 go_wp2_with (go_at_call 51;refine H.out.mono ?_;rintro e w' ⟨rfl,hd⟩;have j:=zA hd;clear hd)
 go_ret;exact⟨rfl,j.out⟩
section
variable {α:Type} [Inhabited α] {enc:α->Value}
theorem Iw {w:World} {g n:Nat} {os:Array Obj} {cur:Array Value} {e:TypeId} {fr:Nat×Nat} (d:Array α) (hb:w.heap[g]? =some (.cells cur e fr)):
  (Go.Sort.grow (putRow enc (Sort.ahead w n) g 0 d) os).heap[g]? =some (.cells (putCells enc 0 d cur) e fr):=by
 have a:g<w.heap.size:=(Array.getElem?_eq_some_iff.1 hb).1;rw[heap_grow_old _ _ (by simpa using a)];simp[putRow,mapBlock,Sort.ahead,Array.getElem?_modify,hb,onCells]
theorem yX {w:World} {g n:Nat} {os:Array Obj} (d:Array α):w.grownBy (Go.Sort.grow (putRow enc (Sort.ahead w n) g 0 d) os) (some g):=by
 refine⟨rfl,rfl,rfl,by simp,fun k hk a=>?_⟩;rw[heap_grow_old _ _ (by simpa using hk)];have:g≠k:=fun e=>a (by rw[e])
 simp[putRow,mapBlock,Sort.ahead,Array.getElem?_modify,this]
theorem Iy (cur:Array Value) (a:List α) (h:a.length<=cur.size):(putCells enc 0 a.toArray cur).toList.take a.length=a.map enc:=by
 apply List.ext_getElem?
 intro j;by_cases b:j<a.length
 ·rw[List.getElem?_take_of_lt b,Array.getElem?_toList]
  simp[putCells,b,show j<cur.size by omega]
 ·rw[List.getElem?_take_eq_none (by omega),List.getElem?_eq_none (by simp;omega)]
end
theorem yY {G:Nat} (HG:s_ G) (eg:∀args w,(callFunc G args).run Tryz.prog w= .ok (.enter G args) w) {k m g cap base:Nat} {ok:Nat->Prop} {L:List (List Int)} (a:Fin (m+1)->Fin (m+1)->Int) {W:World} (R:L.length=m+1) (hm:m<4000000)
  (hR:Kd.N (Kd.slice 3 (Kd.int .i64)) 26 W base ok (.slice (some ⟨g,0,none⟩) L.length cap) L) (am:∀i j:Fin (m+1),cA.f k (L.getD i.1 []) (L.getD j.1 [])=some (a i j)) (hO:SWO (Go.Proofs.ltOf a)):
  Calls Tryz.prog 49 #[.slice (some ⟨g,0,none⟩) L.length cap,.func (.func G) #[] #[]] W fun e w'=>e= .returned (.tuple #[])/\∃idx:List (Fin (m+1)),idx.Perm (List.finRange (m+1))/\idx.Pairwise (fun i j=>Go.Proofs.ltOf a j i=false)/\Kd.N (Kd.slice 3 (Kd.int .i64)) 26 w' base ok (.slice (some ⟨g,0,none⟩) L.length cap) (idx.map fun i=>L.getD i.1 [])/\W.grownBy w' (some g):=by
 obtain⟨S,rows,a5,⟨h1,inner,F,H⟩,hf⟩:=hR;have an:=F;obtain⟨T,F⟩:=an;rcases F with⟨I,_⟩|⟨g2,a9,cur,I,ao,z,hn,ap,J,K⟩
 ·cases I
 injection I with r bb ar
 injection r with r
 injection r with r
 subst r ar;have aT:(Kd.raw (Kd.slice 3 (Kd.int .i64)).sz).sz=1:=rfl;rw[aT] at T J K H;rw[Nat.mul_one] at T J K;have U:∀i,i<m+1->rows[i]? =some [inner.getD i undef]:=fun i hi=>by
  have V:rows[i]? =some rows[i]:=bp (by omega);have C:=(H.2 i _ V).1;rw[V,<-C,Nat.mul_one,List.take_one,List.head?_drop,aW,bp (show i<inner.length by omega)];rfl
 have X:∀i,i<m+1->(inner.getD i undef).oneCell'=true:=fun i hi=>by
  have h:=H.2 i _ (U i hi);exact h.2.2 _ (by rw[h.1];simp)
 obtain⟨enc,D⟩:∃enc:Fin (m+1)->Value,enc=fun i=>inner.getD i.1 undef:=⟨_,rfl⟩
 have M:∀i:Fin (m+1),Kd.FK (Kd.slice 3 (Kd.int .i64)) W (fun k=>ok k/\some k≠(Value.slice (some ⟨g,0,none⟩) L.length cap).ownBlock) (L.getD i.1 []) [enc i]:=fun i=>by
  have E:L[i.1]? =some (L.getD i.1 []):=by rw[aW,bp (show i.1<L.length by omega)];rfl
  rw[D];exact hf i.1 _ _ E (U i.1 i.2)
 have hlen:(List.finRange (m+1)).toArray.size=m+1:=by simp
 have Y:∀(l:Nat) (os:Array Obj) (o:Array (Fin (m+1))) (b:Nat),b≠g->b<W.heap.size->(sortWorld enc W g 0 l o os).heap[b]? =W.heap[b]? :=fun l os o b hb s=>by
  unfold sortWorld;exact(yX (enc:=enc) (w:=W) (g:=g) (n:=l) (os:=os) o).block b s (fun e=>hb (aX e))
 have av:CmpReads Tryz.prog G #[] enc a g 0 (List.finRange (m+1)).toArray.size W:=fun l os o be x y=>by
  obtain⟨A,c,ex,aB,aF⟩:=Kd.kz (M x);obtain⟨B,d,O,aL,aO⟩:=Kd.kz (M y);injection ex with ex
  injection O with O
  rw[ex,O];have Z:∀b,(ok b/\some b≠(Value.slice (some ⟨g,0,none⟩) L.length cap).ownBlock)->b<W.heap.size->(sortWorld enc W g 0 l o os).heap[b]? =W.heap[b]? :=fun b hb s=>Y l os o b (fun e=>hb.2 (by rw[e];rfl)) s
  refine(HG k A B c d _ _ (a x y) _ (Kd.jb (Kd.qD aF Z)) aB (Kd.jb (Kd.qD aO Z)) aL (am x y)).mono ?_;rintro e w' ⟨rfl,hd⟩;exact⟨rfl,hd.out⟩
 have aP:Holds enc W g 0 (List.finRange (m+1)).toArray:=fun j q=>by
  rw[hlen] at q;refine⟨?_,by simp[World.frozen?,z]⟩;have C:(cur.toList.take rows.length)[j]? =inner[j]? :=by rw[K]
  rw[List.getElem?_take_of_lt (by omega),Array.getElem?_toList] at C;simp only[World.cell?,z,Nat.zero_add,Option.isSome_none,Bool.false_eq_true,if_false];rw[C,bp (by omega),D];simp[show j<m+1 from q,show j<inner.length by omega]
 have aa:=Any.slices_SortFunc Iu enc (fun i=>by rw[D];exact X i.1 i.2) a hO G #[] g 0 cap (List.finRange (m+1)).toArray W eg av.lays aP ((Array.getElem?_eq_some_iff.1 z).1) (by rw[hlen];omega);rw[hlen] at aa;rw[R];have aS:Calls Tryz.prog 49 _ _ _:=aa;refine aS.mono ?_;rintro e w' ⟨rfl,d',n,os,hp,hs,rfl⟩;obtain⟨P,_,ab⟩:=hp;rw[hlen] at P;have Q:d'.toList.length=m+1:=by simpa using P
 refine⟨rfl,d'.toList,?_,?_,?_,yX (enc:=enc) (n:=n) (os:=os) d'⟩
 ·have e1:d'.extract 0 (m+1)=d':=Array.extract_eq_self_of_le (by omega)
  rw[e1,Array.extract_eq_self_of_le (by simp)] at ab;exact ab
 ·refine List.pairwise_iff_getElem.2 fun i j hi q a2=>?_
  have h:=hs i j (Nat.zero_le _) a2 (by omega);rw[getElem!_pos d' i (by omega),getElem!_pos d' j (by omega)] at h;simpa using h
 ·have a3:(Go.Sort.grow (putRow enc (Sort.ahead W n) g 0 d') os).heap[g]? =some (.cells (putCells enc 0 d' cur) 26 (0,0)):=Iw d' z
  have a4:(putCells enc 0 d' cur).toList.take (m+1)=d'.toList.map enc:=by
   have h:=Iy (enc:=enc) cur d'.toList (by rw[Q];omega);rw[Q] at h;exact h
  refine⟨by rw[R] at S;exact S,d'.toList.map fun i=>[enc i],by simp,⟨fun k hk=>hk.symm,d'.toList.map enc,⟨by rw[aT];simp,.inr ⟨g,cap,_,?_,ao,a3,?_,ap,?_,?_⟩⟩,?_⟩,?_⟩
  ·simp[P]
  ·simp;omega
  ·rw[aT];simp[putCells,J]
  ·rw[aT];simp only[List.length_map,Nat.mul_one,Q];exact a4
  ·refine⟨by rw[aT];simp,fun j p q=>?_⟩
   rw[List.getElem?_map] at q;obtain⟨i,hi,rfl⟩:=Option.map_eq_some_iff.1 q;have bf:=(List.getElem?_eq_some_iff.1 hi).1;have e2:((d'.toList.map enc).drop (j*(Kd.raw (Kd.slice 3 (Kd.int .i64)).sz).sz)).take (Kd.raw (Kd.slice 3 (Kd.int .i64)).sz).sz=[enc i]:=by
    rw[aT,Nat.mul_one,List.take_one,List.head?_drop,List.getElem?_map,hi];rfl
   rw[e2];refine⟨rfl,rfl,fun u hu=>?_⟩;rw[List.mem_singleton.1 hu,D];exact X i.1 i.2
  ·intro j x c E v
   rw[List.getElem?_map] at E v;obtain⟨i,hi,rfl⟩:=Option.map_eq_some_iff.1 E;rw[hi] at v;injection v with v
   subst v;refine Kd.l7 (Kd.lD (M i) (fun k hk=>⟨hk.1,hk.2⟩)) (fun b hb s=>Y n os d' b (fun e=>hb.2 (by rw[e];rfl)) s)
end
end Go.Proofs.YtffdiakgjakngaaGreat.P
namespace Go.Proofs.YtffdiakgjakngaaGreat.P
open Go.RowKit Go.Proofs.YtffdiakgjakngaaGreatW.PrintWords Go.Proofs.YtffdiakgjakngaaGreatW.PrintLast Go.Proofs.YtffdiakgjakngaaGreatW.PrintMore
set_option linter.unusedVariables false
set_option linter.unusedSimpArgs false
set_option maxHeartbeats 8000000
set_option maxRecDepth 100000
section
theorem yZ {a b:List Int} (h:a.length=b.length) (l:a.length<=100000) {i:Nat} (hi:i<a.length) (he:∀j:Nat,j<i->rd a j=rd b j) (n:rd a i≠rd b i):Ev (fun k=>cA.f k a b) (if rd a i<rd b i then -1 else 1):=by
 have loop:∀(m j:Nat),j+m=i->Ev (fun k=>cA.l0 k a b a a.length j) (if rd a i<rd b i then -1 else 1):=by
  intro m;induction m with
  |zero=>
   intro j e;obtain rfl:j=i:=by omega
   refine Ev.of_succ ?_;simp only[cA.l0,if_pos (show (j:Int)<(a.length:Int) by omega),if_pos (show (j:Int)<(b.length:Int) by omega),if_pos (show (0:Int)<=(j:Int) by omega),if_neg (show ¬(j:Int)>=(b.length:Int) by omega),pv,Option.bind_some];by_cases c:rd a j<rd b j
   ·simp only[if_pos c];exact Ev.const _
   ·simp only[if_neg c,if_pos (show rd a j>rd b j by omega)];exact Ev.const _
  |succ m g=>
   intro j e;refine Ev.of_succ ?_;have:=he j (by omega);simp only[cA.l0,if_pos (show (j:Int)<(a.length:Int) by omega),if_pos (show (j:Int)<(b.length:Int) by omega),if_pos (show (0:Int)<=(j:Int) by omega),if_neg (show ¬(j:Int)>=(b.length:Int) by omega),pv,if_neg (show ¬rd a j<rd b j by omega),if_neg (show ¬rd a j>rd b j by omega),Option.bind_some,if_true,eX (show j<=1000000 by omega)];exact g (j+1) (by omega)
 unfold cA.f;exact loop i 0 (by omega)
theorem Iz (a:List Int) (g:a.length<=100000):Ev (fun k=>cA.f k a a) 0:=by
 have loop:∀(m j:Nat),j+m=a.length->Ev (fun k=>cA.l0 k a a a a.length j) 0:=by
  intro m;induction m with
  |zero=>
   intro j b;refine Ev.of_succ ?_;simp only[cA.l0,if_neg (show ¬(j:Int)<(a.length:Int) by omega),if_neg (show ¬(a.length:Int)<(a.length:Int) by omega)];exact Ev.const _
  |succ m e=>
   intro j b;refine Ev.of_succ ?_;simp only[cA.l0,if_pos (show (j:Int)<(a.length:Int) by omega),if_pos (show (0:Int)<=(j:Int) by omega),if_neg (show ¬(j:Int)>=(a.length:Int) by omega),pv,if_neg (show ¬rd a j<rd a j by omega),if_neg (show ¬rd a j>rd a j by omega),Option.bind_some,if_true,eX (show j<=1000000 by omega)];exact e (j+1) (by omega)
 unfold cA.f;exact loop a.length 0 (by omega)
open Classical in
noncomputable def gQ (a b:List Int):Int:=if Lex a b then -1 else if a=b then 0 else 1
theorem za {a b:List Int}:gQ a b<0↔Lex a b:=by
 unfold gQ;split
 ·rename_i h;exact⟨fun _=>h,fun _=>by decide⟩
 ·rename_i h
  split
  ·exact⟨fun e=>absurd e (by decide),fun e=>absurd e h⟩
  ·exact⟨fun e=>absurd e (by decide),fun e=>absurd e h⟩
theorem IA {a b:List Int} (l:a.length=b.length) (m:a.length<=100000):Ev (fun k=>cA.f k a b) (gQ a b):=by
 by_cases e:a=b
 ·subst e
  have h:gQ a a=0:=by unfold gQ;rw[if_neg (Lex.irrefl a),if_pos rfl]
  rw[h];exact Iz a m
 ·rcases p4 l e with h|h
  ·have n:gQ a b= -1:=by unfold gQ;rw[if_pos h]
   obtain⟨i,h1,o,p⟩:=h;have g:=yZ l m h1 o (by omega);rw[if_pos p] at g;rw[n];exact g
  ·have hn:¬Lex a b:=fun k=>Lex.irrefl a (k.trans h l)
   have n:gQ a b=1:=by unfold gQ;rw[if_neg hn,if_neg e]
   obtain⟨i,h1,o,p⟩:=h;have g:=yZ l m (by omega) (fun j q=>(o j q).symm) (show rd a i≠rd b i by omega);rw[if_neg (by omega)] at g;rw[n];exact g
theorem IB {m n:Nat} {L:List (List Int)} (q:L.length=m+1) (hn:∀x∈L,x.length=n):Go.Sort.SWO (Go.Proofs.ltOf fun i j:Fin (m+1)=>gQ (L.getD i.1 []) (L.getD j.1 [])):=by
 have a:∀i:Fin (m+1),(L.getD i.1 []).length=n:=fun i=>by
  have hi:i.1<L.length:=by have:=i.2;omega
  rw[aW,bp hi];exact hn _ (List.getElem_mem hi)
 have b:∀i j:Fin (m+1),Go.Proofs.ltOf (fun i j:Fin (m+1)=>gQ (L.getD i.1 []) (L.getD j.1 [])) i j=true↔Lex (L.getD i.1 []) (L.getD j.1 []):=fun i j=>by
  unfold Go.Proofs.ltOf;rw[decide_eq_true_iff];exact za
 have g:∀i j:Fin (m+1),Go.Proofs.ltOf (fun i j:Fin (m+1)=>gQ (L.getD i.1 []) (L.getD j.1 [])) i j=false↔¬Lex (L.getD i.1 []) (L.getD j.1 []):=fun i j=>by
  rw[<-b i j,Bool.not_eq_true]
 refine⟨fun x=>(g x x).2 (Lex.irrefl _),fun x y z h1 k=>(b x z).2 (((b x y).1 h1).trans ((b y z).1 k) (by rw[a,a])),fun x y z h1 k=>(g x z).2 fun l=>?_⟩;have p:=(g x y).1 h1;have o:=(g y z).1 k;by_cases e:L.getD x.1 []=L.getD y.1 []
 ·rw[e] at l;exact o l
 ·rcases p4 (by rw[a,a]) e with h|h
  ·exact p h
  ·exact o (h.trans l (by rw[a,a]))
theorem IC {m n:Nat} {L T:List (List Int)} (l:L.length=m+1) (hn:∀x∈L,x.length=n) (o:L.Nodup) (p:T.Pairwise Lex) (hm:∀x,x∈L↔x∈T) {idx:List (Fin (m+1))} (hp:idx.Perm (List.finRange (m+1))) (q:idx.Pairwise fun i j=>Go.Proofs.ltOf (fun i j:Fin (m+1)=>gQ (L.getD i.1 []) (L.getD j.1 [])) j i=false):idx.map (fun i=>L.getD i.1 [])=T:=by
 have r:(List.finRange (m+1)).map (fun i=>L.getD i.1 [])=L:=by
  refine List.ext_getElem (by simp[l]) fun i h1 a=>?_
  simp[aW,bp a]
 have b:(idx.map fun i=>L.getD i.1 []).Perm L:=by
  have:=hp.map (fun i:Fin (m+1)=>L.getD i.1 []);rwa [r] at this
 have e:(idx.map fun i=>L.getD i.1 []).Nodup:=b.nodup_iff.2 o;have g:∀x∈idx.map (fun i=>L.getD i.1 []),x.length=n:=fun x s=>hn x (b.mem_iff.1 s)
 refine yy ?_ p g fun x=>by rw[b.mem_iff];exact hm x
 unfold List.Nodup at e;rw[List.pairwise_map] at e⊢;refine(e.and q).imp_of_mem ?_;intro i j hi u k;have h1:¬Lex (L.getD j.1 []) (L.getD i.1 []):=fun h=>by
  have a:=k.2;unfold Go.Proofs.ltOf at a;rw[decide_eq_false_iff_not] at a;exact a (za.2 h)
 rcases p4 (by rw[g _ (List.mem_map.2 ⟨i,hi,rfl⟩),g _ (List.mem_map.2 ⟨j,u,rfl⟩)]) k.1 with h|h
 ·exact h
 ·exact absurd h h1
namespace Small
variable {n q:Nat} {E:List S83}
theorem ID (h:Small n q E):fY n q E≠[]:=fun he=>by
 have b:¬T.cn n (af E) (fun _=> -1):=fun hw=>by
  have h1:=hw.bd h.right.wt;rw[T.iw] at h1;have:=h.n1;omega
 obtain⟨c,a,_⟩:=(h.G6 fun _=> -1).1 b;rw[he] at a;cases a
end Small
end
section
attribute [local go_sem] Oper.semAt_some
def fc (d:List Int):Nat->Int
 |0=>0
 |k+1=>fc d k+rd d k
theorem ta {d:List Int} {n:Nat} (hd:∀v:Nat,v<n-> -1048576<=rd d v/\rd d v<=1048576):∀k,k<=n-> -(k*1048576)<=fc d k/\fc d k<=k*1048576
 |0,_=>by simp[fc]
 |k+1,h=>by
  have h1:=ta hd k (by omega);have a:=hd k (by omega);unfold fc;omega
theorem IE (A0:Option Addr) (c0 n:Nat) (d:List Int) (w:World) (b:Kd.C (Kd.int .i64) w A0 d.length d) (p:d.length<=c0) (a:d.length=n) (K:1<=n) (hn:n<=12) (hd:∀v:Nat,v<n-> -1048576<=rd d v/\rd d v<=1048576):
  Calls Tryz.prog 148 #[.slice A0 n c0] w fun e w'=>e= .returned (.tuple #[.int .i64 (fc d n),.int .i64 0])/\Below w.heap.size w w':=by
 obtain⟨k,hk⟩:=(Gp d (by omega)).get;rw[show sJ d=0 from sF.2 ⟨by omega,by omega,rfl,fun v l=>hd v (by omega)⟩] at hk;have q:=zA hk;have g:=sO w 26 b p;rw[a] at g;have r:=zA g;have s:=zA b;have u:=zA hd;have z:=zA a;have B:=zA (ta hd);clear hk b hd g a;go_enter Tryz.func148,Tryz.ntmps148
 go_wp2_with (go_at_call 118;refine(cy.calls k (some ⟨w.heap.size,0,none⟩) 1 [d] 0 _ r.out (by simp) q.out).mono ?_;rintro e w1 ⟨rfl,⟨m,rfl⟩⟩)
 have h:=zA (bU (ai (aj w.heap.size w) (.cells #[.slice A0 n c0] 26)) m);generalize (w.alloc (.cells #[.slice A0 n c0] 26)).drewN m=W1 at h⊢;go_loopg [5,16] (n) (fun D E F wr=>∃v:Nat,v<=n/\F= .int .i64 v/\E= .int .i64 (fc d v)/\Aside0 (Below w.heap.size w wr)/\Aside0 (D=n-v))
 case atStart=>exact⟨0,by omega,rfl,rfl,h,⟨rfl⟩⟩
 case round=>
  clear h;obtain⟨v,l,rfl,rfl,i,G⟩:=hrel;by_cases H:v<n
  ·have L:(0:Int)<=(v:Int):=by omega
   have M:(v:Int)<(n:Int):=by omega
   have a:=z.out;obtain⟨N,I,o⟩:=Kd.cI (Kd.ax s.out i.out) (v:Int) (by omega) (by omega);subst I;rw[aD] at o;have h1:=u.out v H;have J:=B.out v l;have j:=zA (show fc d (v+1)=fc d v+rd d v from rfl);clear a;generalize rd d v=x at o h1 j;generalize fc d v=y at J j⊢;go_wp2;go_roundg (n- (v+1))
   case measure=>rw[G.out];omega
   case rel=>exact⟨v+1,by omega,by go_num,by rw[j.out],i,⟨rfl⟩⟩
  ·obtain rfl:n=v:=by omega
   go_wp2;go_ret2;exact⟨rfl,i.out⟩
end
end Go.Proofs.YtffdiakgjakngaaGreat.P
namespace Go.Proofs.YtffdiakgjakngaaGreat.P
open Go.RowKit Go.Maps Go.Proofs.YtffdiakgjakngaaGreatW.PrintWords Go.Proofs.YtffdiakgjakngaaGreatW.PrintLast Go.Proofs.YtffdiakgjakngaaGreatW.PrintMore
set_option linter.unusedVariables false
set_option linter.unusedSimpArgs false
set_option maxHeartbeats 8000000
set_option maxRecDepth 100000
section
theorem zc {α:Type} (f:α->α):∀(l:List α) (j:Nat) (e:α),l[j]? =some e->l.modify j f=l.set j (f e)
 |[],j,e,h=>by simp at h
 |x::l,0,e,h=>by
  obtain rfl:x=e:=by simpa using h
  rfl
 |x::l,j+1,e,h=>by
  have:=zc f l j e (by simpa using h);simp[this]
def eA (l:List Int):Value:=.agg (l.map (Value.int .i64)).toArray
def mO (l:List Int):Prop:=l.length=12/\∀x∈l, -1000000<=x/\x<=1000000
theorem lf:WideMaps.KeyLaw Tryz.prog 172:=deep_law (m:=2) (by decide) (by kernel_rfl) (by kernel_rfl) (by kernel_rfl)
theorem mapM_some {α β:Type} {f:α->Option β}:∀{l:List α},(∀x∈l,∃y,f x=some y)->∃ys,l.mapM f=some ys
 |[],_=>⟨[],rfl⟩
 |x::l,h=>by
  obtain⟨y,a⟩:=h x (List.mem_cons_self ..);obtain⟨ys,b⟩:=mapM_some (l:=l) (fun z e=>h z (List.mem_cons_of_mem _ e));exact⟨y::ys,by rw[List.mapM_cons,a,b];rfl⟩
theorem tb:Tryz.prog.underlying 172=some (.array 12 3):=by kernel_rfl
theorem zd:Tryz.prog.cellsOf 172=12:=by kernel_rfl
theorem IF:Tryz.prog.cellsOf 3=1:=by kernel_rfl
theorem IG:Tryz.prog.keyType 172=true:=by kernel_rfl
theorem II:∃m,Tryz.prog.types.size=m+1:=⟨Tryz.prog.types.size-1,by
 have h:decide (0<Tryz.prog.types.size)=true:=by kernel_rfl
 have a:=aA h;omega⟩
theorem p_ {l:List Int} (h:mO l):∃s,keyOf Tryz.prog 172 (eA l)=some s:=by
 unfold keyOf;rw[tb];have hf:(eA l).formed Tryz.prog 172=true:=by
  unfold eA Value.formed;rw[tb,zd];simp[h.1]
 simp only[IG,hf,Bool.and_self,if_true];obtain⟨m,hm⟩:=II;rw[hm];unfold Program.keyLits;rw[tb];have b:(eA l).cells.toList=l.map (Value.int .i64):=by simp[eA,Value.cells]
 rw[b];dsimp only;rw[zd,IF];simp only[List.length_map,h.1,if_true];obtain⟨ys,g⟩:=mapM_some (f:=fun i=>Tryz.prog.keyLits (m+1) 3 (List.take 1 (List.drop (i*1) (l.map (Value.int .i64))))) (l:=List.range 12) (fun i hi=>by
  have hi:=List.mem_range.1 hi;have a:i<l.length:=by rw[h.1];exact hi
  have e:List.take 1 (List.drop (i*1) (l.map (Value.int .i64)))=[Value.int .i64 l[i]]:=by
   rw[Nat.mul_one,List.drop_eq_getElem_cons (by simpa using a)];simp
  have hb:=h.2 l[i] (List.getElem_mem a);refine⟨[.int .i64 l[i]],?_⟩;show Tryz.prog.keyLits (m+1) 3 (List.take 1 (List.drop (i*1) (l.map (Value.int .i64))))=_
  rw[e];unfold Program.keyLits;rw[Tryz.underlying3];simp only[true_and];rw[if_pos (WalkArith.wf_i64 (by omega))])
 rw[g];exact⟨_,rfl⟩
theorem IJ {a b:List Int} (h:eA a=eA b):a=b:=by
 unfold eA at h;injection h with h
 have e:=congrArg Array.toList h;simp only at e;have key:∀a b:List Int,a.map (Value.int .i64)=b.map (Value.int .i64)->a=b:=by
  intro a;induction a with
  |nil=>intro b h;cases b with|nil=>rfl|cons y b=>simp at h
  |cons x a g=>
   intro b h;cases b with
   |nil=>simp at h
   |cons y b=>
    simp only[List.map_cons,List.cons.injEq,Value.int.injEq,true_and] at h;rw[h.1,g b h.2]
 exact key a b e
def d_ (G:List Int->Int->Prop) (w:World) (b:Nat):Prop:=∃es clock,w.heap[b]? =some (.map es clock)/\(∀e∈es.toList,∃l x,e.key=eA l/\e.val= .int .i64 x/\mO l/\G l x)/\(es.toList.map fun e=>e.key).Pairwise (· ≠ ·)
namespace d_
variable {G:List Int->Int->Prop} {w w':World} {b:Nat}
theorem lt (h:d_ G w b):b<w.heap.size:=by
 obtain⟨es,c,h, -⟩:=h;exact ay h
theorem iI (h:d_ G w b) (hk:w'.heap[b]? =w.heap[b]?):d_ G w' b:=by
 obtain⟨es,c,h1,a,e⟩:=h;exact⟨es,c,hk.trans h1,a,e⟩
theorem below (h:d_ G w b) (hb:Below w.heap.size w w'):d_ G w' b:=h.iI (hb.block b h.lt)
theorem alloc (h:d_ G w b) (o:Obj):d_ G (w.alloc o) b:=h.below (ai (aj _ _) o)
theorem iR (h:d_ G w b) (p:Addr) (v:Value) (hp:b≠p.block):d_ G (w.setCell p v) b:=h.iI (Below.heap_setCell _ _ _ _ hp)
theorem made (w:World):d_ G (w.alloc (.map #[] 0)) w.heap.size:=⟨#[],0,a6 w _,fun e he=>by simp at he,by simp⟩
theorem look (h:d_ G w b) (y:∀w,(zeroValue 3).run Tryz.prog w= .ok (.int .i64 0) w) {l:List Int} (o:mO l):
  (∃x,G l x/\∀w':World,w'.heap[b]? =w.heap[b]? ->(Instr.lookup 169 (.map (some b)) (eA l) true).run Tryz.prog w'= .ok (.tuple #[.int .i64 x,.bool true]) w')\/(∀w':World,w'.heap[b]? =w.heap[b]? ->(Instr.lookup 169 (.map (some b)) (eA l) true).run Tryz.prog w'= .ok (.tuple #[.int .i64 0,.bool false]) w'):=by
 obtain⟨es,c,hb,r,p⟩:=h;have u:∀e∈es.toList,∃l,keyOf Tryz.prog 172 e.key=some l:=fun e he=>by
  obtain⟨l,x,hk, -,o, -⟩:=r e he;rw[hk];exact p_ o
 obtain⟨s,n⟩:=p_ o;by_cases hex:∃(j:Nat) (e:MapEntry),es.toList[j]? =some e/\e.key=eA l
 ·left
  obtain⟨j,e,i,hk⟩:=hex;obtain⟨l',x,a,z,D,B⟩:=r e (List.mem_of_getElem? i);obtain rfl:=IJ (a.symm.trans hk);refine⟨x,B,fun w' q=>?_⟩;rcases lf.find w' n es.toList u with⟨h1,v⟩|⟨k,e',h1,g,a⟩
  ·exact absurd hk (v e (List.mem_of_getElem? i))
  ·have C:e'=e:=by
    have l1:=(List.getElem?_eq_some_iff.1 i).1;have l2:=(List.getElem?_eq_some_iff.1 g).1;have g1:=(List.getElem?_eq_some_iff.1 i).2;have g2:=(List.getElem?_eq_some_iff.1 g).2;rw[List.pairwise_iff_getElem] at p;rcases Nat.lt_trichotomy j k with m|m|m
    ·have:=p j k (by simpa using l1) (by simpa using l2) m
     simp only[List.getElem_map,g1,g2] at this;exact absurd (hk.trans a.symm) this
    ·subst m
     rw[i] at g;exact(aX g).symm
    ·have:=p k j (by simpa using l2) (by simpa using l1) m
     simp only[List.getElem_map,g1,g2] at this;exact absurd (a.trans hk.symm) this
   subst C;simp[Instr.lookup,run_underlying Tryz.underlying169,MapKept.run_getObj_map (q.trans hb),lf.check w' _ n,h1,z,Result.andThen]
 ·right
  intro w' q;rcases lf.find w' n es.toList u with⟨h1,v⟩|⟨k,e',h1,g,a⟩
  ·simp[Instr.lookup,run_underlying Tryz.underlying169,MapKept.run_getObj_map (q.trans hb),lf.check w' _ n,h1,y,Result.andThen]
  ·exact absurd ⟨k,e',g,a⟩ hex
theorem store (h:d_ G w b) {l:List Int} {x:Int} (a:mO l) (o:G l x):
  ∃w',(Instr.mapUpdate 169 (.map (some b)) (eA l) (.int .i64 x)).run Tryz.prog w= .ok () w'/\d_ G w' b/\w.grownBy w' (some b):=by
 obtain⟨es,c,hb,n,p⟩:=h;have u:∀e∈es.toList,∃l,keyOf Tryz.prog 172 e.key=some l:=fun e he=>by
  obtain⟨l,x,hk, -,a, -⟩:=n e he;rw[hk];exact p_ a
 obtain⟨s,g⟩:=p_ a;have q:=ay hb;rcases lf.find w g es.toList u with⟨h1,v⟩|⟨j,e,h1,m,hk⟩
 ·refine⟨w.putObj b (.map (es.push ⟨eA l,.int .i64 x,c⟩) (c+1)),?_,⟨_,_,World.putObj_heap_same q,fun e he=>?_,?_⟩,?_⟩
  ·simp[Instr.mapUpdate,run_underlying Tryz.underlying169,MapKept.run_getObj_map hb,lf.check w _ g,h1,MapKept.run_setObj_map _ hb,Result.andThen,World.putObj]
  ·simp only[Array.toList_push,List.mem_append,List.mem_singleton] at he
   rcases he with he|rfl
   ·exact n e he
   ·exact⟨l,x,rfl,rfl,a,o⟩
  ·simp only[Array.toList_push,List.map_append,List.map_cons,List.map_nil]
   refine List.pairwise_append.2 ⟨p,by simp,fun k hk k' y=>?_⟩;obtain rfl:=List.mem_singleton.1 y;obtain⟨e,he,rfl⟩:=List.mem_map.1 hk;exact v e he
  ·exact grownBy_putObj' w b _
 ·have z:j<es.toList.length:=(List.getElem?_eq_some_iff.1 m).1
  have B:es[j]? =some e:=by simpa using m
  have r:(es.modify j (fun e'=>{e' with key:=eA l,val:=.int .i64 x})).toList=es.toList.set j {e with key:=eA l,val:=.int .i64 x}:=by rw[Array.toList_modify,zc _ _ _ _ m]
  refine⟨w.putObj b (.map (es.modify j (fun e'=>{e' with key:=eA l,val:=.int .i64 x})) c),?_,⟨_,_,World.putObj_heap_same q,fun e' he=>?_,?_⟩,?_⟩
  ·simp[Instr.mapUpdate,run_underlying Tryz.underlying169,MapKept.run_getObj_map hb,lf.check w _ g,h1,B,hk,lf.stays w g,MapKept.run_setObj_map _ hb,Result.andThen,World.putObj]
  ·rw[r] at he
   rcases List.mem_or_eq_of_mem_set he with he|rfl
   ·exact n e' he
   ·exact⟨l,x,rfl,rfl,a,o⟩
  ·rw[r]
   have:(es.toList.set j {e with key:=eA l,val:=.int .i64 x}).map (fun e=>e.key)=es.toList.map (fun e=>e.key):=by
    rw[List.map_set];refine List.ext_getElem (by simp) fun i D a2=>?_
    rw[List.getElem_set];split
    ·rename_i C
     subst C;have:es.toList[j]=e:=by
      have:=bp z;rw[m] at this;exact(aX this).symm
     simp only[List.getElem_map,this];exact hk.symm
    ·rfl
   rw[this];exact p
  ·exact grownBy_putObj' w b _
theorem len (h:d_ G w b) (ty:TypeId):∃m:Nat,(Builtin.len_ #[169] ty #[.map (some b)]).run Tryz.prog w= .ok (.int .i64 m) w/\∃a:List (List Int),a.length=m/\a.Pairwise (· ≠ ·)/\∀l∈a,∃x,G l x:=by
 obtain⟨es,c,hb,j,n⟩:=h;refine⟨es.size,by simp[Builtin.len_,run_underlying Tryz.underlying169,MapKept.run_getObj_map hb,goInt,Result.andThen],?_⟩;have key:∀L:List MapEntry,(∀e∈L,∃l x,e.key=eA l/\e.val= .int .i64 x/\mO l/\G l x)->(L.map fun e=>e.key).Pairwise (· ≠ ·)->∃a:List (List Int),a.length=L.length/\a.map eA=L.map (fun e=>e.key)/\a.Pairwise (· ≠ ·)/\∀l∈a,∃x,G l x:=by
  intro L;induction L with
  |nil=>intro _ _;exact⟨[],rfl,rfl,List.Pairwise.nil,fun l o=>by cases o⟩
  |cons e L p=>
   intro h i;obtain⟨l,x,hk, -, -,q⟩:=h e (List.mem_cons_self ..);rw[List.map_cons,List.pairwise_cons] at i;obtain⟨a,i1,i2,i3,i4⟩:=p (fun e he=>h e (List.mem_cons_of_mem _ he)) i.2;refine⟨l::a,by simp[i1],by simp[i2,hk],List.pairwise_cons.2 ⟨fun k g r=>?_,i3⟩,fun k g=>?_⟩
   ·subst r
    refine i.1 (eA l) ?_ hk;rw[<-i2];exact List.mem_map.2 ⟨l,g,rfl⟩
   ·rcases List.mem_cons.1 g with rfl|g
    ·exact⟨x,q⟩
    ·exact i4 k g
 obtain⟨a,i1, -,i3,i4⟩:=key es.toList j n;exact⟨a,by simpa using i1,i3,i4⟩
end d_
end
end Go.Proofs.YtffdiakgjakngaaGreat.P
namespace Go.Proofs.YtffdiakgjakngaaGreat.P
open Go.RowKit Go.Proofs.YtffdiakgjakngaaGreatW.PrintWords Go.Proofs.YtffdiakgjakngaaGreatW.PrintLast Go.Proofs.YtffdiakgjakngaaGreatW.PrintMore
set_option linter.unusedVariables false
set_option linter.unusedSimpArgs false
set_option maxHeartbeats 8000000
set_option maxRecDepth 100000
section
attribute [local go_sem] Oper.semAt_some jU jV jW jX
theorem qa (d:List Int):∀n,fc d n=T.sN (fun v=>rd d (v:Nat)) n
 |0=>rfl
 |n+1=>by
  show fc d n+_=T.sN _ n+_
  rw[qa d n]
def hU (W:World) (a:Nat) (n:Nat) (A0:Option Addr) (E:List S83) (c0:Nat) (g:Int) (b:Nat):Prop:=W.heap[a]? =some (.cells #[.int .i64 n,.slice A0 E.length c0,.int .i64 g,.map (some b)] 171 (0,0))
def fw (a:Nat) (W W':World):Prop:=Below a W W'/\∀k,k<W.heap.size->k≠a->W'.heap[k]? =W.heap[k]?
theorem fw.mP {a:Nat} {W W':World} (h:Below W.heap.size W W') (hm:a<=W.heap.size):fw a W W':=⟨h.mono hm,fun k hk _=>h.block k hk⟩
theorem fw.trans {a:Nat} {A B C:World} (h:fw a A B) (b:fw a B C):fw a A C:=⟨h.1.trans b.1,fun k hk e=>(b.2 k (Nat.lt_of_lt_of_le hk h.1.size) e).trans (h.2 k hk e)⟩
theorem fw.ze {a:Nat} {W W':World} (h:fw a W W') {k:Nat} {cs:Array Value} {t:TypeId} (hk:W.heap[k]? =some (.cells cs t (0,0))) (b:k≠a):W'.heap[k]? =some (.cells cs t (0,0)):=(h.2 k (ay hk) b).trans hk
structure tc (n:Nat) (E:List S83) (g:Int):Prop where
 n1:1<=n
 n12:n<=12
 right:bt n E
 conn:fC n E
 len:E.length<=1000
 val:T.sN (T.val n (af E)) n<=19
 gen:T.ep n (af E) g
 g0: -100<=g/\g<=100
 zf:∀d:List Int,eP n 0 E d->∃k s,kX.f k n E d=some (decide (rd (eO n E d s) 0>=0),eO n E d s,s,0)/\kU n E 0 d s=true
 ct:∀a:List (List Int),a.Pairwise (· ≠ ·)->(∀l∈a,∃x,kj n (af E) g l x)->a.length<16384
def qb (n:Nat) (d:List Int):Prop:=d.length=n/\∀v:Nat,v<n-> -200<=rd d v/\rd d v<=200
def td (n:Nat) (t:Nat->Nat->Int) (g:Int) (d:List Int) (a:Nat) (W:World) (e:Ending) (W':World):Prop:=∃r:Int,e= .returned (.tuple #[.int .i64 r,.int .i64 0])/\Rk n t d r/\d_ (kj n t g) W' a/\fw a W W'
theorem zg (n:Nat) (A0:Option Addr) (c0:Nat) (E:List S83) (g:Int) (q i:Nat) (w0:World) (go:Kd.C aM w0 A0 E.length E) (ea:E.length<=c0) (hG:tc n E g) (gp:w0.heap.size<=i)
  (d:List Int) (A:Option Addr) (c:Nat) (W:World) (hd:qb n d) (ih:0<=fc d n->∀(d':List Int) (A':Option Addr) (c':Nat) (W':World),qb n d'->fc d' n<fc d n->Below w0.heap.size w0 W'->hU W' q n A0 E c0 g i->d_ (kj n (af E) g) W' i->Kd.C (Kd.int .i64) W' A' d'.length d'->d'.length<=c'->Calls Tryz.prog 95 #[.pointer (some ⟨q,0,none⟩),.slice A' n c'] W' (td n (af E) g d' i W')) (hB:Below w0.heap.size w0 W) (hF:hU W q n A0 E c0 g i) (hM:d_ (kj n (af E) g) W i) (ak:q≠i) (hC:Kd.C (Kd.int .i64) W A d.length d) (hc:d.length<=c):
  Calls Tryz.prog 95 #[.pointer (some ⟨q,0,none⟩),.slice A n c] W (td n (af E) g d i W):=by
  have IH:=zA ih;have X:=zA hG;have HD:=zA hd;have HB:=zA hB;have HF:=zA hF;have HM:=zA hM;have HC:=zA hC;have c1:=zA hc;have em:=hG.n1;have b2:=hG.n12;have er:=hG.g0;have hX:=Tryz.underlying171;have hu:=Tryz.underlying24;have gs:=hM.lt;have hY:=ay hF;have es:=zA (ta (n:=n) (d:=d) (fun v Q=>by have:=hd.2 v Q;omega) n (aI n));have ev:=zA (qa d n);clear ih hG hd hB hF hM hC hc;go_enter Tryz.func95,Tryz.ntmps95
  go_wp2_with fail
  refine(IE A c n d W HC.out c1.out HD.out.1 em b2 (fun v Q=>by have:=HD.out.2 v Q;omega)).mono ?_;rintro e w1 ⟨rfl,hb⟩;have b3:=zA hb;have b4:=zA (show hU w1 q n A0 E c0 g i from az HF.out hb);have ao:=zA (HM.out.below hb);clear hb;have b5:=zA (aQ HB.out b3.out);have b6:=zA (fw.mP b3.out (Nat.le_of_lt gs));have y2:w1.cell? ⟨q,2,none⟩=some (.int .i64 g):=(ah b4.out 2).trans rfl;have y0:w1.cell? ⟨q,0,none⟩=some (.int .i64 n):=(ah b4.out 0).trans rfl;have y1:w1.cell? ⟨q,1,none⟩=some (.slice A0 E.length c0):=(ah b4.out 1).trans rfl;have Z:0<n:=by omega
  have aa:=zA X.out.right.wt;have ew:=zA (X.out.right.conn X.out.conn);have hb:=es.out;have bn:Aside0 (fc d n=T.sN (fun v=>rd d (v:Nat)) n):=ev;generalize gt:fc d n=S at hb IH bn⊢;have gx: -20000000<=S:=by omega
  have g1:S<=20000000:=by omega
  clear gt hb es ev;by_cases ex:S<0
  ·have P:Aside0 (Rk n (af E) d (-1)):=⟨yC aa.out Z (fun hw=>by have:=hw.bd aa.out;rw[<-bn.out] at this;omega)⟩
   have g2:decide (S<0)=true:=aE ex;go_wp2;go_ret2;exact⟨-1,rfl,P.out,ao.out,b6.out⟩
  have g2:decide (S<0)=false:=ba ex;by_cases b_:2*g-2<S
  ·have P:Aside0 (Rk n (af E) d (S-g)):=⟨by rw[bn.out];exact Hm aa.out ew.out Z X.out.gen (by rw[<-bn.out];exact b_)⟩
   have g3:decide (2*g-2<S)=true:=aE b_;obtain⟨g4,g5⟩:=er;go_wp2;go_ret2;exact⟨S-g,rfl,P.out,ao.out,b6.out⟩
  have g3:decide (2*g-2<S)=false:=ba b_;obtain⟨g4,g5⟩:=er;obtain⟨kW,s,e1,hs⟩:=X.out.zf d ⟨em,b2,Z,X.out.len,X.out.right,X.out.conn,X.out.val,HD.out.1,HD.out.2⟩;have b':=(nX X.out.right).1 hs;have ca:=zA b'.2;have Y:=zA (sG n E d s);have bo:=zA e1;have e3:=zA (Kd.ax go b5.out);have e4:=zA (Kd.ax HC.out b3.out);have c2:=zA (e9.bound aa.out ew.out Z b2 X.out.val HD.out.2 b'.2);have bq:Aside0 (T.bT n (af E) (fun v=>rd d (v:Nat)) (fun v=>rd (eO n E d s) (v:Nat))):=⟨⟨_,b'.2.eq⟩⟩;have g6:=zA HD.out.1;clear e1 hs b';generalize eO n E d s=cl at ca Y bo c2 bq;have g7:=g6.out;subst g7;cases aL:decide (rd cl 0>=0) with
  |false=>
   have aO:¬0<=rd cl (0:Nat):=by simpa using aL
   have P:Aside0 (Rk d.length (af E) d (-1)):=⟨yC aa.out Z (fun hw=>aO ((T.mz aa.out Z ca.out.red).1 (hw.fQ bq.out)))⟩;rw[aL] at bo;clear aL aO;go_wp2_with (go_at_call 14;refine(kX.calls kW d.length A0 c0 E A c d false cl s 0 _ e3.out ea e4.out c1.out bo.out).mono ?_;rintro e w2 ⟨v1,v2,rfl,aP,c3,ad⟩;have cb:=zA (b6.out.trans (fw.mP ad (Nat.le_of_lt ao.out.lt)));have aS:=zA (ao.out.below ad);clear aP c3 ad)
   go_ret2;exact⟨-1,rfl,P.out,aS.out,cb.out⟩
  |true=>
   have aO:0<=rd cl (0:Nat):=by simpa using aL
   have g8:Aside0 (T.cn d.length (af E) (fun v=>rd cl (v:Nat))):=⟨(T.mz aa.out Z ca.out.red).2 aO⟩;have g9:=zA aO;rw[aL] at bo;clear aL aO;go_wp2_with (go_at_call 14;refine(kX.calls kW d.length A0 c0 E A c d true cl s 0 _ e3.out ea e4.out c1.out bo.out).mono ?_;rintro e w2 ⟨v1,v2,rfl,aP,c3,ad⟩;obtain⟨l,cr,rfl,h4,h5, -⟩:=Kd.gC aP (by rw[Y.out];omega);rw[Y.out] at aP⊢;have cc:=zA (Kd.a_ aP (ok':=fun _=>True) (fun _ _=>trivial));have cb:=zA (b6.out.trans (fw.mP ad (Nat.le_of_lt ao.out.lt)));have aS:=zA (ao.out.below ad);have e5:=zA (aQ b5.out ad);have e6:=zA (show hU w2 q d.length A0 E c0 g i from az b4.out ad);have h6:=ad.size;clear aP c3 ad)
   obtain⟨qs,e_,c4⟩:∃qs:List Int,qs=jO cl/\qs.length=12:=⟨_,rfl,Hp (by rw[Y.out];exact b2)⟩;have HQ:=zA e_;have e':=Kd.aN cc.out;have g':=zA e'.2.2;rw[run_copy_row _ (w2.alloc (.cells #[.int .i64 0,.int .i64 0,.int .i64 0,.int .i64 0,.int .i64 0,.int .i64 0,.int .i64 0,.int .i64 0,.int .i64 0,.int .i64 0,.int .i64 0,.int .i64 0] 172)) 25 26 3 3 w2.heap.size 0 12 12 ⟨l,0,none⟩ d.length cr _ 172 (cl.map (Value.int .i64)) Tryz.underlying25 (by kernel_rfl) (a6 w2 _) (by rw[List.length_map,Y.out];show d.length=min d.length 12;omega) (fun j v hj=>by
    obtain⟨c5,he⟩:=List.getElem?_eq_some_iff.1 hj;rw[List.length_map] at c5;have h:=(Kd.bP 0 (Kd.aK cc.out (.cells #[.int .i64 0,.int .i64 0,.int .i64 0,.int .i64 0,.int .i64 0,.int .i64 0,.int .i64 0,.int .i64 0,.int .i64 0,.int .i64 0,.int .i64 0,.int .i64 0] 172)) (j:Int) (by omega) (by rw[Y.out] at c5;omega)).1;rw[aD] at h;rw[add_plain,h,<-he];simp[bL,aW,bp c5]) (by rw[List.length_map,Y.out];simp;omega) (fun v Q=>by obtain⟨x, -,rfl⟩:=List.mem_map.1 Q;rfl)]
   have hf:∃z B D F G H I J K M N O:Int,qs=[z,B,D,F,G,H,I,J,K,M,N,O]:=by
    match qs,c4 with
    |[z,B,D,F,G,H,I,J,K,M,N,O],_=>exact⟨_,_,_,_,_,_,_,_,_,_,_,_,rfl⟩
   obtain⟨z,B,D,F,G,H,I,J,K,M,N,O,hk⟩:=hf;rw[show ((#[.int .i64 0,.int .i64 0,.int .i64 0,.int .i64 0,.int .i64 0,.int .i64 0,.int .i64 0,.int .i64 0,.int .i64 0,.int .i64 0,.int .i64 0,.int .i64 0]:Array Value).toList.take 0++cl.map (Value.int .i64)++(#[.int .i64 0,.int .i64 0,.int .i64 0,.int .i64 0,.int .i64 0,.int .i64 0,.int .i64 0,.int .i64 0,.int .i64 0,.int .i64 0,.int .i64 0,.int .i64 0]:Array Value).toList.drop (0+(cl.map (Value.int .i64)).length)).toArray=#[.int .i64 z,.int .i64 B,.int .i64 D,.int .i64 F,.int .i64 G,.int .i64 H,.int .i64 I,.int .i64 J,.int .i64 K,.int .i64 M,.int .i64 N,.int .i64 O] from by
    rw[show (#[.int .i64 0,.int .i64 0,.int .i64 0,.int .i64 0,.int .i64 0,.int .i64 0,.int .i64 0,.int .i64 0,.int .i64 0,.int .i64 0,.int .i64 0,.int .i64 0]:Array Value).toList=List.replicate 12 (Value.int .i64 0) from rfl,List.take_zero,List.nil_append,List.length_map,Nat.zero_add,List.drop_replicate];have h:qs.map (Value.int .i64)=cl.map (Value.int .i64)++List.replicate (12-cl.length) (Value.int .i64 0):=by rw[HQ.out,jO,List.map_append,List.map_replicate]
    rw[<-h,hk];rfl]
   have c6:=zA hk;have U:=zA (setRow_heap (w2.alloc (.cells #[.int .i64 0,.int .i64 0,.int .i64 0,.int .i64 0,.int .i64 0,.int .i64 0,.int .i64 0,.int .i64 0,.int .i64 0,.int .i64 0,.int .i64 0,.int .i64 0] 172)) w2.heap.size _ #[.int .i64 z,.int .i64 B,.int .i64 D,.int .i64 F,.int .i64 G,.int .i64 H,.int .i64 I,.int .i64 J,.int .i64 K,.int .i64 M,.int .i64 N,.int .i64 O] _ _ (a6 w2 _));have ap:=zA (below_setRow (g:=w2.heap.size) (ai (aj w2.heap.size w2) (.cells #[.int .i64 0,.int .i64 0,.int .i64 0,.int .i64 0,.int .i64 0,.int .i64 0,.int .i64 0,.int .i64 0,.int .i64 0,.int .i64 0,.int .i64 0,.int .i64 0] 172)) (aI _) #[.int .i64 z,.int .i64 B,.int .i64 D,.int .i64 F,.int .i64 G,.int .i64 H,.int .i64 I,.int .i64 J,.int .i64 K,.int .i64 M,.int .i64 N,.int .i64 O]);clear hk e_ e';rw[Result.andThen_ok];generalize (w2.alloc (.cells #[.int .i64 0,.int .i64 0,.int .i64 0,.int .i64 0,.int .i64 0,.int .i64 0,.int .i64 0,.int .i64 0,.int .i64 0,.int .i64 0,.int .i64 0,.int .i64 0] 172)).setRow w2.heap.size #[.int .i64 z,.int .i64 B,.int .i64 D,.int .i64 F,.int .i64 G,.int .i64 H,.int .i64 I,.int .i64 J,.int .i64 K,.int .i64 M,.int .i64 N,.int .i64 O]=y at U ap⊢;rw[Oper.upon_value];have fd:=zA (aQ e5.out ap.out);have c7:=zA (show hU y q d.length A0 E c0 g i from az e6.out ap.out);have a0:=zA (aS.out.below ap.out);have c8:=zA (cb.out.trans (fw.mP ap.out (Nat.le_of_lt aS.out.lt)));have fn:=zA (Kd.cz cc.out ap.out);have fo:l≠i:=by have:=ao.out.lt;omega
   have fq:w2.heap.size≠i:=by have:=aS.out.lt;omega
   have c9:l≠w2.heap.size:=by omega
   clear e5 e6 aS cb cc ap g';have fr:Aside0 (mO qs):=⟨⟨c4,fun x hx=>by
    rw[HQ.out,jO] at hx;rcases List.mem_append.1 hx with hx|hx
    ·obtain⟨v,Q,rfl⟩:=List.getElem_of_mem hx
     have h:=c2.out v (by rw[<-Y.out];exact Q);have e:rd cl (v:Int)=cl[v]:=by simp[rd,aW,bp Q]
     rw[e] at h;omega
    ·rw[List.eq_of_mem_replicate hx];omega⟩⟩
   have dk:=a0.out.look qZ fr.out;rw[c6.out] at dk;have x0:y.cell? ⟨w2.heap.size,0,none⟩=some (.int .i64 z):=(ah U.out 0).trans rfl;have x1:y.cell? ⟨w2.heap.size,1,none⟩=some (.int .i64 B):=(ah U.out 1).trans rfl;have x2:y.cell? ⟨w2.heap.size,2,none⟩=some (.int .i64 D):=(ah U.out 2).trans rfl;have x3:y.cell? ⟨w2.heap.size,3,none⟩=some (.int .i64 F):=(ah U.out 3).trans rfl;have x4:y.cell? ⟨w2.heap.size,4,none⟩=some (.int .i64 G):=(ah U.out 4).trans rfl;have x5:y.cell? ⟨w2.heap.size,5,none⟩=some (.int .i64 H):=(ah U.out 5).trans rfl;have x6:y.cell? ⟨w2.heap.size,6,none⟩=some (.int .i64 I):=(ah U.out 6).trans rfl;have x7:y.cell? ⟨w2.heap.size,7,none⟩=some (.int .i64 J):=(ah U.out 7).trans rfl;have x8:y.cell? ⟨w2.heap.size,8,none⟩=some (.int .i64 K):=(ah U.out 8).trans rfl;have x9:y.cell? ⟨w2.heap.size,9,none⟩=some (.int .i64 M):=(ah U.out 9).trans rfl;have bb:y.cell? ⟨w2.heap.size,10,none⟩=some (.int .i64 N):=(ah U.out 10).trans rfl;have be:y.cell? ⟨w2.heap.size,11,none⟩=some (.int .i64 O):=(ah U.out 11).trans rfl;have f3:y.cell? ⟨q,3,none⟩=some (.map (some i)):=(ah c7.out 3).trans rfl;have bv:eA [z,B,D,F,G,H,I,J,K,M,N,O]= .agg #[.int .i64 z,.int .i64 B,.int .i64 D,.int .i64 F,.int .i64 G,.int .i64 H,.int .i64 I,.int .i64 J,.int .i64 K,.int .i64 M,.int .i64 N,.int .i64 O]:=rfl;rw[bv] at dk;clear bv c4;rcases dk with⟨x,hx,bw⟩|bw
   ·have dl:∀m,(Instr.lookup 169 (.map (some i)) (.agg #[.int .i64 z,.int .i64 B,.int .i64 D,.int .i64 F,.int .i64 G,.int .i64 H,.int .i64 I,.int .i64 J,.int .i64 K,.int .i64 M,.int .i64 N,.int .i64 O]) true).run Tryz.prog (y.drewN m)= .ok (.tuple #[.int .i64 x,.bool true]) (y.drewN m):=fun m=>bw _ rfl
    have hg:Aside0 (Rk d.length (af E) d x):=⟨by
     obtain⟨c',hh,ft,hl, -⟩:=hx;rw[<-c6.out,HQ.out] at ft;obtain rfl:=Hq Y.out hh ft;exact T.cu.fQ bq.out.symm hl⟩
    clear bw hx;go_wp2_with fail
    go_quiet (fail)
    clear dl x0 x1 x2 x3 x4 x5 x6 x7 x8 x9 bb be f3;have bf:=zA (a0.out.below (bU (aj _ _) nq));have bx:=zA (c8.out.trans (fw.mP (bU (aj _ _) nq) (Nat.le_of_lt a0.out.lt)));go_wp2;go_ret2;exact⟨x,rfl,hg.out,bf.out,bx.out⟩
   ·have dl:∀m,(Instr.lookup 169 (.map (some i)) (.agg #[.int .i64 z,.int .i64 B,.int .i64 D,.int .i64 F,.int .i64 G,.int .i64 H,.int .i64 I,.int .i64 J,.int .i64 K,.int .i64 M,.int .i64 N,.int .i64 O]) true).run Tryz.prog (y.drewN m)= .ok (.tuple #[.int .i64 0,.bool false]) (y.drewN m):=fun m=>bw _ rfl
    clear bw;go_wp2_with fail
    go_quiet (fail)
    clear dl x0 x1 x2 x3 x4 x5 x6 x7 x8 x9 bb be f3;have ar:=bU (aj y.heap.size y) nq;have bf:=zA (a0.out.below ar);have bx:=zA (c8.out.trans (fw.mP ar (Nat.le_of_lt a0.out.lt)));have ce:=zA (show hU (y.drewN nq) q d.length A0 E c0 g i from az c7.out ar);have ds:=zA (Kd.cz fn.out ar);have dv:=zA (aQ fd.out ar);have cf:=zA (az U.out ar);clear ar a0 c8 c7 fn fd U;generalize y.drewN nq=W4 at bf bx ce ds dv cf⊢;obtain⟨ml,hlen,ks,hp,fv,f0⟩:=bf.out.len 3;have hq:=X.out.ct ks fv f0;have h7:((ml:Int)==16384)=false:=by simp;omega
    have f3:W4.cell? ⟨q,3,none⟩=some (.map (some i)):=(ah ce.out 3).trans rfl;clear hp fv f0 hq;have f1:T.sN (fun v=>rd cl (v:Nat)) d.length=S:=by rw[bn.out];exact T.bT.bd aa.out bq.out
    have cg:Aside0 (∀v:Nat,v<d.length->0<=rd cl v):=⟨fun v Q=>by
     by_cases e:v=0
     ·subst e;exact g9.out
     ·exact(c2.out v Q).2.2.2.2 e |>.1⟩
    have f2:Aside0 (∀v:Nat,v<d.length->rd cl v<=198):=⟨fun v Q=>by
     have h:=T.iM (f:=fun v=>rd cl (v:Nat)) Q cg.out;have h2:rd cl (v:Nat)<=T.sN (fun v=>rd cl (v:Nat)) d.length:=h;omega⟩
    have dx:=zA f1;clear f1;go_wp2;clear hlen f3;generalize d0:w2.heap.size=o at fq c9 cf⊢;have h8:=Nat.le_of_eq d0;have h9:=Nat.le_of_eq d0.symm;clear d0;have h_:(d.length:Int)<=12:=by omega
    go_loopg [81,14] (d.length) (fun kq vv lv wr=>∃(v:Nat) (L:Int),v<=d.length/\vv= .int .i64 v/\lv= .int .i64 L/\ -20000000<=L/\L<=20000000/\Aside0 (∀u,u<v->∀k,T.cu d.length (af E) (fun w=>rd cl (w:Nat)-T.one u w) k->L<=k+1)/\Aside0 (L=S\/∃u,u<v/\∃k,T.cu d.length (af E) (fun w=>rd cl (w:Nat)-T.one u w) k/\L=k+1)/\Aside0 ((Kd.int .i64).R 3 wr w1.heap.size (fun _=>True) (.slice (some ⟨l,0,none⟩) d.length cr) cl)/\Aside0 (d_ (kj d.length (af E) g) wr i)/\Aside0 (fw i W wr)/\Aside0 (Below w0.heap.size w0 wr)/\Aside0 (hU wr q d.length A0 E c0 g i)/\Aside0 (wr.heap[o]? =some (.cells #[.int .i64 z,.int .i64 B,.int .i64 D,.int .i64 F,.int .i64 G,.int .i64 H,.int .i64 I,.int .i64 J,.int .i64 K,.int .i64 M,.int .i64 N,.int .i64 O] 172 (0,0)))/\Aside0 (kq=d.length-v))
    case atStart=>exact⟨0,S,by omega,rfl,rfl,gx,g1,⟨fun u hu=>by omega⟩,⟨.inl rfl⟩,ds,bf,bx,dv,ce,cf,⟨rfl⟩⟩
    case round=>
     clear ds bf bx dv ce cf;obtain⟨v,L,Q,rfl,rfl,hz,hA,d1,f4,HR,HM,HK,f5,HF,V,hD⟩:=hrel;by_cases b0:v<d.length
     ·have h':(0:Int)<=(v:Int):=by omega
      have ib:(v:Int)<(d.length:Int):=by omega
      have d2:=Y.out;obtain⟨z1,z2⟩:=Kd.bP 0 HR.out (v:Int) (by omega) (by omega);rw[aD] at z1 z2;replace z1:wr.cell? ⟨l,v,none⟩=some (.int .i64 (rd cl v)):=z1;have hE:=cg.out v b0;have hH:=f2.out v b0;have P:=Kd.dg HR.out (v:Int) (rd cl v-1);rw[aD] at P;have bi:=zA P.1;have cj:=zA (show hU (wr.setCell ⟨l,v,none⟩ (.int .i64 (rd cl v-1))) q d.length A0 E c0 g i from aG HF.out (by show q≠l;have:=HF.out;intro e;subst e;have h2:=(Kd.f_ HR.out q rfl);obtain⟨cs,b1⟩:=h2;rw[hU,b1] at this;injection this with h;injection h with _ h _;exact absurd h (by decide)) _);have d3:=zA (HM.out.iR ⟨l,v,none⟩ (.int .i64 (rd cl v-1)) (fun e=>fo e.symm));have d4:=zA (aG (p:=⟨l,v,none⟩) V.out (fun e=>c9 e.symm) (.int .i64 (rd cl v-1)));have ck:=zA (Below.setCell (p:=⟨l,v,none⟩) f5.out (by show w0.heap.size<=l;have:=b5.out.size;omega) (.int .i64 (rd cl v-1)));have ii:W.heap.size<=l:=by have:=b3.out.size;omega
      have d5:Aside0 (fw i W (wr.setCell ⟨l,v,none⟩ (.int .i64 (rd cl v-1)))):=⟨Below.setCell (p:=⟨l,v,none⟩) HK.out.1 (by show i<=l;omega) _,fun k hk ak=>(Below.heap_setCell _ _ _ _ (by show k≠l;omega)).trans (HK.out.2 k hk ak)⟩;have co:∀u,u<d.length->rd (cl.set v (rd cl v-1)) (u:Nat)=rd cl u-T.one v u:=Hn d2 b0;have f6:fc (cl.set v (rd cl v-1)) d.length=S-1:=by
       rw[qa,T.bK co,T.dB,dx.out,T.fl b0]
      have f7:=zA (IH.out (by omega) (cl.set v (rd cl v-1)) (some ⟨l,0,none⟩) cr _ ⟨by rw[List.length_set];exact d2,fun u hu=>by
       rw[co u hu];have a:=cg.out u hu;have b:=f2.out u hu;unfold T.one;split<;>omega⟩ (by omega) ck.out cj.out d3.out (Kd.aN bi.out).2.2 (by have h:=(Kd.aN bi.out);rw[<-h.1];exact h.2.1))
      have f8:=zA co;have f9:=zA (Ho (c:=cl) (v:=v) (by omega) (rd cl v-1));have hI:=zA (show (cl.set v (rd cl v-1)).length=cl.length from by rw[List.length_set]);clear P co d2 HR HM HK f5 HF V;generalize f':rd cl v=xv at z1 hE hH f6 bi cj d3 d4 ck d5 f7 f9 hI f8;have im:=zA f';clear f';go_wp2_with fail
      refine f7.out.mono ?_;rintro e w6 ⟨r,rfl,cq,ga,bk⟩;have io: -1<=r:=cq.1;have d6:Aside0 (T.cu d.length (af E) (fun w=>rd cl (w:Nat)-T.one v w) r):=⟨sZ (fun u hu=>(f8.out u hu).symm) cq⟩;have ip:r<=S:=by
       by_cases e0:0<=r
       ·have h:=T.cu.rH aa.out Z cq e0
        rw[<-qa,f6] at h;omega
       ·omega
      clear cq;have d7:=zA (Kd.a_ (ok':=fun _=>True) (Kd.fK (Kd.gD rfl bi.out) (fun k hk=>bk.2 k (by obtain⟨cs,b1⟩:=Kd.f_ bi.out k hk.symm;exact ay b1) (by have:=aX (show some l=some k from hk.symm);omega))) (fun _ _=>trivial));have gb:=zA (show hU w6 q d.length A0 E c0 g i from bk.ze cj.out ak);have hK:=zA (bk.ze d4.out fq);have hL:=zA (show Below w0.heap.size w0 w6 from ck.out.trans (bk.1.mono gp));have gc:=zA (d5.out.trans bk);have hN:=zA ga;clear ga bk bi cj d4 ck d5 d3;obtain⟨z3,z4⟩:=Kd.bP 0 d7.out (v:Int) (by omega) (by omega);rw[aD] at z3 z4;have gd:bL 0 (cl.set v (xv-1)) (v:Int)=xv-1:=kf _ _ _ (by rw[Y.out];exact b0);rw[gd] at z3;have P:=Kd.dg d7.out (v:Int) xv;rw[aD,f9.out] at P;have ge:=zA P.1;clear P gd;have gf:=zA (show hU (w6.setCell ⟨l,v,none⟩ (.int .i64 xv)) q d.length A0 E c0 g i from aG gb.out (by show q≠l;have:=gb.out;intro e;subst e;have h2:=(Kd.f_ d7.out q rfl);obtain⟨cs,b1⟩:=h2;rw[hU,b1] at this;injection this with h;injection h with _ h _;exact absurd h (by decide)) _);have gg:=zA (hN.out.iR ⟨l,v,none⟩ (.int .i64 xv) (fun e=>fo e.symm));have gi:=zA (aG (p:=⟨l,v,none⟩) hK.out (fun e=>c9 e.symm) (.int .i64 xv));have gl:=zA (Below.setCell (p:=⟨l,v,none⟩) hL.out (by show w0.heap.size<=l;have:=b5.out.size;omega) (.int .i64 xv));have gm:Aside0 (fw i W (w6.setCell ⟨l,v,none⟩ (.int .i64 xv))):=⟨Below.setCell (p:=⟨l,v,none⟩) gc.out.1 (by show i<=l;omega) _,fun k hk ak=>(Below.heap_setCell _ _ _ _ (by show k≠l;omega)).trans (gc.out.2 k hk ak)⟩;go_wp2
      all_goals
       go_roundg (d.length- (v+1))
       case measure=>rw[hD.out];omega
      case rel=>exact⟨v+1,r+1,by omega,by go_num,rfl,by omega,by omega,⟨fun u hu k hk=>by
       by_cases e:u=v
       ·subst e
        have:=T.cu.unique Z hk d6.out;omega
       ·have:=d1.out u (by omega) k hk
        omega⟩,⟨.inr ⟨v,by omega,r,d6.out,rfl⟩⟩,ge,gg,gm,gl,gf,gi,⟨rfl⟩⟩
      exact⟨v+1,L,by omega,by go_num,rfl,hz,hA,⟨fun u hu k hk=>by
       by_cases e:u=v
       ·subst e
        have:=T.cu.unique Z hk d6.out;omega
       ·exact d1.out u (by omega) k hk⟩,⟨f4.out.imp id (fun⟨u,hu,h⟩=>⟨u,by omega,h⟩)⟩,ge,gg,gm,gl,gf,gi,⟨rfl⟩⟩
     ·obtain rfl:v=d.length:=by omega
      have P:Aside0 (Rk d.length (af E) cl L):=⟨Hl aa.out Z g8.out d1.out (by rw[dx.out];exact f4.out)⟩;have hO:Aside0 (Rk d.length (af E) d L):=⟨T.cu.fQ bq.out.symm P.out⟩;have hP:Aside0 (kj d.length (af E) g qs L):=⟨cl,Y.out,HQ.out,P.out,cg.out,fun v Q h0=>T.pJ aa.out ca.out.red.2 Q h0,by rw[dx.out];simpa using b_⟩;obtain⟨w9,d8,gn,d9⟩:=d_.store (HM.out.iI (w':=wr.drew) rfl) fr.out hP.out;have x0:wr.cell? ⟨o,0,none⟩=some (.int .i64 z):=(ah V.out 0).trans rfl;have x1:wr.cell? ⟨o,1,none⟩=some (.int .i64 B):=(ah V.out 1).trans rfl;have x2:wr.cell? ⟨o,2,none⟩=some (.int .i64 D):=(ah V.out 2).trans rfl;have x3:wr.cell? ⟨o,3,none⟩=some (.int .i64 F):=(ah V.out 3).trans rfl;have x4:wr.cell? ⟨o,4,none⟩=some (.int .i64 G):=(ah V.out 4).trans rfl;have x5:wr.cell? ⟨o,5,none⟩=some (.int .i64 H):=(ah V.out 5).trans rfl;have x6:wr.cell? ⟨o,6,none⟩=some (.int .i64 I):=(ah V.out 6).trans rfl;have x7:wr.cell? ⟨o,7,none⟩=some (.int .i64 J):=(ah V.out 7).trans rfl;have x8:wr.cell? ⟨o,8,none⟩=some (.int .i64 K):=(ah V.out 8).trans rfl;have x9:wr.cell? ⟨o,9,none⟩=some (.int .i64 M):=(ah V.out 9).trans rfl;have bb:wr.cell? ⟨o,10,none⟩=some (.int .i64 N):=(ah V.out 10).trans rfl;have be:wr.cell? ⟨o,11,none⟩=some (.int .i64 O):=(ah V.out 11).trans rfl;have f3:wr.cell? ⟨q,3,none⟩=some (.map (some i)):=(ah HF.out 3).trans rfl;rw[c6.out] at d8;have bv:eA [z,B,D,F,G,H,I,J,K,M,N,O]= .agg #[.int .i64 z,.int .i64 B,.int .i64 D,.int .i64 F,.int .i64 G,.int .i64 H,.int .i64 I,.int .i64 J,.int .i64 K,.int .i64 M,.int .i64 N,.int .i64 O]:=rfl;rw[bv] at d8;have hT:=zA gn;have hV:=HM.out.lt;have hW:Aside0 (fw i W w9):=⟨⟨Below.grown (ia HK.out.1) d9 (Nat.le_of_lt hV) (fun k e=>by cases e;exact aI _),fun k hk ak=>(d9.block k (Nat.lt_of_lt_of_le hk (HK.out.1.size)) (fun e=>ak (aX e))).trans (HK.out.2 k hk ak)⟩⟩;clear gn d9 bv;go_wp2_with fail
      refine wp_region_still_tail 6 (by kernel_rfl) (by kernel_rfl) ?_;simp only[List.take_succ_cons,List.take_zero,List.drop_succ_cons,List.drop_zero];repeat still_step
      refine wpStill_nil ?_;change wpList _ _ _ _ _ wr.drew
      replace x0:wr.drew.cell? ⟨o,0,none⟩=some (.int .i64 z):=x0;replace x1:wr.drew.cell? ⟨o,1,none⟩=some (.int .i64 B):=x1;replace x2:wr.drew.cell? ⟨o,2,none⟩=some (.int .i64 D):=x2;replace x3:wr.drew.cell? ⟨o,3,none⟩=some (.int .i64 F):=x3;replace x4:wr.drew.cell? ⟨o,4,none⟩=some (.int .i64 G):=x4;replace x5:wr.drew.cell? ⟨o,5,none⟩=some (.int .i64 H):=x5;replace x6:wr.drew.cell? ⟨o,6,none⟩=some (.int .i64 I):=x6;replace x7:wr.drew.cell? ⟨o,7,none⟩=some (.int .i64 J):=x7;replace x8:wr.drew.cell? ⟨o,8,none⟩=some (.int .i64 K):=x8;replace x9:wr.drew.cell? ⟨o,9,none⟩=some (.int .i64 M):=x9;replace bb:wr.drew.cell? ⟨o,10,none⟩=some (.int .i64 N):=bb;replace be:wr.drew.cell? ⟨o,11,none⟩=some (.int .i64 O):=be;replace f3:wr.drew.cell? ⟨q,3,none⟩=some (.map (some i)):=f3;generalize wr.drew=wd at x0 x1 x2 x3 x4 x5 x6 x7 x8 x9 bb be f3 d8⊢;go_wp2;go_ret2;exact⟨L,rfl,hO.out,hT.out,hW.out⟩
theorem zl (n:Nat) (A0:Option Addr) (c0:Nat) (E:List S83) (g:Int) (b a:Nat) (w0:World) (e:Kd.C aM w0 A0 E.length E) (i:E.length<=c0) (j:tc n E g) (k:w0.heap.size<=a) (l:b≠a):
  ∀(m:Nat) (d:List Int) (A:Option Addr) (c:Nat) (W:World),qb n d->fc d n<m->Below w0.heap.size w0 W->hU W b n A0 E c0 g a->d_ (kj n (af E) g) W a->Kd.C (Kd.int .i64) W A d.length d->d.length<=c->
   Calls Tryz.prog 95 #[.pointer (some ⟨b,0,none⟩),.slice A n c] W (td n (af E) g d a W)
 |0,d,A,c,W,hd,r,o,hF,p,hC,q=>zg n A0 c0 E g b a w0 e i j k d A c W hd (fun h=>by omega) o hF p l hC q
 |m+1,d,A,c,W,hd,r,o,hF,p,hC,q=>zg n A0 c0 E g b a w0 e i j k d A c W hd (fun h d' A' s W' u B v w x y z=>zl n A0 c0 E g b a w0 e i j k l m d' A' s W' u (by omega) v w x y z) o hF p l hC q
end
end Go.Proofs.YtffdiakgjakngaaGreat.P
namespace Go.Proofs.YtffdiakgjakngaaGreat.P
open Go.RowKit Go.Maps Go.Proofs.YtffdiakgjakngaaGreatW.PrintWords Go.Proofs.YtffdiakgjakngaaGreatW.PrintLast Go.Proofs.YtffdiakgjakngaaGreatW.PrintMore
set_option linter.unusedVariables false
set_option linter.unusedSimpArgs false
set_option maxHeartbeats 8000000
set_option maxRecDepth 100000
section
attribute [local go_sem] Oper.semAt_some
theorem IK (G:List Int->Int->Prop) (k n:Nat) (A0:Option Addr) (c0:Nat) (E:List S83) (n' g:Int) (a:List S83) (w:World) (m:Kd.C aM w A0 E.length E) (v:E.length<=c0) (o:eI.f k n E=some (n',a,0)) (p:fu.f k n' a=some (g,0)):
  Calls Tryz.prog 94 #[.agg #[.int .i64 n,.slice A0 E.length c0]] w fun e w'=>∃h b,e= .returned (.tuple #[.pointer (some ⟨h,0,none⟩),.int .i64 0])/\hU w' h n A0 E c0 g b/\d_ G w' b/\h≠b/\w.heap.size<=b/\Below w.heap.size w w':=by
 have hu:=Tryz.underlying24;have J:=Tryz.underlying171;have x:=zA o;have y:=zA p;have z:=zA m;clear o p m;go_enter Tryz.func94,Tryz.ntmps94
 have q:=a6 w (.cells #[.int .i64 n,.slice A0 E.length c0] 24);go_wp2_with (go_at_call 30;refine(eI.calls k n A0 c0 E n' a 0 _ (Kd.bC z.out _) v x.out).mono ?_;rintro e w1 ⟨v1,rfl,i,j⟩;obtain⟨B,c1,rfl⟩:=Kd.bh i;have r:=zA (Kd.aN i);have D:=zA (aQ (ai (aj w.heap.size w) _) j);have F:=zA (az q j);clear i j)
 refine(fu.calls k n' B c1 a g 0 _ (Kd.bC r.out.2.2 _) r.out.2.1 y.out).mono ?_;rintro e w2 ⟨rfl,l⟩;have s:=zA (az (aq F.out _) l);have u:=zA (aQ (ai D.out _) l);have K:w2.cell? ⟨w.heap.size,0,none⟩=some (.int .i64 n):=(ah s.out 0).trans rfl;have L:w2.cell? ⟨w.heap.size,1,none⟩=some (.slice A0 E.length c0):=(ah s.out 1).trans rfl;have aT:=u.out.size;clear l q;have M:=@run_makeMap Tryz.prog;go_wp2_with fail
 have H:=ai (aj w2.heap.size w2) (.map #[] 0);have I:=ai H (.cells #[.int .i64 n,.slice A0 E.length c0,.int .i64 g,.map (some w2.heap.size)] 171);go_ret2;refine⟨_,w2.heap.size,rfl,?_,(d_.made w2).alloc _,by omega,by omega,aQ u.out I⟩;have:=a6 (w2.alloc (.map #[] 0)) (.cells #[.int .i64 n,.slice A0 E.length c0,.int .i64 g,.map (some w2.heap.size)] 171);rw[show (w2.alloc (.map #[] 0)).heap.size=w2.heap.size+1 from by simp] at this;exact this
noncomputable def zm (n:Nat) (t:Nat->Nat->Int) (d:List Int):Int:=@Classical.epsilon Int ⟨0⟩ fun r=>Rk n t d r
theorem zp {n:Nat} {t:Nat->Nat->Int} {d:List Int} (hn:0<n) {r:Int} (h:Rk n t d r):zm n t d=r:=
 T.cu.unique hn (@Classical.epsilon_spec_aux Int ⟨0⟩ (fun r=>Rk n t d r) ⟨r,h⟩) h
noncomputable def eQ.f (k:Nat) (N:Int) (E:List S83) (d:List Int):Option (Int×Int):=
 (fF.f k N E [d]).bind fun e=>if e=0 then(if jw N E 0 d=true then((eI.f k N E).bind fun p=>if p.2.2=0 then((fu.f k p.1 p.2.1).bind fun g=>if g.2=0 then(if T.sN (T.can N.toNat (af E)) N.toNat=2*g.1-2 then some (zm N.toNat (af E) d,0) else none) else none) else none) else none) else some (0,e)
theorem IL (k:Nat) (N:Int) (A0:Option Addr) (c0:Nat) (E:List S83) (a:Option Addr) (c2:Nat) (d:List Int) (t:Int) (w:World) (l:Kd.C aM w A0 E.length E) (m:E.length<=c0) (g:Kd.C (Kd.int .i64) w a d.length d) (h:d.length<=c2)
  (i:fF.f k N E [d]=some t) (j:t≠0):
  Calls Tryz.prog 41 #[.agg #[.int .i64 N,.slice A0 E.length c0],.slice a d.length c2] w fun e w'=>e= .returned (.tuple #[.int .i64 0,.int .i64 t])/\Below w.heap.size w w':=by
 have hu:=Tryz.underlying24;have n:=zA i;have o:=zA g;have p:=zA h;have r:(t != 0)=true:=by simpa using j
 clear i j g h;go_enter Tryz.func41,Tryz.ntmps41
 have b:=sO (w.alloc (.cells #[.int .i64 N,.slice A0 E.length c0] 24)) 26 (Kd.bC o.out _) p.out;rw[show (w.alloc (.cells #[.int .i64 N,.slice A0 E.length c0] 24)).heap.size=w.heap.size+1 from by simp] at b;go_wp2_with fail
 refine(fF.calls k N A0 c0 E (some ⟨w.heap.size+1,0,none⟩) 1 [d] t _ (Kd.bC (Kd.bC l _) _) m b (aI 1) n.out).mono ?_;rintro e w1 ⟨rfl,hb⟩;have q:=zA (aQ (ai (ai (aj w.heap.size w) (.cells #[.int .i64 N,.slice A0 E.length c0] 24)) (.cells #[.slice a d.length c2] 26)) hb);clear hb b;go_wp2;go_ret2;exact⟨rfl,q.out⟩
theorem IM {n:Nat} {t:Nat->Nat->Int} (a:T.Wt n t) (hn:n<=12) (h:T.sN (T.val n t) n<=19) {g:Int} (b:T.ep n t g): -100<=g/\g<=100:=by
 have h1:T.sN (T.can n t) n=T.sN (T.val n t) n-2*n:=by
  have key:∀m:Nat,T.sN (T.can n t) m=T.sN (T.val n t) m-2*m:=by
   intro m;induction m with
   |zero=>simp[T.sN]
   |succ m e=>
    show T.sN (T.can n t) m+T.can n t m=T.sN (T.val n t) m+T.val n t m-_
    rw[e];unfold T.can;omega
  exact key n
 have i:T.sN (T.can n t) n=2*g-2:=b;have j:0<=T.sN (T.val n t) n:=T.dR fun v _=>T.dR fun u _=>a.pos v u
 omega
theorem IN {n:Nat} {E:List S83} {d:List Int} {g:Int} (h:eP n 0 E d) (i:cL n E=0) (a:T.ep n (af E) g):tc n E g where
 n1:=h.n1
 n12:=h.n12
 right:=h.right
 conn:=h.conn
 len:=h.len
 val:=h.val
 gen:=a
 g0:=IM h.right.wt h.n12 h.val a
 zf:=fun d' e=>by
  obtain⟨s,h1,b,j⟩:=G3 e i;obtain⟨k,hk⟩:=h1.get;exact⟨k,s,hk,(nX e.right).2 ⟨b,j⟩⟩
 ct:=fun l h1 b=>Hy h.right.wt h.n1 a h.val l h1 b
theorem IP (k n:Nat) (A0:Option Addr) (c0:Nat) (E:List S83) (a:Option Addr) (c2:Nat) (d:List Int) (n' g:Int) (h:List S83) (w:World) (i:Kd.C aM w A0 E.length E) (j:E.length<=c0) (p:Kd.C (Kd.int .i64) w a d.length d) (q:d.length<=c2)
  (s:fF.f k n E [d]=some 0) (b:eP n 0 E d) (u:cL n E=0) (v:eI.f k n E=some (n',h,0)) (x:fu.f k n' h=some (g,0)) (K:T.ep n (af E) g):
  Calls Tryz.prog 41 #[.agg #[.int .i64 n,.slice A0 E.length c0],.slice a d.length c2] w fun e w'=>∃r,e= .returned (.tuple #[.int .i64 r,.int .i64 0])/\Rk n (af E) d r/\Below w.heap.size w w':=by
 have hu:=Tryz.underlying24;have L:=zA s;have M:=zA v;have N:=zA x;have y:=zA p;have z:=zA q;have O:=zA (IN b u K);have P:Aside0 (qb n d):=⟨b.dl,b.d⟩;have Q:=zA b.dl;clear s v x p q b u;have B:=a6 w (.cells #[.int .i64 n,.slice A0 E.length c0] 24);have l:=sO (w.alloc (.cells #[.int .i64 n,.slice A0 E.length c0] 24)) 26 (Kd.bC y.out _) z.out;rw[show (w.alloc (.cells #[.int .i64 n,.slice A0 E.length c0] 24)).heap.size=w.heap.size+1 from by simp] at l;go_enter Tryz.func41,Tryz.ntmps41
 go_wp2_with fail
 refine(fF.calls k n A0 c0 E (some ⟨w.heap.size+1,0,none⟩) 1 [d] 0 _ (Kd.bC (Kd.bC i _) _) j l (aI 1) L.out).mono ?_;rintro e w1 ⟨rfl,hb⟩;have D:=zA (az (aq B (.cells #[.slice a d.length c2] 26)) hb);have m:=zA (aQ (ai (ai (aj w.heap.size w) (.cells #[.int .i64 n,.slice A0 E.length c0] 24)) (.cells #[.slice a d.length c2] 26)) hb);have Z:w1.cell? ⟨w.heap.size,0,none⟩=some (.int .i64 n):=(ah D.out 0).trans rfl;have y1:w1.cell? ⟨w.heap.size,1,none⟩=some (.slice A0 E.length c0):=(ah D.out 1).trans rfl;clear hb l B;go_wp2_with fail
 refine(IK (kj n (af E) g) k n A0 c0 E n' g h w1 (Kd.ax i m.out) j M.out N.out).mono ?_;rintro e w2 ⟨R,F,rfl,hF,G,S,ab,H⟩;have o:=zA (aQ m.out H);have U:=zA hF;have V:=zA G;have I:w.heap.size<=F:=by have:=m.out.size;omega
 clear hF G H;go_wp2_with fail
 have W:=Q.out;subst W;refine(zl d.length A0 c0 E g R F w i j O.out I S ((fc d d.length).toNat+1) d a c2 w2 P.out (by omega) o.out U.out V.out (Kd.ax y.out o.out) z.out).mono ?_;rintro e w3 ⟨r,rfl,J, -,hk⟩;have X:=zA J;have Y:=zA (o.out.trans (hk.1.mono I));clear J hk;go_wp2;go_ret2;exact⟨r,rfl,X.out,Y.out⟩
theorem eQ.calls (k:Nat) (j:Int) (l:Option Addr) (m:Nat) (b:List (S83)) (o:Option Addr) (c1:Nat) (l1:List Int) (s:Int) (u:Int) (w:World) (v:Kd.C aM w l b.length b) (x:b.length<=m) (y:Kd.C (Kd.int .i64) w o l1.length l1) (z:l1.length<=c1) (h:eQ.f k j b l1=some (s,u)):
  Calls Tryz.prog 41 #[.agg #[.int .i64 j,.slice l b.length m],.slice o l1.length c1] w fun e w'=>e= .returned (.tuple #[.int .i64 s,.int .i64 u])/\Below w.heap.size w w':=by
 unfold eQ.f at h;obtain⟨e,he,a⟩:=Option.bind_eq_some_iff.1 h;clear h;by_cases q:e=0
 ·subst q
  rw[if_pos rfl] at a;by_cases i:jw j b 0 l1=true
  ·rw[if_pos i] at a
   obtain⟨⟨n',E,F⟩,G,a⟩:=Option.bind_eq_some_iff.1 a;have H:cL j b=0:=by
    unfold jw at i;rw[Bool.and_eq_true,decide_eq_true_eq] at i;exact i.1.2.2.2.2.2.1
   obtain⟨n,I,rfl,L,hO⟩:=pT i;obtain rfl:I=0:=by omega
   simp only at a;by_cases B:F=0
   ·subst B
    rw[if_pos rfl] at a;obtain⟨⟨g,e2⟩,J,a⟩:=Option.bind_eq_some_iff.1 a;simp only at a;by_cases D:e2=0
    ·subst D
     rw[if_pos rfl] at a;by_cases p:T.sN (T.can (n:Int).toNat (af b)) (n:Int).toNat=2*g-2
     ·rw[if_pos p] at a
      simp only[Option.some.injEq,Prod.mk.injEq,aD] at a;obtain⟨rfl,rfl⟩:=a;rw[aD] at p;refine(IP k n l m b o c1 l1 n' g E w v x y z he hO H G J p).mono ?_;rintro e w' ⟨r,rfl,K,hb⟩;rw[zp hO.n1 K];exact⟨rfl,hb⟩
     ·rw[if_neg p] at a;cases a
    ·rw[if_neg D] at a;cases a
   ·rw[if_neg B] at a;cases a
  ·rw[if_neg i] at a;cases a
 ·rw[if_neg q] at a
  simp only[Option.some.injEq,Prod.mk.injEq] at a;obtain⟨rfl,rfl⟩:=a;exact IL k j l m b o c1 l1 e w v x y z he q
end
end Go.Proofs.YtffdiakgjakngaaGreat.P
namespace Go.Proofs.YtffdiakgjakngaaGreat.P
open Go.RowKit Go.Proofs.YtffdiakgjakngaaGreatW.PrintWords Go.Proofs.YtffdiakgjakngaaGreatW.PrintLast Go.Proofs.YtffdiakgjakngaaGreatW.PrintMore
set_option linter.unusedVariables false
set_option linter.unusedSimpArgs false
set_option maxHeartbeats 8000000
set_option maxRecDepth 100000
def fx.f (k:Nat) (a:Int) (b:List (S83)):Option (List Int×Int):=(ez.f k a b).bind fun t231=>(if t231=0 then((jG.f k a b).bind fun t232=>(some (t232,0))) else(some (([]:List Int),t231)))
theorem fx.mono:∀a0 a k,al (fx.f k a0 a) (fx.f (k+1) a0 a):=by
 intro a0 a k;unfold fx.f;with_reducible repeat' first|exact jG.mono _ _ _|exact ez.mono _ _ _|exact al.refl _|exact al.none _|refine al.ite ?_ ?_|refine al.bind ?_ (fun _=>?_)
theorem fx.calls (k:Nat) (g:Int) (j:Option Addr) (l:Nat) (b:List (S83)) (q:List Int) (r:Int) (w:World) (s:Kd.C aM w j b.length b) (u:b.length<=l) (h:fx.f k g b=some (q,r)):
  Calls Tryz.prog 35 #[.agg #[.int .i64 g,.slice j b.length l]] w fun e w'=>∃v:Value,e= .returned (.tuple #[v,.int .i64 r])/\Kd.R (Kd.int .i64) 3 w' w.heap.size (fun _=>True) v q/\Below w.heap.size w w':=by
 have J:=Tryz.underlying24;have o:=zA s;have p:=zA u;clear s u;have a:=zA (aj w.heap.size w);unfold fx.f at h;have H:=h;clear h;obtain⟨t231,x,H⟩:=zo H;by_cases c3:t231=0
 ·rw[if_pos c3] at H
  obtain⟨z,B⟩:=bZ c3;clear c3;obtain⟨t232,D,H⟩:=zo H;simp only[Option.some.injEq,Prod.mk.injEq] at H;obtain⟨rfl,rfl⟩:=H;go_enter Tryz.func35,Tryz.ntmps35
  go_wp2_with (first|((with_reducible refine aU (N:=1) rfl ?_);refine zX 1 #[.int .i64 g,.slice j b.length l] 24 ?_;intro E m K n hb;have i:=zA (n);have F:=zG a m;have G:=zG a m;replace a:=zS a hb;clear hb n m;obtain⟨L,M,O,P⟩:=aC i)|((with_reducible refine aR (f:=55) rfl ?_);refine zL (some 6) Tryz.func55 #[.agg #[.int .i64 g,.slice j b.length l]] ?_;(with_reducible refine(ez.calls k g _ _ b t231 _ ?au ?aw x.out).mono ?_);(case au=>exact Kd.ax o.out zB);(case aw=>exact p.out);rintro e Q ⟨rfl,hb⟩;refine⟨_,rfl,?_⟩;replace i:=zb i hb;replace a:=zS a hb;(try clear hb);obtain⟨S,T,U,V⟩:=aC i)|((with_reducible refine aR (f:=89) rfl ?_);refine zL (some 11) Tryz.func89 #[.agg #[.int .i64 g,.slice j b.length l]] ?_;(with_reducible refine(jG.calls k g _ _ b t232 _ ?au ?aw D.out).mono ?_);(case au=>exact Kd.ax o.out zB);(case aw=>exact p.out);rintro e W ⟨v233,rfl,y,hb⟩;refine⟨_,rfl,?_⟩;have I:=zA (Kd.bc y (bO zB));replace i:=zb i hb;replace a:=zS a hb;(try clear hb);(try clear y)))
  go_ret2;exact⟨_,zE,by(with_reducible repeat(first|apply Kd.aK|apply Kd.bJ|apply Kd.bA));exact I.out,zB⟩
 ·rw[if_neg c3] at H
  obtain⟨z,B⟩:=b7 c3;simp only[Option.some.injEq,Prod.mk.injEq] at H;obtain⟨rfl,rfl⟩:=H;go_enter Tryz.func35,Tryz.ntmps35
  go_wp2_with (first|((with_reducible refine aU (N:=1) rfl ?_);refine zX 1 #[.int .i64 g,.slice j b.length l] 24 ?_;intro E m X n hb;have i:=zA (n);have F:=zG a m;have G:=zG a m;replace a:=zS a hb;clear hb n m;obtain⟨Y,Z,aa,ab⟩:=aC i)|((with_reducible refine aR (f:=55) rfl ?_);refine zL (some 6) Tryz.func55 #[.agg #[.int .i64 g,.slice j b.length l]] ?_;(with_reducible refine(ez.calls k g _ _ b t231 _ ?au ?aw x.out).mono ?_);(case au=>exact Kd.ax o.out zB);(case aw=>exact p.out);rintro e ad ⟨rfl,hb⟩;refine⟨_,rfl,?_⟩;replace i:=zb i hb;replace a:=zS a hb;(try clear hb)))
  go_ret2;exact⟨_,zE,by first|exact Kd.df _ _ _ _ _|exact Kd.iE _ _ _ _ _|exact Kd.V_nil _ _ _ _ _|exact Kd.Q_nil _ _ _ _ _|exact Kd.ij _ _ _ _ _,zB⟩
end Go.Proofs.YtffdiakgjakngaaGreat.P


namespace Go.Proofs.YtffdiakgjakngaaGreat.P
open Go.RowKit Go.Proofs.YtffdiakgjakngaaGreatW.PrintWords Go.Proofs.YtffdiakgjakngaaGreatW.PrintLast Go.Proofs.YtffdiakgjakngaaGreatW.PrintMore
set_option linter.unusedVariables false
set_option linter.unusedSimpArgs false
set_option maxHeartbeats 8000000
set_option maxRecDepth 100000
def fe.f (k:Nat) (b:Int) (g:List (S83)) (l1:List Int):Option (List Int×Int):=(fx.f k b g).bind fun a=>(if a.2=0 then((bz.f k l1 b).bind fun t240=>(if t240=0 then((jN.f k a.1 l1).bind fun e=>(some (e.1,e.2))) else(some (([]:List Int),t240)))) else(some (([]:List Int),a.2)))
theorem fe.mono:∀a0 a a2 k,al (fe.f k a0 a a2) (fe.f (k+1) a0 a a2):=by
 intro a0 a a2 k;unfold fe.f;with_reducible repeat' first|exact bz.mono _ _ _|exact jN.mono _ _ _|exact fx.mono _ _ _|exact al.refl _|exact al.none _|refine al.ite ?_ ?_|refine al.bind ?_ (fun _=>?_)
theorem fe.calls (k:Nat) (b:Int) (m:Option Addr) (n:Nat) (i:List (S83)) (q:Option Addr) (c1:Nat) (l1:List Int) (z:List Int) (B:Int) (w:World) (D:Kd.C aM w m i.length i) (E:i.length<=n) (F:Kd.C (Kd.int .i64) w q l1.length l1) (G:l1.length<=c1) (h:fe.f k b i l1=some (z,B)):
  Calls Tryz.prog 32 #[.agg #[.int .i64 b,.slice m i.length n],.slice q l1.length c1] w fun e w'=>∃I:Value,e= .returned (.tuple #[I,.int .i64 B])/\Kd.R (Kd.int .i64) 3 w' w.heap.size (fun _=>True) I z/\Below w.heap.size w w':=by
 have Z:=Tryz.underlying24;have s:=zA D;have u:=zA E;clear D E;have v:=zA F;have x:=zA G;clear F G;have a:=zA (aj w.heap.size w);unfold fe.f at h;have H:=h;clear h;obtain⟨⟨t236,t239⟩,y,H⟩:=zo H;dsimp only at H;by_cases c4:t239=0
 ·rw[if_pos c4] at H
  obtain⟨P,Q⟩:=bZ c4;clear c4;obtain⟨t240,J,H⟩:=zo H;by_cases r:t240=0
  ·rw[if_pos r] at H
   obtain⟨S,T⟩:=bZ r;clear r;obtain⟨⟨t241,t242⟩,U,H⟩:=zo H;dsimp only at H;simp only[Option.some.injEq,Prod.mk.injEq] at H;obtain⟨rfl,rfl⟩:=H;go_enter Tryz.func32,Tryz.ntmps32
   go_wp2_with (first|((with_reducible refine aU (N:=2) rfl ?_);refine zX 2 #[.int .i64 b,.slice m i.length n] 24 ?_;intro K l w8 o hb;have g:=zA (o);have L:=zG a l;have M:=zG a l;replace a:=zS a hb;clear hb o l;obtain⟨ab,ad,ag,ak⟩:=aC g)|((with_reducible refine aR (f:=35) rfl ?_);refine zL (some 11) Tryz.func35 #[.agg #[.int .i64 b,.slice m i.length n]] ?_;(with_reducible refine(fx.calls k b _ _ i t236 t239 _ ?au ?aw y.out).mono ?_);(case au=>exact Kd.ax s.out zB);(case aw=>exact u.out);rintro e am ⟨O,rfl,j,hb⟩;refine⟨_,rfl,?_⟩;have p:=zA (Kd.bc j (bO zB));replace g:=zb g hb;replace a:=zS a hb;(try clear hb);(try clear j);obtain⟨an,ao,ap,ar⟩:=aC g)|((with_reducible refine aR (f:=87) rfl ?_);refine zL (some 20) Tryz.func87 #[.slice q l1.length c1,.int .i64 b] ?_;(with_reducible refine(bz.calls k _ _ l1 b t240 _ ?au ?aw J.out).mono ?_);(case au=>exact Kd.ax v.out zB);(case aw=>exact x.out);rintro e w' ⟨rfl,⟨nd,rfl⟩⟩;refine⟨_,rfl,?_⟩;obtain⟨V,W,X⟩:=Kd.bh p.out;subst X)|((with_reducible refine aR (f:=16) rfl ?_);refine zL (some 26) Tryz.func16 #[.slice V t236.length W,.slice q l1.length c1] ?_;(with_reducible refine(jN.calls k _ _ t236 _ _ l1 t241 t242 _ ?au ?aw ?bs ?br U.out).mono ?_);(case au=>exact zC (Kd.aN p.out).2.2);(case aw=>exact(Kd.aN p.out).2.1);(case bs=>exact Kd.ax v.out zB);(case br=>exact x.out);rintro e av ⟨aB,rfl,j,hb⟩;refine⟨_,rfl,?_⟩;have Y:=zA (Kd.bc (Kd.bS j (Kd.a8 (zR p))) (bO zB));replace p:=bW p j hb;replace g:=zb g hb;replace a:=zS a hb;(try clear hb);(try clear j)))
   go_ret2;exact⟨_,zE,by(with_reducible repeat(first|apply Kd.aK|apply Kd.bJ|apply Kd.bA));exact Kd.a_ Y.out (fun _ hk=>trivial),zB⟩
  ·rw[if_neg r] at H
   obtain⟨S,T⟩:=b7 r;simp only[Option.some.injEq,Prod.mk.injEq] at H;obtain⟨rfl,rfl⟩:=H;go_enter Tryz.func32,Tryz.ntmps32
   go_wp2_with (first|((with_reducible refine aU (N:=2) rfl ?_);refine zX 2 #[.int .i64 b,.slice m i.length n] 24 ?_;intro K l aF o hb;have g:=zA (o);have L:=zG a l;have M:=zG a l;replace a:=zS a hb;clear hb o l;obtain⟨aL,aO,aP,aS⟩:=aC g)|((with_reducible refine aR (f:=35) rfl ?_);refine zL (some 11) Tryz.func35 #[.agg #[.int .i64 b,.slice m i.length n]] ?_;(with_reducible refine(fx.calls k b _ _ i t236 t239 _ ?au ?aw y.out).mono ?_);(case au=>exact Kd.ax s.out zB);(case aw=>exact u.out);rintro e a0 ⟨O,rfl,j,hb⟩;refine⟨_,rfl,?_⟩;have p:=zA (Kd.bc j (bO zB));replace g:=zb g hb;replace a:=zS a hb;(try clear hb);(try clear j);obtain⟨a1,a2,a3,a4⟩:=aC g)|((with_reducible refine aR (f:=87) rfl ?_);refine zL (some 20) Tryz.func87 #[.slice q l1.length c1,.int .i64 b] ?_;(with_reducible refine(bz.calls k _ _ l1 b t240 _ ?au ?aw J.out).mono ?_);(case au=>exact Kd.ax v.out zB);(case aw=>exact x.out);rintro e w' ⟨rfl,⟨nd,rfl⟩⟩;refine⟨_,rfl,?_⟩))
   go_ret2;exact⟨_,zE,by first|exact Kd.df _ _ _ _ _|exact Kd.iE _ _ _ _ _|exact Kd.V_nil _ _ _ _ _|exact Kd.Q_nil _ _ _ _ _|exact Kd.ij _ _ _ _ _,zB⟩
 ·rw[if_neg c4] at H
  obtain⟨P,Q⟩:=b7 c4;simp only[Option.some.injEq,Prod.mk.injEq] at H;obtain⟨rfl,rfl⟩:=H;go_enter Tryz.func32,Tryz.ntmps32
  go_wp2_with (first|((with_reducible refine aU (N:=2) rfl ?_);refine zX 2 #[.int .i64 b,.slice m i.length n] 24 ?_;intro K l a5 o hb;have g:=zA (o);have L:=zG a l;have M:=zG a l;replace a:=zS a hb;clear hb o l;obtain⟨a9,bb,be,bf⟩:=aC g)|((with_reducible refine aR (f:=35) rfl ?_);refine zL (some 11) Tryz.func35 #[.agg #[.int .i64 b,.slice m i.length n]] ?_;(with_reducible refine(fx.calls k b _ _ i t236 t239 _ ?au ?aw y.out).mono ?_);(case au=>exact Kd.ax s.out zB);(case aw=>exact u.out);rintro e bg ⟨O,rfl,j,hb⟩;refine⟨_,rfl,?_⟩;have p:=zA (Kd.bc j (bO zB));replace g:=zb g hb;replace a:=zS a hb;(try clear hb);(try clear j)))
  go_ret2;exact⟨_,zE,by first|exact Kd.df _ _ _ _ _|exact Kd.iE _ _ _ _ _|exact Kd.V_nil _ _ _ _ _|exact Kd.Q_nil _ _ _ _ _|exact Kd.ij _ _ _ _ _,zB⟩
noncomputable def iX.f (k:Nat) (a:Int) (b:List (S83)) (l1:List Int):Option (Int×Int):=(fe.f k a b l1).bind fun e=>(if e.2=0 then((eQ.f k a b l1).bind fun g=>(if g.2=0 then((eQ.f k a b e.1).bind fun h=>(if h.2=0 then(some (wrap64 (g.1-h.1),0)) else(some (0,h.2)))) else(some (0,g.2)))) else(some (0,e.2)))
theorem iX.calls (k:Nat) (i:Int) (l:Option Addr) (m:Nat) (g:List (S83)) (q:Option Addr) (c1:Nat) (l1:List Int) (O:Int) (P:Int) (w:World) (Q:Kd.C aM w l g.length g) (R:g.length<=m) (S:Kd.C (Kd.int .i64) w q l1.length l1) (T:l1.length<=c1) (h:iX.f k i g l1=some (O,P)):
  Calls Tryz.prog 27 #[.agg #[.int .i64 i,.slice l g.length m],.slice q l1.length c1] w fun e w'=>e= .returned (.tuple #[.int .i64 O,.int .i64 P])/\Below w.heap.size w w':=by
 have ap:=Tryz.underlying24;have r:=zA Q;have s:=zA R;clear Q R;have v:=zA S;have x:=zA T;clear S T;have a:=zA (aj w.heap.size w);unfold iX.f at h;have H:=h;clear h;obtain⟨⟨u,y⟩,D,H⟩:=zo H;dsimp only at H;by_cases c4:y=0
 ·rw[if_pos c4] at H
  obtain⟨W,X⟩:=bZ c4;clear c4;obtain⟨⟨F,E⟩,G,H⟩:=zo H;dsimp only at H;by_cases z:E=0
  ·rw[if_pos z] at H
   obtain⟨Y,Z⟩:=bZ z;clear z;obtain⟨⟨U,I⟩,V,H⟩:=zo H;dsimp only at H;by_cases B:I=0
   ·rw[if_pos B] at H
    obtain⟨aa,ab⟩:=bZ B;clear B;simp only[Option.some.injEq,Prod.mk.injEq] at H;obtain⟨rfl,rfl⟩:=H;go_enter Tryz.func27,Tryz.ntmps27
    go_wp2_with (first|((with_reducible refine aU (N:=2) rfl ?_);refine zX 2 #[.int .i64 i,.slice l g.length m] 24 ?_;intro J n w9 o hb;have b:=zA (o);have K:=zG a n;have L:=zG a n;replace a:=zS a hb;clear hb o n;obtain⟨av,aB,aF,aL⟩:=aC b)|((with_reducible refine aR (f:=32) rfl ?_);refine zL (some 13) Tryz.func32 #[.agg #[.int .i64 i,.slice l g.length m],.slice q l1.length c1] ?_;(with_reducible refine(fe.calls k i _ _ g _ _ l1 u y _ ?au ?aw ?bs ?br D.out).mono ?_);(case au=>exact Kd.ax r.out zB);(case aw=>exact s.out);(case bs=>exact Kd.ax v.out zB);(case br=>exact x.out);rintro e aO ⟨M,rfl,p,hb⟩;refine⟨_,rfl,?_⟩;have j:=zA (Kd.bc p (bO zB));replace b:=zb b hb;replace a:=zS a hb;(try clear hb);(try clear p);obtain⟨aP,aS,a0,a1⟩:=aC b)|((with_reducible refine aR (f:=41) rfl ?_);refine zL (some 22) Tryz.func41 #[.agg #[.int .i64 i,.slice l g.length m],.slice q l1.length c1] ?_;(with_reducible refine(eQ.calls k i _ _ g _ _ l1 F E _ ?au ?aw ?bs ?br G.out).mono ?_);(case au=>exact Kd.ax r.out zB);(case aw=>exact s.out);(case bs=>exact Kd.ax v.out zB);(case br=>exact x.out);rintro e a2 ⟨rfl,hb⟩;refine⟨_,rfl,?_⟩;replace j:=bF j hb;replace b:=zb b hb;replace a:=zS a hb;(try clear hb);obtain⟨a3,a4,a5,a9⟩:=aC b;obtain⟨ad,ag,ak⟩:=Kd.bh j.out;subst ak)|((with_reducible refine aR (f:=41) rfl ?_);refine zL (some 31) Tryz.func41 #[.agg #[.int .i64 i,.slice l g.length m],.slice ad u.length ag] ?_;(with_reducible refine(eQ.calls k i _ _ g _ _ u U I _ ?au ?aw ?bs ?br V.out).mono ?_);(case au=>exact Kd.ax r.out zB);(case aw=>exact s.out);(case bs=>exact zC (Kd.aN j.out).2.2);(case br=>exact(Kd.aN j.out).2.1);rintro e bb ⟨rfl,hb⟩;refine⟨_,rfl,?_⟩;replace j:=bF j hb;replace b:=zb b hb;replace a:=zS a hb;(try clear hb)))
    go_ret2;exact⟨zE,zB⟩
   ·rw[if_neg B] at H
    obtain⟨aa,ab⟩:=b7 B;simp only[Option.some.injEq,Prod.mk.injEq] at H;obtain⟨rfl,rfl⟩:=H;go_enter Tryz.func27,Tryz.ntmps27
    go_wp2_with (first|((with_reducible refine aU (N:=2) rfl ?_);refine zX 2 #[.int .i64 i,.slice l g.length m] 24 ?_;intro J n be o hb;have b:=zA (o);have K:=zG a n;have L:=zG a n;replace a:=zS a hb;clear hb o n;obtain⟨bf,bg,bi,bk⟩:=aC b)|((with_reducible refine aR (f:=32) rfl ?_);refine zL (some 13) Tryz.func32 #[.agg #[.int .i64 i,.slice l g.length m],.slice q l1.length c1] ?_;(with_reducible refine(fe.calls k i _ _ g _ _ l1 u y _ ?au ?aw ?bs ?br D.out).mono ?_);(case au=>exact Kd.ax r.out zB);(case aw=>exact s.out);(case bs=>exact Kd.ax v.out zB);(case br=>exact x.out);rintro e bl ⟨M,rfl,p,hb⟩;refine⟨_,rfl,?_⟩;have j:=zA (Kd.bc p (bO zB));replace b:=zb b hb;replace a:=zS a hb;(try clear hb);(try clear p);obtain⟨bn,bo,bq,bv⟩:=aC b)|((with_reducible refine aR (f:=41) rfl ?_);refine zL (some 22) Tryz.func41 #[.agg #[.int .i64 i,.slice l g.length m],.slice q l1.length c1] ?_;(with_reducible refine(eQ.calls k i _ _ g _ _ l1 F E _ ?au ?aw ?bs ?br G.out).mono ?_);(case au=>exact Kd.ax r.out zB);(case aw=>exact s.out);(case bs=>exact Kd.ax v.out zB);(case br=>exact x.out);rintro e bw ⟨rfl,hb⟩;refine⟨_,rfl,?_⟩;replace j:=bF j hb;replace b:=zb b hb;replace a:=zS a hb;(try clear hb);obtain⟨bx,b0,b1,b2⟩:=aC b;obtain⟨am,an,ao⟩:=Kd.bh j.out;subst ao)|((with_reducible refine aR (f:=41) rfl ?_);refine zL (some 31) Tryz.func41 #[.agg #[.int .i64 i,.slice l g.length m],.slice am u.length an] ?_;(with_reducible refine(eQ.calls k i _ _ g _ _ u U I _ ?au ?aw ?bs ?br V.out).mono ?_);(case au=>exact Kd.ax r.out zB);(case aw=>exact s.out);(case bs=>exact zC (Kd.aN j.out).2.2);(case br=>exact(Kd.aN j.out).2.1);rintro e b3 ⟨rfl,hb⟩;refine⟨_,rfl,?_⟩;replace j:=bF j hb;replace b:=zb b hb;replace a:=zS a hb;(try clear hb)))
    go_ret2;exact⟨zE,zB⟩
  ·rw[if_neg z] at H
   obtain⟨Y,Z⟩:=b7 z;simp only[Option.some.injEq,Prod.mk.injEq] at H;obtain⟨rfl,rfl⟩:=H;go_enter Tryz.func27,Tryz.ntmps27
   go_wp2_with (first|((with_reducible refine aU (N:=2) rfl ?_);refine zX 2 #[.int .i64 i,.slice l g.length m] 24 ?_;intro J n b4 o hb;have b:=zA (o);have K:=zG a n;have L:=zG a n;replace a:=zS a hb;clear hb o n;obtain⟨b5,b6,b_,b'⟩:=aC b)|((with_reducible refine aR (f:=32) rfl ?_);refine zL (some 13) Tryz.func32 #[.agg #[.int .i64 i,.slice l g.length m],.slice q l1.length c1] ?_;(with_reducible refine(fe.calls k i _ _ g _ _ l1 u y _ ?au ?aw ?bs ?br D.out).mono ?_);(case au=>exact Kd.ax r.out zB);(case aw=>exact s.out);(case bs=>exact Kd.ax v.out zB);(case br=>exact x.out);rintro e ca ⟨M,rfl,p,hb⟩;refine⟨_,rfl,?_⟩;have j:=zA (Kd.bc p (bO zB));replace b:=zb b hb;replace a:=zS a hb;(try clear hb);(try clear p);obtain⟨cb,cc,cd,ce⟩:=aC b)|((with_reducible refine aR (f:=41) rfl ?_);refine zL (some 22) Tryz.func41 #[.agg #[.int .i64 i,.slice l g.length m],.slice q l1.length c1] ?_;(with_reducible refine(eQ.calls k i _ _ g _ _ l1 F E _ ?au ?aw ?bs ?br G.out).mono ?_);(case au=>exact Kd.ax r.out zB);(case aw=>exact s.out);(case bs=>exact Kd.ax v.out zB);(case br=>exact x.out);rintro e cf ⟨rfl,hb⟩;refine⟨_,rfl,?_⟩;replace j:=bF j hb;replace b:=zb b hb;replace a:=zS a hb;(try clear hb)))
   go_ret2;exact⟨zE,zB⟩
 ·rw[if_neg c4] at H
  obtain⟨W,X⟩:=b7 c4;simp only[Option.some.injEq,Prod.mk.injEq] at H;obtain⟨rfl,rfl⟩:=H;go_enter Tryz.func27,Tryz.ntmps27
  go_wp2_with (first|((with_reducible refine aU (N:=2) rfl ?_);refine zX 2 #[.int .i64 i,.slice l g.length m] 24 ?_;intro J n cg o hb;have b:=zA (o);have K:=zG a n;have L:=zG a n;replace a:=zS a hb;clear hb o n;obtain⟨ch,ci,cj,ck⟩:=aC b)|((with_reducible refine aR (f:=32) rfl ?_);refine zL (some 13) Tryz.func32 #[.agg #[.int .i64 i,.slice l g.length m],.slice q l1.length c1] ?_;(with_reducible refine(fe.calls k i _ _ g _ _ l1 u y _ ?au ?aw ?bs ?br D.out).mono ?_);(case au=>exact Kd.ax r.out zB);(case aw=>exact s.out);(case bs=>exact Kd.ax v.out zB);(case br=>exact x.out);rintro e cl ⟨M,rfl,p,hb⟩;refine⟨_,rfl,?_⟩;have j:=zA (Kd.bc p (bO zB));replace b:=zb b hb;replace a:=zS a hb;(try clear hb);(try clear p)))
  go_ret2;exact⟨zE,zB⟩
def bB.l0:Nat->List Int->List Int->Int->Int->Option (Bool)
 |0,_,_,_,_=>none
 |k+1,b,x1,e,a=>if a<e then(if 0<=a then(if a<(b.length:Int) then(if a<(x1.length:Int) then(if(rd b a)=(rd x1 a) then(bB.l0 k b x1 e (wrap64 (a+1))) else(some false)) else(none)) else(none)) else(none)) else(some true)
def bB.f (k:Nat) (l0:List Int) (l1:List Int):Option (Bool):=if(l0.length:Int)=(l1.length:Int) then(bB.l0 k l0 l1 (l0.length:Int) 0) else(some false)
theorem bB.cE:∀k,(∀a b e g,al (bB.l0 k a b e g) (bB.l0 (k+1) a b e g))
 |0=>fun _ _ _ _ r h=>by simp[bB.l0] at h
 |k+1=>by
  have i:=bB.cE k
  ·intro a b e g
   unfold bB.l0;with_reducible repeat' first|exact i _ _ _ _|exact al.refl _|exact al.none _|refine al.ite ?_ ?_|refine al.bind ?_ (fun _=>?_)
theorem bB.mono:∀a0 a k,al (bB.f k a0 a) (bB.f (k+1) a0 a):=by
 intro a0 a k;have b:=bB.cE k;unfold bB.f;with_reducible repeat' first|exact b _ _ _ _|exact al.refl _|exact al.none _|refine al.ite ?_ ?_|refine al.bind ?_ (fun _=>?_)
theorem bB.calls (k:Nat) (A0:Option Addr) (c0:Nat) (l0:List Int) (v:Option Addr) (c1:Nat) (l1:List Int) (r:Bool) (w:World) (x:Kd.C (Kd.int .i64) w A0 l0.length l0) (y:l0.length<=c0) (z:Kd.C (Kd.int .i64) w v l1.length l1) (B:l1.length<=c1) (h:bB.f k l0 l1=some r):
  Calls Tryz.prog 33 #[.slice A0 l0.length c0,.slice v l1.length c1] w fun e w'=>e= .returned (.bool r)/\aH w w':=by
 have D:=zA x;have U:=zA y;clear x y;have E:=zA z;have V:=zA B;clear z B;unfold bB.f at h;have H:=h;clear h;by_cases c3:(l0.length:Int)=(l1.length:Int)
 ·rw[if_pos c3] at H
  obtain⟨F,G⟩:=bZ c3;have I:(l0.length==l1.length)=true:=by first|simpa using c3|(simp at c3⊢;omega)
  clear c3;have m:=zA H;clear H;go_enter Tryz.func33,Tryz.ntmps33
  go_wp2;repeat(go_quiet (fail);try go_wp2)
  go_loopg [13] k (fun J L w'=>∃(a:Int),L= .int .i64 a/\Aside0 (bB.l0 J l0 l1 (l0.length:Int) a=some r)/\Aside0 (J<=k)/\aH w w')
  case atStart=>exact⟨(0),zT,m,⟨aI _⟩,by repeat(first|exact aH.refl _|apply aH.step)⟩
  case round=>
   clear m;clear F G I;obtain⟨a,rfl,q,K,⟨m1,rfl⟩⟩:=hrel;cases gk with
   |zero=>exact absurd q.out (by simp[bB.l0])
   |succ M=>
    have H:=q.out;clear q;simp only[bB.l0] at H;by_cases c4:a<(l0.length:Int)
    ·rw[if_pos c4] at H
     have N:=aE c4;clear c4;by_cases n:0<=a
     ·rw[if_pos n] at H
      have W:=aE n;clear n;by_cases o:a<(l0.length:Int)
      ·rw[if_pos o] at H
       have X:=aE o;clear o;by_cases p:a<(l1.length:Int)
       ·rw[if_pos p] at H
        have Y:=aE p;clear p;by_cases l:(rd l0 a)=(rd l1 a)
        ·rw[if_pos l] at H
         obtain⟨O,P⟩:=bZ l;clear l;have m:=zA H;clear H;have b:0<=(a:Int):=aA ‹_›;have g:a<(l0.length:Int):=aA ‹_›;obtain⟨Q,s,R⟩:=Kd.cI D.out a b g;cases s;replace b:=eq_true b;replace g:=eq_true g;have i:0<=(a:Int):=aA ‹_›;have j:a<(l1.length:Int):=aA ‹_›;obtain⟨S,u,T⟩:=Kd.cI E.out a i j;cases u;replace i:=eq_true i;replace j:=eq_true j;go_wp2;repeat(go_quiet (fail);try go_wp2)
         go_roundg M
         case measure=>have:=K.out;omega
         case rel=>exact⟨(wrap64 (a+1)),zT,m,⟨by have:=K.out;omega⟩,by repeat(first|exact aH.refl _|apply aH.step)⟩
        ·rw[if_neg l] at H
         obtain⟨O,P⟩:=b7 l;obtain rfl:=aX H;have b:0<=(a:Int):=aA ‹_›;have g:a<(l0.length:Int):=aA ‹_›;obtain⟨Q,s,R⟩:=Kd.cI D.out a b g;cases s;replace b:=eq_true b;replace g:=eq_true g;have i:0<=(a:Int):=aA ‹_›;have j:a<(l1.length:Int):=aA ‹_›;obtain⟨S,u,T⟩:=Kd.cI E.out a i j;cases u;replace i:=eq_true i;replace j:=eq_true j;go_wp2;repeat(go_quiet (fail);try go_wp2)
         go_ret;exact⟨zT,by repeat(first|exact aH.refl _|apply aH.step)⟩
       ·rw[if_neg p] at H
        exact absurd H (by simp)
      ·rw[if_neg o] at H
       exact absurd H (by simp)
     ·rw[if_neg n] at H
      exact absurd H (by simp)
    ·rw[if_neg c4] at H
     have N:=ba c4;clear c4;obtain rfl:=aX H;go_wp2;repeat(go_quiet (fail);try go_wp2)
     go_ret;exact⟨zT,by repeat(first|exact aH.refl _|apply aH.step)⟩
 ·rw[if_neg c3] at H
  obtain⟨F,G⟩:=b7 c3;have I:(l0.length==l1.length)=false:=by first|simpa using c3|(simp at c3⊢;omega)
  obtain rfl:=aX H;go_enter Tryz.func33,Tryz.ntmps33
  go_wp2;repeat(go_quiet (fail);try go_wp2)
  go_ret;exact⟨zT,by repeat(first|exact aH.refl _|apply aH.step)⟩
theorem zq {n:Nat} {E:List S83} {d:List Int} (h:eP n 0 E d) (a:cL n E=0) {n' g:Int} {b:List S83} (i:Ev (fun k=>eI.f k n E) (n',b,(0:Int))) (j:Ev (fun k=>fu.f k n' b) (g,(0:Int))) (l:T.ep n (af E) g) {r:Int} (m:Rk n (af E) d r):
  Ev (fun k=>eQ.f k n E d) (r,(0:Int)):=by
 unfold eQ.f;refine Ev.bind (G4 h a) ?_;have e:=h.ok a;simp only[if_true,aD];simp only[Int.ofNat_zero] at e;simp only[if_pos e];refine Ev.bind i ?_;simp only[if_true];refine Ev.bind j ?_;have o:T.sN (T.can n (af E)) n=2*g-2:=l;simp only[if_true,if_pos o,zp h.n1 m];exact Ev.const _
mutual
def bR.j0:Nat->Int->Bool->Int->List (S83)->Option ((List (List Int))×Int)
 |0,_,_,_,_=>none
 |k+1,x1,b,e,g=>if b=true then(some (([]:List (List Int)),2)) else((gN.f k e g x1).bind fun a=>(if a.2=0 then(bR.l0 k x1 ([]:List (List Int)) a.1 (a.1.length:Int) 0) else(some (([]:List (List Int)),a.2))))
def bR.l0:Nat->Int->List (List Int)->List (List Int)->Int->Int->Option ((List (List Int))×Int)
 |0,_,_,_,_,_=>none
 |k+1,x1,b,e,g,a=>if a<g then(if 0<=a then(if a<(e.length:Int) then((fN.f (aZ e a)).bind fun h=>(if 0<=x1 then(if x1<(h.length:Int) then(if b.length<5864062014805 then(bR.l0 k x1 (b++[(h.set (x1:Int).toNat (-1))]) e g (wrap64 (a+1))) else(none)) else(none)) else(none))) else(none)) else(none)) else(some (b,0))
end
def bR.f (k:Nat) (a:Int) (e:List (S83)) (b:Int):Option ((List (List Int))×Int):=(ez.f k a e).bind fun g=>(if g=0 then(if b<0 then(bR.j0 k b true a e) else(bR.j0 k b (decide (b>=a)) a e)) else(some (([]:List (List Int)),g)))
theorem bR.cE:∀k,(∀a b e g,al (bR.j0 k a b e g) (bR.j0 (k+1) a b e g))/\(∀a b e g i,al (bR.l0 k a b e g i) (bR.l0 (k+1) a b e g i))
 |0=>⟨fun _ _ _ _ r h=>by simp[bR.j0] at h,fun _ _ _ _ _ r h=>by simp[bR.l0] at h⟩
 |k+1=>by
  obtain⟨j,l⟩:=bR.cE k;refine⟨?_,?_⟩
  ·intro a b e g
   unfold bR.j0;with_reducible repeat' first|exact j _ _ _ _|exact l _ _ _ _ _|exact ez.mono _ _ _|exact gN.mono _ _ _ _|exact al.refl _|exact al.none _|refine al.ite ?_ ?_|refine al.bind ?_ (fun _=>?_)
  ·intro a b e g i
   unfold bR.l0;with_reducible repeat' first|exact j _ _ _ _|exact l _ _ _ _ _|exact ez.mono _ _ _|exact gN.mono _ _ _ _|exact al.refl _|exact al.none _|refine al.ite ?_ ?_|refine al.bind ?_ (fun _=>?_)
theorem bR.mono:∀a0 a a2 k,al (bR.f k a0 a a2) (bR.f (k+1) a0 a a2):=by
 intro a0 a a2 k;obtain⟨b,e⟩:=bR.cE k;unfold bR.f;with_reducible repeat' first|exact b _ _ _ _|exact e _ _ _ _ _|exact ez.mono _ _ _|exact gN.mono _ _ _ _|exact al.refl _|exact al.none _|refine al.ite ?_ ?_|refine al.bind ?_ (fun _=>?_)
theorem bR.calls (k:Nat) (n:Int) (z:Option Addr) (B:Nat) (m:List (S83)) (l:Int) (O:List (List Int)) (P:Int) (w:World) (b1:Kd.C aM w z m.length m) (b2:m.length<=B) (h:bR.f k n m l=some (O,P)):
  Calls Tryz.prog 15 #[.agg #[.int .i64 n,.slice z m.length B],.int .i64 l] w fun e w'=>∃b3:Value,e= .returned (.tuple #[b3,.int .i64 P])/\Kd.N (Kd.slice 3 (Kd.int .i64)) 26 w' w.heap.size (fun a=>(w.heap.size<=a)) b3 O/\Below w.heap.size w w':=by
 have ek:=Tryz.underlying24;have aa:=zA b1;have ab:=zA b2;clear b1 b2;have j:=zA (aj w.heap.size w);unfold bR.f at h;have H:=h;clear h;obtain⟨a5,A3,H⟩:=zo H;by_cases c4:a5=0
 ·rw[if_pos c4] at H
  obtain⟨b5,b6⟩:=bZ c4;clear c4;have a9:=zA H;clear H;go_enter Tryz.func15,Tryz.ntmps15
  go_upto_region 4 with (first|((with_reducible refine aU (N:=2) rfl ?_);refine zX 2 #[.int .i64 n,.slice z m.length B] 24 ?_;intro o hg w6 U hb;have g:=zA (U);have cs:=zG j hg;have cv:=zG j hg;replace j:=zS j hb;clear hb U hg;obtain⟨cx,c0,c1,c2⟩:=aC g)|((with_reducible refine aR (f:=55) rfl ?_);refine zL (some 14) Tryz.func55 #[.agg #[.int .i64 n,.slice z m.length B]] ?_;(with_reducible refine(ez.calls k n _ _ m a5 _ ?au ?aw A3.out).mono ?_);(case au=>exact Kd.ax aa.out zB);(case aw=>exact ab.out);rintro e w8 ⟨rfl,hb⟩;refine⟨_,rfl,?_⟩;replace g:=zb g hb;replace j:=zS j hb;(try clear hb)))
  (try simp only[Act.put,List.setIfInBounds_toArray,List.set_cons_zero,List.set_cons_succ])
  go_cut [25] (fun v25 wc=>∃(J:Nat) (ad:Bool),v25= .bool ad/\Aside0 (bR.j0 J l ad n m=some (O,P))/\Aside0 (J<=k)/\Aside0 (wc.heap[o]? =some (.cells #[.int .i64 n,(.slice z m.length B)] 24 (0,0)))/\Aside0 (Below w.heap.size w wc))
  case first=>
   have H:=a9.out;clear a9;by_cases Q:l<0
   ·rw[if_pos Q] at H
    have W:=aE Q;clear Q
    (first|rw[W]|(simp only[dG,dL];rw[W])|skip)
    have G:=zA H;clear H;go_wp2;go_meet
    case rel=>exact⟨_,(true),zT,G,⟨by first|omega|exact aI _⟩,⟨zK g⟩,⟨zB⟩⟩
   ·rw[if_neg Q] at H
    have W:=ba Q;clear Q
    (first|rw[W]|(simp only[dG,dL];rw[W])|skip)
    have G:=zA H;clear H;obtain⟨er,es,ev,ew⟩:=aC g;go_wp2;go_meet
    case rel=>exact⟨_,(decide (l>=n)),zT,G,⟨by first|omega|exact aI _⟩,⟨zK g⟩,⟨zB⟩⟩
  case rest=>
   clear a9;clear b5 b6 cx c0 c1 c2;obtain⟨J,ad,rfl,K,b_,g,j⟩:=hcut;cases J with
   |zero=>exact absurd K.out (by simp[bR.j0])
   |succ ag=>
    have H:=K.out;clear K;simp only[bR.j0] at H;by_cases ak:ad=true
    ·subst ak
     replace H:=zi H;simp only[Option.some.injEq,Prod.mk.injEq] at H;obtain⟨rfl,rfl⟩:=H;go_wp2;go_ret2;exact⟨_,zE,by first|exact Kd.ij _ _ _ _ _|exact Kd.iE _ _ _ _ _|exact Kd.V_nil _ _ _ _ _|exact Kd.Q_nil _ _ _ _ _|exact Kd.df _ _ _ _ _,zB⟩
    ·replace ak:=Bool.eq_false_iff.mpr ak
     subst ak;replace H:=zj H;obtain⟨⟨i,bb⟩,b',H⟩:=zo H;dsimp only at H;by_cases X:bb=0
     ·rw[if_pos X] at H
      obtain⟨ca,cb⟩:=bZ X;clear X;have G:=zA H;clear H;obtain⟨c3,c5,c6,c7⟩:=aC g;go_wp2_with (first|((with_reducible refine aR (f:=56) rfl ?_);refine zL (some 29) Tryz.func56 #[.agg #[.int .i64 n,.slice z m.length B],.int .i64 l] ?_;(with_reducible refine(gN.calls ag n _ _ m l i bb _ ?au ?aw b'.out).mono ?_);(case au=>exact Kd.ax aa.out zB);(case aw=>exact ab.out);rintro e ex ⟨c8,rfl,y,hb⟩;refine⟨_,rfl,?_⟩;have be:=zA (Kd.mZ (Kd.eT (ok':=fun a=>(w.heap.size<=a)/\a≠o) y (fun a Y=>⟨(Nat.le_trans (bO zB) Y),(Kd.l4 (zK g) a Y)⟩)) (bO zB));replace g:=zb g hb;replace j:=zS j hb;(try clear hb);(try clear y);obtain⟨cc,F,c'⟩:=Kd.m_ be.out;subst c'))
      go_loopg [9,37] ag (fun J v9 v37 w'=>∃(I:List (List Int)) (q:Int),v37= .int .i64 q/\Aside0 (bR.l0 J l I i (i.length:Int) q=some (O,P))/\Aside0 (J<=ag)/\Aside0 (Kd.N (Kd.slice 3 (Kd.int .i64)) 26 w' w.heap.size (fun a=>(w.heap.size<=a)/\some a≠((.slice cc i.length F):Value).ownBlock/\a≠o) v9 I)/\Aside0 (Kd.N (Kd.slice 3 (Kd.int .i64)) 26 w' w.heap.size (fun a=>(w.heap.size<=a)/\some a≠(v9:Value).ownBlock/\a≠o) (.slice cc i.length F) i)/\Aside0 (w'.heap[o]? =some (.cells #[.int .i64 n,(.slice z m.length B)] 24 (0,0)))/\Aside0 (Below w.heap.size w w'))
      case atStart=>exact⟨(([]:List (List Int))),(0),zT,G,⟨aI _⟩,⟨by first|exact Kd.ij _ _ _ _ _|exact Kd.iE _ _ _ _ _|exact Kd.V_nil _ _ _ _ _|exact Kd.Q_nil _ _ _ _ _|exact Kd.df _ _ _ _ _⟩,⟨by(with_reducible repeat(first|apply Kd.fi|apply Kd.gS|apply Kd.gR));exact Kd.eT be.out (fun _ hk=>⟨hk.1,⟨(by simp[Value.ownBlock]),hk.2⟩⟩)⟩,⟨zK g⟩,⟨zB⟩⟩
      case round=>
       clear G;clear ca cb c3 c5 c6 c7;obtain⟨I,q,rfl,K,cd,D,s,g,j⟩:=hrel;cases gk with
       |zero=>exact absurd K.out (by simp[bR.l0])
       |succ k2=>
        have H:=K.out;clear K;simp only[bR.l0] at H;by_cases S:q<(i.length:Int)
        ·rw[if_pos S] at H
         have dd:=aE S;clear S;by_cases am:0<=q
         ·rw[if_pos am] at H
          have ey:=aE am;clear am;by_cases an:q<(i.length:Int)
          ·rw[if_pos an] at H
           have e0:=aE an;clear an;obtain⟨r,dk,H⟩:=zo H;by_cases ao:0<=l
           ·rw[if_pos ao] at H
            have e1:=aE ao;clear ao;by_cases ap:l<(r.length:Int)
            ·rw[if_pos ap] at H
             have e2:=aE ap;clear ap;obtain⟨ar,bg⟩:∃y_:List Int,y_=(r.set (l:Int).toNat (-1)):=⟨_,rfl⟩;replace H:(if I.length<5864062014805 then(bR.l0 k2 l (I++[ar]) i (i.length:Int) (wrap64 (q+1))) else(none))=some (O,P):=zh bg H;have dl:=zA bg;clear bg;by_cases av:I.length<5864062014805
             ·rw[if_pos av] at H
              have ds:=zA av;clear av;obtain⟨ce,bk⟩:∃y_:List (List Int),y_=(I++[ar]):=⟨_,rfl⟩;replace H:(bR.l0 k2 l ce i (i.length:Int) (wrap64 (q+1)))=some (O,P):=zh bk H;have dv:=zA bk;clear bk;have G:=zA H;clear H;have a0:0<=(q:Int):=aA ‹_›;have a2:q<(i.length:Int):=aA ‹_›;obtain⟨L,dx,d0,d1,d2,cf,cg⟩:=gT (Kd.jc s.out).2.2 q a0 a2;cases d1;obtain⟨e3,d3,d4,ch⟩:=Kd.na s.out [] q a0 (by first|exact a2|exact aA ‹_› |(have e_:=(Kd.jc s.out).1;omega));obtain⟨e5,e6,rfl,bl,bn⟩:=Kd.kz d4;have a3:=ch 0 _ rfl;rw[Nat.add_zero,show ((Kd.slice 3 (Kd.int .i64))).sz=1 from rfl,Nat.mul_one] at a3;replace a3:=aX (a3.symm.trans d2);injection a3 with ci d5 cj
              rw[ci] at bn;rw[cj] at bl;have T:=zA (show Kd.V (Kd.int .i64) 3 _ w.heap.size _ _ (aZ i q) from Kd.qH bl bn);clear ci d5 cj bn bl;clear ch d3;have Z:=zA cg;have d6:=zA cf;clear cg cf;replace a0:=eq_true a0;replace a2:=eq_true a2;go_wp2_with (first|((with_reducible refine aR (f:=57) rfl ?_);refine zL (some 42) Tryz.func57 #[.slice dx (aZ i q).length d0] ?_;(with_reducible refine(fN.calls _ _ (aZ i q) r _ ?au ?aw dk.out).mono ?_);(case au=>repeat(first|exact(by repeat(first|(with_reducible exact Z.out)|(with_reducible refine Kd.bC ?_ _)|(with_reducible refine Kd.gB ?_ _)|(with_reducible refine Kd.eS ?_)|exact Z.out))|(with_reducible refine Kd.bC ?_ _)|(with_reducible refine Kd.gB ?_ _)|(with_reducible refine Kd.eS ?_)));(case aw=>exact d6.out);rintro e ck ⟨e',rfl,y,hb⟩;refine⟨_,rfl,?_⟩;replace D:=ik D y hb;replace s:=ik s y hb;replace T:=zA (Kd.oT (by(with_reducible repeat(first|apply Kd.V_alloc|apply Kd.l_|apply Kd.V_drew));exact T.out) (Kd.dK y) hb);have u:=zA (Kd.bc (Kd.B6 (M:=fun a=>(w.heap.size<=a)) y (bO zB) (fun a h_=>h_)) (bO zB));replace g:=zb g hb;replace Z:=zA (Kd.ax (by repeat(first|(with_reducible exact Z.out)|(with_reducible refine Kd.bC ?_ _)|(with_reducible refine Kd.gB ?_ _)|(with_reducible refine Kd.eS ?_)|exact Z.out)) hb);replace j:=zS j hb;(try clear hb);(try clear y);have bo:0<=(l:Int):=aA ‹_›;have bq:(l:Int)<((r.length:Int):Int):=aA ‹_›;obtain⟨x,E,cl,co,d8,fb,cp⟩:=Kd.gC u.out (by omega);(first|cases cl|(injection cl with a4 d9 ea;(first|subst a4|(injection a4 with a4;subst a4));subst ea;clear d9));have eb:=zA co;have fd:=zA cp;clear co d8 cp;obtain⟨fn,fo⟩:=Kd.bP 0 u.out (l:Int) bo bq;replace bo:=eq_true bo;replace bq:=eq_true bq;have n_:=zA (Kd.a_ (ok':=(fun a=>(w.heap.size<=a))) u.out (fun a hk=>hk.1));clear u;have u:=n_;clear n_;obtain⟨fq,fr⟩:=Kd.bP 0 u.out (l:Int) (aA ‹_›) (aA ‹_›);have bv:=Kd.dg u.out (l:Int) (-1))|((with_reducible refine kr (t:=3) (p:=45) rfl ?_);refine kp (t:=3) (p:=45) (v:=?KN) (w1:=(ck.setCell ⟨x,(l:Int).toNat,none⟩ (.int .i64 (-1)))) ?hg ?ho ?hn ?hr ?_;(case ho=>rfl);(case hg=>rfl);(case hn=>rfl);(case hr=>first|(go_simp;done)|(go_simp;rfl));intro bw hw;have hg:ck.grownBy bw (some x):=(by rw[hw];exact bv.2);have cr:Kd.R (Kd.int .i64) 3 bw w.heap.size (fun a=>(w.heap.size<=a)) (.slice (some ⟨x,0,none⟩) r.length E) ar:=(by rw[hw,dl.out];exact bv.1);clear bv;replace D:=zA (Kd.qI (v:=(.slice (some ⟨x,0,none⟩) r.length E)) (v1:=(.slice (some ⟨x,0,none⟩) r.length E)) (ok:=(fun a=>(w.heap.size<=a)/\some a≠(.slice (some L) i.length F:Value).ownBlock/\a≠o)) (zN D) hg (.inl rfl));replace s:=zA (Kd.qI (v:=(.slice (some ⟨x,0,none⟩) r.length E)) (v1:=(.slice (some ⟨x,0,none⟩) r.length E)) (ok:=(fun a=>(w.heap.size<=a)/\some a≠(u9:Value).ownBlock/\a≠o)) (zN s) hg (.inl rfl));replace g:=zA (di (zK g) hg (Kd.dm u.out g.out (by decide)));replace T:=zA (Kd.ur (v:=(.slice (some ⟨x,0,none⟩) r.length E)) (v1:=(.slice (some ⟨x,0,none⟩) r.length E)) (ok:=(fun a=>(w.heap.size<=a)/\some a≠(u9:Value).ownBlock/\some a≠(.slice (some L) i.length F:Value).ownBlock/\a≠o)) (by(with_reducible repeat(first|apply Kd.V_alloc|apply Kd.l_|apply Kd.V_drew));exact Kd.uq T.out (fun _ hk=>⟨⟨hk.1.1.1,⟨hk.1.1.2.1,⟨hk.1.2,hk.1.1.2.2⟩⟩⟩,hk.2⟩)) hg (.inl rfl));replace u:=zA (cr);replace j:=zA ((by rw[hw];exact eK (j.out) eb.out:Below w.heap.size w bw));clear hg hw cr)|((with_reducible refine um (b:=.append) (xs:=#[.tmp 46,.tmp 48]) rfl ?_);at_builtin;refine Kd.BX (Kd.slice 3 (Kd.int .i64)) (w0:=w) w.heap.size rfl (.tmp 46) (.tmp 48) 33 26 (.slice none 0 0) 24 rfl Tryz.underlying33 o7 rfl (by decide) (by omega) u9 I ar [.slice (some ⟨x,0,none⟩) r.length E] (fun a=>(w.heap.size<=a)/\some a≠(.slice (some L) i.length F:Value).ownBlock/\a≠o) (fun a=>((fun a=>(w.heap.size<=a)/\some a≠(.slice (some L) i.length F:Value).ownBlock/\a≠o)) a/\some a≠(u9:Value).ownBlock) rfl rfl ?aP (fun _ hk=>hk) ?aF ?aO ?aB ?aS ?aL ?_;(case aP=>have ed:=(Kd.aN u.out).1;have bx:=zA u.out;rw[ed] at bx⊢;exact(Kd.BZ (Kd.aN (Kd.a_ (ok':=(fun a=>((fun a=>(w.heap.size<=a)/\some a≠(.slice (some L) i.length F:Value).ownBlock/\a≠o)) a/\some a≠(u9:Value).ownBlock)) (Kd.iC (Kd.oG (Kd.oG (bx.out) (Kd.oQ s.out) (by decide)) (Kd.oQ D.out) (by decide)) g.out (by decide)) (fun a hk=>⟨⟨hk.1.1.1,⟨hk.1.1.2,hk.2⟩⟩,hk.1.2⟩))).2.1 (Kd.BG (Kd.a_ (ok':=(fun a=>((fun a=>(w.heap.size<=a)/\some a≠(.slice (some L) i.length F:Value).ownBlock/\a≠o)) a/\some a≠(u9:Value).ownBlock)) (Kd.iC (Kd.oG (Kd.oG (bx.out) (Kd.oQ s.out) (by decide)) (Kd.oQ D.out) (by decide)) g.out (by decide)) (fun a hk=>⟨⟨hk.1.1.1,⟨hk.1.1.2,hk.2⟩⟩,hk.1.2⟩)))));(case aB=>exact zB);(case aF=>exact(fun a hk=>⟨(Nat.le_trans (bO zB) hk),Kd.lx (Kd.ui (zN s)) a hk,Kd.l4 (zK g) a hk⟩));(case aO=>exact(by(with_reducible repeat(first|apply Kd.fi|apply Kd.gS|apply Kd.gR));exact Kd.eT D.out (fun _ hk=>⟨hk.1.1,⟨hk.1.2.1,hk.1.2.2⟩⟩)));(case aS=>exact(bO zB));(case aL=>have:=ds.out;omega);intro ft fv ho hb hg b0;rw[<-dv.out] at ho;replace s:=zA (Kd.qI (ok:=(fun a=>(w.heap.size<=a)/\some a≠(.slice (some ⟨x,0,none⟩) r.length E:Value).ownBlock/\a≠o)) (by(with_reducible repeat(first|apply Kd.fi|apply Kd.gS|apply Kd.gR));exact Kd.eT s.out (fun _ hk=>⟨⟨hk.1.1,⟨hk.2,hk.1.2.2⟩⟩,hk.1.2.1⟩)) hg b0);replace g:=zA (di (zK g) hg (Kd.BM D.out g.out (by decide)));replace T:=zA (Kd.ur (ok:=(fun a=>(w.heap.size<=a)/\some a≠(.slice (some L) i.length F:Value).ownBlock/\some a≠(.slice (some ⟨x,0,none⟩) r.length E:Value).ownBlock/\a≠o)) (by(with_reducible repeat(first|apply Kd.V_alloc|apply Kd.l_|apply Kd.V_drew));exact Kd.uq T.out (fun _ hk=>⟨⟨hk.1.1,⟨hk.1.2.2.1,⟨hk.2,hk.1.2.2.2⟩⟩⟩,hk.1.2.1⟩)) hg b0);replace j:=zA (hb);have eg:=zA (ho);clear D u;clear ho hb hg b0))
              go_roundg k2
              case measure=>have:=b_.out;have:=cd.out;omega
              case rel=>exact⟨(ce),(wrap64 (q+1)),zT,G,⟨by have:=b_.out;have:=cd.out;omega⟩,⟨zN eg⟩,⟨by(with_reducible repeat(first|apply Kd.fi|apply Kd.gS|apply Kd.gR));exact Kd.eT s.out (fun _ hk=>⟨hk.1.1,⟨hk.2,hk.1.2.2⟩⟩)⟩,⟨zK g⟩,⟨zB⟩⟩
             ·rw[if_neg av] at H
              exact absurd H (by simp)
            ·rw[if_neg ap] at H
             exact absurd H (by simp)
           ·rw[if_neg ao] at H
            exact absurd H (by simp)
          ·rw[if_neg an] at H
           exact absurd H (by simp)
         ·rw[if_neg am] at H
          exact absurd H (by simp)
        ·rw[if_neg S] at H
         have dd:=ba S;clear S;simp only[Option.some.injEq,Prod.mk.injEq] at H;obtain⟨rfl,rfl⟩:=H;go_wp2;go_ret2;exact⟨_,zE,by(with_reducible repeat(first|apply Kd.fi|apply Kd.gS|apply Kd.gR));exact Kd.eT D.out (fun _ hk=>hk.1),zB⟩
     ·rw[if_neg X] at H
      obtain⟨ca,cb⟩:=b7 X;simp only[Option.some.injEq,Prod.mk.injEq] at H;obtain⟨rfl,rfl⟩:=H;obtain⟨f0,f1,f2,f3⟩:=aC g;go_wp2_with (first|((with_reducible refine aR (f:=56) rfl ?_);refine zL (some 29) Tryz.func56 #[.agg #[.int .i64 n,.slice z m.length B],.int .i64 l] ?_;(with_reducible refine(gN.calls ag n _ _ m l i bb _ ?au ?aw b'.out).mono ?_);(case au=>exact Kd.ax aa.out zB);(case aw=>exact ab.out);rintro e f4 ⟨c8,rfl,y,hb⟩;refine⟨_,rfl,?_⟩;have be:=zA (Kd.mZ (Kd.eT (ok':=fun a=>(w.heap.size<=a)/\a≠o) y (fun a Y=>⟨(Nat.le_trans (bO zB) Y),(Kd.l4 (zK g) a Y)⟩)) (bO zB));replace g:=zb g hb;replace j:=zS j hb;(try clear hb);(try clear y)))
      go_ret2;exact⟨_,zE,by first|exact Kd.ij _ _ _ _ _|exact Kd.iE _ _ _ _ _|exact Kd.V_nil _ _ _ _ _|exact Kd.Q_nil _ _ _ _ _|exact Kd.df _ _ _ _ _,zB⟩
 ·rw[if_neg c4] at H
  obtain⟨b5,b6⟩:=b7 c4;simp only[Option.some.injEq,Prod.mk.injEq] at H;obtain⟨rfl,rfl⟩:=H;go_enter Tryz.func15,Tryz.ntmps15
  go_wp2_with (first|((with_reducible refine aU (N:=2) rfl ?_);refine zX 2 #[.int .i64 n,.slice z m.length B] 24 ?_;intro o hg f5 U hb;have g:=zA (U);have cs:=zG j hg;have cv:=zG j hg;replace j:=zS j hb;clear hb U hg;obtain⟨f6,f7,f8,f9⟩:=aC g)|((with_reducible refine aR (f:=55) rfl ?_);refine zL (some 14) Tryz.func55 #[.agg #[.int .i64 n,.slice z m.length B]] ?_;(with_reducible refine(ez.calls k n _ _ m a5 _ ?au ?aw A3.out).mono ?_);(case au=>exact Kd.ax aa.out zB);(case aw=>exact ab.out);rintro e f' ⟨rfl,hb⟩;refine⟨_,rfl,?_⟩;replace g:=zb g hb;replace j:=zS j hb;(try clear hb)))
  go_ret2;exact⟨_,zE,by first|exact Kd.ij _ _ _ _ _|exact Kd.iE _ _ _ _ _|exact Kd.V_nil _ _ _ _ _|exact Kd.Q_nil _ _ _ _ _|exact Kd.df _ _ _ _ _,zB⟩
theorem IQ {l:List (List Int)} {i:Nat} (h:i<l.length):l.drop i=aZ l i::l.drop (i+1):=by
 rw[List.drop_eq_getElem_cons h];simp[aZ,aW,bp h]
theorem IS {n:Nat} {E:List S83} (a:E.length<=1000) (b:cL n E=0) (hp:partsOf E n=1):Ev (fun k=>ez.f k n E) 0:=by
 unfold ez.f;refine Ev.bind (sQ a b hp) ?_;simp only[if_true];exact Ev.const _
theorem zr {n q:Nat} (b:q<n) (hn:n<=12) (l:List (List Int)) (e:l.length<=100000) (a:∀x∈l,x.length=n):∀(m i:Nat) (o:List (List Int)),i+m=l.length->o.length<=i->Ev (fun k=>bR.l0 k q o l l.length i) (o++(l.drop i).map (fun c=>c.set q (-1)),(0:Int))
 |0,i,o,hi,g=>by
  refine Ev.of_succ ?_;simp only[bR.l0,if_neg (show ¬((i:Int)<(l.length:Int)) by omega)];rw[List.drop_eq_nil_of_le (by omega),List.map_nil,List.append_nil];exact Ev.const _
 |m+1,i,o,hi,g=>by
  have h:aZ l i∈l:=by
   have:aZ l i=l[i]:=by simp[aZ,aW,bp (show i<l.length by omega)]
   rw[this];exact List.getElem_mem _
  have hlen:=a _ h;have j:=zr b hn l e a m (i+1) (o++[(aZ l i).set q (-1)]) (by omega) (by simp;omega);refine Ev.of_succ ?_;have p:fN.f (aZ l i)=some (aZ l i):=if_pos (by omega);simp only[bR.l0,if_pos (show (i:Int)<(l.length:Int) by omega),if_pos (show (0:Int)<=(i:Int) by omega),p,Option.bind_some,if_pos (show (0:Int)<=(q:Int) by omega),if_pos (show (q:Int)<((aZ l i).length:Int) by omega),if_pos (show o.length<5864062014805 by omega),aD,eX (show i<=1000000 by omega)];rw[IQ (show i<l.length by omega),List.map_cons];simpa using j
theorem IT {n q:Nat} {E:List S83} (h:Small n q E) (a:cL n E=0):Ev (fun k=>bR.f k n E q) ((Small.fY n q E).map (fun c=>c.set q (-1)),(0:Int)):=by
 unfold bR.f;have b:=h.q;have g:=h.n5;have i:=h.len;refine Ev.bind (IS (by omega) a ((jI h.n1 h.right).2 h.conn)) ?_;simp only[if_true,if_neg (show ¬(q:Int)<0 by omega)];refine Ev.of_succ ?_;simp only[bR.j0,ba (show ¬(q:Int)>=(n:Int) by omega),Bool.false_eq_true,if_false];refine Ev.bind (h.G5 (h.Fh a)) ?_;simp only[if_true];have j:=h.sh;have hle:(Small.fY n q E).length<=100000:=Nat.le_trans (List.length_filter_le _ _) (by omega);have:=zr b (by omega) (Small.fY n q E) hle (fun x e=>(h.nR (List.mem_filter.1 e).1).1) (Small.fY n q E).length 0 [] (by omega) (by simp);rw[List.drop_zero,List.nil_append] at this;exact this
theorem IU {E:List S83} {i:Nat} (h:i<E.length):ae E i∈E:=by
 have e:ae E i=E[i]:=by simp[ae,aW,bp h]
 rw[e];exact List.getElem_mem h
section
theorem zt (c:List Int) (a:c.length<=100000):∀(m i:Nat),i+m=c.length->Ev (fun k=>bB.l0 k c c c.length i) true
 |0,i,hi=>by
  refine Ev.of_succ ?_;simp only[bB.l0,if_neg (show ¬((i:Int)<(c.length:Int)) by omega)];exact Ev.const _
 |m+1,i,hi=>by
  have b:=zt c a m (i+1) (by omega);refine Ev.of_succ ?_;simp only[bB.l0,if_pos (show (i:Int)<(c.length:Int) by omega),if_pos (show (0:Int)<=(i:Int) by omega),if_true,eX (show i<=1000000 by omega)];exact b
theorem IV (c:List Int) (a:c.length<=100000):Ev (fun k=>bB.f k c c) true:=by
 unfold bB.f;simp only[if_true];exact zt c a c.length 0 (by omega)
theorem zu (c:List Int) (b:c.length<=12) (hb:∀v:Nat,v<c.length-> -2000<=rd c v/\rd c v<=2000):∀(m i:Nat),i+m=c.length->Ev (fun k=>fG.l0 k c (T.sN (fun v=>rd c (v:Nat)) i) i) (T.sN (fun v=>rd c (v:Nat)) c.length)
 |0,i,hi=>by
  obtain rfl:i=c.length:=by omega
  refine Ev.of_succ ?_;simp only[fG.l0,if_neg (show ¬((c.length:Int)<(c.length:Int)) by omega)];exact Ev.const _
 |m+1,i,hi=>by
  have a:=zu c b hb m (i+1) (by omega);have e:∀j,j<=c.length-> -(2000*j:Int)<=T.sN (fun v=>rd c (v:Nat)) j/\T.sN (fun v=>rd c (v:Nat)) j<=2000*j:=fun j=>by
   induction j with
   |zero=>intro _;simp[T.sN]
   |succ j g=>
    intro l;have h1:=g (by omega);have h:=hb j (by omega);rw[T.eF];omega
  have h1:=e i (by omega);have h:=hb i (by omega);refine Ev.of_succ ?_;simp only[fG.l0,if_pos (show (i:Int)<(c.length:Int) by omega),if_pos (show (0:Int)<=(i:Int) by omega),eX (show i<=1000000 by omega),jm (show -1000000000<=T.sN (fun v=>rd c (v:Nat)) i+rd c i/\T.sN (fun v=>rd c (v:Nat)) i+rd c i<=1000000000 by omega)];rw[T.eF] at a;exact a
theorem IW (c:List Int) (a:c.length<=12) (hb:∀v:Nat,v<c.length-> -2000<=rd c v/\rd c v<=2000):Ev (fun k=>fG.f k c) (T.sN (fun v=>rd c (v:Nat)) c.length):=by
 unfold fG.f;exact zu c a hb c.length 0 (by omega)
namespace Curve
variable {n:Nat} {E:List S83} {d:List Int} (h:Curve n E d) (hn:1<=n)
include h hn
theorem facts:n<=5/\E.length<=40/\bt n E/\fC n E/\partsOf E n=1:=by
 have a:=h.small 0 (by omega);exact⟨a.n5,a.len,a.right,a.conn,(jI hn a.right).2 a.conn⟩
theorem IX:∃g:Nat,Ev (fun k=>fu.f k n (bN E)) ((g:Int),(0:Int))/\T.ep n (af E) g:=by
 obtain⟨f1,f2,f3,f4,f5⟩:=h.facts hn;exact Ip hn (by omega) f2 h.check f4
theorem loop:Ev (fun k=>eI.f k n E) ((n:Int),bN E,(0:Int)):=by
 obtain⟨f1,f2,f3,f4,f5⟩:=h.facts hn;exact Ij (by omega) h.check
end Curve
end
section
attribute [local go_sem] Oper.semAt_some
theorem IY (A:Option Addr) (n c:Nat) (bd:Int) (w:World):Calls Tryz.prog 182 #[.slice A n c,.int .i64 bd] w fun e w'=>e= .returned (.func (.func 202) #[] #[.pointer (some ⟨w.heap.size,0,none⟩),.pointer (some ⟨w.heap.size+1,0,none⟩)])/\w'=(w.alloc (.cells #[.slice A n c] 33)).alloc (.cells #[.int .i64 bd] 3):=by
 go_enter Tryz.func182,Tryz.ntmps182
 go_wp2;go_ret;exact⟨rfl,rfl⟩
def kl (bd:Int) (c:List Int):Int:=c.foldl (fun s x=>wrap64 (s-x)) bd
def da (bd:Int) (c:List Int):List Int:=c.set 0 (kl bd (c.drop 1))
theorem IZ (bd:Int) (c:List Int) (x:Int):kl bd (c++[x])=wrap64 (kl bd c-x):=by simp[kl,List.foldl_append]
theorem I0 (bd:Int) {c:List Int} {j:Nat} (h:j<c.length-1):kl bd ((c.drop 1).take (j+1))=wrap64 (kl bd ((c.drop 1).take j)-c.getD (j+1) 0):=by
 rw[List.take_succ_eq_append_getElem (by simpa using h),IZ,List.getElem_drop,aW,bp (show j+1<c.length by omega)];simp[Nat.add_comm]
theorem qc {W:World} {e base:Nat} {ok:Nat->Prop} {A:Option Addr} {cap:Nat} {L:List (List Int)} (h:Kd.N (Kd.slice 3 (Kd.int .i64)) e W base ok (.slice A L.length cap) L) (i:Nat) (hi:i<L.length):
  ∃g a cc,A=some ⟨g,0,none⟩/\W.cell? ⟨g,i,none⟩=some (.slice a (L.getD i []).length cc)/\(L.getD i []).length<=cc/\Kd.F (Kd.int .i64) W ok a (L.getD i []).length (L.getD i []):=by
 have hC:=(Kd.jc h).2.2;obtain⟨ad,he,_⟩:=hC.2.2 (by omega);subst he;obtain⟨g,rfl⟩:∃g,ad=⟨g,0,none⟩:=by
  obtain⟨_,rows,_,j,_⟩:=h;exact Kd.lB j
 obtain⟨ce,o,k,l⟩:=Kd.na h [] (i:Int) (by omega) (by omega);obtain⟨m,n,rfl,ul,ge⟩:=Kd.kz k;have b:=l 0 _ rfl;rw[Nat.add_zero,show ((Kd.slice 3 (Kd.int .i64))).sz=1 from rfl,Nat.mul_one,aD,add_plain] at b;rw[aD] at ul ge;exact⟨g,m,n,rfl,b,ul,Kd.mX ge (fun _ hk=>hk.1)⟩
theorem I7 {W:World} {e base:Nat} {ok:Nat->Prop} {v:Value} {xs:List Int} (h:(Kd.int .i64).R e W base ok v xs) (hp:0<xs.length):∃g c,v= .slice (some ⟨g,0,none⟩) xs.length c:=by
 obtain⟨A,c,rfl⟩:=Kd.bh h;obtain⟨ad,he,_⟩:=(Kd.aN h).2.2.2.2 hp;subst he;obtain⟨g,rfl⟩:=Kd.lB h;exact⟨g,c,rfl⟩
theorem I8 {c:List Int} {x:Int} (h:0<c.length):bL 0 (c.set 0 x) 0=x:=by
 cases c with
 |nil=>simp at h
 |cons a c=>rfl
theorem I9 {W:World} {ok:Nat->Prop} {A:Option Addr} {c:List Int} (h:Kd.F (Kd.int .i64) W ok A c.length c) (hp:0<c.length):∃ad,A=some ad:=by
 obtain⟨ad,he,_⟩:=(Kd.jb h).2.2 hp;exact⟨ad,he⟩
theorem I_ {W:World} {ad:Addr} {c:List Int} (h:(Kd.int .i64).C W (some ad) c.length c) {j:Nat} (a:j<c.length-1):W.cell? ⟨ad.block,ad.off+1+j,none⟩=some (.int .i64 (c.getD (j+1) 0)):=by
 have h1:=Kd.oU h ((j+1:Nat):Int) (by omega) (by omega);rw[aD] at h1;have e:ad.add (j+1)=⟨ad.block,ad.off+1+j,none⟩:=by unfold Addr.add;rw[if_neg (by omega)];simp only[Addr.mk.injEq,and_true,true_and];omega
 rw[e] at h1;simpa [rd] using h1
def I' (a b e gd:Nat) (X Y:World):Prop:=∀k,(a<=k/\k<b\/k=e\/k=gd)->k<X.heap.size->Y.heap[k]? =X.heap[k]?
theorem Ja (a gd I y n:Nat) (s:Option Addr) (cl base:Nat) (L:List (List Int)) (bd:Int) (W:World) (b5:y<=a) (hg:a<gd) (hn:2<=n) (b_:n<=12) (hL:∀c∈L,c.length=n) (b':L.length<=16384)
  (hR:Kd.N (Kd.slice 3 (Kd.int .i64)) 26 W base (fun k=>I<=k/\k<y) (.slice s L.length cl) L)
  (K:W.heap[a]? =some (.cells #[.slice s L.length cl] 33 (0,0))) (am:W.heap[gd]? =some (.cells #[.int .i64 bd] 3 (0,0))):
  iF (σ:=Unit) Fence.wide 9 Tryz.prog 202 #[.pointer (some ⟨a,0,none⟩),.pointer (some ⟨gd,0,none⟩)] (fun x:List Int×Value=>#[x.2]) (fun _ W W1=>W1=W) (fun _ A B=>Below A.heap.size A B) (fun _ x A B=>(∃c,c∈L/\x.1=da bd c)/\(Kd.int .i64).R 3 B A.heap.size (fun _=>True) x.2 x.1/\Below A.heap.size A B)
   (fun _ X Y=>I' I y a gd X Y)
   (fun _ xs W'=>xs.map Prod.fst=L.map (da bd)) (fun _ _ _=>True) (fun pre=>pre.length<L.length) W:=by
 intro lp J Jx an ao ap ar;have bf:=zA an;have cb:=zA ao;have hY:=zA ar;have HL:=zA hL;have av:=ap () W rfl;clear an ao ap ar hL;refine callsIn_of_wp Tryz.func202 rfl trivial ?_ rfl;simp only[Tryz.ntmps202,List.size_toArray,List.length_cons,List.length_nil,Nat.reduceAdd,Nat.reduceSub,Array.replicate_succ,Array.replicate_zero,List.push_toArray,List.append_toArray,List.nil_append,List.cons_append];have x0:W.cell? ⟨a,0,none⟩=some (.slice s L.length cl):=(ah K 0).trans rfl;have b:=zA K;have o:=zA am;have h:=zA hR;have cd:L.length<=9223372036854775807:=by omega
 clear K am hR;gi_wp2;clear x0;gi_loopg [11] (L.length) (fun M i wr=>∃(v:Nat) (xs:List (List Int×Value)),i= .int .i64 v/\v<=L.length/\Aside0 (J () xs wr)/\Aside0 (xs.map Prod.fst=(L.take v).map (da bd))/\Aside0 (wr.heap[a]? =some (.cells #[.slice s L.length cl] 33 (0,0)))/\Aside0 (wr.heap[gd]? =some (.cells #[.int .i64 bd] 3 (0,0)))/\Aside0 (Kd.N (Kd.slice 3 (Kd.int .i64)) 26 wr base (fun k=>I<=k/\k<y) (.slice s L.length cl) L)/\Aside0 (M=L.length-v))
 case atStart=>exact⟨0,[],rfl,Nat.zero_le _,⟨av⟩,⟨rfl⟩,b,o,h,⟨rfl⟩⟩
 case round=>
  clear av b o h;obtain⟨v,xs,rfl,hv,z,O,b,o,h,HK⟩:=hrel;by_cases l:v<L.length
  ·have cf:(0:Int)<=(v:Int):=by omega
   have cg:(v:Int)<(L.length:Int):=by omega
   obtain⟨g,Ac,cc,rfl,y1,y2,u⟩:=qc h.out v l;have aL:=HL.out (L.getD v []) (by rw[aW,bp l];exact List.getElem_mem l);have aO:=zA (show (L.take (v+1)).map (da bd)=(L.take v).map (da bd)++[da bd (L.getD v [])] by rw[List.take_succ_eq_append_getElem l,List.map_append,aW,bp l];rfl);have aP:=zA (show L.getD v []∈L by rw[aW,bp l];exact List.getElem_mem l);generalize L.getD v []=c at y1 y2 u aL aO aP;subst aL;obtain⟨ad,rfl⟩:=I9 u (by omega);have P:=zA u;have ci:=Kd.BD u;have bn:Aside0 (∀W,(Kd.int .i64).C W (some ad) c.length c->Calls Tryz.prog 57 #[.slice (some ad) c.length cc] W fun e w'=>∃aS:Value,e= .returned (aS)/\Kd.R (Kd.int .i64) 3 w' W.heap.size (fun _=>True) aS c/\Below W.heap.size W w'):=⟨fun W hC=>fN.calls (some ad) cc c c W hC y2 (by unfold fN.f clone.f;rw[if_pos (by omega)])⟩;clear u;have cj:(0:Int)<(c.length:Int):=by omega
   have ck:(1:Int)<=(c.length:Int):=by omega
   have co:¬cc=1:=by omega
   gi_wp2_with (refine⟨trivial,?_⟩;gi_at_call 57;refine(callsIn_wide.2 (bn.out _ (Kd.jb P.out))).mono ?_;rintro e w3 ⟨vd,rfl,D,m⟩;obtain⟨g0,c0,rfl⟩:=I7 D (by omega);have Q:=zA D;have S:=zA (bf.out () _ _ _ z.out m);have T:=zA (az b.out m);have E:=zA (az o.out m);have U:=zA (Kd.fh h.out m);have bo:=zA (Kd.qE P.out m);have a0:=zA m;have z1:w3.cell? ⟨gd,0,none⟩=some (.int .i64 bd):=(ah E.out 0).trans rfl;obtain⟨z2,z3⟩:=Kd.bP 0 D (0:Int) (by omega) (by omega);simp only[Int.toNat_zero] at z2 z3;clear D m y1)
   have a1:=zA (show wr.heap.size<=g0 from Kd.dK Q.out g0 rfl);have cq:=zA (ay b.out);have F:=zA (Kd.dg Q.out 0 bd).1;have V:=zA (Below.setCell (p:=⟨g0,0,none⟩) a0.out a1.out (.int .i64 bd));simp only[Int.toNat_zero] at F;clear S T E U bo a0 Q z1 z2 z3;generalize w3.setCell ⟨g0,0,none⟩ (.int .i64 bd)=w4 at F V⊢;obtain⟨q,rfl⟩:∃q:World,q=wr:=⟨_,rfl⟩;gi_loopg [23] (c.length-1) (fun M i wi=>∃j:Nat,i= .int .i64 j/\j<=c.length-1/\Aside0 (Kd.R (Kd.int .i64) 3 wi q.heap.size (fun _=>True) (.slice (some ⟨g0,0,none⟩) c.length c0) (c.set 0 (kl bd ((c.drop 1).take j))))/\Aside0 (Below q.heap.size q wi)/\Aside0 (M=c.length-1-j))
   case atStart=>exact⟨0,rfl,Nat.zero_le _,F,V,⟨rfl⟩⟩
   case round=>
    clear F V;obtain⟨j,rfl,hj,w,r,bq⟩:=hrel;by_cases a2:j<c.length-1
    ·have cv:(0:Int)<=(j:Int):=by omega
     have cx:(j:Int)<((c.length-1:Nat):Int):=by omega
     have z1:=I_ (Kd.jb (Kd.qE P.out r.out)) a2;obtain⟨z2,z3⟩:=Kd.bP 0 w.out (0:Int) (by omega) (by simp;omega);rw[I8 (by omega)] at z2;simp only[Int.toNat_zero] at z2 z3;have Z:=zA (I0 bd a2);have G:=zA (Kd.dg w.out 0 (wrap64 (kl bd ((c.drop 1).take j)-c.getD (j+1) 0))).1;have aa:=zA (Below.setCell (p:=⟨g0,0,none⟩) r.out a1.out (.int .i64 (wrap64 (kl bd ((c.drop 1).take j)-c.getD (j+1) 0))));simp only[Int.toNat_zero,List.set_set] at G;rw[<-Z.out] at G;rw[<-Z.out] at aa;gi_wp2;gi_roundg (c.length-1- (j+1))
     case measure=>rw[bq.out];omega
     case rel=>
      have e:=Z.out;rw[List.drop_one,aW] at e;rw[List.drop_one] at G aa;rw[<-e];exact⟨j+1,by go_num,by omega,by rw[List.drop_one];exact G,aa,⟨rfl⟩⟩
    ·obtain rfl:j=c.length-1:=by omega
     rw[List.take_of_length_le (by simp)] at w;have a3:Aside0 (Kd.R (Kd.int .i64) 3 wr q.heap.size (fun _=>True) (.slice (some ⟨g0,0,none⟩) c.length c0) (da bd c)):=w;have c1:xs.length=v:=by have:=congrArg List.length O.out;simp at this;omega
     obtain⟨fn,tmps,c2,c3,hy,a4⟩:=hY.out () xs (da bd c,.slice (some ⟨g0,0,none⟩) c.length c0) _ _ z.out ⟨⟨c,aP.out,rfl⟩,a3.out,r.out⟩ (by omega);have bv:=zA a4;have a5:=zA (az b.out r.out);have a9:=zA (az o.out r.out);have bw:=zA (Kd.fh h.out r.out);have bx:=zA (ay a9.out);have b2:=zA (ay a5.out);simp only at hy;clear a4 z b o h w a3;gi_wp2;refine bv.out.mono ?_;rintro e W3 (⟨rfl,bb,H⟩|⟨rfl,be⟩)
     ·have S:=zA bb
      have T:=zA ((H a (.inr (.inl rfl)) b2.out).trans a5.out);have E:=zA ((H gd (.inr (.inr rfl)) bx.out).trans a9.out);have U:=zA (Kd.l9 bw.out (fun k hk b3=>H k (.inl hk) b3));clear bb H hy;gi_wp2;gi_roundg (L.length- (v+1))
      case measure=>rw[HK.out];omega
      case rel=>exact⟨v+1,xs++[(da bd c,.slice (some ⟨g0,0,none⟩) c.length c0)],by go_num,by omega,S,⟨by rw[aO.out,List.map_append,O.out];rfl⟩,T,E,U,⟨rfl⟩⟩
     ·have b4:=zA be
      clear be hy;gi_wp2;refine bodyPost_ret (results_none rfl _ _ _) rfl ?_;exact⟨⟨_,rfl⟩,.inr ⟨(),_,trivial,b4.out⟩⟩
  ·obtain rfl:v=L.length:=by omega
   gi_wp2;go_end0;exact⟨⟨_,rfl⟩,.inl ⟨(),xs,by rw[O.out,List.take_length],z.out⟩⟩
end
def dU.l0:Nat->List (List Int)->Int->Int->Int->List (S83)->Option (Int)
 |0,_,_,_,_,_=>none
 |k+1,b,e,a,g,i=>if a<e then(if 0<=a then(if a<(b.length:Int) then((bz.f k (aZ b a) g).bind fun h=>(if h=0 then(dU.l0 k b e (wrap64 (a+1)) g i) else(some h))) else(none)) else(none)) else(some 0)
def dU.f (k:Nat) (b:Int) (e:List (S83)) (l1:List (List Int)):Option (Int):=(cG.f k b e).bind fun a=>(if a.2=0 then(if a.1=true then(dU.l0 k l1 (l1.length:Int) 0 b e) else(some 13)) else(some a.2))
theorem dU.cE:∀k,(∀a b e g i,al (dU.l0 k a b e g i) (dU.l0 (k+1) a b e g i))
 |0=>fun _ _ _ _ _ r h=>by simp[dU.l0] at h
 |k+1=>by
  have j:=dU.cE k
  ·intro a b e g i
   unfold dU.l0;with_reducible repeat' first|exact j _ _ _ _ _|exact bz.mono _ _ _|exact cG.mono _ _ _|exact al.refl _|exact al.none _|refine al.ite ?_ ?_|refine al.bind ?_ (fun _=>?_)
theorem dU.mono:∀a0 a a2 k,al (dU.f k a0 a a2) (dU.f (k+1) a0 a a2):=by
 intro a0 a a2 k;have b:=dU.cE k;unfold dU.f;with_reducible repeat' first|exact b _ _ _ _ _|exact bz.mono _ _ _|exact cG.mono _ _ _|exact al.refl _|exact al.none _|refine al.ite ?_ ?_|refine al.bind ?_ (fun _=>?_)
theorem dU.calls (k:Nat) (b:Int) (m:Option Addr) (n:Nat) (i:List (S83)) (U:Option Addr) (c1:Nat) (l1:List (List Int)) (r:Int) (w:World) (V:Kd.C aM w m i.length i) (W:i.length<=n) (X:Kd.C (Kd.slice 3 (Kd.int .i64)) w U l1.length l1) (Y:l1.length<=c1) (h:dU.f k b i l1=some r):
  Calls Tryz.prog 75 #[.agg #[.int .i64 b,.slice m i.length n],.slice U l1.length c1] w fun e w'=>e= .returned (.int .i64 r)/\Below w.heap.size w w':=by
 have aS:=Tryz.underlying24;have G:=zA V;have I:=zA W;clear V W;have Z:=zA X;have a0:=zA Y;clear X Y;have a:=zA (aj w.heap.size w);unfold dU.f at h;have H:=h;clear h;obtain⟨⟨aa,z⟩,J,H⟩:=zo H;dsimp only at H;by_cases c4:z=0
 ·rw[if_pos c4] at H
  obtain⟨ab,ad⟩:=bZ c4;clear c4;by_cases B:aa=true
  ·subst B
   replace H:=zi H;have D:=zA H;clear H;go_enter Tryz.func75,Tryz.ntmps75
   go_wp2_with (first|((with_reducible refine aU (N:=2) rfl ?_);refine zX 2 #[.int .i64 b,.slice m i.length n] 24 ?_;intro K l w6 o hb;have j:=zA (o);have ag:=zG a l;have ak:=zG a l;replace a:=zS a hb;clear hb o l;obtain⟨ap,ar,av,aB⟩:=aC j)|((with_reducible refine aR (f:=113) rfl ?_);refine zL (some 12) Tryz.func113 #[.agg #[.int .i64 b,.slice m i.length n]] ?_;(with_reducible refine(cG.calls k b _ _ i true z _ ?au ?aw J.out).mono ?_);(case au=>exact Kd.ax G.out zB);(case aw=>exact I.out);rintro e w8 ⟨rfl,hb⟩;refine⟨_,rfl,?_⟩;replace j:=zb j hb;replace a:=zS a hb;(try clear hb)))
   go_loopg [22] k (fun kq v22 w'=>∃(g:Int),v22= .int .i64 g/\Aside0 (dU.l0 kq l1 (l1.length:Int) g b i=some r)/\Aside0 (kq<=k)/\Aside0 (w'.heap[K]? =some (.cells #[.int .i64 b,(.slice m i.length n)] 24 (0,0)))/\Aside0 (Below w.heap.size w w'))
   case atStart=>exact⟨(0),zT,D,⟨aI _⟩,⟨zK j⟩,⟨zB⟩⟩
   case round=>
    clear D;clear ab ad ap ar av aB;obtain⟨g,rfl,L,an,j,a⟩:=hrel;cases gk with
    |zero=>exact absurd L.out (by simp[dU.l0])
    |succ M=>
     have H:=L.out;clear L;simp only[dU.l0] at H;by_cases u:g<(l1.length:Int)
     ·rw[if_pos u] at H
      have aF:=aE u;clear u;by_cases E:0<=g
      ·rw[if_pos E] at H
       have a3:=aE E;clear E;by_cases F:g<(l1.length:Int)
       ·rw[if_pos F] at H
        have a4:=aE F;clear F;obtain⟨O,ao,H⟩:=zo H;by_cases v:O=0
        ·rw[if_pos v] at H
         obtain⟨aL,aO⟩:=bZ v;clear v;have D:=zA H;clear H;have p:0<=(g:Int):=aA ‹_›;have q:g<(l1.length:Int):=aA ‹_›;obtain⟨aP,P,Q,R,s,x,y⟩:=gT Z.out g p q;cases R;replace s:=(a.out.cell (bm w _ s)).trans s;have S:=zA y;have T:=zA x;clear y x;replace p:=eq_true p;replace q:=eq_true q;obtain⟨a5,a9,bb,be⟩:=aC j;go_wp2_with (first|((with_reducible refine aR (f:=87) rfl ?_);refine zL (some 29) Tryz.func87 #[.slice P (aZ l1 g).length Q,.int .i64 b] ?_;(with_reducible refine(bz.calls M _ _ (aZ l1 g) b O _ ?au ?aw ao.out).mono ?_);(case au=>exact Kd.ax S.out zB);(case aw=>exact T.out);rintro e w' ⟨rfl,⟨nd,rfl⟩⟩;refine⟨_,rfl,?_⟩))
         go_roundg M
         case measure=>have:=an.out;omega
         case rel=>exact⟨(wrap64 (g+1)),zT,D,⟨by have:=an.out;omega⟩,⟨zK j⟩,⟨zB⟩⟩
        ·rw[if_neg v] at H
         obtain⟨aL,aO⟩:=b7 v;obtain rfl:=aX H;have p:0<=(g:Int):=aA ‹_›;have q:g<(l1.length:Int):=aA ‹_›;obtain⟨aP,P,Q,R,s,x,y⟩:=gT Z.out g p q;cases R;replace s:=(a.out.cell (bm w _ s)).trans s;have S:=zA y;have T:=zA x;clear y x;replace p:=eq_true p;replace q:=eq_true q;obtain⟨bf,bg,bi,bk⟩:=aC j;go_wp2_with (first|((with_reducible refine aR (f:=87) rfl ?_);refine zL (some 29) Tryz.func87 #[.slice P (aZ l1 g).length Q,.int .i64 b] ?_;(with_reducible refine(bz.calls M _ _ (aZ l1 g) b O _ ?au ?aw ao.out).mono ?_);(case au=>exact Kd.ax S.out zB);(case aw=>exact T.out);rintro e w' ⟨rfl,⟨nd,rfl⟩⟩;refine⟨_,rfl,?_⟩))
         go_ret;exact⟨zE,zB⟩
       ·rw[if_neg F] at H
        exact absurd H (by simp)
      ·rw[if_neg E] at H
       exact absurd H (by simp)
     ·rw[if_neg u] at H
      have aF:=ba u;clear u;obtain rfl:=aX H;go_wp2;go_ret;exact⟨zE,zB⟩
  ·replace B:=Bool.eq_false_iff.mpr B
   subst B;replace H:=zj H;obtain rfl:=aX H;go_enter Tryz.func75,Tryz.ntmps75
   go_wp2_with (first|((with_reducible refine aU (N:=2) rfl ?_);refine zX 2 #[.int .i64 b,.slice m i.length n] 24 ?_;intro K l bl o hb;have j:=zA (o);have ag:=zG a l;have ak:=zG a l;replace a:=zS a hb;clear hb o l;obtain⟨bn,bo,bq,bv⟩:=aC j)|((with_reducible refine aR (f:=113) rfl ?_);refine zL (some 12) Tryz.func113 #[.agg #[.int .i64 b,.slice m i.length n]] ?_;(with_reducible refine(cG.calls k b _ _ i false z _ ?au ?aw J.out).mono ?_);(case au=>exact Kd.ax G.out zB);(case aw=>exact I.out);rintro e bw ⟨rfl,hb⟩;refine⟨_,rfl,?_⟩;replace j:=zb j hb;replace a:=zS a hb;(try clear hb)))
   go_ret;exact⟨zE,zB⟩
 ·rw[if_neg c4] at H
  obtain⟨ab,ad⟩:=b7 c4;obtain rfl:=aX H;go_enter Tryz.func75,Tryz.ntmps75
  go_wp2_with (first|((with_reducible refine aU (N:=2) rfl ?_);refine zX 2 #[.int .i64 b,.slice m i.length n] 24 ?_;intro K l bx o hb;have j:=zA (o);have ag:=zG a l;have ak:=zG a l;replace a:=zS a hb;clear hb o l;obtain⟨b0,b1,b2,b3⟩:=aC j)|((with_reducible refine aR (f:=113) rfl ?_);refine zL (some 12) Tryz.func113 #[.agg #[.int .i64 b,.slice m i.length n]] ?_;(with_reducible refine(cG.calls k b _ _ i aa z _ ?au ?aw J.out).mono ?_);(case au=>exact Kd.ax G.out zB);(case aw=>exact I.out);rintro e b4 ⟨rfl,hb⟩;refine⟨_,rfl,?_⟩;replace j:=zb j hb;replace a:=zS a hb;(try clear hb)))
  go_ret;exact⟨zE,zB⟩
section
attribute [local go_sem] Oper.semAt_some
theorem te {α:Type} {d:Kd α} {W:World} {e base:Nat} {ok:Nat->Prop} {v:Value} {xs:List α} (h:d.R e W base ok v xs) (hp:0<xs.length):∃g c,v= .slice (some ⟨g,0,none⟩) xs.length c:=by
 obtain⟨A,c,rfl⟩:=Kd.bh h;obtain⟨ad,he,_⟩:=(Kd.aN h).2.2.2.2 hp;subst he;obtain⟨g,rfl⟩:=Kd.lB h;exact⟨g,c,rfl⟩
theorem Jb {W W1:World} {q:Nat} {r:Option Nat} (h:(W.drewN q).grownBy W1 r):W.grownBy W1 r:=⟨h.os,h.tape,h.output,h.size,h.block⟩
theorem Jc (k n m:Nat) (A0:Option Addr) (c0:Nat) (E:List S83) (bd:Int) (C:List (List Int)) (cf:Fin (m+1)->Fin (m+1)->Int) (w:World) (bl:Kd.C aM w A0 E.length E) (bn:E.length<=c0) (hn:2<=n) (d2:n<=12) (gb: -1048576<=bd) (gc:bd<=1048576)
  (bq:dU.f k n E []=some 0) (bv:eY.f k n E 0=some (C,0)) (bw:∀c∈C,c.length=n) (b_:C.length=m+1) (d3:C.length<=16384) (b':∀c∈C,bz.f k (da bd c) n=some 0)
  (ca:∀i j:Fin (m+1),cA.f k ((C.map (da bd)).getD i.1 []) ((C.map (da bd)).getD j.1 [])=some (cf i j)) (hO:Go.Sort.SWO (ltOf cf)):
  Calls Tryz.prog 136 #[.agg #[.int .i64 n,.slice A0 E.length c0],.int .i64 bd] w fun e w'=>∃v,∃idx:List (Fin (m+1)),e= .returned (.tuple #[v,.int .i64 0])/\idx.Perm (List.finRange (m+1))/\idx.Pairwise (fun i j=>ltOf cf j i=false)/\Kd.N (Kd.slice 3 (Kd.int .i64)) 26 w' w.heap.size (fun k_=>w.heap.size<=k_) v (idx.map fun i=>(C.map (da bd)).getD i.1 [])/\Below w.heap.size w w':=by
 have hu:=Tryz.underlying24;have Hg:=zA bq;have Ha:=zA bv;have d6:=zA bw;have d7:=zA b';have d8:=zA ca;have d9:=zA hO;have gd:¬bd< -1048576:=by omega
 have ge:¬1048576<bd:=by omega
 have H:=zA (nO w (.cells #[.int .i64 n,.slice A0 E.length c0] 24) (.cells #[.slice none 0 0] 33) (.cells #[.int .i64 0] 30));have ea:(((w.alloc (.cells #[.int .i64 n,.slice A0 E.length c0] 24)).alloc (.cells #[.slice none 0 0] 33)).alloc (.cells #[.int .i64 0] 30)).cell? ⟨w.heap.size,0,none⟩=some (.int .i64 n):=(ah H.out.1 0).trans rfl;have eb:(((w.alloc (.cells #[.int .i64 n,.slice A0 E.length c0] 24)).alloc (.cells #[.slice none 0 0] 33)).alloc (.cells #[.int .i64 0] 30)).cell? ⟨w.heap.size,1,none⟩=some (.slice A0 E.length c0):=(ah H.out.1 1).trans rfl;have cb:=zA b_;clear bq bv bw b' ca hO b_;refine(callsIn_wide (n:=10)).1 ?_;refine callsIn_of_wp_marks Tryz.func136 rfl trivial ?_ rfl;simp only[Tryz.ntmps136,List.size_toArray,List.length_cons,List.length_nil,Nat.reduceAdd,Nat.reduceSub,Array.replicate_succ,Array.replicate_zero,List.push_toArray,List.append_toArray,List.nil_append,List.cons_append];gi_wp2_with (first|(refine⟨trivial,?_⟩;gi_at_call 75;refine(callsIn_wide.2 (dU.calls k n A0 c0 E none 0 [] 0 _ (Kd.bC (Kd.bC (Kd.bC bl _) _) _) bn (Kd.oD _ _) (Nat.zero_le _) Hg.out)).mono ?_;rintro e w1 ⟨rfl,hb⟩;have HB:=zA ((ai (ai (ai (aj w.heap.size w) _) _) _).trans (hb.mono (by simp;omega)));have X0:=zA (az H.out.1 hb);have z:=zA (az H.out.2.1 hb);have X2:=zA (az H.out.2.2 hb);have y0:w1.cell? ⟨w.heap.size,0,none⟩=some (.int .i64 n):=(ah X0.out 0).trans rfl;have y1:w1.cell? ⟨w.heap.size,1,none⟩=some (.slice A0 E.length c0):=(ah X0.out 1).trans rfl;clear hb)|(refine⟨trivial,?_⟩;gi_at_call 114;refine(callsIn_wide.2 (eY.calls k n A0 c0 E 0 C 0 _ (Kd.ax bl HB.out) bn Ha.out)).mono ?_;rintro e w2 ⟨v,rfl,I,J⟩;obtain⟨V,cl,rfl, -⟩:=Kd.uk I;have HN:=zA (Kd.oR I);have cd:=zA (aQ HB.out J);have Z0:=zA (az X0.out J);have Z1:=zA (az z.out J);have Z2:=zA (az X2.out J);have ek:=zA J.size;clear I J)|(refine⟨trivial,?_⟩;gi_at_call 182;refine(callsIn_wide.2 (IY _ _ _ _ _)).mono ?_;rintro e w3 ⟨rfl,rfl⟩))
 have el:w.heap.size+1+1<w2.heap.size:=ay Z2.out;have ch:w1.heap.size<=w2.heap.size:=ek.out;have em:=HB.out.size;obtain⟨L,ci⟩:∃o:Obj,o= .cells #[.slice V C.length cl] 33:=⟨_,rfl⟩;obtain⟨M,cj⟩:∃o:Obj,o= .cells #[.int .i64 bd] 3:=⟨_,rfl⟩;obtain⟨O,ck⟩:∃o:Obj,o= .cells #[.slice none 0 0] 33:=⟨_,rfl⟩;obtain⟨V0,V1,V2⟩:=nO w2 O L M;have am:=zA (V0.trans (by rw[ck]:_=some (.cells #[.slice none 0 0] 33 (0,0))));have aO:=zA (V1.trans (by rw[ci]:_=some (.cells #[.slice V C.length cl] 33 (0,0))));have aP:=zA (V2.trans (by rw[cj]:_=some (.cells #[.int .i64 bd] 3 (0,0))));have aS:=zA (ai (ai (ai cd.out O) L) M);have cs:=zA (aq (aq (aq Z0.out O) L) M);have c2:=zA (aq (aq (aq Z1.out O) L) M);have c3:=zA (aq (aq (aq Z2.out O) L) M);have an:=zA (Kd.fi (Kd.fi (Kd.fi (Kd.eT HN.out (ok':=fun k=>w1.heap.size<=k/\k<w2.heap.size) (fun k hk=>hk)) O) L) M);clear V0 V1 V2;subst ci cj ck;clear y0 y1 ea eb X0 z X2 Z0 Z1 Z2 HB cd H HN;have a0:(((w2.alloc (.cells #[.slice none 0 0] 33)).alloc (.cells #[.slice V C.length cl] 33)).alloc (.cells #[.int .i64 bd] 3)).heap.size=w2.heap.size+3:=by simp
 generalize ((w2.alloc (.cells #[.slice none 0 0] 33)).alloc (.cells #[.slice V C.length cl] 33)).alloc (.cells #[.int .i64 bd] 3)=b at am aO aP aS cs c2 c3 an a0⊢;have er:=zA a0;have es:w2.heap.size<b.heap.size:=by omega
 have ev:w2.heap.size+1<b.heap.size:=by omega
 have ew:w2.heap.size+1+1<b.heap.size:=by omega
 clear a0;generalize ex:w2.heap.size+1+1=qx at aP ew⊢;generalize ey:w2.heap.size+1=gx at aO ev ex⊢;generalize w2.heap.size=bo at am er el ch es ey an⊢;generalize w1.heap.size=b0 at an ch em⊢;have gg:=aS.out.size;refine gU (σ:=Unit) (α:=List Int×Value) (F:=Fence.wide) (n:=10) rfl (by decide) (gf:=202) (lb:=#[.pointer (some ⟨gx,0,none⟩),.pointer (some ⟨qx,0,none⟩)]) rfl trivial (enters_of Tryz.func202 (by kernel_rfl) rfl)
  (fun o=>Ja gx qx b0 bo n V cl _ C bd _ (by omega) (by omega) hn d2 d6.out d3 (Kd.fi (Kd.fi an.out _) _) (aq (aq aO.out _) _) (aq (aq aP.out _) _)) (fun _=>rfl)
  (fun _=>True) ?dH ?st ?ar
  (fun _ pre W=>b.heap.size+2<=W.heap.size/\(∃v,W.heap[bo]? =some (.cells #[v] 33 (0,0))/\(Kd.slice 3 (Kd.int .i64)).R 26 W w.heap.size (fun k=>b.heap.size+2<=k) v (pre.map Prod.fst))/\W.heap[w.heap.size+1]? =some (.cells #[.slice none 0 0] 33 (0,0))/\W.heap[w.heap.size+1+1]? =some (.cells #[.int .i64 0] 30 (0,0))/\W.heap[w.heap.size]? =some (.cells #[.int .i64 n,.slice A0 E.length c0] 24 (0,0))/\Below w.heap.size w W) (fun _ _ _ _=>False)
  ?is (fun _ _ _ _ _ _ h _=>h) ?ib (fun _ _ _ _ _ h _=>h) ?kt ?h0 ?a1 ?assign ?body ?done (fun _ _ _ _ _ _ _ h=>h.elim)
 case assign=>
  intro l x W K hK;gi_wp2;exact hK
 case dH=>
  intro o s W1 h;exact⟨trivial,by rw[h];exact b8.refl _ _⟩
 case st=>intro s A B _ h;exact cS h
 case ar=>intro s x A B _ h;exact cS h.2.2
 case is=>
  rintro s pre A B _ ⟨X,⟨v,h1,h4⟩,h2,h3,h6,h5⟩ G;exact⟨Nat.le_trans X G.size,⟨v,az h1 G,Kd.cz h4 G⟩,az h2 G,az h3 G,az h6 G,aQ h5 G⟩
 case ib=>
  rintro s pre A B ⟨X,⟨v,h1,h4⟩,h2,h3,h6,h5⟩ hb;exact⟨by rw[hb.size];exact X,⟨v,hb.cells h1,cQ h4 hb⟩,hb.cells h2,hb.cells h3,hb.cells h6,h5.trans (hb.below w.heap.size (by omega))⟩
 case kt=>
  intro s A B C' D c4 e4 e5 k hk ao;have c5:k≠b.heap.size+1:=by rcases hk with hk|rfl|rfl<;>omega
  exact(e5.heap k c5).trans ((e4 k hk (by rw[c4.size];exact ao)).trans (c4.heap k c5))
 case h0=>
  rintro o s W1 rfl;exact⟨by simp,⟨_,aq (aq am.out _) _,Kd.df _ _ _ _ _⟩,aq (aq c2.out _) _,aq (aq c3.out _) _,aq (aq cs.out _) _,ai (ai aS.out _) _⟩
 case body=>
  rintro l s pre ⟨xl,xv⟩ Y W1 W _ ⟨X,⟨v,i1,i4⟩,i2,i3,i6,i5⟩ ⟨⟨c,c6,be⟩,P,y⟩ ap a;simp only at P be;obtain⟨Ax,cx,rfl⟩:=Kd.bh P;have gm:Y.heap.size<=W.heap.size:=by have:=a.size;have:=y.size;omega
  have g:=zA (a.cells (az i1 y));have Q:=zA (a.cells (az i2 y));have b3:=zA (a.cells (az i3 y));have b6:=zA (a.cells (az i6 y));have b4:=zA (cQ (Kd.cz i4 y) a);have Z:=zA ((aQ i5 y).trans (a.below w.heap.size (by omega)));have bx:=zA ((Kd.bc (Kd.a_ (ok':=fun k=>Y.heap.size<=k) (Kd.dJ (cQ P a)) (fun k hk=>hk.2.1)) i5.size));have c9:∀k,v.ownBlock=some k->k<Y.heap.size:=fun k hk=>Kd.a8 i4 k hk
  have c':=zA c9;have e_:=zA (Kd.f_ i4);have e':=zA (fun W2 hC=>bz.calls k Ax cx xl n 0 W2 hC (Kd.aN P).2.1 (by rw[be];exact d7.out c c6));have fb:=zA (Kd.aN (cQ P a)).2.2;have gn:pre.length<16384:=by have:pre.length<C.length:=ap;omega
  clear i1 i2 i3 i4 i5 i6 y P a c9 ap be c6;obtain⟨Ar,cr,rfl⟩:=Kd.bh b4.out;have dd:(pre.map Prod.fst).length=pre.length:=by simp
  rw[dd] at g b4 c' e_;have go:W.cell? ⟨w.heap.size,0,none⟩=some (.int .i64 n):=(ah b6.out 0).trans rfl;have LN:Aside0 (((pre.map Prod.fst).length+1)*24<=140737488355328):=⟨by rw[dd];omega⟩;have fn:Aside0 (∀k,Y.heap.size<=k->(b.heap.size+2<=k)/\some k≠(Value.slice Ar pre.length cr).ownBlock):=⟨fun k hk=>⟨by omega,fun e=>by have:=c'.out k e.symm;omega⟩⟩;have fo:Aside0 (∀k,W.heap.size<=k->b.heap.size+2<=k):=⟨fun k hk=>by omega⟩;gi_wp2_with (first|(refine⟨trivial,?_⟩;gi_at_call 87;refine(callsIn_wide.2 (e'.out _ fb.out)).mono ?_;rintro e w4 ⟨rfl,⟨q,rfl⟩⟩;have gq:(W.drewN q).cell? ⟨bo,0,none⟩=some (.slice Ar pre.length cr):=dc (i' g.out q);have gr:(W.drewN q).frozen? ⟨bo,0,none⟩=false:=bE (i' g.out q) 0)|(gi_at_builtin;go_loud (refine kB (Kd.slice 3 (Kd.int .i64)) (w0:=w) w.heap.size rfl (.tmp 39) (.tmp 41) 33 26 (.slice none 0 0) 24 rfl Tryz.underlying33 o7 rfl (by decide) (by omega) (.slice Ar pre.length cr) (pre.map Prod.fst) xl [.slice Ax xl.length cx] (fun k=>b.heap.size+2<=k) (fun k=>Y.heap.size<=k) rfl rfl (Kd.lq (Kd.bJ bx.out _)) fn.out fo.out (Kd.bJ b4.out _) (bU Z.out _) Z.out.size LN.out ?_;intro v1 gt bg hb S fq;obtain⟨A1,c1,rfl⟩:=Kd.bh bg;have fr:=zA bg;have ft:=zA hb;have T:=zA S;have z:=zA ((S.block bo (ay g.out) (Kd.dm b4.out g.out (by decide))).trans g.out);have g0:=dc z.out;have g1:=bE z.out 0;clear bg hb S fq)))
  have X2:=zA ((T.out.block _ (ay Q.out) (Kd.dm b4.out Q.out (by decide))).trans Q.out);have X3:=zA ((T.out.block _ (ay b3.out) (Kd.dm b4.out b3.out (by decide))).trans b3.out);have X6:=zA ((T.out.block _ (ay b6.out) (Kd.dm b4.out b6.out (by decide))).trans b6.out);have f1:=zA (Jb T.out);refine⟨(nz b4.out f1.out).trans (eU _ _ (ay am.out)),fun k hk ao=>?_,by have:=T.out.size;simp at this⊢;omega,⟨.slice A1 (pre.length+1) c1,by simpa using bV z.out 0 (.slice A1 (pre.length+1) c1),?_⟩,aG X2.out (by show w.heap.size+1≠bo;omega) _,aG X3.out (by show w.heap.size+1+1≠bo;omega) _,aG X6.out (by show w.heap.size≠bo;omega) _,eK ft.out (by show w.heap.size<=bo;omega)⟩
  ·have f2:k≠bo:=by rcases hk with hk|rfl|rfl<;>omega
   rw[Below.heap_setCell _ _ _ _ f2];exact T.out.block k ao (fun e=>by have h:=b4.out.1 k e.symm;rcases hk with hk|rfl|rfl<;>omega)
  ·have h:=Kd.fg fr.out z.out (by decide) 0 (.slice A1 (pre.length+1) c1)
   simpa using h
 case done=>
  rintro s xs W W' _ dk ⟨X,⟨v,i1,i4⟩,i2,i3,i6,i5⟩ a dl;have ds:xs.map Prod.fst=C.map (da bd):=dk;rw[ds] at i4;have aB:(C.map (da bd)).length=m+1:=by rw[List.length_map];exact cb.out
  have b4:=cQ i4 a;obtain⟨gs,r,rfl⟩:=te b4 (by omega);have g2:b.heap.size+2<=gs:=b4.1 gs rfl;have g3:=Kd.a8 b4 gs rfl;have g:=zA (a.cells i1);have Q:=zA (a.cells i2);have b3:=zA (a.cells i3);have Z:=zA (i5.trans (a.below w.heap.size (by omega)));have dv:=zA dl;have dx:=zA (yY Iv (enters_of Tryz.func183 (by kernel_rfl) rfl) cf aB (by have:=cb.out;omega) (Kd.l8 b4) d8.out d9.out);clear i1 i2 i3 i4 i5 i6 dl dk ds a b4;rw[aB] at g dx;have g4:=zA aB;clear aB;have hc:=dc g.out;gi_wp2_with (refine⟨trivial,?_⟩;gi_at_call 49;(with_reducible refine(callsIn_wide.2 dx.out).mono ?_);rintro e U ⟨rfl,idx,hp,d0,I,S⟩;have HP:=zA hp;have f4:=zA d0;have f5:=zA I;have aa:=zA S;clear hp d0 I S;have c1:=dc ((aa.out.block bo (ay g.out) (fun e=>by injection e;omega)).trans g.out);have e2:=zA ((aa.out.block _ (ay Q.out) (fun e=>by injection e;omega)).trans Q.out);have e3:=zA ((aa.out.block _ (ay b3.out) (fun e=>by injection e;omega)).trans b3.out);have q1:U.cell? ⟨w.heap.size+1,0,none⟩=some (.slice none 0 0):=(ah e2.out 0).trans rfl;have q2:U.frozen? ⟨w.heap.size+1,0,none⟩=false:=bE e2.out 0;have Y3:=zA (aG (p:=⟨w.heap.size+1,0,none⟩) e3.out (by show w.heap.size+1+1≠w.heap.size+1;omega) (.slice (some ⟨gs,0,none⟩) (m+1) r));have q3:(U.setCell ⟨w.heap.size+1,0,none⟩ (.slice (some ⟨gs,0,none⟩) (m+1) r)).cell? ⟨w.heap.size+1+1,0,none⟩=some (.int .i64 0):=(ah Y3.out 0).trans rfl;have q4:=bE Y3.out 0)
  have Y1:=zA (aG (p:=⟨w.heap.size+1+1,0,none⟩) (bV e2.out 0 (.slice (some ⟨gs,0,none⟩) (m+1) r)) (by show w.heap.size+1≠w.heap.size+1+1;omega) (.int .i64 0));have Y2:=zA (bV Y3.out 0 (.int .i64 0));have ap:w.heap.size+1≠b.heap.size:=by omega
  have f9:w.heap.size+1+1≠b.heap.size:=by omega
  have Y4:=zA (show ((U.setCell ⟨w.heap.size+1,0,none⟩ (.slice (some ⟨gs,0,none⟩) (m+1) r)).setCell ⟨w.heap.size+1+1,0,none⟩ (.int .i64 0)).heap[b.heap.size]? =some (.deferred (some [])) from by rw[Below.heap_setCell _ _ _ _ (fun e=>f9 e.symm),Below.heap_setCell _ _ _ _ (fun e=>ap e.symm)];exact(aa.out.block _ (ay dv.out) (fun e=>by injection e;omega)).trans dv.out);have Y5:=zA (Kd.uj (p:=⟨w.heap.size+1+1,0,none⟩) (Kd.uj (p:=⟨w.heap.size+1,0,none⟩) f5.out (fun k hk=>by show k≠w.heap.size+1;omega) (.slice (some ⟨gs,0,none⟩) (m+1) r)) (fun k hk=>by show k≠w.heap.size+1+1;omega) (.int .i64 0));have Y6:=zA (((iY Z.out _ Z.out.size aa.out (fun k e=>by injection e;omega)).setCell (p:=⟨w.heap.size+1,0,none⟩) (by show w.heap.size<=w.heap.size+1;omega) (.slice (some ⟨gs,0,none⟩) (m+1) r)).setCell (p:=⟨w.heap.size+1+1,0,none⟩) (by show w.heap.size<=w.heap.size+1+1;omega) (.int .i64 0));have aF:Bk b.heap.size ((U.setCell ⟨w.heap.size+1,0,none⟩ (.slice (some ⟨gs,0,none⟩) (m+1) r)).setCell ⟨w.heap.size+1+1,0,none⟩ (.int .i64 0)) (((U.setCell ⟨w.heap.size+1,0,none⟩ (.slice (some ⟨gs,0,none⟩) (m+1) r)).setCell ⟨w.heap.size+1+1,0,none⟩ (.int .i64 0)).putObj b.heap.size (.deferred none)):=⟨_,_,Y4.out,rfl,rfl⟩;refine iG (D:=b.heap.size) rfl Y4.out (r8 (p:=4) (u:=5) rfl _ _ ⟨w.heap.size+1,0,none⟩ ⟨w.heap.size+1+1,0,none⟩ (.slice (some ⟨gs,0,none⟩) (m+1) r) (.int .i64 0) rfl rfl Tryz.underlying33 Tryz.underlying30 rfl rfl ((ah (aF.cells Y1.out) 0).trans (by simp)) ((ah (aF.cells Y2.out) 0).trans (by simp))) ⟨_,idx,rfl,HP.out,f4.out,?_,Y6.out.trans (aF.below w.heap.size (by omega))⟩;exact Kd.eT (Kd.l9 Y5.out (fun k hk ao=>aF.heap k (by omega))) (fun k hk=>by omega)
end
section
attribute [local go_sem] Oper.semAt_some
end
section
def du (P:Nat->Prop):Prop:=∃B,∀K,B<=K->P K
theorem du.jz {α:Type} {f:Nat->Option α} {r:α} (h:Ev f r):du fun k=>f k=some r:=h
theorem du.and {P Q:Nat->Prop} (h:du P) (a:du Q):du fun k=>P k/\Q k:=by
 obtain⟨B,h⟩:=h;obtain⟨C,a⟩:=a;exact⟨max B C,fun K b=>⟨h K (by omega),a K (by omega)⟩⟩
theorem du.imp {P Q:Nat->Prop} (h:du P) (hi:∀k,P k->Q k):du Q:=by
 obtain⟨B,h⟩:=h;exact⟨B,fun K a=>hi K (h K a)⟩
theorem du.mem {α:Type} {P:α->Nat->Prop}:∀{l:List α},(∀x∈l,du (P x))->du fun k=>∀x∈l,P x k
 |[],_=>⟨0,fun _ _ x b=>by simp at b⟩
 |x::l,h=>by
  refine((h x (List.mem_cons_self ..)).and (du.mem fun y a=>h y (List.mem_cons_of_mem _ a))).imp fun k hk y a=>?_
  rcases List.mem_cons.1 a with rfl|a
  ·exact hk.1
  ·exact hk.2 y a
end
end Go.Proofs.YtffdiakgjakngaaGreat.P


namespace Go.Proofs.YtffdiakgjakngaaGreat.P
open Go.RowKit Go.Proofs.YtffdiakgjakngaaGreatW.PrintWords Go.Proofs.YtffdiakgjakngaaGreatW.PrintLast Go.Proofs.YtffdiakgjakngaaGreatW.PrintMore
set_option linter.unusedVariables false
set_option linter.unusedSimpArgs false
set_option maxHeartbeats 8000000
set_option maxRecDepth 100000
def fI.l0:Nat->Int->Int->Int->List (S83)->Option (Int)
 |0,_,_,_,_=>none
 |k+1,x3,x4,b,a=>if x4<(a.length:Int) then(if 0<=x4 then(if((ae a x4).f0)=((ae a x4).f1) then(fI.l0 k x3 (wrap64 (x4+1)) b a) else(fI.l0 k (wrap64 (x3+((ae a x4).f2))) (wrap64 (x4+1)) b a)) else(none)) else(some x3)
def fI.f (k:Nat) (a:Int) (b:List (S83)):Option (Int):=fI.l0 k (wrap64 (1-a)) 0 a b
theorem fI.calls (k:Nat) (l:Int) (B:Option Addr) (D:Nat) (g:List (S83)) (r:Int) (w:World) (ab:Kd.C aM w B g.length g) (ad:g.length<=D) (h:fI.f k l g=some r):
  Calls Tryz.prog 43 #[.agg #[.int .i64 l,.slice B g.length D]] w fun e w'=>e= .returned (.int .i64 r)/\Below w.heap.size w w':=by
 have aF:=Tryz.underlying24;have F:=zA ab;have aL:=zA ad;clear ab ad;have a:=zA (aj w.heap.size w);have H:(fI.l0 k (wrap64 (1-l)) 0 l g)=some r:=h;clear h;have E:=zA H;clear H;go_enter Tryz.func43,Tryz.ntmps43
 go_wp2_with (first|((with_reducible refine aU (N:=1) rfl ?_);refine zX 1 #[.int .i64 l,.slice B g.length D] 24 ?_;intro M j w2 m hb;have i:=zA (m);have ag:=zG a j;have ak:=zG a j;replace a:=zS a hb;clear hb m j;obtain⟨O,P,Q,R⟩:=aC i))
 repeat(go_quiet (first|((with_reducible refine aU (N:=1) rfl ?_);refine zX 1 #[.int .i64 l,.slice B g.length D] 24 ?_;intro M j w2 m hb;have i:=zA (m);have ag:=zG a j;have ak:=zG a j;replace a:=zS a hb;clear hb m j;obtain⟨O,P,Q,R⟩:=aC i));try go_wp2_with (first|((with_reducible refine aU (N:=1) rfl ?_);refine zX 1 #[.int .i64 l,.slice B g.length D] 24 ?_;intro M j w2 m hb;have i:=zA (m);have ag:=zG a j;have ak:=zG a j;replace a:=zS a hb;clear hb m j;obtain⟨O,P,Q,R⟩:=aC i)))
 go_loopg [3,4] k (fun kq v3 v4 w'=>∃(G:Int) (b:Int),v3= .int .i64 G/\v4= .int .i64 b/\Aside0 (fI.l0 kq G b l g=some r)/\Aside0 (kq<=k)/\Aside0 (w'.heap[M]? =some (.cells #[.int .i64 l,(.slice B g.length D)] 24 (0,0)))/\Aside0 (Below w.heap.size w w'))
 case atStart=>exact⟨(wrap64 (1-l)),(0),zT,zT,E,⟨aI _⟩,⟨zK i⟩,⟨zB⟩⟩
 case round=>
  clear E;clear O P Q R;obtain⟨G,b,rfl,rfl,S,J,i,a⟩:=hrel;cases gk with
  |zero=>exact absurd S.out (by simp[fI.l0])
  |succ k1=>
   have H:=S.out;clear S;simp only[fI.l0] at H;by_cases c4:b<(g.length:Int)
   ·rw[if_pos c4] at H
    have ao:=aE c4;clear c4;by_cases K:0<=b
    ·rw[if_pos K] at H
     have aO:=aE K;clear K;by_cases I:((ae g b).f0)=((ae g b).f1)
     ·rw[if_pos I] at H
      obtain⟨ap,ar⟩:=bZ I;clear I;have E:=zA H;clear H;obtain⟨aP,aS,a0,a1⟩:=aC i;have n:0<=(b:Int):=aA ‹_›;have o:b<(g.length:Int):=aA ‹_›;obtain⟨L,T,p,q,s⟩:=dM F.out b n o;cases T;replace p:=(a.out.cell (bm w _ p)).trans p;replace q:=(a.out.cell (bm w _ q)).trans q;replace s:=(a.out.cell (bm w _ s)).trans s;replace n:=eq_true n;replace o:=eq_true o;have u:0<=(b:Int):=aA ‹_›;have v:b<(g.length:Int):=aA ‹_›;obtain⟨U,V,x,y,z⟩:=dM F.out b u v;obtain rfl:L=U:=(by injection V);replace x:=(a.out.cell (bm w _ x)).trans x;replace y:=(a.out.cell (bm w _ y)).trans y;replace z:=(a.out.cell (bm w _ z)).trans z;replace u:=eq_true u;replace v:=eq_true v;go_wp2;repeat(go_quiet (fail);try go_wp2)
      go_roundg k1
      case measure=>have:=J.out;omega
      case rel=>exact⟨(G),(wrap64 (b+1)),zT,zT,E,⟨by have:=J.out;omega⟩,⟨zK i⟩,⟨zB⟩⟩
     ·rw[if_neg I] at H
      obtain⟨ap,ar⟩:=b7 I;have E:=zA H;clear H;obtain⟨a2,a3,a4,a5⟩:=aC i;have n:0<=(b:Int):=aA ‹_›;have o:b<(g.length:Int):=aA ‹_›;obtain⟨L,T,p,q,s⟩:=dM F.out b n o;cases T;replace p:=(a.out.cell (bm w _ p)).trans p;replace q:=(a.out.cell (bm w _ q)).trans q;replace s:=(a.out.cell (bm w _ s)).trans s;replace n:=eq_true n;replace o:=eq_true o;have u:0<=(b:Int):=aA ‹_›;have v:b<(g.length:Int):=aA ‹_›;obtain⟨U,V,x,y,z⟩:=dM F.out b u v;obtain rfl:L=U:=(by injection V);replace x:=(a.out.cell (bm w _ x)).trans x;replace y:=(a.out.cell (bm w _ y)).trans y;replace z:=(a.out.cell (bm w _ z)).trans z;replace u:=eq_true u;replace v:=eq_true v;have W:0<=(b:Int):=aA ‹_›;have X:b<(g.length:Int):=aA ‹_›;obtain⟨av,aB,Y,Z,aa⟩:=dM F.out b W X;obtain rfl:L=av:=(by injection aB);replace Y:=(a.out.cell (bm w _ Y)).trans Y;replace Z:=(a.out.cell (bm w _ Z)).trans Z;replace aa:=(a.out.cell (bm w _ aa)).trans aa;replace W:=eq_true W;replace X:=eq_true X;go_wp2;repeat(go_quiet (fail);try go_wp2)
      go_roundg k1
      case measure=>have:=J.out;omega
      case rel=>exact⟨(wrap64 (G+((ae g b).f2))),(wrap64 (b+1)),zT,zT,E,⟨by have:=J.out;omega⟩,⟨zK i⟩,⟨zB⟩⟩
    ·rw[if_neg K] at H
     exact absurd H (by simp)
   ·rw[if_neg c4] at H
    have ao:=ba c4;clear c4;obtain rfl:=aX H;obtain⟨a9,bb,be,bf⟩:=aC i;go_wp2;repeat(go_quiet (fail);try go_wp2)
    go_ret;exact⟨zE,zB⟩
def lh:List S83->Int
 |[]=>0
 |x::E=>(if x.f0=x.f1 then 0 else x.f2)+lh E
theorem tf:∀E:List S83,lh E=e7 (bN E)
 |[]=>rfl
 |x::E=>by
  by_cases e:x.f0=x.f1
  ·rw[show bN (x::E)=bN E from List.filter_cons_of_neg (by simp[e]),lh,if_pos e,tf E];omega
  ·rw[show bN (x::E)=x::bN E from List.filter_cons_of_pos (by simp[e]),lh,e7,if_neg e,tf E]
theorem zv {n:Nat} {E:List S83} (hn:n<=12) (a:bt n E) (h:E.length<=1000):∀(m i:Nat) (s:Int),i+m=E.length-> -12<=s->s<=50*i+1->Ev (fun k=>fI.l0 k s i n E) (s+lh (E.drop i))
 |0,i,s,hi,j,h1=>by
  refine Ev.of_succ ?_;simp only[fI.l0,if_neg (show ¬(i:Int)<E.length by omega),List.drop_of_length_le (show E.length<=i by omega),lh,Int.add_zero];exact Ev.const _
 |m+1,i,s,hi,j,h1=>by
  have b:=fun s=>zv hn a h m (i+1) s (by omega)
  have g:=a.ok _ (IU (E:=E) (i:=i) (by omega));simp[bQ] at g;refine Ev.of_succ ?_;simp only[fI.l0,if_pos (show (i:Int)<E.length by omega),if_pos (show (0:Int)<=i by omega),eX (show i<=1000000 by omega)];rw[nM (show i<E.length by omega),lh];generalize ae E i=x at g⊢;by_cases e:x.f0=x.f1
  ·have:=b s (by omega) (by omega)
   rw[if_pos e,Int.zero_add];simp only[if_pos e];exact this
  ·have:=b (s+x.f2) (by omega) (by omega)
   rw[if_neg e,<-Int.add_assoc];simp only[if_neg e,jm (show -1000000000<=s+x.f2/\s+x.f2<=1000000000 by omega)];exact this
theorem Jd {n:Nat} {E:List S83} (hn:1<=n) (b:n<=12) (i:E.length<=1000) (j:cL n E=0) {g:Int} (l:T.ep n (af E) g):Ev (fun k=>fI.f k n E) g:=by
 have a:=(jq j).2.2;unfold fI.f;have h:=zv b a i E.length 0 (1-n) (by omega) (by omega) (by omega);rw[List.drop_zero] at h;simp only[jm (show -1000000000<=(1:Int)-n/\(1:Int)-n<=1000000000 by omega)];have h1:=s8 a.bN (fun x m=>(kY.1 m).2);rw[p6] at h1;have o:T.sN (T.can n (af E)) n=2*g-2:=l;rw[show T.can n (af E)=fun v=>T.val n (af E) v-2 from rfl,T.dB,T.iw,h1] at o;have p:=nQ a.bN (bN E).length (aI _);rw[List.take_length,<-tf] at p;have e:g=1-n+lh E:=by omega
 rw[e];exact h
end Go.Proofs.YtffdiakgjakngaaGreat.P
namespace Go.Proofs.YtffdiakgjakngaaGreat.P
open Go.RowKit Go.Proofs.YtffdiakgjakngaaGreatW.PrintWords Go.Proofs.YtffdiakgjakngaaGreatW.PrintLast Go.Proofs.YtffdiakgjakngaaGreatW.PrintMore Go.Proofs.YtffdiakgjakngaaGreat.T
set_option linter.unusedVariables false
set_option linter.unusedSimpArgs false
set_option maxHeartbeats 8000000
set_option maxRecDepth 100000
section
attribute [local go_sem] Oper.semAt_some
theorem Je (t:TypeId) (g:Tryz.prog.underlying t=some (.slice 4)) (n:Nat) (hn:n<=1000):∃zs:Array Value,(∀W:World,(Instr.makeSlice t (.int .i64 n) (.int .i64 n)).run Tryz.prog W= .ok (.slice (some ⟨W.heap.size,0,none⟩) n n) (W.alloc (.cells zs 4)))/\
  ∀(W:World) (ok:Nat->Prop),ok W.heap.size->Kd.bool.R 4 (W.alloc (.cells zs 4)) W.heap.size ok (.slice (some ⟨W.heap.size,0,none⟩) n n) (List.replicate n false):=by
 obtain⟨i0,hi,b⟩:=Option.map_eq_some_iff.1 lF;simp only[Prod.mk.injEq] at b;obtain⟨i,j,l⟩:=b;refine⟨madeCells (Value.bool false).cells (n*1),fun W=>?_,fun W ok m=>⟨fun k hk=>?_,(madeCells (Value.bool false).cells (n*1)).toList,?_,?_⟩⟩
 ·have a:=run_make (P:=Tryz.prog) W t 4 i0 (.bool false) g hi i .i64 .i64 (n:Int) (n:Int) (by omega) (by omega) (by rw[l];omega) (by omega)
  simp only[aD] at a;rw[j] at a;exact a
 ·have:W.heap.size=k:=by simpa [Value.ownBlock] using hk
  subst this;exact m
 ·have h:=World.ownsRow_lit (base:=W.heap.size) (e:=4) (size:=1) W (madeCells (Value.bool false).cells (n*1)) n (aI _) (by simp only[maxLen];omega) (size_madeCells _ _)
  rw[List.length_replicate];exact h
 ·exact Kd.qm (R:=Kd.bool.M (W.alloc (.cells (madeCells (Value.bool false).cells (n*1)) 4)) W.heap.size (fun k=>ok k/\some k≠(Value.slice (some ⟨W.heap.size,0,none⟩) n n).ownBlock)) (size:=1) (z:=Value.bool false) (z0:=false) rfl (by decide) rfl n
theorem Jf (n:Int) (w:World):Calls Tryz.prog 124 #[.int .i64 n] w fun e w'=>e= .returned (.func (.func 179) #[] #[.pointer (some ⟨w.heap.size,0,none⟩)])/\w'=w.alloc (.cells #[.int .i64 n] 3):=by
 go_enter Tryz.func124,Tryz.ntmps124
 go_wp2;go_ret;exact⟨rfl,rfl⟩
def zw (w0:World) (a b:Nat) (X Y:World):Prop:=(w0.heap.size<=X.heap.size->Below w0.heap.size X Y)/\∀k,(k=a\/k=b)->k<X.heap.size->Y.heap[k]? =X.heap[k]?
def Jg (w0:World) (a n:Nat) (x:List Bool) (A C:World):Prop:=A.grownBy C (some a)/\Kd.bool.R 4 C w0.heap.size (fun k=>k=a) (.slice (some ⟨a,0,none⟩) n n) x/\x.length=n/\a<A.heap.size
theorem Jh (g n s:Nat) (w0 W:World) (hS:W.heap.size=s) (hn:n<=1000) (E:W.heap[g]? =some (.cells #[.int .i64 n] 3 (0,0))) (hw:Below w0.heap.size w0 W):
  iF (σ:=Unit) Fence.wide 9 Tryz.prog 179 #[.pointer (some ⟨g,0,none⟩)] (fun _:List Bool=>#[.slice (some ⟨s,0,none⟩) n n]) (fun _ W W1=>W1=W) (fun _ A C=>A.grownBy C (some s)) (fun _ x A C=>Jg w0 s n x A C)
   (fun _ X Y=>zw w0 g s X Y) (fun _ xs W'=>xs=fZ n) (fun _ _ _=>True) (fun pre=>pre.length<2 ^ n) W:=by
 intro lp J Jx U V Z aa;have H:=zA U;have bq:=zA V;have hY:=zA aa;have ab:=Z () W rfl;clear U V Z aa;subst hS;obtain⟨zs,a3,ad⟩:=Je 43 Tryz.underlying43 n hn;have bv:(0:Int)<=(n:Int):=by omega
 refine callsIn_of_wp Tryz.func179 rfl trivial ?_ rfl;simp only[Tryz.ntmps179,List.size_toArray,List.length_cons,List.length_nil,Nat.reduceAdd,Nat.reduceSub,Array.replicate_succ,Array.replicate_zero,List.push_toArray,List.append_toArray,List.nil_append,List.cons_append];have I:W.cell? ⟨g,0,none⟩=some (.int .i64 n):=(ah E 0).trans rfl;have bw:=ay E;have HZ:=zA (Kd.bc (base':=w0.heap.size) (ad W (fun k=>k=W.heap.size) rfl) hw.size);have h:=zA (aq E (.cells zs 4));have i:=zA (ai hw (.cells zs 4));have u:=zA (H.out () _ _ (W.alloc (.cells zs 4)) ab (iZ (ai (aj _ _) _) _));have j:=zA (show W.heap.size<(W.alloc (.cells zs 4)).heap.size by simp);clear E ad ab;gi_wp2;clear I a3;gi_loopg [] (2 ^ n) (fun K wr=>∃(o:List Bool) (pre rest:List (List Bool)),pre++rest=fZ n/\fs o rest/\o.length=n/\Aside0 (J () pre wr)/\Aside0 (Kd.bool.R 4 wr w0.heap.size (fun k=>k=W.heap.size) (.slice (some ⟨W.heap.size,0,none⟩) n n) o)/\Aside0 (wr.heap[g]? =some (.cells #[.int .i64 n] 3 (0,0)))/\Aside0 (Below w0.heap.size w0 wr)/\Aside0 (W.heap.size<wr.heap.size)/\Aside0 (K=rest.length))
 case atStart=>exact⟨List.replicate n false,[],fZ n,rfl,sX n,by simp,u,HZ,h,i,j,⟨(sU n).symm⟩⟩
 case round=>
  clear u HZ h i j;obtain⟨o,pre,rest,L,l,M,u,N,h,i,j,HK⟩:=hrel;have ak:=zA L;have am:=zA l;have O:=zA M;have hlen:pre.length<2 ^ n:=by
   have h1:=sU n;rw[<-L,List.length_append] at h1;have:=l.len;omega
  obtain⟨fn,tmps,bx,b1,hy,ao⟩:=hY.out () pre o wr wr u.out ⟨iZ (aj _ _) _,N.out,M,j.out⟩ hlen;have a5:=zA ao;clear ao hlen L l M;gi_wp2;refine a5.out.mono ?_;rintro e W3 (⟨rfl,ar,F⟩|⟨rfl,av⟩)
  ·have hk:=F.1 i.out.size
   have q:=zA ar;have r:=zA ((F.2 g (.inl rfl) (ay h.out)).trans h.out);have v:=zA (Kd.ko N.out (fun k h1 h2=>F.2 k (.inr h1) h2));have w:=zA (i.out.trans hk);have y:Aside0 (W.heap.size<W3.heap.size):=⟨Nat.lt_of_lt_of_le j.out hk.size⟩;have I:W3.cell? ⟨g,0,none⟩=some (.int .i64 n):=(ah r.out 0).trans rfl;clear ar F hk hy u h N i j;gi_wp2;clear I;gi_loopg [4] (n) (fun K iv wi=>∃(p:List Bool) (m:Nat),p.length+m=n/\Aside0 (o=p++List.replicate m true)/\iv= .int .i64 ((p.length:Int)-1)/\Aside0 (Kd.bool.R 4 wi w0.heap.size (fun k=>k=W.heap.size) (.slice (some ⟨W.heap.size,0,none⟩) n n) (p++List.replicate m false))/\Aside0 (J () (pre++[o]) wi)/\Aside0 (wi.heap[g]? =some (.cells #[.int .i64 n] 3 (0,0)))/\Aside0 (Below w0.heap.size w0 wi)/\Aside0 (W.heap.size<wi.heap.size)/\Aside0 (K=p.length))
   case atStart=>exact⟨o,0,by have:=O.out;omega,⟨by simp⟩,by rw[O.out],⟨by simpa using v.out⟩,q,r,w,y,⟨O.out.symm⟩⟩
   case round=>
    clear v q r w y;obtain⟨p,m,aB,P,rfl,v,q,r,w,y,aF⟩:=hrel;rcases List.eq_nil_or_concat p with rfl|⟨a,b,aL⟩
    ·have be:Aside0 (pre++[o]=fZ n):=⟨by rw[<-ak.out,am.out.stop (by rw[P.out];exact sY m)]⟩
     gi_wp2;refine bodyPost_ret (results_none rfl _ _ _) rfl ?_;exact⟨⟨_,rfl⟩,.inl ⟨(),_,be.out,q.out⟩⟩
    ·rw[List.concat_eq_append] at aL
     subst aL;have b2:a.length+1+m=n:=by rw[<-aB];simp
     have aO:(((a++[b]).length:Int)-1)=(a.length:Int):=by simp
     have G:=v.out;rw[show a++[b]++List.replicate m false=a++b::List.replicate m false by simp] at G;have aP:=zA (P.out.trans (show a++[b]++List.replicate m true=a++b::List.replicate m true by simp));have bf:=zA (aF.out.trans (show (a++[b]).length=a.length+1 by simp));have bg:(0:Int)<=(a.length:Int):=by omega
     have b3:(a.length:Int)<(n:Int):=by omega
     obtain⟨z,y4⟩:=Kd.bP false G (a.length:Int) bg (by first|omega|(simp;omega));rw[show bL false (a++b::List.replicate m false) (a.length:Int)=b by simp[bL,aW],aD] at z;rw[aD] at y4;have Q:∀x:Bool,_:=fun x=>Kd.dg G (a.length:Int) x
     simp only[aD,List.set_append_right _ _ (aI _),Nat.sub_self,List.set_cons_zero] at Q;have aS:=zA Q;rw[aO];clear Q G aB P aF aO v;cases b with
     |true=>
      replace z:wr.cell? ⟨W.heap.size,a.length,none⟩=some (.bool true):=z;obtain⟨B,D⟩:=aS.out false;have S:=zA B;have T:=zA D;clear B D;gi_wp2;gi_roundg (a.length)
      case measure=>rw[bf.out];omega
      case rel=>exact⟨a,m+1,by omega,⟨by rw[aP.out];rfl⟩,by go_num,⟨S.out⟩,⟨H.out () _ _ _ q.out T.out⟩,⟨(Below.heap_setCell _ _ _ _ (by show g≠W.heap.size;omega)).trans r.out⟩,⟨Below.setCell (p:=⟨W.heap.size,a.length,none⟩) w.out hw.size _⟩,⟨by simpa using y.out⟩,⟨rfl⟩⟩
     |false=>
      replace z:wr.cell? ⟨W.heap.size,a.length,none⟩=some (.bool false):=z;obtain⟨B,D⟩:=aS.out true;have S:=zA B;have T:=zA D;clear B D;obtain⟨ys,a0,l⟩:=am.out.next (by rw[aP.out];exact yt m a);have a1:=zA a0;have bk:=zA l;clear a0 l;gi_wp2;gi_roundg (ys.length)
      case measure=>rw[HK.out,a1.out,List.length_cons];omega
      case rel=>exact⟨_,pre++[o],ys,by rw[<-ak.out,a1.out];simp,bk.out,by simp;omega,⟨H.out () _ _ _ q.out T.out⟩,⟨S.out⟩,⟨(Below.heap_setCell _ _ _ _ (by show g≠W.heap.size;omega)).trans r.out⟩,⟨Below.setCell (p:=⟨W.heap.size,a.length,none⟩) w.out hw.size _⟩,⟨by simpa using y.out⟩,⟨rfl⟩⟩
  ·have bl:=zA av
   clear av hy;gi_wp2;go_end0;exact⟨⟨_,rfl⟩,.inr ⟨(),_,trivial,bl.out⟩⟩
end
end Go.Proofs.YtffdiakgjakngaaGreat.P
namespace Go.Proofs.YtffdiakgjakngaaGreat.P
open Go.RowKit Go.Proofs.YtffdiakgjakngaaGreatW.PrintWords Go.Proofs.YtffdiakgjakngaaGreatW.PrintLast Go.Proofs.YtffdiakgjakngaaGreatW.PrintMore
set_option linter.unusedVariables false
set_option linter.unusedSimpArgs false
set_option maxHeartbeats 8000000
set_option maxRecDepth 100000
theorem Ji (w:World) (ok:Nat->Prop) (a:ok w.heap.size) (e:Nat):Kd.bool.R e (w.alloc (.cells #[] e)) w.heap.size ok (.slice (some ⟨w.heap.size,0,none⟩) 0 0) []:=
 ⟨fun k hk=>by
  have:w.heap.size=k:=by simpa [Value.ownBlock] using hk
  subst this;exact a,[],by
  show World.ownsRow _ _ _ 1 _ _ _
  simpa using World.ownsRow_lit (base:=w.heap.size) (e:=e) (size:=1) w #[] 0 (aI _) (by decide) rfl,aV.none _ _⟩
theorem Jj (ad:Addr) (c0:Nat) (l:List Bool) (w:World) (b:Kd.bool.C w (some ad) l.length l) (h:l.length<=1000000):
  Calls Tryz.prog 125 #[.slice (some ad) l.length c0] w fun e w'=>∃v,e= .returned v/\Kd.bool.R 4 w' w.heap.size (fun _=>True) v l/\Below w.heap.size w w':=by
 have hu:=Tryz.underlying43;have i:=fun (w:World) (a:Option Addr) (n c:Nat)=>Lib.run_eql_slice_nil (P:=Tryz.prog) w 43 4 a n c 0 0 hu
 go_enter Tryz.func125,Tryz.ntmps125
 go_wp2_with (at_builtin;refine Kd.qw (w0:=w) (Value.bool) (false:Bool) (h1:=fun _=>rfl) w.heap.size rfl (.tmp 5) (.tmp 6) 43 4 (.bool false) 1 rfl Tryz.underlying43 lF rfl (by decide) (.slice (some ⟨w.heap.size,0,none⟩) 0 0) [] l (some ad) l.length c0 (fun _=>True) rfl rfl (fun _ _=>trivial) (Ji w _ trivial 4) (Kd.ax b (ai (aj _ _) _)) (ai (aj _ _) _) (by simp) (by simp;omega) ?_;intro v1 w1 g hb j _)
 go_ret;exact⟨_,rfl,g,hb⟩
end Go.Proofs.YtffdiakgjakngaaGreat.P
namespace Go.Proofs.YtffdiakgjakngaaGreat.P
open Go Go.RowKit
set_option linter.unusedVariables false
set_option linter.unusedSimpArgs false
set_option maxHeartbeats 8000000
set_option maxRecDepth 100000
section
section
variable {F:Fence} {n:Nat} {P:Program} {md:Region.Mode}
def chainB (md:Region.Mode) (ops:Array Oper):Array Bool->List Nat->Bool
 |a,[]=>Region.ready md ops a==[]
 |a,i::is=>Region.ready md ops a==[i]&&chainB md ops (a.setIfInBounds i true) is
theorem ou {l:List Oper} {Q:Exit->Act->World->Prop}:∀(k m:Nat) (e:Array Bool) (fuel:Nat) (a:Act) (w:World),m+k=l.length->chainB md l.toArray e (List.range' m k)=true->k<=fuel->wpListIn F n P l.toArray Q (l.drop m) a w->wpAnyIn F n P md l.toArray Q fuel e a w
 |0,m,e,fuel,a,w,hm,b,hf,h=>by
  have g:Region.ready md l.toArray e=[]:=by simpa [chainB] using b
  rw[List.drop_eq_nil_of_le (by omega)] at h;cases fuel with
  |zero=>exact⟨g,h⟩
  |succ f=>exact⟨fun _=>h,fun i hi=>by rw[g] at hi;cases hi⟩
 |k+1,m,e,fuel,a,w,hm,b,hf,h=>by
  rw[List.range'_succ,chainB,Bool.and_eq_true,beq_iff_eq] at b;obtain⟨g,b⟩:=b;obtain⟨f,rfl⟩:∃f,fuel=f+1:=⟨fuel-1,by omega⟩;have j:m<l.length:=by omega
  have o:l.toArray[m]? =some l[m]:=by rw[List.getElem?_toArray,bp j]
  rw[List.drop_eq_getElem_cons j] at h;refine⟨fun h1=>absurd (g.symm.trans h1) (by simp),fun i hi=>?_⟩;rw[g,List.mem_singleton] at hi;subst hi;have p:wpOpIn F n P l.toArray Q i (wpListIn F n P l.toArray Q (l.drop (i+1))) a w:=by
   unfold wpOpIn;simp only[o];exact h
  exact wpOpIn_mono (fun a w q=>ou k (i+1) _ f a w (by omega) b (by omega) q) p
end
end
end Go.Proofs.YtffdiakgjakngaaGreat.P
namespace Go.Proofs.YtffdiakgjakngaaGreat.P
open Go.RowKit Go.Proofs.YtffdiakgjakngaaGreatW.PrintWords Go.Proofs.YtffdiakgjakngaaGreatW.PrintLast Go.Proofs.YtffdiakgjakngaaGreatW.PrintMore Go.Proofs.YtffdiakgjakngaaGreat.T
set_option linter.unusedVariables false
set_option linter.unusedSimpArgs false
set_option maxHeartbeats 8000000
set_option maxRecDepth 100000
section
attribute [local go_sem] Oper.semAt_some
theorem Jk {α:Type} {d:Kd α} {e base bo nw:Nat} {ok:Nat->Prop} {W b w1:World} {v:Value} {xs:List α} (K:Nat->Prop) (a:Below W.heap.size W b) (g:d.R e b base ok v xs) (h:b.grownBy w1 v.ownBlock) (l:bo<nw) (m:base<=bo) (i:∀k,K k->k≠bo/\¬ok k) (v1:Value):
  b8 nw W (w1.setCell ⟨bo,0,none⟩ v1)/\(base<=W.heap.size->Below base W (w1.setCell ⟨bo,0,none⟩ v1))/\∀k,K k->k<W.heap.size->(w1.setCell ⟨bo,0,none⟩ v1).heap[k]? =W.heap[k]? :=by
 refine⟨((cS a).trans (nz g h)).trans (eU _ _ l),fun aT=>((a.mono aT).grown h (Nat.le_trans aT a.size) (Kd.dK g)).setCell (p:=⟨bo,0,none⟩) m _,fun k hk j=>?_⟩;rw[Below.heap_setCell _ _ _ _ (i k hk).1];exact(h.block k (Nat.lt_of_lt_of_le j a.size) (fun e=>(i k hk).2 (g.1 k e.symm))).trans (a.block k j)
theorem zx:(Tryz.prog.info? 43).map (fun i=>(i.zero,i.size,i.bytes))=some (some (.slice none 0 0),1,24):=by kernel_rfl
theorem Jl (bg bq k n:Nat) (A0:Option Addr) (c0:Nat) (E:List S83) (S:List (Nat×Int×Int)) (q:Int) (w:World) (ap:Kd.C aM w A0 E.length E) (av:E.length<=c0) (hn:n<=1000) (ht:a7.f k n E=some 0) (hE:dh E=true) (hS:bu E E.length=S) (bv:S.length<=14) (bw:fj n S)
  (b0:w.heap[bg]? =some (.cells #[.int .i64 n,.slice A0 E.length c0] 24 (0,0))) (b3:w.heap[bq]? =some (.cells #[.int .i64 q] 3 (0,0))):
  Calls Tryz.prog 65 #[.agg #[.int .i64 n,.slice A0 E.length c0],.func (.func 66) #[] #[.pointer (some ⟨bg,0,none⟩),.pointer (some ⟨bq,0,none⟩)]] w fun e w'=>∃v,e= .returned (.tuple #[v,.int .i64 0])/\(Kd.slice 4 Kd.bool).R 43 w' w.heap.size (fun _=>True) v (uniq n S q)/\Below w.heap.size w w':=by
 have hu:=Tryz.underlying24;have c8:Aside0 (∀W,Below w.heap.size w W->_):=⟨fun W N=>vN k n A0 c0 E S W (Kd.ax ap N) av ht hE hS⟩;have c9:Aside0 (∀(o:List Bool) (Y:Option Addr) (co:Nat) (W:World),o.length=S.length->Below w.heap.size w W->Kd.bool.C W Y S.length o->Calls Tryz.prog 66 #[.slice Y S.length co,.pointer (some ⟨bg,0,none⟩),.pointer (some ⟨bq,0,none⟩)] W fun e w'=>e= .returned (.bool (gZ n S q o))/\Below W.heap.size W w'):=⟨fun o Y co W O N hC=>by
  have h:=He bg bq k n A0 c0 E Y co o S q w W ap av (by rw[O];exact hC) hn ht hE hS O (by omega) bw N (az b0 N) (az b3 N);rw[O] at h;exact h⟩
 clear ap ht hE hS bw b0 b3 av;unfold uniq;generalize Z:S.length=s at*;have ex:wrap64 ((2:Int) ^ s)<=16384:=by
  have h1:(2:Nat) ^ s<=2 ^ 14:=Nat.pow_le_pow_right (by omega) bv;have m:((2:Int) ^ s)=((2 ^ s:Nat):Int):=by simp
  rw[m];generalize (2:Nat) ^ s=z at h1⊢;unfold wrap64;omega
 refine(callsIn_wide (n:=10)).1 ?_;refine callsIn_of_wp_marks Tryz.func65 rfl trivial ?_ rfl;simp only[Tryz.ntmps65,List.size_toArray,List.length_cons,List.length_nil,Nat.reduceAdd,Nat.reduceSub,Array.replicate_succ,Array.replicate_zero,List.push_toArray,List.append_toArray,List.nil_append,List.cons_append];gi_wp2_with (first|(refine⟨trivial,?_⟩;gi_at_call 123;refine(callsIn_wide.2 (c8.out _ (ai (ai (aj _ _) _) _))).mono ?_;rintro e w1 ⟨rfl,hb⟩;have HB:=zA (aQ (ai (ai (aj w.heap.size w) _) _) hb);have aO:=zA (az (heap_alloc2_new w (.cells #[.int .i64 n,.slice A0 E.length c0] 24) (.cells #[.func (.func 66) #[] #[.pointer (some ⟨bg,0,none⟩),.pointer (some ⟨bq,0,none⟩)]] 98)) hb);clear hb)|(refine⟨trivial,?_⟩;gi_at_call 124;refine(callsIn_wide.2 (Jf _ _)).mono ?_;rintro e w3 ⟨rfl,rfl⟩))
 have c':=HB.out.size;have dk:w.heap.size+1<w1.heap.size:=ay aO.out;have aP:=zA (aq (a6 w1 (.cells #[.slice none 0 0] 40)) (.cells #[.int .i64 s] 3));have aS:=zA (heap_alloc2_new w1 (.cells #[.slice none 0 0] 40) (.cells #[.int .i64 s] 3));have a0:=zA (ai (ai HB.out (.cells #[.slice none 0 0] 40)) (.cells #[.int .i64 s] 3));have b6:=zA (aq (aq aO.out (.cells #[.slice none 0 0] 40)) (.cells #[.int .i64 s] 3));have aa:((w1.alloc (.cells #[.slice none 0 0] 40)).alloc (.cells #[.int .i64 s] 3)).heap.size=w1.heap.size+2:=by simp
 clear HB aO;generalize ((w1.alloc (.cells #[.slice none 0 0] 40)).alloc (.cells #[.int .i64 s] 3))=a at aP aS a0 b6 aa⊢;have dl:=Nat.le_of_eq aa;have ds:=Nat.le_of_eq aa.symm;clear aa;generalize dv:w1.heap.size+1=i at aS⊢;generalize w1.heap.size=bo at aP c' dk dl ds dv⊢;refine gU (σ:=Unit) (α:=List Bool) (F:=Fence.wide) (n:=10) rfl (by decide) (gf:=179) (lb:=#[.pointer (some ⟨i,0,none⟩)]) rfl trivial (enters_of Tryz.func179 (by kernel_rfl) rfl)
  (fun dd=>Jh i s (a.heap.size+2) w _ (by simp) (by omega) (aq (aq aS.out _) _) (ai (ai a0.out _) _)) (fun _=>rfl)
  (fun _=>True) ?dH ?st ?ar
  (fun _ pre W=>a.heap.size+2<=W.heap.size/\∃v,W.heap[bo]? =some (.cells #[v] 40 (0,0))/\W.heap[w.heap.size+1]? =some (.cells #[.func (.func 66) #[] #[.pointer (some ⟨bg,0,none⟩),.pointer (some ⟨bq,0,none⟩)]] 98 (0,0))/\(Kd.slice 4 Kd.bool).R 43 W w.heap.size (fun k=>¬(k=i\/k=a.heap.size+2)) v (pre.filter (gZ n S q))/\Below w.heap.size w W) (fun _ _ _ _=>False)
  ?is (fun _ _ _ _ _ _ h _=>h) ?ib (fun _ _ _ _ _ h _=>h) ?kt ?h0 ?a1 ?assign ?body ?done (fun _ _ _ _ _ _ _ h=>h.elim)
 case assign=>
  intro l x W K b;gi_wp2;exact b
 case dH=>
  intro o s W1 h;exact⟨trivial,by rw[h];exact b8.refl _ _⟩
 case st=>intro s A B _ h k o h1 m P _;exact(h.block k (Array.getElem?_eq_some_iff.1 P).1 (fun e=>by injection e;omega)).trans P
 case ar=>intro s x A B _ h k o h1 m P _;exact(h.1.block k (Array.getElem?_eq_some_iff.1 P).1 (fun e=>by injection e;omega)).trans P
 case is=>
  rintro s pre A B _ ⟨Z,v,h1,m,h4,y⟩ Q;exact⟨Nat.le_trans Z Q.size,v,(Q.block bo (ay h1) (fun e=>by injection e;omega)).trans h1,(Q.block _ (ay m) (fun e=>by injection e;omega)).trans m,Kd.iB h4 Q (fun k hk e=>hk (.inr (by injection e))),iY y _ y.size Q (fun k e=>by injection e;omega)⟩
 case ib=>
  rintro s pre A B ⟨Z,v,h1,m,h4,y⟩ hb;exact⟨by rw[hb.size];exact Z,v,hb.cells h1,hb.cells m,cQ h4 hb,y.trans (hb.below w.heap.size (by omega))⟩
 case kt=>
  intro s A B C D ab b_ a3;refine⟨fun aT=>((ab.below w.heap.size (by omega)).trans (b_.1 (by rw[ab.size];exact aT))).trans (a3.below w.heap.size (by omega)),fun k hk aT=>?_⟩;have b':k≠a.heap.size+1:=by rcases hk with rfl|rfl<;>omega
  exact(a3.heap k b').trans ((b_.2 k hk (by rw[ab.size];exact aT)).trans (ab.heap k b'))
 case h0=>
  rintro o s W1 rfl;exact⟨by simp,_,aq (aq aP.out _) _,aq (aq b6.out _) _,Kd.df _ _ _ _ _,ai (ai a0.out _) _⟩
 case body=>
  rintro l s' pre x Wb W1 W _ ⟨d0,v,i1,i2,i4,i5⟩ ⟨J,cb,cc,e0⟩ cd j;have e4:Wb.heap.size<=W.heap.size:=by have:=j.size;have:=J.size;omega
  have T:=zA (j.cells ((J.block bo (ay i1) (fun e=>by injection e;omega)).trans i1));have b2:=zA (j.cells ((J.block _ (ay i2) (fun e=>by injection e;omega)).trans i2));have b4:=zA (cQ (Kd.iB i4 J (fun k hk e=>hk (.inr (by injection e)))) j);have b5:=zA ((iY i5 _ i5.size J (fun k e=>by injection e;omega)).trans (j.below w.heap.size (by omega)));have bx:=zA (cQ cb j);have L:x.length=s:=cc;have cg:∀k,v.ownBlock=some k->k<Wb.heap.size:=fun k hk=>Kd.a8 i4 k hk
  have d3:=zA cg;have U:=zA (show (pre++[x]).filter (gZ n S q)=if gZ n S q x=true then pre.filter (gZ n S q)++[x] else pre.filter (gZ n S q) by
   rw[List.filter_append];by_cases h:gZ n S q x=true
   ·rw[if_pos h];simp[h]
   ·rw[if_neg h];simp[h])
  have ch:Aside0 ((pre.filter (gZ n S q)).length<=16384):=⟨Nat.le_trans (List.length_filter_le _ _) (by have h1:(2:Nat) ^ s<=2 ^ 14:=Nat.pow_le_pow_right (by omega) bv;have m:pre.length<2 ^ s:=cd;omega)⟩;clear i1 i2 i4 i5 J cb j cg cd cc;generalize pre.filter (gZ n S q)=out at b4 U ch;obtain⟨M,cr,rfl⟩:=Kd.bh b4.out;have hc:=dc T.out;have hf:=bE T.out 0;have d6:W.cell? ⟨w.heap.size+1,0,none⟩=some (.func (.func 66) #[] #[.pointer (some ⟨bg,0,none⟩),.pointer (some ⟨bq,0,none⟩)]):=(ah b2.out 0).trans rfl;have d7:=zA (c9.out x (some ⟨a.heap.size+2,0,none⟩) s W L b5.out (by have h:=(Kd.aN bx.out).2.2;rw[L] at h;exact h));gi_wp2_with (first|(refine⟨trivial,?_⟩;gi_at_call 66;refine(callsIn_wide.2 d7.out).mono ?_;rintro e V ⟨rfl,r⟩;have B4:=zA r;have c1:=zA (az T.out r);have c2:=zA (az b2.out r);have c4:=zA (Kd.cz b4.out r);have c5:=zA (aQ b5.out r);have cx:=zA (Kd.cz bx.out r);have e5:=r.size;clear hc hf d6 r))
  ·have d9:Aside0 (∀W,Kd.bool.C W (some ⟨a.heap.size+2,0,none⟩) s x->Calls Tryz.prog 125 #[.slice (some ⟨a.heap.size+2,0,none⟩) s s] W fun e w'=>∃v,e= .returned v/\Kd.bool.R 4 w' W.heap.size (fun _=>True) v x/\Below W.heap.size W w'):=⟨fun W hC=>by have h:=Jj ⟨a.heap.size+2,0,none⟩ s x W (by rw[L];exact hC) (by omega);rw[L] at h;exact h⟩
   have a5:=(Kd.aN (Kd.bA cx.out)).2.2;rw[L] at a5;have ea:=zA a5;have e6:=dc c1.out;have LN:Aside0 ((out.length+1)*24<=140737488355328):=⟨by have:=ch.out;omega⟩;clear a5;have ck:Aside0 (∀k,V.heap.size<=k->¬(k=i\/k=a.heap.size+2)/\some k≠(Value.slice M out.length cr).ownBlock):=⟨fun k hk=>⟨by omega,fun e=>by have:=d3.out k e.symm;omega⟩⟩;rename_i a9;rw[if_pos a9] at U;have bb:Aside0 (∀(G w1:World) (g:Option Addr) (c1:Nat),Below W.heap.size W G->(Kd.slice 4 Kd.bool).R 43 G w.heap.size (fun k=>¬(k=i\/k=a.heap.size+2)) (.slice M out.length cr) out->G.grownBy w1 (Value.slice M out.length cr).ownBlock->(Kd.slice 4 Kd.bool).R 43 w1 w.heap.size (fun k=>¬(k=i\/k=a.heap.size+2)) (.slice g (out.length+1) c1) (out++[x])->w1.heap[bo]? =some (.cells #[.slice M out.length cr] 40 (0,0))->w1.heap[w.heap.size+1]? =some (.cells #[.func (.func 66) #[] #[.pointer (some ⟨bg,0,none⟩),.pointer (some ⟨bq,0,none⟩)]] 98 (0,0))->Below w.heap.size w w1->
     b8 a.heap.size W (w1.setCell ⟨bo,0,none⟩ (.slice g (out.length+1) c1))/\zw w i (a.heap.size+2) W (w1.setCell ⟨bo,0,none⟩ (.slice g (out.length+1) c1))/\a.heap.size+2<=(w1.setCell ⟨bo,0,none⟩ (.slice g (out.length+1) c1)).heap.size/\∃v,(w1.setCell ⟨bo,0,none⟩ (.slice g (out.length+1) c1)).heap[bo]? =some (.cells #[v] 40 (0,0))/\(w1.setCell ⟨bo,0,none⟩ (.slice g (out.length+1) c1)).heap[w.heap.size+1]? =some (.cells #[.func (.func 66) #[] #[.pointer (some ⟨bg,0,none⟩),.pointer (some ⟨bq,0,none⟩)]] 98 (0,0))/\(Kd.slice 4 Kd.bool).R 43 (w1.setCell ⟨bo,0,none⟩ (.slice g (out.length+1) c1)) w.heap.size (fun k=>¬(k=i\/k=a.heap.size+2)) v ((pre++[x]).filter (gZ n S q))/\Below w.heap.size w (w1.setCell ⟨bo,0,none⟩ (.slice g (out.length+1) c1))):=⟨fun G w1 g c1 y hR hg O cp ed hb=>by
    obtain⟨e1,e2,e3⟩:=Jk (nw:=a.heap.size) (bo:=bo) (fun k=>k=i\/k=a.heap.size+2) y hR hg (by omega) (by omega) (fun k hk=>⟨by omega,fun h=>h hk⟩) (.slice g (out.length+1) c1);refine⟨e1,⟨e2,e3⟩,by have:=hg.size;have:=y.size;simp;omega,.slice g (out.length+1) c1,by simpa using bV cp 0 (.slice g (out.length+1) c1),aG ed (by show w.heap.size+1≠bo;omega) _,?_,eK hb (by show w.heap.size<=bo;omega)⟩;rw[U.out];exact Kd.fg O cp (by decide) 0 (.slice g (out.length+1) c1)⟩
   refine wpIn_region_any (by kernel_rfl) ?_;change wpAnyIn _ _ _ _ _ _ _ _ _ (World.drew _)
   refine wpAnyIn_ready (rs:=[0,1]) (by kernel_rfl) (by simp) ?_;refine AllReadyIn.cons rfl (fun K b=>?_) (AllReadyIn.cons rfl (fun K b=>?_) AllReadyIn.nil);go_simp
   refine b _ _ ?_;clear b K;refine ou 5 1 _ _ _ _ rfl (by kernel_rfl) (by decide) ?_;rotate_left
   go_simp
   refine b _ _ ?_;clear b K;refine wpAnyIn_ready (rs:=[0,2]) (by kernel_rfl) (by simp) ?_;refine AllReadyIn.cons rfl (fun K b=>?_) (AllReadyIn.cons rfl (fun K b=>?_) AllReadyIn.nil);go_simp
   refine b _ _ ?_;clear b K;refine ou 4 2 _ _ _ _ rfl (by kernel_rfl) (by decide) ?_;rotate_left
   go_simp
   rotate_left
   all_goals(try simp only[List.drop_succ_cons,List.drop_zero])
   all_goals gi_wp2_with (first|(refine⟨trivial,?_⟩;gi_at_call 125;refine(callsIn_wide.2 (d9.out _ ea.out)).mono ?_;rintro e G ⟨v5,rfl,be,H⟩;have B5:=zA (aQ (bY B4.out) H);obtain⟨A5,bk,cq⟩:=Kd.bh be;rw[L] at cq;subst cq;have d1:=zA (az (ff c1.out) H);have d2:=zA (az (ff c2.out) H);have d4:=zA (Kd.cz (Kd.bA c4.out) H);have d5:=zA (aQ (bY c5.out) H);have dx:=zA (Kd.lq (Kd.bc (base':=w.heap.size) (Kd.a_ (ok':=fun k=>V.heap.size<=k) (Kd.dJ be) (fun k hk=>hk.2.1)) c5.out.size));have e_:V.heap.size<=G.heap.size:=H.size;have a3:=dc d1.out;have e':=dc (aq d1.out (.cells #[.slice A5 s bk] 43));have cv:Aside0 (∀k,G.heap.size<=k->¬(k=i\/k=a.heap.size+2)):=⟨fun k hk=>by omega⟩;clear be H)|(gi_at_builtin;go_loud (refine kB (Kd.slice 4 Kd.bool) (w0:=w) w.heap.size rfl (.tmp 31) (.tmp 34) 40 43 (.slice none 0 0) 24 rfl Tryz.underlying40 zx rfl (by decide) (by omega) (.slice M out.length cr) out x [.slice A5 s bk] (fun k=>¬(k=i\/k=a.heap.size+2)) (fun k=>V.heap.size<=k) rfl rfl dx.out ck.out cv.out d4.out d5.out d5.out.size LN.out ?_;intro v1 el I hb p bl;obtain⟨g,em,X⟩:=Kd.bh I;rw[List.length_append,List.length_singleton] at X;subst X;have u:=zA ((p.block bo (ay d1.out) (Kd.dm d4.out d1.out (by decide))).trans d1.out);have X2:=zA ((p.block _ (ay d2.out) (Kd.dm d4.out d2.out (by decide))).trans d2.out);have er:=dc u.out;have es:=bE u.out 0;have am:=zA I;have an:=zA hb;have ao:=zA p;clear I hb p bl)))
   exact bb.out _ _ _ _ B5.out d4.out ao.out am.out u.out X2.out an.out;exact bb.out _ _ _ _ B5.out d4.out ao.out am.out u.out X2.out an.out;refine wpAnyIn_ready (rs:=[0,3]) (by kernel_rfl) (by simp) ?_;refine AllReadyIn.cons rfl (fun K b=>?_) (AllReadyIn.cons rfl (fun K b=>?_) AllReadyIn.nil);go_simp
   refine b _ _ ?_;clear b K;refine ou 3 3 _ _ _ _ rfl (by kernel_rfl) (by decide) ?_;rotate_left
   go_simp
   refine b _ _ ?_;clear b K;refine wpAnyIn_ready (rs:=[0]) (by kernel_rfl) (by simp) ?_;refine AllReadyIn.cons rfl (fun K b=>?_) AllReadyIn.nil;go_simp
   refine b _ _ ?_;clear b K;refine ou 2 4 _ _ _ _ rfl (by kernel_rfl) (by decide) ?_
   all_goals simp only[List.drop_succ_cons,List.drop_zero]
   all_goals gi_wp2_with ((gi_at_builtin;go_loud (refine kB (Kd.slice 4 Kd.bool) (w0:=w) w.heap.size rfl (.tmp 31) (.tmp 34) 40 43 (.slice none 0 0) 24 rfl Tryz.underlying40 zx rfl (by decide) (by omega) (.slice M out.length cr) out x [.slice A5 s bk] (fun k=>¬(k=i\/k=a.heap.size+2)) (fun k=>V.heap.size<=k) rfl rfl dx.out ck.out cv.out d4.out d5.out d5.out.size LN.out ?_;intro v1 el I hb p bl;obtain⟨g,em,X⟩:=Kd.bh I;rw[List.length_append,List.length_singleton] at X;subst X;have u:=zA ((p.block bo (ay d1.out) (Kd.dm d4.out d1.out (by decide))).trans d1.out);have X2:=zA ((p.block _ (ay d2.out) (Kd.dm d4.out d2.out (by decide))).trans d2.out);have er:=dc u.out;have es:=bE u.out 0;have am:=zA I;have an:=zA hb;have ao:=zA p;clear I hb p bl)))
   all_goals exact bb.out _ _ _ _ B5.out d4.out ao.out am.out u.out X2.out an.out
  ·rename_i a9
   rw[if_neg (by rw[a9];decide)] at U;refine⟨cS B4.out,⟨fun aT=>B4.out.mono aT,fun k hk ev=>B4.out.block k ev⟩,by omega,_,c1.out,c2.out,?_,c5.out⟩;rw[U.out];exact c4.out
 case done=>
  rintro s' xs W W' _ ew ⟨d0,v,i1,i2,i4,i5⟩ j c3;subst ew;have T:=zA (j.cells i1);have b4:=zA (cQ i4 j);have b5:=zA (i5.trans (j.below w.heap.size (by omega)));have c6:=zA c3;clear i1 i2 i4 i5 c3;have hc:=dc T.out;gi_wp2_with fail
  have c7:Bk a.heap.size W' (W'.putObj a.heap.size (.deferred none)):=⟨_,_,c6.out,rfl,rfl⟩;exact iG (D:=a.heap.size) rfl c6.out (results_tmp2 rfl _ _ _) ⟨_,rfl,Kd.a_ (cQ b4.out c7) (fun _ _=>trivial),b5.out.trans (c7.below w.heap.size (by omega))⟩
end
section
attribute [local go_sem] Oper.semAt_some
theorem Jm (k n:Nat) (A0:Option Addr) (c0:Nat) (E:List S83) (S:List (Nat×Int×Int)) (q:Int) (w:World) (a:Kd.C aM w A0 E.length E) (b:E.length<=c0) (hn:n<=1000) (g:a7.f k n E=some 0) (l:dh E=true) (hS:bu E E.length=S) (m:S.length<=14) (o:fj n S) (G:0<=q) (H:q<n):
  Calls Tryz.prog 19 #[.agg #[.int .i64 n,.slice A0 E.length c0],.int .i64 q] w fun e w'=>∃v,e= .returned (.tuple #[v,.int .i64 0])/\(Kd.slice 4 Kd.bool).R 43 w' w.heap.size (fun _=>True) v (uniq n S q)/\Below w.heap.size w w':=by
 have hu:=Tryz.underlying24;have p:Aside0 (∀W,Below w.heap.size w W->W.heap[w.heap.size]? =some (.cells #[.int .i64 n,.slice A0 E.length c0] 24 (0,0))->W.heap[w.heap.size+1]? =some (.cells #[.int .i64 q] 3 (0,0))->_):=⟨fun W h h1 x=>Jl w.heap.size (w.heap.size+1) k n A0 c0 E S q W (Kd.ax a h) b hn g l hS m o h1 x⟩;have y:Aside0 (∀W,Below w.heap.size w W->_):=⟨fun W h=>a7.calls k n A0 c0 E 0 W (Kd.ax a h) b g⟩;clear a g l hS o b m;generalize uniq n S q=R at p⊢;have r:=aq (a6 w (.cells #[.int .i64 n,.slice A0 E.length c0] 24)) (.cells #[.int .i64 q] 3);have x1:=heap_alloc2_new w (.cells #[.int .i64 n,.slice A0 E.length c0] 24) (.cells #[.int .i64 q] 3);have z:=zA r;have B:=zA x1;clear r x1;go_enter Tryz.func19,Tryz.ntmps19
 go_wp2_with (first|(go_at_call 64;refine(y.out _ (ai (ai (aj _ _) _) _)).mono ?_;rintro e w1 ⟨rfl,hb⟩;have i:=zA (aQ (ai (ai (aj w.heap.size w) _) _) hb);have j:=zA (az z.out hb);have s:=zA (az B.out hb);have I:w1.cell? ⟨w.heap.size,0,none⟩=some (.int .i64 n):=(ah j.out 0).trans rfl;have J:w1.cell? ⟨w.heap.size,1,none⟩=some (.slice A0 E.length c0):=(ah j.out 1).trans rfl;have K:w1.cell? ⟨w.heap.size+1,0,none⟩=some (.int .i64 q):=(ah s.out 0).trans rfl;clear hb)|(go_at_call 65;refine(p.out _ i.out j.out s.out).mono ?_;rintro e w2 ⟨v,rfl,u,hb⟩;have D:=zA (Kd.bc u i.out.size);have F:=zA (aQ i.out hb);clear u hb))
 go_ret2;exact⟨_,rfl,D.out,F.out⟩
end
end Go.Proofs.YtffdiakgjakngaaGreat.P
namespace Go.Proofs.YtffdiakgjakngaaGreat.P
open Go.RowKit Go.Proofs.YtffdiakgjakngaaGreatW.PrintWords Go.Proofs.YtffdiakgjakngaaGreatW.PrintLast Go.Proofs.YtffdiakgjakngaaGreatW.PrintMore
set_option linter.unusedVariables false
set_option linter.unusedSimpArgs false
set_option maxHeartbeats 8000000
set_option maxRecDepth 100000
theorem Jn:s_ 50:=fun k A B c d b lb r W a g hb i h=>by
 have H:=zA (cA.calls k A c b B d lb r W a g hb i h);clear h a hb;go_enter Tryz.func50,Tryz.ntmps50
 go_wp2_with (go_at_call 51;refine H.out.mono ?_;rintro e w' ⟨rfl,hd⟩;have j:=zA hd;clear hd)
 go_ret;exact⟨rfl,j.out⟩
theorem Jo (k:Nat) (A B:Option Addr) (c d:Nat) (a lb:List Int) (r:Bool) (W:World) (b:(Kd.int .i64).C W A a.length a) (g:a.length<=c) (hb:(Kd.int .i64).C W B lb.length lb) (i:lb.length<=d) (h:bB.f k a lb=some r):
  Calls Tryz.prog 53 #[.slice A a.length c,.slice B lb.length d] W fun e w'=>e= .returned (.bool r)/\aH W w':=by
 have H:=zA (bB.calls k A c a B d lb r W b g hb i h);clear h b hb;go_enter Tryz.func53,Tryz.ntmps53
 go_wp2_with (go_at_call 33;refine H.out.mono ?_;rintro e w' ⟨rfl,hd⟩;have j:=zA hd;clear hd)
 go_ret;exact⟨rfl,j.out⟩
theorem Jp (k s u:Nat) (ok1 ok2:Nat->Prop) (A B:Option Addr) (c d:Nat) (L:List (List Int)) (w:World) (n:Kd.N (Kd.slice 3 (Kd.int .i64)) 26 w s ok1 (.slice A L.length c) L) (o:Kd.N (Kd.slice 3 (Kd.int .i64)) 26 w u ok2 (.slice B L.length d) L) (p:∀x∈L,bB.f k x x=some true) (J:L.length<=1000000):
  Calls Tryz.prog 52 #[.slice A L.length c,.slice B L.length d,.func (.func 53) #[] #[]] w fun e w'=>e= .returned (.bool true)/\aH w w':=by
 have y:=zA n;have z:=zA o;have C:=zA p;clear n o p;go_enter Tryz.func52,Tryz.ntmps52
 go_wp2;go_loopg [17] (L.length) (fun D i wr=>∃v:Nat,v<=L.length/\i= .int .i64 v/\Aside0 (∃m,wr=w.drewN m)/\Aside0 (D=L.length-v))
 case atStart=>exact⟨0,Nat.zero_le _,rfl,⟨⟨0,rfl⟩⟩,⟨rfl⟩⟩
 case round=>
  obtain⟨v,K,rfl,q,E⟩:=hrel;obtain⟨m,rfl⟩:=q.out;clear q;by_cases a:v<L.length
  ·have M:(0:Int)<=(v:Int):=by omega
   have O:(v:Int)<(L.length:Int):=by omega
   have b:=bU (aj w.heap.size w) m;obtain⟨g,F,cc,rfl,G,h,j⟩:=qc (Kd.fh y.out b) v a;obtain⟨g2,H,cd,rfl,z1,z2,z3⟩:=qc (Kd.fh z.out b) v a;have r:L.getD v []∈L:=by rw[aW,bp a];exact List.getElem_mem a
   have l:=zA (C.out _ r);clear r b;generalize L.getD v []=x at G h j z1 z2 z3 l;have I:=zA (Jo k F H cc cd x x true (w.drewN m) (Kd.jb j) h (Kd.jb z3) z2 l.out);clear h j z2 z3 l;go_wp2_with (go_at_call 53;refine I.out.mono ?_;rintro e w1 ⟨rfl,⟨m1,rfl⟩⟩)
   go_roundg (L.length- (v+1))
   case measure=>rw[E.out];omega
   case rel=>exact⟨v+1,by omega,by go_num,⟨⟨m+m1,by simp[World.drewN]⟩⟩,⟨rfl⟩⟩
  ·obtain rfl:v=L.length:=by omega
   go_wp2;go_ret;exact⟨rfl,⟨m,rfl⟩⟩
section
attribute [local go_sem] Oper.semAt_some
theorem Jq (k:Nat) (N:Int) (A0:Option Addr) (c0:Nat) (E:List S83) (a:Int) (j:Int) (w:World) (g:Kd.C aM w A0 E.length E) (i:E.length<=c0) (m:iW.f k N E=some j) (hf:j≠0\/j=0/\jP.f k N E=some false) (n:∀w,Calls Tryz.prog 26 #[] w fun e w'=>e= .returned (.bool true)/\Below w.heap.size w w'):
  Calls Tryz.prog 11 #[.agg #[.int .i64 N,.slice A0 E.length c0],.int .u8 a] w fun e w'=>e= .returned (.bool true)/\Below w.heap.size w w':=by
 have hu:=Tryz.underlying24;have o:=zA m;have p:=zA n;clear m n;have r:(w.alloc (.cells #[.int .i64 N,.slice A0 E.length c0] 24)).cell? ⟨w.heap.size,0,none⟩=some (.int .i64 N):=(ah (a6 _ _) 0).trans rfl;rcases hf with h|⟨rfl,h⟩
 ·have v:(j != 0)=true:=by simpa using h
  go_enter Tryz.func11,Tryz.ntmps11
  go_wp2_with (first|(go_at_call 48;refine(iW.calls k N A0 c0 E j _ (Kd.bC g _) i o.out).mono ?_;rintro e w1 ⟨rfl,hb⟩;have b:=zA (aQ (ai (aj w.heap.size w) _) hb);clear hb)|(go_at_call 26;refine(p.out _).mono ?_;rintro e w2 ⟨rfl,hb⟩;have l:=zA (aQ b.out hb);clear hb))
  go_ret;exact⟨rfl,l.out⟩
 ·have s:=zA h
  clear h;go_enter Tryz.func11,Tryz.ntmps11
  go_wp2_with (first|(go_at_call 48;refine(iW.calls k N A0 c0 E 0 _ (Kd.bC g _) i o.out).mono ?_;rintro e w1 ⟨rfl,hb⟩;have b:=zA (aQ (ai (aj w.heap.size w) _) hb);have q:=zA (az (a6 w (.cells #[.int .i64 N,.slice A0 E.length c0] 24)) hb);have x:w1.cell? ⟨w.heap.size,0,none⟩=some (.int .i64 N):=(ah q.out 0).trans rfl;have y:w1.cell? ⟨w.heap.size,1,none⟩=some (.slice A0 E.length c0):=(ah q.out 1).trans rfl;clear hb r)|(go_at_call 44;refine(jP.calls k N A0 c0 E false _ (Kd.ax g b.out) i s.out).mono ?_;rintro e w3 ⟨rfl,hb⟩;have u:=zA (aQ b.out hb);clear hb)|(go_at_call 26;refine(p.out _).mono ?_;rintro e w2 ⟨rfl,hb⟩;have l:=zA (aQ u.out hb);clear hb))
  go_ret;exact⟨rfl,l.out⟩
theorem Jr {W:World} {e base:Nat} {ok:Nat->Prop} {A:Option Addr} {cap:Nat} {L:List (List Bool)} (h:Kd.N (Kd.slice 4 Kd.bool) e W base ok (.slice A L.length cap) L) (i:Nat) (hi:i<L.length):
  ∃g a cc,A=some ⟨g,0,none⟩/\W.cell? ⟨g,i,none⟩=some (.slice a (L.getD i []).length cc)/\(L.getD i []).length<=cc/\Kd.F Kd.bool W ok a (L.getD i []).length (L.getD i []):=by
 have hC:=(Kd.jc h).2.2;obtain⟨ad,he,_⟩:=hC.2.2 (by omega);subst he;obtain⟨g,rfl⟩:∃g,ad=⟨g,0,none⟩:=by
  obtain⟨_,rows,_,j,_⟩:=h;exact Kd.lB j
 obtain⟨ce,o,k,l⟩:=Kd.na h [] (i:Int) (by omega) (by omega);obtain⟨m,n,rfl,ul,ge⟩:=Kd.kz k;have b:=l 0 _ rfl;rw[Nat.add_zero,show ((Kd.slice 4 Kd.bool)).sz=1 from rfl,Nat.mul_one,aD,add_plain] at b;rw[aD] at ul ge;exact⟨g,m,n,rfl,b,ul,Kd.mX ge (fun _ hk=>hk.1)⟩
section
variable {w w':World} {gb c0 m:Nat} {n:Int} {A0:Option Addr}
theorem GB.mk (a:w'.heap[gb]? =some (.cells #[.int .i64 n,.slice A0 m c0] 24 (0,0))) (hb:Below w.heap.size w w'):
  w'.heap[gb]? =some (.cells #[.int .i64 n,.slice A0 m c0] 24 (0,0))/\w'.cell? ⟨gb,0,none⟩=some (.int .i64 n)/\w'.cell? ⟨gb,1,none⟩=some (.slice A0 m c0)/\Below w.heap.size w w':=
 ⟨a,(ah a 0).trans rfl,(ah a 1).trans rfl,hb⟩
theorem GB.step {w2:World} (b:w'.heap[gb]? =some (.cells #[.int .i64 n,.slice A0 m c0] 24 (0,0))) (hb:Below w.heap.size w w') (a:Below w'.heap.size w' w2):
  w2.heap[gb]? =some (.cells #[.int .i64 n,.slice A0 m c0] 24 (0,0))/\w2.cell? ⟨gb,0,none⟩=some (.int .i64 n)/\w2.cell? ⟨gb,1,none⟩=some (.slice A0 m c0)/\Below w.heap.size w w2:=
 GB.mk (az b a) (aQ hb a)
end
structure OW (n:Nat) (A0:Option Addr) (c0:Nat) (E:List S83) (g:Nat) (b:Option Addr) (h:Nat) (a:List S83) (i:Value) (all:List (List Bool)) (vl:Value) (l:List (List Int)) (e:Nat) (w W:World):Prop where
 box:W.heap[w.heap.size]? =some (.cells #[.int .i64 n,.slice A0 E.length c0] 24 (0,0))
 plain:W.heap[g]? =some (.cells #[.int .i64 n,.slice b a.length h] 24 (0,0))
 rows:Kd.C aM W b a.length a
 zy:Kd.N (Kd.slice 4 Kd.bool) 43 W w.heap.size (fun _=>True) i all
 zz:Kd.N (Kd.slice 3 (Kd.int .i64)) 26 W e (fun k=>e<=k) vl l
 gG:Below w.heap.size w W
theorem OW.step {n:Nat} {A0:Option Addr} {c0:Nat} {E:List S83} {a:Nat} {b:Option Addr} {e:Nat} {g:List S83} {i:Value} {all:List (List Bool)} {vl:Value} {l:List (List Int)} {j:Nat} {w W W':World} (h:OW n A0 c0 E a b e g i all vl l j w W) (hb:Below W.heap.size W W'):OW n A0 c0 E a b e g i all vl l j w W':=
 ⟨az h.box hb,az h.plain hb,Kd.ax h.rows hb,Kd.fh h.zy hb,Kd.fh h.zz hb,aQ h.gG hb⟩
theorem Js (k n m:Nat) (A0:Option Addr) (c0:Nat) (E:List S83) (a:Int) (S:List (Nat×Int×Int)) (b:List S83) (q:Nat) (l:List (List Int)) (g:Int) (w:World) (M:Kd.C aM w A0 E.length E) (O:E.length<=c0)
  (bq:∀w,Calls Tryz.prog 26 #[] w fun e w'=>e= .returned (.bool true)/\Below w.heap.size w w') (fb:1<=n) (hn:n<=1000) (fd:0<=a) (fn:a<=255) (Y:a%n=q)
  (hj:iW.f k n E=some 0) (hf:jP.f k n E=some true) (bw:eI.f k n E=some ((n:Int),b,0)) (hu:bR.f k n E q=some (l,0)) (hG:fI.f k n E=some g) (hg:0<=g/\g<=1000)
  (ht:a7.f k n b=some 0) (hE:dh b=true) (hS:bu b b.length=S) (b2:S.length<=14) (av:fj n S) (aB:l.length=(uniq n S q).length) (hm:(uniq n S q).length=m+1) (fq:m<=100000)
  (b3:∀o∈uniq n S q,o.length=S.length) (hT:∀o∈uniq n S q,fG.f k (dp (cB n S o) n n)=some (g-1)) (b5:∀x∈l,bB.f k x x=some true)
  (Z:Fin (m+1)->Fin (m+1)->Int) (b6:∀i j:Fin (m+1),cA.f k (((uniq n S q).map fun o=>dp (cB n S o) n n).getD i.1 []) (((uniq n S q).map fun o=>dp (cB n S o) n n).getD j.1 [])=some (Z i j)) (hO:Go.Sort.SWO (Go.Proofs.ltOf Z))
  (b_:∀idx:List (Fin (m+1)),idx.Perm (List.finRange (m+1))->idx.Pairwise (fun i j=>Go.Proofs.ltOf Z j i=false)->idx.map (fun i=>((uniq n S q).map fun o=>dp (cB n S o) n n).getD i.1 [])=l):
  Calls Tryz.prog 11 #[.agg #[.int .i64 n,.slice A0 E.length c0],.int .u8 a] w fun e w'=>e= .returned (.bool true)/\Below w.heap.size w w':=by
 have fr:=Tryz.underlying24;have D:=zA hj;have HF:=zA hf;have d3:=zA bq;have cb:=zA bw;have HU:Aside0 (bR.f k n E (a%n)=some (l,0)):=⟨by rw[Y];exact hu⟩;have HG:=zA hG;have aF:Aside0 (∀(p:Option Addr) (r:Nat) (W:World),Kd.C aM W p b.length b->b.length<=r->Calls Tryz.prog 19 #[.agg #[.int .i64 n,.slice p b.length r],.int .i64 (a%n)] W fun e w'=>∃v,e= .returned (.tuple #[v,.int .i64 0])/\(Kd.slice 4 Kd.bool).R 43 w' W.heap.size (fun _=>True) v (uniq n S q)/\Below W.heap.size W w'):=⟨fun p r W h1 G=>by rw[Y];exact Jm k n p r b S q W h1 G hn ht hE hS b2 av (by omega) (by rw[<-Y];exact Int.emod_lt_of_pos _ (by omega))⟩;have aL:Aside0 (∀o∈uniq n S q,∀(p:Option Addr) (r:Nat) (Ao:Option Addr) (co:Nat) (W:World),Kd.C aM W p b.length b->b.length<=r->Kd.bool.C W Ao o.length o->Calls Tryz.prog 20 #[.agg #[.int .i64 n,.slice p b.length r],.slice Ao o.length co] W fun e w'=>∃go c,e= .returned (.tuple #[.slice (some ⟨go,0,none⟩) n c,.int .i64 0])/\(Kd.int .i64).R 3 w' W.heap.size (fun _=>True) (.slice (some ⟨go,0,none⟩) n c) (dp (cB n S o) n n)/\Below W.heap.size W w'):=⟨fun o ho p r Ao co W h1 G h3=>DE k n p r b Ao co o S W h1 G h3 hn ht hE hS (b3 o ho) (by omega) av⟩;have HT:=zA hT;have aP:=zA b6;have ch:=zA hO;have ci:=zA b_;have d6:=zA b5;have d7:¬(n:Int)=0:=by omega
 have ft:0<=a%(n:Int)/\a%(n:Int)<n:=⟨Int.emod_nonneg _ d7,Int.emod_lt_of_pos _ (by omega)⟩;clear hj hf bq bw hu hG ht hE hS b2 av b3 hT b6 hO b_ b5 Y;generalize uniq n S q=all at aF aL HT aP ci aB hm;have HM:=zA hm;have fv:all.length<=100001:=by omega
 have ab:=zA aB;clear hm aB;have b0:(w.alloc (.cells #[.int .i64 n,.slice A0 E.length c0] 24)).cell? ⟨w.heap.size,0,none⟩=some (.int .i64 n):=(ah (a6 _ _) 0).trans rfl;go_enter Tryz.func11,Tryz.ntmps11
 go_upto_region 5 with (first|(go_at_call 48;refine(iW.calls k n A0 c0 E 0 _ (Kd.bC M _) O D.out).mono ?_;rintro e w1 ⟨rfl,hb⟩;have u:=zA (aQ (ai (aj w.heap.size w) _) hb);have y:=zA (az (a6 w (.cells #[.int .i64 n,.slice A0 E.length c0] 24)) hb);have P:w1.cell? ⟨w.heap.size,0,none⟩=some (.int .i64 n):=(ah y.out 0).trans rfl;have F:w1.cell? ⟨w.heap.size,1,none⟩=some (.slice A0 E.length c0):=(ah y.out 1).trans rfl;clear hb b0)|(go_at_call 44;refine(jP.calls k n A0 c0 E true _ (Kd.ax M u.out) O HF.out).mono ?_;rintro e w3 ⟨rfl,hb⟩;replace u:=zA (aQ u.out hb);replace y:=zA (az y.out hb);replace P:w3.cell? ⟨w.heap.size,0,none⟩=some (.int .i64 n):=(ah y.out 0).trans rfl;replace F:w3.cell? ⟨w.heap.size,1,none⟩=some (.slice A0 E.length c0):=(ah y.out 1).trans rfl;clear hb)|(go_at_call 30;refine(eI.calls k n A0 c0 E n b 0 _ (Kd.ax M u.out) O cb.out).mono ?_;rintro e Q ⟨v4,rfl,z,hb⟩;obtain⟨p,r,rfl⟩:=Kd.bh z;have a0:=zA (Kd.aN z);replace u:=zA (aQ u.out hb);replace y:=zA (az y.out hb);replace P:Q.cell? ⟨w.heap.size,0,none⟩=some (.int .i64 n):=(ah y.out 0).trans rfl;replace F:Q.cell? ⟨w.heap.size,1,none⟩=some (.slice A0 E.length c0):=(ah y.out 1).trans rfl;clear hb z))
 have H:=zA (a6 Q (.cells #[.int .i64 n,.slice p b.length r] 24));have a1:=zA (aq y.out (.cells #[.int .i64 n,.slice p b.length r] 24));have I:=zA (ai u.out (.cells #[.int .i64 n,.slice p b.length r] 24));have ad:=zA (Kd.bC a0.out.2.2 (.cells #[.int .i64 n,.slice p b.length r] 24));have cj:=zA a0.out.2.1;clear P F u y a0;generalize d9:Q.heap.size=pb at H⊢;generalize Q.alloc (.cells #[.int .i64 n,.slice p b.length r] 24)=w5 at H a1 I ad⊢;clear d9;have x0:w5.cell? ⟨pb,0,none⟩=some (.int .i64 n):=(ah H.out 0).trans rfl;have x1:w5.cell? ⟨pb,1,none⟩=some (.slice p b.length r):=(ah H.out 1).trans rfl;go_upto_region 7 with (first|(go_at_call 19;refine(aF.out p r _ ad.out cj.out).mono ?_;rintro e w6 ⟨va,rfl,z,hb⟩;obtain⟨Aa,ca,rfl⟩:=Kd.bh z;have ck:=zA (Kd.l8 (Kd.bc (base':=w.heap.size) z I.out.size));have cq:=zA (az H.out hb);have am:=zA (az a1.out hb);have a4:=zA (aQ I.out hb);have cr:=zA (Kd.ax ad.out hb);have P:w6.cell? ⟨w.heap.size,0,none⟩=some (.int .i64 n):=(ah am.out 0).trans rfl;have F:w6.cell? ⟨w.heap.size,1,none⟩=some (.slice A0 E.length c0):=(ah am.out 1).trans rfl;clear hb z)|(go_at_call 15;refine(bR.calls k n A0 c0 E (a%n) l 0 _ (Kd.ax M a4.out) O HU.out).mono ?_;rintro e w7 ⟨vl,rfl,J,hb⟩;obtain⟨Al,cl,eb, -⟩:=Kd.uk J;subst eb;have T:=zA (OW.mk (az am.out hb) (az cq.out hb) (Kd.ax cr.out hb) (Kd.fh ck.out hb) J (aQ a4.out hb));clear J hb P F))
 clear x0 x1 H a1 I ad cq am a4 cr ck;generalize w6.heap.size=bl at T⊢;have hlen:((l.length:Int) != (all.length:Int))=false:=by rw[ab.out];simp
 have f3:¬((l.length:Int)≠(all.length:Int)):=by rw[ab.out];simp
 go_wp2;generalize w7=W0 at T⊢;go_loopg [12,63] (all.length) (fun kq s i wr=>∃v:Nat,i= .int .i64 v/\v<=all.length/\Aside0 (Below W0.heap.size W0 wr)/\Aside0 ((Kd.slice 3 (Kd.int .i64)).R 26 wr W0.heap.size (fun _=>True) s ((all.take v).map fun o=>dp (cB n S o) n n))/\Aside0 (kq=all.length-v))
 case atStart=>exact⟨0,rfl,Nat.zero_le _,⟨aj _ _⟩,⟨Kd.df _ _ _ _ _⟩,⟨rfl⟩⟩
 case round=>
  obtain⟨v,rfl,hv,u,K,HK⟩:=hrel;have D:=zA (T.out.step u.out);by_cases U:v<all.length
  ·have f5:(0:Int)<=(v:Int):=by omega
   have f6:(v:Int)<(all.length:Int):=by omega
   have a9:all.getD v []∈all:=by rw[aW,bp U];exact List.getElem_mem U
   have c2:all.take (v+1)=all.take v++[all.getD v []]:=by rw[List.take_succ_eq_append_getElem U,aW,bp U];rfl
   have bb:=zA (show (all.take (v+1)).map (fun o=>dp (cB n S o) n n)=(all.take v).map (fun o=>dp (cB n S o) n n)++[dp (cB n S (all.getD v [])) n n] by rw[c2,List.map_append];rfl);have be:=zA (show ((all.take v).map (fun o=>dp (cB n S o) n n)).length=v by rw[List.length_map,List.length_take];omega);obtain⟨ga,Ac,cc,rfl,F,y2,y3⟩:=Jr D.out.zy v U;have c4:=zA (HT.out _ a9);have an:=zA (aL.out _ a9 p r Ac cc wr D.out.rows cj.out (Kd.jb y3));have V:=zA (rp (cB n S (all.getD v [])) n n);clear a9 c2 y2 y3;generalize dp (cB n S (all.getD v [])) n n=dv at bb c4 an V;generalize all.getD v []=o at F an;generalize (all.take v).map (fun o=>dp (cB n S o) n n)=ow at K bb be;obtain⟨As,cs,c7⟩:=Kd.bh K.out;rw[be.out] at c7;subst c7;have x0:wr.cell? ⟨pb,0,none⟩=some (.int .i64 n):=(ah D.out.plain 0).trans rfl;have x1:wr.cell? ⟨pb,1,none⟩=some (.slice p b.length r):=(ah D.out.plain 1).trans rfl;go_upto_region 14 with (go_at_call 20;refine an.out.mono ?_;rintro e B ⟨go,cg,rfl,z,hb⟩;have bg:=zA z;have el:=zA hb;have X:=zA (D.out.step hb);have c8:=zA (aQ u.out hb);have c9:=zA (Kd.cz K.out hb);clear z hb)
   have ao:=(Kd.aN bg.out).2;rw[V.out] at ao;have c':Aside0 (∀W,Below B.heap.size B W->Calls Tryz.prog 22 #[.slice (some ⟨go,0,none⟩) n cg] W fun e w'=>e= .returned (.int .i64 (g-1))/\Below W.heap.size W w'):=⟨fun W hW=>by
    have h:=fG.calls k (some ⟨go,0,none⟩) cg dv (g-1) W (by rw[V.out];exact Kd.ax ao.2 hW) (by rw[V.out];exact ao.1) c4.out;rw[V.out] at h;exact h.mono fun e w' ⟨h1,m,G⟩=>⟨h1,by rw[G];exact bU (aj _ _) m⟩⟩
   have dd:Aside0 (∀W,Below B.heap.size B W->_):=⟨fun W hW=>fI.calls k n A0 c0 E g W (Kd.ax M (aQ X.out.gG hW)) O HG.out⟩;have em:IntKind.i64.wrap (g-1)=g-1:=by rw[dG];unfold wrap64;omega
   have z0:B.cell? ⟨w.heap.size,0,none⟩=some (.int .i64 n):=(ah X.out.box 0).trans rfl;have z1:B.cell? ⟨w.heap.size,1,none⟩=some (.slice A0 E.length c0):=(ah X.out.box 1).trans rfl;clear ao x0 x1 F;go_region_held3 (fun w'=>w'.heap[w.heap.size]? =some (.cells #[.int .i64 n,.slice A0 E.length c0] 24 (0,0))/\w'.cell? ⟨w.heap.size,0,none⟩=some (.int .i64 n)/\w'.cell? ⟨w.heap.size,1,none⟩=some (.slice A0 E.length c0)/\Below B.heap.size B w')
    (first
     |exact GB.mk (ff X.out.box) (bY (aj _ _))
     |((try go_split_ands);refine⟨by assumption,by assumption,by assumption,by assumption⟩)
     |((try go_split_ands);exact GB.step (by assumption) (by assumption) (by assumption))
     |fail)
    (first
     |(go_at_call 22;refine(c'.out _ (by go_split_ands;assumption)).mono ?_;rintro e w9 ⟨rfl,hB⟩)
     |(go_at_call 43;refine(dd.out _ (by go_split_ands;assumption)).mono ?_;rintro e w9 ⟨rfl,hB⟩))
   rename_i hHeld;have bn:Aside0 (Below B.heap.size B w9):=⟨by go_split_ands;assumption⟩;have dl:=zA (aQ c8.out bn.out);have er:=zA (Kd.cz c9.out bn.out);have es:=zA (Kd.lq (Kd.bc (base':=W0.heap.size) (Kd.a_ (ok':=fun k=>wr.heap.size<=k) (Kd.dJ (Kd.cz bg.out bn.out)) (fun k hk=>hk.2.1)) u.out.size));have ev:Aside0 (∀k,wr.heap.size<=k->True/\some k≠(Value.slice As v cs).ownBlock):=⟨fun k hk=>⟨trivial,fun e=>by have:=Kd.a8 K.out k e.symm;omega⟩⟩;have LN:Aside0 ((ow.length+1)*24<=140737488355328):=⟨by have:=be.out;have:=HM.out;omega⟩;clear hHeld hB z0 z1 bg el X c8 c9 c' dd em an;go_wp2_with (at_builtin;refine Kd.mQ (Kd.slice 3 (Kd.int .i64)) (w0:=W0) W0.heap.size rfl (.tmp 90) (.tmp 92) 33 26 (.slice none 0 0) 24 rfl Tryz.underlying33 o7 rfl (by decide) (by omega) (.slice As v cs) ow dv [.slice (some ⟨go,0,none⟩) n cg] (fun _=>True) (fun k=>wr.heap.size<=k) rfl rfl es.out ev.out (fun _ _=>trivial) er.out dl.out dl.out.size LN.out ?_;intro v1 f8 ds hb L ex;have ey:=zA ds;have e0:=zA hb;clear ds hb L ex)
   go_roundg (all.length- (v+1))
   case measure=>rw[HK.out];omega
   case rel=>exact⟨v+1,by go_num,by omega,e0,⟨by rw[bb.out];exact ey.out⟩,⟨rfl⟩⟩
  ·obtain rfl:v=all.length:=by omega
   have dx:(all.map fun o=>dp (cB n S o) n n).length=m+1:=by rw[List.length_map];exact HM.out
   have hO:=K.out;rw[List.take_length] at hO;obtain⟨gs,cv,rfl⟩:=te hO (by omega);have e1:W0.heap.size<=gs:=Kd.dK hO gs rfl;have d0:=zA (yY Jn (enters_of Tryz.func50 (by kernel_rfl) rfl) Z dx (by omega) (Kd.l8 hO) aP.out ch.out);have f':=zA u.out;have d1:=zA D.out;have e2:=zA (Kd.fh (Kd.oR T.out.zz) u.out);have e3:Aside0 (∀(W:World) (A:Option Addr) (c b1:Nat) (ok1 ok2:Nat->Prop),Kd.N (Kd.slice 3 (Kd.int .i64)) 26 W b1 ok1 (.slice A (m+1) c) l->Kd.N (Kd.slice 3 (Kd.int .i64)) 26 W bl ok2 (.slice Al l.length cl) l->Calls Tryz.prog 52 #[.slice A (m+1) c,.slice Al l.length cl,.func (.func 53) #[] #[]] W fun e w'=>e= .returned (.bool true)/\aH W w'):=⟨fun W A c b1 ok1 ok2 h1 G=>by
    have e:m+1=l.length:=by rw[ab.out,HM.out]
    rw[e] at h1⊢;exact Jp k b1 bl ok1 ok2 A Al c cl l W h1 G d6.out (by rw[ab.out];omega)⟩
   clear hO K u HK D HT aL aF aP ch HF cb HU HG;rw[dx] at d0⊢;go_wp2_with (first|(go_at_call 49;(with_reducible refine d0.out.mono ?_);rintro e w5 ⟨rfl,idx,hp,d2,J,L⟩;have e4:=zA (ci.out idx hp d2);have e5:=zA J;have gb:=zA L;have e6:=zA (Kd.l9 e2.out (fun k hk e_=>L.block k e_ (fun e=>by injection e;omega)));have I:=zA (iY d1.out.gG _ d1.out.gG.size L (fun k e=>by injection e with e;subst e;exact Nat.le_trans T.out.gG.size e1));clear hp d2 J L)|(go_at_call 52;(with_reducible refine(e3.out _ _ _ _ _ _ (e4.out▸e5.out) e6.out).mono ?_);rintro e w6 ⟨rfl,⟨m6,rfl⟩⟩)|(go_at_call 26;refine(d3.out _).mono ?_;rintro e w9 ⟨rfl,hb⟩;have HZ:=zA (aQ (bU I.out m6) hb);clear hb))
   go_ret;exact⟨rfl,HZ.out⟩
end
section
attribute [local go_sem] Oper.semAt_some
def ll (pre:List (Int×Int)):Int:=pre.foldl (fun s x=>wrap64 (s+x.2)) 0
theorem Jt (pre:List (Int×Int)) (x:Int×Int):ll (pre++[x])=wrap64 (ll pre+x.2):=by simp[ll,List.foldl_append]
theorem Ju (k n d:Nat) (A0:Option Addr) (c0:Nat) (E:List S83) (L:List Int) (w:World) (S:Kd.C aM w A0 E.length E) (T:E.length<=c0) (aL:1<=n) (hn:n<=1000) (I:∀u:Nat,u<n->∃e,de.f k n E (u:Nat)=some (rd L u,e)) (hd:ll (gV L n)=d) (aO:d<=100000):
  Calls Tryz.prog 135 #[.agg #[.int .i64 n,.slice A0 E.length c0]] w fun e w'=>e= .returned (.int .i64 (((d/2:Nat):Int)-n+1))/\Below w.heap.size w w':=by
 have hu:=Tryz.underlying24;have U:=zA I;have V:=zA hd;have aP:(0:Int)<=(n:Int):=by omega
 clear I hd;refine(callsIn_wide (n:=10)).1 ?_;refine callsIn_of_wp_marks Tryz.func135 rfl trivial ?_ rfl;simp only[Tryz.ntmps135,List.size_toArray,List.length_cons,List.length_nil,Nat.reduceAdd,Nat.reduceSub,Array.replicate_succ,Array.replicate_zero,List.push_toArray,List.append_toArray,List.nil_append,List.cons_append];gi_wp2_with (first|(refine⟨trivial,?_⟩;gi_at_call 143;refine(callsIn_wide.2 (vu n _ _)).mono ?_;rintro e w3 ⟨rfl,rfl⟩))
 have q:=zA (a6 ((w.alloc (.cells #[.int .i64 n,.slice A0 E.length c0] 24)).alloc (.cells #[.int .i64 0] 3)) (.cells #[.int .i64 n,.slice A0 E.length c0] 24));have r:=zA (aq (a6 (w.alloc (.cells #[.int .i64 n,.slice A0 E.length c0] 24)) (.cells #[.int .i64 0] 3)) (.cells #[.int .i64 n,.slice A0 E.length c0] 24));have J:=zA (aq (aq (a6 w (.cells #[.int .i64 n,.slice A0 E.length c0] 24)) (.cells #[.int .i64 0] 3)) (.cells #[.int .i64 n,.slice A0 E.length c0] 24));have y:=zA (ai (ai (ai (aj w.heap.size w) (.cells #[.int .i64 n,.slice A0 E.length c0] 24)) (.cells #[.int .i64 0] 3)) (.cells #[.int .i64 n,.slice A0 E.length c0] 24));simp only[World.size_alloc] at q r;have X:=Nat.le_of_eq (show (((w.alloc (.cells #[.int .i64 n,.slice A0 E.length c0] 24)).alloc (.cells #[.int .i64 0] 3)).alloc (.cells #[.int .i64 n,.slice A0 E.length c0] 24)).heap.size=w.heap.size+3 by simp);have Y:=Nat.le_of_eq (show w.heap.size+3=(((w.alloc (.cells #[.int .i64 n,.slice A0 E.length c0] 24)).alloc (.cells #[.int .i64 0] 3)).alloc (.cells #[.int .i64 n,.slice A0 E.length c0] 24)).heap.size by simp);generalize ((w.alloc (.cells #[.int .i64 n,.slice A0 E.length c0] 24)).alloc (.cells #[.int .i64 0] 3)).alloc (.cells #[.int .i64 n,.slice A0 E.length c0] 24)=b at q r J y X Y⊢;refine gU (σ:=Unit) (α:=Int×Int) (F:=Fence.wide) (n:=10) rfl (by decide) (gf:=185) (lb:=#[.pointer (some ⟨w.heap.size+1+1,0,none⟩)]) rfl trivial (enters_of Tryz.func185 (by kernel_rfl) rfl)
  (fun o=>vz (w.heap.size+1+1) k n A0 c0 E L w _ S T hn U.out (ai (ai y.out _) _) (aq (aq q.out _) _)) (fun _=>rfl)
  (fun _=>True) ?dH ?st ?ar
  (fun _ pre W=>b.heap.size<=W.heap.size/\W.heap[w.heap.size+1]? =some (.cells #[.int .i64 (ll pre)] 3 (0,0))/\W.heap[w.heap.size]? =some (.cells #[.int .i64 n,.slice A0 E.length c0] 24 (0,0))/\Below w.heap.size w W) (fun _ _ _ _=>False)
  ?is (fun _ _ _ _ _ _ h _=>h) ?ib (fun _ _ _ _ _ h _=>h) ?kt ?h0 ?a1 ?assign ?body ?done (fun _ _ _ _ _ _ _ h=>h.elim)
 case assign=>
  intro l x W K Z;gi_wp2;exact Z
 case dH=>
  intro o s W1 h;exact⟨trivial,by rw[h];exact b8.refl _ _⟩
 case st=>intro s A B _ h;exact cS h
 case ar=>intro s x A B _ h;exact cS h.2
 case is=>
  rintro s pre A B _ ⟨g,h1,z,G⟩ j;exact⟨Nat.le_trans g j.size,az h1 j,az z j,aQ G j⟩
 case ib=>
  rintro s pre A B ⟨g,h1,z,G⟩ hb;exact⟨by rw[hb.size];exact g,hb.cells h1,hb.cells z,G.trans (hb.below w.heap.size (by omega))⟩
 case kt=>
  intro s A B C D m M N;refine⟨fun aT=>((m.below w.heap.size (by omega)).trans (M.1 (by rw[m.size];exact aT))).trans (N.below w.heap.size (by omega)),fun aa=>?_⟩;have O:w.heap.size+1+1≠b.heap.size+1:=by omega
  exact(N.heap _ O).trans ((M.2 (by rw[m.size];exact aa)).trans (m.heap _ O))
 case h0=>
  rintro o s W1 rfl;exact⟨by simp;omega,aq (aq r.out _) _,aq (aq J.out _) _,ai (ai y.out _) _⟩
 case body=>
  rintro l s' pre ⟨xv,xy⟩ Wb Wc W _ ⟨g,i1,i2,i3⟩ ⟨⟨v,a3,hx⟩,i⟩ ag a;injection hx with ak am
  subst ak;have H:=zA (a.cells (az i1 i));have I2:=zA (a.cells (az i2 i));have I3:=zA ((aQ i3 i).trans (a.below w.heap.size (by omega)));have ap:b.heap.size<=W.heap.size:=by have:=a.size;have:=i.size;omega
  have av:=zA (Jt pre ((v:Int),xy));clear i1 i2 i3 i a ag g am;have z1:=dc H.out;have z2:=bE H.out 0;gi_wp2;refine⟨eU _ _ (by omega),⟨fun _=>Below.setCell (p:=⟨w.heap.size+1,0,none⟩) (aj _ _) (by show w.heap.size<=w.heap.size+1;omega) _,fun _=>Below.heap_setCell _ _ _ _ (by show w.heap.size+1+1≠w.heap.size+1;omega)⟩,by simpa using ap,?_,aG I2.out (by show w.heap.size≠w.heap.size+1;omega) _,Below.setCell (p:=⟨w.heap.size+1,0,none⟩) I3.out (by show w.heap.size<=w.heap.size+1;omega) _⟩;rw[av.out];exact bH (cs:=#[.int .i64 (ll pre)]) H.out 0 _ rfl
 case done=>
  rintro s' xs W W' _ rfl ⟨g,i1,i2,i3⟩ a P;have Q:=zA (a.cells i1);have b2:=zA (a.cells i2);have b3:=zA (i3.trans (a.below w.heap.size (by omega)));have R:=zA P;clear i1 i2 i3 P;rw[V.out] at Q;have y1:=(ah Q.out 0).trans rfl;have y2:=(ah b2.out 0).trans rfl;have a9:(0:Int)<=(d:Int):=by omega
  gi_wp2;have aF:Bk b.heap.size W' (W'.putObj b.heap.size (.deferred none)):=⟨_,_,R.out,rfl,rfl⟩;exact iG (D:=b.heap.size) rfl R.out (results_tmp rfl _ _ _) ⟨by simp,b3.out.trans (aF.below w.heap.size (by omega))⟩
end
section
attribute [local go_sem] Oper.semAt_some jU jV jW jX
theorem Jv (k n gb:Nat) (A0:Option Addr) (c0:Nat) (E:List S83) (a:Option Addr) (c1:Nat) (d:List Int) (r:Int) (w:World) (b:Kd.C aM w A0 E.length E) (i:E.length<=c0) (g:Kd.C (Kd.int .i64) w a d.length d) (j:d.length<=c1) (hb:w.heap[gb]? =some (.cells #[.int .i64 n,.slice A0 E.length c0] 24 (0,0))) (h:eQ.f k n E d=some (r,0)):
  Calls Tryz.prog 138 #[.slice a d.length c1,.pointer (some ⟨gb,0,none⟩)] w fun e w'=>e= .returned (.tuple #[.int .i64 r,.int .i64 0])/\Below w.heap.size w w':=by
 have hu:=Tryz.underlying24;have H:=zA (eQ.calls k n A0 c0 E a c1 d r 0 w b i g j h);have l:w.cell? ⟨gb,0,none⟩=some (.int .i64 n):=(ah hb 0).trans rfl;have m:w.cell? ⟨gb,1,none⟩=some (.slice A0 E.length c0):=(ah hb 1).trans rfl;clear h b g hb;go_enter Tryz.func138,Tryz.ntmps138
 go_wp2_with (go_at_call 41;refine H.out.mono ?_;rintro e w1 ⟨rfl,hb⟩;have o:=zA hb;clear hb l m)
 go_ret2;exact⟨rfl,o.out⟩
def jA (a:List Int->Int) (L:List (List Int)):Int:=L.foldl (fun b d=>max b (a d)) (-1)
theorem Jw (a:List Int->Int) (L:List (List Int)) (d:List Int):jA a (L++[d])=max (jA a L) (a d):=by simp[jA,List.foldl_append]
theorem Jy (k n gb g cap base:Nat) (ok:Nat->Prop) (A0:Option Addr) (c0:Nat) (E:List S83) (L:List (List Int)) (a:List Int->Int) (w:World) (p:Kd.C aM w A0 E.length E) (x:E.length<=c0) (hb:w.heap[gb]? =some (.cells #[.int .i64 n,.slice A0 E.length c0] 24 (0,0))) (K:L.length<=16384)
  (q:Kd.N (Kd.slice 3 (Kd.int .i64)) 26 w base ok (.slice (some ⟨g,0,none⟩) L.length cap) L) (h:∀d∈L,eQ.f k n E d=some (a d,0)):
  Calls Tryz.prog 137 #[.slice (some ⟨g,0,none⟩) L.length cap,.func (.func 138) #[] #[.pointer (some ⟨gb,0,none⟩)]] w fun e w'=>e= .returned (.tuple #[.int .i64 (jA a L),.int .i64 0])/\Below w.heap.size w w':=by
 have y:=zA hb;have z:=zA q;have B:=zA h;have D:=zA p;clear hb q h p;go_enter Tryz.func137,Tryz.ntmps137
 go_wp2;go_loopg [6,13] (L.length) (fun F b i wr=>∃v:Nat,v<=L.length/\i= .int .i64 v/\b= .int .i64 (jA a (L.take v))/\Aside0 (Below w.heap.size w wr)/\Aside0 (F=L.length-v))
 case atStart=>exact⟨0,Nat.zero_le _,rfl,rfl,⟨aj _ _⟩,⟨rfl⟩⟩
 case round=>
  obtain⟨v,M,rfl,rfl,j,G⟩:=hrel;by_cases l:v<L.length
  ·have O:(0:Int)<=(v:Int):=by omega
   have P:(v:Int)<(L.length:Int):=by omega
   obtain⟨g2,H,cc,he,r,m,o⟩:=qc (Kd.fh z.out j.out) v l;injection he with he
   injection he with he
   subst he;have s:=zA (show jA a (L.take (v+1))=max (jA a (L.take v)) (a (L.getD v [])) by rw[List.take_succ_eq_append_getElem l,Jw,aW,bp l];rfl);have u:=zA (B.out (L.getD v []) (by rw[aW,bp l];exact List.getElem_mem l));generalize L.getD v []=d at r m o s u;have I:=zA (Jv k n gb A0 c0 E H cc d (a d) wr (Kd.ax D.out j.out) x (Kd.jb o) m (az y.out j.out) u.out);clear o m;go_wp2_with (go_at_call 138;refine I.out.mono ?_;rintro e w1 ⟨rfl,hb⟩;have J:=zA (aQ j.out hb);clear hb r)
   all_goals
    go_roundg (L.length- (v+1))
    case measure=>rw[G.out];omega
    case rel=>exact⟨v+1,by omega,by go_num,by rw[s.out];exact congrArg _ (by omega),J,⟨rfl⟩⟩
  ·obtain rfl:v=L.length:=by omega
   go_wp2;go_ret2;exact⟨by rw[List.take_length];rfl,j.out⟩
theorem Jz {α:Type} {d:Kd α} {W:World} {e base:Nat} {ok:Nat->Prop} {v:Value} {xs:List α} (h:Kd.N d e W base ok v xs) (hp:0<xs.length):∃g c,v= .slice (some ⟨g,0,none⟩) xs.length c:=by
 obtain⟨_,rows,a,b,_⟩:=h;rw[<-a] at hp⊢;exact te b hp
theorem zD {m:Nat} {idx:List (Fin (m+1))} {f:List Int->List Int} {C:List (List Int)} (hp:idx.Perm (List.finRange (m+1))) (hC:C.length=m+1):(idx.map fun i=>(C.map f).getD i.1 []).Perm (C.map f):=by
 refine(hp.map _).trans (List.Perm.of_eq ?_);refine List.ext_getElem (by simp[hC]) fun i h1 a=>?_
 simp only[List.length_map] at a;simp[bp a]
theorem JA {m k:Nat} {n:Int} {E:List S83} {a:List Int->Int} {idx:List (Fin (m+1))} {f:List Int->List Int} {C:List (List Int)} (hp:idx.Perm (List.finRange (m+1))) (hC:C.length=m+1) (h:∀c∈C,eQ.f k n E (f c)=some (a (f c),0)):∀d∈idx.map fun i=>(C.map f).getD i.1 [],eQ.f k n E d=some (a d,0):=fun d hd=>by
 obtain⟨c,b,rfl⟩:=List.mem_map.1 ((zD hp hC).mem_iff.1 hd);exact h c b
theorem JB (k n m d:Nat) (A0:Option Addr) (c0:Nat) (E:List S83) (bd:Int) (q:List Int) (C:List (List Int)) (r:List Int->Int) (s:Fin (m+1)->Fin (m+1)->Int) (w:World) (G:Kd.C aM w A0 E.length E) (a:E.length<=c0) (hn:2<=n) (Y:n<=12) (a0:0<=bd) (Z:bd<=1048576)
  (H:ez.f k n E=some 0) (I:∀u:Nat,u<n->∃e,de.f k n E (u:Nat)=some (rd q u,e)) (hd:ll (gV q n)=d) (J:d<=100000) (aa:bd<=2*(((d/2:Nat):Int)-n+1)-2)
  (K:dU.f k n E []=some 0) (M:eY.f k n E 0=some (C,0)) (N:∀c∈C,c.length=n) (x:C.length=m+1) (y:C.length<=16384) (O:∀c∈C,bz.f k (da bd c) n=some 0)
  (P:∀i j:Fin (m+1),cA.f k ((C.map (da bd)).getD i.1 []) ((C.map (da bd)).getD j.1 [])=some (s i j)) (hO:Go.Sort.SWO (ltOf s)) (Q:∀c∈C,eQ.f k n E (da bd c)=some (r (da bd c),0)):
  Calls Tryz.prog 82 #[.agg #[.int .i64 n,.slice A0 E.length c0],.int .i64 bd] w fun e w'=>∃L:List (List Int),L.Perm (C.map (da bd))/\e= .returned (.tuple #[.int .i64 (jA r L),.int .i64 0])/\Below w.heap.size w w':=by
 have hu:=Tryz.underlying24;have z:=zA (a6 w (.cells #[.int .i64 n,.slice A0 E.length c0] 24));have H1:=zA (fun W h=>ez.calls k n A0 c0 E 0 W h a H);have R:=zA (fun W h=>Ju k n d A0 c0 E q W h a (by omega) (by omega) I hd J);have H3:=zA (fun W h=>Jc k n m A0 c0 E bd C s W h a hn Y (by omega) Z K M N x y O P hO);have H4:=zA (fun gb g cap base ok L W h1 h2 h3 h4 S=>Jy k n gb g cap base ok A0 c0 E L r W h1 a h2 h3 h4 S);have an:=zA Q;have b:=zA x;have ao:=zA y;have S:¬bd< -1048576:=by omega
 have h6:¬1048576<bd:=by omega
 have h7:¬bd<0:=by omega
 have ap:((d/2:Nat):Int)-n+1<=100000:=by omega
 generalize ((d/2:Nat):Int)-n+1=T at R aa ap;have a3:1<=T:=by omega
 have h8:¬2*T-2<bd:=by omega
 have b0:(w.alloc (.cells #[.int .i64 n,.slice A0 E.length c0] 24)).cell? ⟨w.heap.size,0,none⟩=some (.int .i64 n):=(ah z.out 0).trans rfl;have b1:(w.alloc (.cells #[.int .i64 n,.slice A0 E.length c0] 24)).cell? ⟨w.heap.size,1,none⟩=some (.slice A0 E.length c0):=(ah z.out 1).trans rfl;have l:=zA G;clear H I hd J K M N x y O P hO Q G;go_enter Tryz.func82,Tryz.ntmps82
 go_wp2_with (first|(go_at_call 55;refine(H1.out _ (Kd.bC l.out _)).mono ?_;rintro e w1 ⟨rfl,hb⟩;have U:=zA (aQ (ai (aj w.heap.size w) _) hb);have B:=zA (az z.out hb);clear hb;have y0:w1.cell? ⟨w.heap.size,0,none⟩=some (.int .i64 n):=(ah B.out 0).trans rfl;have y1:w1.cell? ⟨w.heap.size,1,none⟩=some (.slice A0 E.length c0):=(ah B.out 1).trans rfl)|(go_at_call 135;refine(R.out _ (Kd.ax l.out U.out)).mono ?_;rintro e w2 ⟨rfl,hb⟩;have V:=zA (aQ U.out hb);have D:=zA (az B.out hb);clear hb;have z0:w2.cell? ⟨w.heap.size,0,none⟩=some (.int .i64 n):=(ah D.out 0).trans rfl;have z1:w2.cell? ⟨w.heap.size,1,none⟩=some (.slice A0 E.length c0):=(ah D.out 1).trans rfl)|(go_at_call 136;refine(H3.out _ (Kd.ax l.out V.out)).mono ?_;rintro e w3 ⟨v,idx,rfl,hp,ar,o,hb⟩;have X:=zA (aQ V.out hb);have X3:=zA (az D.out hb);have p:=zD (f:=da bd) hp b.out;have F:=JA hp b.out an.out;generalize (idx.map fun i=>(C.map (da bd)).getD i.1 [])=L2 at o p F;have hlen:=p.length_eq;rw[List.length_map,b.out] at hlen;have aF:=zA (show L2.length<=16384 by have:=ao.out;have:=b.out;omega);obtain⟨gs,cs,rfl⟩:=Jz o (by omega);have HN:=zA o;have HP:=zA p;have aP:=zA F;clear hb o hp ar p F hlen)|(go_at_call 137;(with_reducible refine(H4.out _ _ _ _ _ _ _ (Kd.ax l.out X.out) X3.out aF.out HN.out aP.out).mono ?_);rintro e w4 ⟨rfl,hb⟩;have aS:=zA (aQ X.out hb);clear hb))
 go_ret2;exact⟨_,HP.out,rfl,aS.out⟩
end
def cN:List S83:=[⟨0,1,1⟩,⟨0,2,1⟩,⟨1,2,1⟩]
def jQ:List (List Int):=[[0,0,0],[0,0,1],[0,1,0]]
theorem JC:ez.f 60 3 cN=some 0:=by decide+kernel
theorem JD:∀u:Nat,u<3->∃e,de.f 60 3 cN (u:Nat)=some (rd [2,2,2] u,e)
 |0,_=>⟨0,by decide+kernel⟩
 |1,_=>⟨0,by decide+kernel⟩
 |2,_=>⟨0,by decide+kernel⟩
theorem JE:ll (gV [2,2,2] 3)=((6:Nat):Int):=by decide+kernel
theorem JF:dU.f 60 3 cN []=some 0:=by decide+kernel
theorem JG:eY.f 60 3 cN 0=some (jQ,0):=by decide+kernel
theorem JH:∀c∈jQ,bz.f 60 (da 0 c) 3=some 0:=by decide+kernel
def tg (i j:Fin 3):Int:=(cA.f 60 ((jQ.map (da 0)).getD i.1 []) ((jQ.map (da 0)).getD j.1 [])).getD 0
theorem JI:∀i j:Fin 3,cA.f 60 ((jQ.map (da 0)).getD i.1 []) ((jQ.map (da 0)).getD j.1 [])=some (tg i j):=by decide+kernel
theorem JJ:Go.Sort.SWO (ltOf tg):=⟨by decide+kernel,by decide+kernel,by decide+kernel⟩
theorem th {d:List Int} (h:jw 3 cN 0 d=true):eP 3 0 cN d:=by
 obtain⟨n,q,hn,a,h1⟩:=pT h;obtain rfl:n=3:=by omega
 obtain rfl:q=0:=by omega
 exact h1
theorem JK:cL ((3:Nat):Int) cN=0:=by decide+kernel
theorem JL:T.ep 3 (af cN) 1:=show T.sN (T.can 3 (af cN)) 3=2*1-2 from by decide+kernel
theorem JM:Ev (fun k=>eI.f k 3 cN) ((3:Int),cN,(0:Int)):=Ev.at_ (eI.mono _ _) (k:=60) (by kernel_rfl)
theorem JN:Ev (fun k=>fu.f k 3 cN) ((1:Int),(0:Int)):=Ev.at_ (fu.mono _ _) (k:=60) (by decide+kernel)
theorem zF:eP 3 0 cN [0,0,0]:=th (by decide+kernel)
theorem JO:eP 3 0 cN [-1,0,1]:=th (by decide+kernel)
theorem JP:eP 3 0 cN [-1,1,0]:=th (by decide+kernel)
theorem qd:T.Wt 3 (af cN):=zF.right.wt
theorem JQ {c:Nat->Int} (h:(c 1=0/\c 2=1)\/(c 1=1/\c 2=0)):T.iN 3 (af cN) 0 c:=fun S hS e=>by
 have t10:af cN 1 0=1:=by decide+kernel
 have t12:af cN 1 2=1:=by decide+kernel
 have t20:af cN 2 0=1:=by decide+kernel
 have t21:af cN 2 1=1:=by decide+kernel
 cases h1:S 1 with
 |true=>
  cases a:S 2 with
  |true=>
   rcases h with h|h
   ·exact⟨1,by omega,h1,by simp[T.sN,e,h1,a,t10,h.1]⟩
   ·exact⟨2,by omega,a,by simp[T.sN,e,h1,a,t20,h.2]⟩
  |false=>exact⟨1,by omega,h1,by simp[T.sN,e,h1,a,t10,t12];omega⟩
 |false=>
  cases a:S 2 with
  |true=>exact⟨2,by omega,a,by simp[T.sN,e,h1,a,t20,t21];omega⟩
  |false=>
   obtain⟨v,g,b⟩:=hS;match v,g with
   |0,_=>rw[e] at b;cases b
   |1,_=>rw[h1] at b;cases b
   |2,_=>rw[a] at b;cases b
theorem JR:T.cu 3 (af cN) (fun _=>0) 0:=by
 obtain⟨r,a⟩:=T.j7 qd (by decide) (fun _=>(0:Int));have h1:r≠ -1:=fun e=>by
  subst e;exact(T.cu.mA (by decide) a).1 rfl (T.cn.pk fun _ _=>Int.le_refl _)
 have g:=a.1;have b:=a.rH qd (by decide) (by omega);rw[T.kH] at b;obtain rfl:r=0:=by omega
 exact a
theorem JS:Rk 3 (af cN) [0,0,0] 0:=sZ (fun v a=>by
  match v,a with
  |0,_=>rfl
  |1,_=>rfl
  |2,_=>rfl) JR
theorem zH {d:List Int} (h:(rd d 1=0/\rd d 2=1)\/(rd d 1=1/\rd d 2=0)) (g:rd d 0= -1):Rk 3 (af cN) d (-1):=by
 obtain⟨r,a⟩:=T.j7 qd (by decide) (fun v=>rd d (v:Nat));have hw:¬T.cn 3 (af cN) (fun v=>rd d (v:Nat)):=fun hw=>by
  have a:=(T.mz qd (q:=0) (by decide) ⟨fun v b e=>by
   match v,b with
   |0,_=>exact absurd rfl e
   |1,_=>rcases h with h|h<;>(show 0<=rd d 1;omega)
   |2,_=>rcases h with h|h<;>(show 0<=rd d 2;omega),JQ h⟩).1 hw
  have:(0:Int)<=rd d 0:=a;omega
 obtain rfl:=(T.cu.mA (by decide) a).2 hw;exact a
theorem ti {d:List Int} (h:eP 3 0 cN d) {r:Int} (a:Rk 3 (af cN) d r):Ev (fun k=>eQ.f k 3 cN d) (r,(0:Int)):=
 zq (n:=3) h JK JM JN JL a
def ln (d:List Int):Int:=if d=[0,0,0] then 0 else -1
theorem JT:∃K,60<=K/\∀c∈jQ,eQ.f K 3 cN (da 0 c)=some (ln (da 0 c),0):=by
 obtain⟨b,g⟩:=ti zF JS;obtain⟨B1,h1⟩:=ti JO (zH (.inl ⟨rfl,rfl⟩) rfl);obtain⟨e,h⟩:=ti JP (zH (.inr ⟨rfl,rfl⟩) rfl);refine⟨60+b+B1+e,by omega,fun c a=>?_⟩;rcases List.mem_cons.1 a with rfl|a
 ·rw[show da 0 [0,0,0]=[0,0,0] by decide+kernel,show ln [0,0,0]=0 by decide+kernel]
  exact g (60+b+B1+e) (by omega)
 rcases List.mem_cons.1 a with rfl|a
 ·rw[show da 0 [0,0,1]=[-1,0,1] by decide+kernel,show ln [-1,0,1]= -1 by decide+kernel]
  exact h1 (60+b+B1+e) (by omega)
 rcases List.mem_cons.1 a with rfl|a
 ·rw[show da 0 [0,1,0]=[-1,1,0] by decide+kernel,show ln [-1,1,0]= -1 by decide+kernel]
  exact h (60+b+B1+e) (by omega)
 ·cases a
open Classical in
noncomputable def gA.f (k:Nat) (a:Int) (b:List (S83)) (e:Int):Option (Int×Int):=if a=3/\b=cN/\e=0 then some (0,0) else none
theorem gA.mono:∀a b e k,al (gA.f k a b e) (gA.f (k+1) a b e):=fun _ _ _ _=>al.refl _
theorem JU (A0:Option Addr) (c0:Nat) (w:World) (b:Kd.C aM w A0 cN.length cN) (g:cN.length<=c0):
  Calls Tryz.prog 82 #[.agg #[.int .i64 3,.slice A0 cN.length c0],.int .i64 0] w fun e w'=>e= .returned (.tuple #[.int .i64 0,.int .i64 0])/\Below w.heap.size w w':=by
 obtain⟨K,a,h⟩:=JT;refine(JB K 3 2 6 A0 c0 cN 0 [2,2,2] jQ ln tg w b g (by decide) (by decide) (by decide) (by decide)
  (lX (ez.mono _ _) a JC) (fun u hu=>by obtain⟨e,he⟩:=JD u hu;exact⟨e,lX (de.mono _ _ _) a he⟩) JE (by decide) (by decide)
  (lX (dU.mono _ _ _) a JF) (lX (eY.mono _ _ _) a JG) (by decide+kernel) rfl (by decide) (fun c k=>lX (bz.mono _ _) a (JH c k)) (fun i j=>lX (cA.mono _ _) a (JI i j)) JJ h).mono ?_
 rintro e w' ⟨L,hp,rfl,hb⟩;have h1:jA ln L=jA ln (jQ.map (da 0)):=hp.foldl_eq' (fun x _ y _ z=>by omega) _;have l:jA ln (jQ.map (da 0))=0:=by decide+kernel
 rw[h1,l];exact⟨rfl,hb⟩
theorem gA.calls (k:Nat) (b:Int) (g:Option Addr) (i:Nat) (a:List (S83)) (j:Int) (m:Int) (n:Int) (w:World) (o:Kd.C aM w g a.length a) (p:a.length<=i) (h:gA.f k b a j=some (m,n)):
  Calls Tryz.prog 82 #[.agg #[.int .i64 b,.slice g a.length i],.int .i64 j] w fun e w'=>e= .returned (.tuple #[.int .i64 m,.int .i64 n])/\Below w.heap.size w w':=by
 unfold gA.f at h;by_cases l:b=3/\a=cN/\j=0
 ·rw[if_pos l] at h
  obtain⟨rfl,rfl,rfl⟩:=l;injection h with h
  injection h with h1 q
  subst h1 q;exact JU g i w o p
 ·rw[if_neg l] at h;cases h
theorem JV:Ev (fun k=>gA.f k 3 cN 0) ((0:Int),(0:Int)):=Ev.at_ (gA.mono _ _ _) (k:=0) (by unfold gA.f;rw[if_pos ⟨rfl,rfl,rfl⟩])
end Go.Proofs.YtffdiakgjakngaaGreat.P


namespace Go.Proofs.YtffdiakgjakngaaGreat.P
open Go.RowKit Go.Proofs.YtffdiakgjakngaaGreatW.PrintWords Go.Proofs.YtffdiakgjakngaaGreatW.PrintLast Go.Proofs.YtffdiakgjakngaaGreatW.PrintMore
set_option linter.unusedVariables false
set_option linter.unusedSimpArgs false
set_option maxHeartbeats 8000000
set_option maxRecDepth 100000
section
attribute [local go_sem] jU jV jW jX nc nf ng nh
noncomputable def bM.j0:Nat->List (List Int)->Bool->Option (Bool)
 |0,_,_=>none
 |k+1,a,b=>if b=true then(some false) else(if 0<(a.length:Int) then((bB.f k (aZ a 0) (([(-1),0,1]:List Int))).bind fun t259=>(if t259=true then(if 1<(a.length:Int) then((bB.f k (aZ a 1) (([(-1),1,0]:List Int))).bind fun t264=>(some t264)) else(none)) else(some false))) else(none))
noncomputable def bM.f (k:Nat):Option (Bool):=(some (([(⟨0,1,1⟩:S83),(⟨0,2,1⟩:S83),(⟨0,3,1⟩:S83),(⟨1,2,1⟩:S83),(⟨1,3,1⟩:S83),(⟨2,3,1⟩:S83)]:List (S83)):List (S83))).bind fun b=>((some (([(⟨0,1,1⟩:S83),(⟨0,2,1⟩:S83),(⟨1,2,1⟩:S83)]:List (S83)):List (S83))).bind fun e=>((fx.f k 4 b).bind fun g=>((fe.f k 4 b (([1,1,1,0]:List Int))).bind fun h=>((iX.f k 4 b (([1,1,1,0]:List Int))).bind fun i=>((bR.f k 3 e 0).bind fun a=>((gA.f k 3 e 0).bind fun j=>(if(wrap64 ((wrap64 ((wrap64 ((wrap64 (g.2+h.2))+i.2))+a.2))+j.2))=0 then((bB.f k g.1 (([1,1,1,1]:List Int))).bind fun t250=>(if t250=true then((bB.f k h.1 (([0,0,0,1]:List Int))).bind fun t254=>(if t254=true then(if i.1=1 then(if j.1=0 then(bM.j0 k a.1 ((a.1.length:Int) != 2)) else(bM.j0 k a.1 true)) else(bM.j0 k a.1 true)) else(bM.j0 k a.1 true))) else(bM.j0 k a.1 true))) else(bM.j0 k a.1 true))))))))
theorem bM.cE:∀k,(∀a b,al (bM.j0 k a b) (bM.j0 (k+1) a b))
 |0=>fun _ _ r h=>by simp[bM.j0] at h
 |k+1=>by
  have e:=bM.cE k
  ·intro a b
   unfold bM.j0;with_reducible repeat' first|exact e _ _|exact bB.mono _ _ _|exact iX.mono _ _ _ _|exact gA.mono _ _ _ _|exact fx.mono _ _ _|exact fe.mono _ _ _ _|exact bR.mono _ _ _ _|exact al.refl _|exact al.none _|refine al.ite ?_ ?_|refine al.bind ?_ (fun _=>?_)
theorem bM.calls (k:Nat)  (r:Bool) (hr:Aside0 (r=true)) (w:World) (h:bM.f k=some r):
  Calls Tryz.prog 26 #[] w fun e w'=>e= .returned (.bool r)/\Below w.heap.size w w':=by
 have hy:=Tryz.underlying83;have hz:=Tryz.underlying24;have l:=zA (aj w.heap.size w);unfold bM.f at h;have H:=h;clear h;obtain⟨B,ch⟩:∃F:List (S83),F=(([(⟨0,1,1⟩:S83),(⟨0,2,1⟩:S83),(⟨0,3,1⟩:S83),(⟨1,2,1⟩:S83),(⟨1,3,1⟩:S83),(⟨2,3,1⟩:S83)]:List (S83))):=⟨_,rfl⟩;replace H:((some (([(⟨0,1,1⟩:S83),(⟨0,2,1⟩:S83),(⟨1,2,1⟩:S83)]:List (S83)):List (S83))).bind fun E=>((fx.f k 4 B).bind fun a2=>((fe.f k 4 B (([1,1,1,0]:List Int))).bind fun ar=>((iX.f k 4 B (([1,1,1,0]:List Int))).bind fun Q=>((bR.f k 3 E 0).bind fun v=>((gA.f k 3 E 0).bind fun S=>(if(wrap64 ((wrap64 ((wrap64 ((wrap64 (a2.2+ar.2))+Q.2))+v.2))+S.2))=0 then((bB.f k a2.1 (([1,1,1,1]:List Int))).bind fun t250=>(if t250=true then((bB.f k ar.1 (([0,0,0,1]:List Int))).bind fun t254=>(if t254=true then(if Q.1=1 then(if S.1=0 then(bM.j0 k v.1 ((v.1.length:Int) != 2)) else(bM.j0 k v.1 true)) else(bM.j0 k v.1 true)) else(bM.j0 k v.1 true))) else(bM.j0 k v.1 true))) else(bM.j0 k v.1 true))))))))=some r:=zh ch H;have dd:=zA ch;clear ch;obtain⟨E,ci⟩:∃F:List (S83),F=(([(⟨0,1,1⟩:S83),(⟨0,2,1⟩:S83),(⟨1,2,1⟩:S83)]:List (S83))):=⟨_,rfl⟩;replace H:((fx.f k 4 B).bind fun a2=>((fe.f k 4 B (([1,1,1,0]:List Int))).bind fun ar=>((iX.f k 4 B (([1,1,1,0]:List Int))).bind fun Q=>((bR.f k 3 E 0).bind fun v=>((gA.f k 3 E 0).bind fun S=>(if(wrap64 ((wrap64 ((wrap64 ((wrap64 (a2.2+ar.2))+Q.2))+v.2))+S.2))=0 then((bB.f k a2.1 (([1,1,1,1]:List Int))).bind fun t250=>(if t250=true then((bB.f k ar.1 (([0,0,0,1]:List Int))).bind fun t254=>(if t254=true then(if Q.1=1 then(if S.1=0 then(bM.j0 k v.1 ((v.1.length:Int) != 2)) else(bM.j0 k v.1 true)) else(bM.j0 k v.1 true)) else(bM.j0 k v.1 true))) else(bM.j0 k v.1 true))) else(bM.j0 k v.1 true)))))))=some r:=zh ci H;have dk:=zA ci;clear ci;obtain⟨⟨t225,t228⟩,A1,H⟩:=zo H;dsimp only at H;obtain⟨bo,cj⟩:∃F:List Int,F=(([1,1,1,0]:List Int)):=⟨_,rfl⟩;replace H:((fe.f k 4 B bo).bind fun ar=>((iX.f k 4 B (([1,1,1,0]:List Int))).bind fun Q=>((bR.f k 3 E 0).bind fun v=>((gA.f k 3 E 0).bind fun S=>(if(wrap64 ((wrap64 ((wrap64 ((wrap64 (t228+ar.2))+Q.2))+v.2))+S.2))=0 then((bB.f k t225 (([1,1,1,1]:List Int))).bind fun t250=>(if t250=true then((bB.f k ar.1 (([0,0,0,1]:List Int))).bind fun t254=>(if t254=true then(if Q.1=1 then(if S.1=0 then(bM.j0 k v.1 ((v.1.length:Int) != 2)) else(bM.j0 k v.1 true)) else(bM.j0 k v.1 true)) else(bM.j0 k v.1 true))) else(bM.j0 k v.1 true))) else(bM.j0 k v.1 true))))))=some r:=zh cj H;have dl:=zA cj;clear cj;obtain⟨⟨t232,t235⟩,A2,H⟩:=zo H;dsimp only at H;obtain⟨bq,ck⟩:∃F:List Int,F=(([1,1,1,0]:List Int)):=⟨_,rfl⟩;replace H:((iX.f k 4 B bq).bind fun Q=>((bR.f k 3 E 0).bind fun v=>((gA.f k 3 E 0).bind fun S=>(if(wrap64 ((wrap64 ((wrap64 ((wrap64 (t228+t235))+Q.2))+v.2))+S.2))=0 then((bB.f k t225 (([1,1,1,1]:List Int))).bind fun t250=>(if t250=true then((bB.f k t232 (([0,0,0,1]:List Int))).bind fun t254=>(if t254=true then(if Q.1=1 then(if S.1=0 then(bM.j0 k v.1 ((v.1.length:Int) != 2)) else(bM.j0 k v.1 true)) else(bM.j0 k v.1 true)) else(bM.j0 k v.1 true))) else(bM.j0 k v.1 true))) else(bM.j0 k v.1 true)))))=some r:=zh ck H
 have ds:=zA ck;clear ck;obtain⟨⟨t239,t240⟩,A3,H⟩:=zo H;dsimp only at H;obtain⟨⟨t241,t244⟩,A4,H⟩:=zo H;dsimp only at H;obtain⟨⟨t245,t246⟩,A5,H⟩:=zo H;dsimp only at H;have cl:=zA H;clear H;go_enter Tryz.func26,Tryz.ntmps26
 go_upto_region 8 with (first|((with_reducible refine aU (N:=19) rfl ?_);(try(refine eh (by rfl) ?_;dsimp only));refine Kd.fy aM _ 83 ?hg (N:=19) ?hd (xs:=([(⟨0,1,1⟩:S83),(⟨0,2,1⟩:S83),(⟨0,3,1⟩:S83),(⟨1,2,1⟩:S83),(⟨1,3,1⟩:S83),(⟨2,3,1⟩:S83)]:List (S83))) (inner:=[.int .i64 0,.int .i64 1,.int .i64 1,.int .i64 0,.int .i64 2,.int .i64 1,.int .i64 0,.int .i64 3,.int .i64 1,.int .i64 1,.int .i64 2,.int .i64 1,.int .i64 1,.int .i64 3,.int .i64 1,.int .i64 2,.int .i64 3,.int .i64 1]) (ok:=fun _=>True) (okp:=fun _=>True) ?hr ?hp (fun _ hk=>hk) trivial (aj _ _) (aI _) (by simp) ?_;(case hd=>rfl);(case hg=>rfl);(case hr=>first|(go_simp;done)|(go_simp;rfl));(case hp=>exact(aV.c3 (show Kd.M aM _ _ _ (⟨0,1,1⟩:S83) [.int .i64 0,.int .i64 1,.int .i64 1] from(jD _ _ _ (⟨0,1,1⟩:S83))) (aV.c3 (show Kd.M aM _ _ _ (⟨0,2,1⟩:S83) [.int .i64 0,.int .i64 2,.int .i64 1] from(jD _ _ _ (⟨0,2,1⟩:S83))) (aV.c3 (show Kd.M aM _ _ _ (⟨0,3,1⟩:S83) [.int .i64 0,.int .i64 3,.int .i64 1] from(jD _ _ _ (⟨0,3,1⟩:S83))) (aV.c3 (show Kd.M aM _ _ _ (⟨1,2,1⟩:S83) [.int .i64 1,.int .i64 2,.int .i64 1] from(jD _ _ _ (⟨1,2,1⟩:S83))) (aV.c3 (show Kd.M aM _ _ _ (⟨1,3,1⟩:S83) [.int .i64 1,.int .i64 3,.int .i64 1] from(jD _ _ _ (⟨1,3,1⟩:S83))) (aV.c3 (show Kd.M aM _ _ _ (⟨2,3,1⟩:S83) [.int .i64 2,.int .i64 3,.int .i64 1] from(jD _ _ _ (⟨2,3,1⟩:S83))) (aV.none _ _))))))));intro v218 w7 a3 hb y z;clear y z;(first|rw[<-dd.out] at a3|(simp only[Int.reduceToNat] at a3;rw[<-dd.out] at a3));have i:=zA (Kd.bc a3 (bO zB));replace l:=zS l hb;clear hb a3;obtain⟨J,G,er⟩:=Kd.bh i.out;subst er)|((with_reducible refine aU (N:=1) rfl ?_);(try(refine eh (by rfl) ?_;dsimp only));refine zX 1 #[.int .i64 0,.slice none 0 0] 24 ?_;intro K hg hB a4 hb;replace i:=bF i hb;have b:=zA (a4);have hC:=zG l hg;have hD:=zG l hg;replace l:=zS l hb;clear hb a4 hg;obtain⟨es,ev,ew,ex⟩:=aC b)|((with_reducible refine aU (N:=24) rfl ?_);(try(refine eh (by rfl) ?_;dsimp only));refine Kd.fy aM _ 83 ?hg (N:=24) ?hd (xs:=([(⟨0,1,1⟩:S83),(⟨0,2,1⟩:S83),(⟨1,2,1⟩:S83)]:List (S83))) (inner:=[.int .i64 0,.int .i64 1,.int .i64 1,.int .i64 0,.int .i64 2,.int .i64 1,.int .i64 1,.int .i64 2,.int .i64 1]) (ok:=fun _=>True) (okp:=fun _=>True) ?hr ?hp (fun _ hk=>hk) trivial (aj _ _) (aI _) (by simp) ?_;(case hd=>rfl);(case hg=>rfl);(case hr=>first|(go_simp;done)|(go_simp;rfl));(case hp=>exact(aV.c3 (show Kd.M aM _ _ _ (⟨0,1,1⟩:S83) [.int .i64 0,.int .i64 1,.int .i64 1] from(jD _ _ _ (⟨0,1,1⟩:S83))) (aV.c3 (show Kd.M aM _ _ _ (⟨0,2,1⟩:S83) [.int .i64 0,.int .i64 2,.int .i64 1] from(jD _ _ _ (⟨0,2,1⟩:S83))) (aV.c3 (show Kd.M aM _ _ _ (⟨1,2,1⟩:S83) [.int .i64 1,.int .i64 2,.int .i64 1] from(jD _ _ _ (⟨1,2,1⟩:S83))) (aV.none _ _)))));intro v222 hE aP hb y z;clear y z;(first|rw[<-dk.out] at aP|(simp only[Int.reduceToNat] at aP;rw[<-dk.out] at aP));have q:=zA (Kd.bc (Kd.bS aP (Kd.a8 (by(with_reducible repeat(first|apply Kd.aK|apply Kd.bJ|apply Kd.bA));exact(Kd.a_ (Kd.ee (p:=⟨K,1,none⟩) (Kd.ee (p:=⟨K,0,none⟩) (Kd.iC i.out b.out (by decide)) (fun _ hk=>hk.2) (.int .i64 4)) (fun _ hk=>hk.2) (.slice J B.length G)) (fun _ h_=>h_.1))))) (bO zB));replace i:=zA (Kd.tM (by(with_reducible repeat(first|apply Kd.aK|apply Kd.bJ|apply Kd.bA));exact(Kd.a_ (Kd.ee (p:=⟨K,1,none⟩) (Kd.ee (p:=⟨K,0,none⟩) (Kd.iC i.out b.out (by decide)) (fun _ hk=>hk.2) (.int .i64 4)) (fun _ hk=>hk.2) (.slice J B.length G)) (fun _ h_=>h_.1))) (Kd.dK aP) hb);replace b:=zA (az (g:=K) (o:=.cells #[.int .i64 4,.slice J B.length G] 24 (0,0)) (by refine zk ?_;refine bH (cs:=#[.int .i64 4,.slice none 0 0]) ?_ 1 _ rfl;refine zk ?_;refine bH (cs:=#[.int .i64 0,.slice none 0 0]) ?_ 0 _ rfl;exact zK b) hb);replace l:=zS l hb;clear hb aP;obtain⟨L,O,ey⟩:=Kd.bh q.out;subst ey)|((with_reducible refine aU (N:=2) rfl ?_);(try(refine eh (by rfl) ?_;dsimp only));refine zX 2 #[.int .i64 0,.slice none 0 0] 24 ?_;intro P hg hG a4 hb;replace i:=bF i hb;replace q:=bF q hb;have j:=zA (a4);have hH:=zG l hg;have hI:=zG l hg;replace l:=zS l hb;have co:=zA ((by rw[hg];exact Nat.ne_of_lt (ay (g:=K) (o:=.cells #[.int .i64 4,.slice J B.length G] 24 (0,0)) (zK b)):K≠P));have e0:=zA ((by rw[hg];exact Nat.ne_of_gt (ay (g:=K) (o:=.cells #[.int .i64 4,.slice J B.length G] 24 (0,0)) (zK b)):P≠K));replace b:=zb b hb;clear hb a4 hg;have hJ:=e0.out;have hK:=co.out;obtain⟨e1,e2,e3,e4⟩:=aC j;obtain⟨e5,e6,e',fb⟩:=aC b)|((with_reducible refine aR (f:=35) rfl ?_);refine zL (some 28) Tryz.func35 #[.agg #[.int .i64 4,.slice J B.length G]] ?_;(with_reducible refine(fx.calls k 4 _ _ B t225 t228 _ ?au ?aw A1.out).mono ?_);(case au=>refine(Kd.aN (e:=83) (base:=w.heap.size) (ok:=fun C=>(True/\some C≠(.slice L E.length O:Value).ownBlock)) (n:=B.length) (c:=G) ?_).2.2;exact(by(with_reducible repeat(first|apply Kd.aK|apply Kd.bJ|apply Kd.bA));exact(Kd.a_ (Kd.ee (p:=⟨P,1,none⟩) (Kd.ee (p:=⟨P,0,none⟩) (Kd.iC i.out j.out (by decide)) (fun _ hk=>hk.2) (.int .i64 3)) (fun _ hk=>hk.2) (.slice L E.length O)) (fun _ h_=>h_.1))));(case aw=>exact(Kd.aN i.out).2.1);rintro e hL ⟨v226,rfl,aa,hb⟩;refine⟨_,rfl,?_⟩;replace i:=zA (Kd.cz (by(with_reducible repeat(first|apply Kd.aK|apply Kd.bJ|apply Kd.bA));exact(Kd.a_ (Kd.ee (p:=⟨P,1,none⟩) (Kd.ee (p:=⟨P,0,none⟩) (Kd.iC i.out j.out (by decide)) (fun _ hk=>hk.2) (.int .i64 3)) (fun _ hk=>hk.2) (.slice L E.length O)) (fun _ h_=>h_.1))) hb);replace q:=zA (Kd.cz (by(with_reducible repeat(first|apply Kd.aK|apply Kd.bJ|apply Kd.bA));exact(Kd.a_ (Kd.ee (p:=⟨P,1,none⟩) (Kd.ee (p:=⟨P,0,none⟩) (Kd.iC q.out j.out (by decide)) (fun _ hk=>hk.2) (.int .i64 3)) (fun _ hk=>hk.2) (.slice L E.length O)) (fun _ h_=>h_.1))) hb);have a:=zA (Kd.bc aa (bO zB));replace b:=zA (az (g:=K) (o:=.cells #[.int .i64 4,.slice J B.length G] 24 (0,0)) (by refine zk ?_;refine aG ?_ co.out _;refine zk ?_;refine aG ?_ co.out _;exact zK b) hb);replace j:=zA (az (g:=P) (o:=.cells #[.int .i64 3,.slice L E.length O] 24 (0,0)) (by refine zk ?_;refine bH (cs:=#[.int .i64 3,.slice none 0 0]) ?_ 1 _ rfl;refine zk ?_;refine bH (cs:=#[.int .i64 0,.slice none 0 0]) ?_ 0 _ rfl;exact zK j) hb);replace l:=zS l hb;(try clear hb);(try clear aa);obtain⟨fd,fn,fo,fq⟩:=aC b)|((with_reducible refine aU (N:=33) rfl ?_);(try(refine eh (by rfl) ?_;dsimp only));refine Kd.fy (Kd.int .i64) _ 3 ?hg (N:=33) ?hd (xs:=([1,1,1,0]:List Int)) (inner:=[.int .i64 1,.int .i64 1,.int .i64 1,.int .i64 0]) (ok:=fun _=>True) (okp:=fun _=>True) ?hr ?hp (fun _ hk=>hk) trivial (aj _ _) (aI _) (by simp) ?_;(case hd=>rfl);(case hg=>rfl);(case hr=>first|(go_simp;done)|(go_simp;rfl));(case hp=>exact(aV.one (show Kd.M (Kd.int .i64) _ _ _ 1 [.int .i64 1] from rfl) (aV.one (show Kd.M (Kd.int .i64) _ _ _ 1 [.int .i64 1] from rfl) (aV.one (show Kd.M (Kd.int .i64) _ _ _ 1 [.int .i64 1] from rfl) (aV.one (show Kd.M (Kd.int .i64) _ _ _ 0 [.int .i64 0] from rfl) (aV.none _ _))))));intro hM hN aS hb y z;clear y z;(first|rw[<-dl.out] at aS|(simp only[Int.reduceToNat] at aS;rw[<-dl.out] at aS));replace i:=bF i hb;replace q:=bF q hb;have s:=zA (Kd.bc (Kd.bS aS (Kd.a8 (zR a))) (bO zB));replace a:=bW a aS hb;replace b:=zb b hb;replace j:=zb j hb;replace l:=zS l hb;clear hb aS;obtain⟨dv,dx,fr⟩:=Kd.bh s.out;subst fr)|((with_reducible refine aR (f:=32) rfl ?_);refine zL (some 34) Tryz.func32 #[.agg #[.int .i64 4,.slice J B.length G],.slice dv bo.length dx] ?_;(with_reducible refine(fe.calls k 4 _ _ B _ _ bo t232 t235 _ ?au ?aw ?bs ?br A2.out).mono ?_);(case au=>exact zC (Kd.aN i.out).2.2);(case aw=>exact(Kd.aN i.out).2.1);(case bs=>exact zC (Kd.aN s.out).2.2);(case br=>exact(Kd.aN s.out).2.1);rintro e hO ⟨v233,rfl,aa,hb⟩;refine⟨_,rfl,?_⟩;replace i:=bF i hb;replace q:=bF q hb;have m:=zA (Kd.bc (Kd.bS (Kd.bS aa (Kd.a8 (zR a))) (Kd.a8 (zR s))) (bO zB));replace a:=bW a aa hb;replace s:=bW s aa hb;replace b:=zb b hb;replace j:=zb j hb;replace l:=zS l hb;(try clear hb);(try clear aa);obtain⟨ft,fv,f0,f1⟩:=aC b)|((with_reducible refine aU (N:=39) rfl ?_);(try(refine eh (by rfl) ?_;dsimp only));refine Kd.fy (Kd.int .i64) _ 3 ?hg (N:=39) ?hd (xs:=([1,1,1,0]:List Int)) (inner:=[.int .i64 1,.int .i64 1,.int .i64 1,.int .i64 0]) (ok:=fun _=>True) (okp:=fun _=>True) ?hr ?hp (fun _ hk=>hk) trivial (aj _ _) (aI _) (by simp) ?_;(case hd=>rfl);(case hg=>rfl);(case hr=>first|(go_simp;done)|(go_simp;rfl));(case hp=>exact(aV.one (show Kd.M (Kd.int .i64) _ _ _ 1 [.int .i64 1] from rfl) (aV.one (show Kd.M (Kd.int .i64) _ _ _ 1 [.int .i64 1] from rfl) (aV.one (show Kd.M (Kd.int .i64) _ _ _ 1 [.int .i64 1] from rfl) (aV.one (show Kd.M (Kd.int .i64) _ _ _ 0 [.int .i64 0] from rfl) (aV.none _ _))))));intro hP hQ av hb y z;clear y z;(first|rw[<-ds.out] at av|(simp only[Int.reduceToNat] at av;rw[<-ds.out] at av));replace i:=bF i hb;replace q:=bF q hb;have u:=zA (Kd.bc (Kd.bS (Kd.bS (Kd.bS av (Kd.a8 (zR a))) (Kd.a8 (zR s))) (Kd.a8 (zR m))) (bO zB));replace a:=bW a av hb;replace s:=bW s av hb;replace m:=bW m av hb;replace b:=zb b hb;replace j:=zb j hb;replace l:=zS l hb;clear hb av;obtain⟨d0,d1,f2⟩:=Kd.bh u.out;subst f2)|((with_reducible refine aR (f:=27) rfl ?_);refine zL (some 40) Tryz.func27 #[.agg #[.int .i64 4,.slice J B.length G],.slice d0 bq.length d1] ?_;(with_reducible refine(iX.calls k 4 _ _ B _ _ bq t239 t240 _ ?au ?aw ?bs ?br A3.out).mono ?_);(case au=>exact zC (Kd.aN i.out).2.2);(case aw=>exact(Kd.aN i.out).2.1);(case bs=>exact zC (Kd.aN u.out).2.2);(case br=>exact(Kd.aN u.out).2.1);rintro e hR ⟨rfl,hb⟩;refine⟨_,rfl,?_⟩;replace i:=bF i hb;replace q:=bF q hb;replace a:=bF a hb;replace s:=bF s hb;replace m:=bF m hb;replace u:=bF u hb;replace b:=zb b hb;replace j:=zb j hb;replace l:=zS l hb;(try clear hb);obtain⟨f3,f4,f5,f6⟩:=aC j)|((with_reducible refine aR (f:=15) rfl ?_);refine zL (some 45) Tryz.func15 #[.agg #[.int .i64 3,.slice L E.length O],.int .i64 0] ?_;(with_reducible refine(bR.calls k 3 _ _ E 0 t241 t244 _ ?au ?aw A4.out).mono ?_);(case au=>exact zC (Kd.aN q.out).2.2);(case aw=>exact(Kd.aN q.out).2.1);rintro e hT ⟨f7,rfl,aa,hb⟩;refine⟨_,rfl,?_⟩;have D:=zA (Kd.mZ (Kd.eT (ok':=fun C=>some C≠(.slice J B.length G:Value).ownBlock/\some C≠(.slice L E.length O:Value).ownBlock/\some C≠(v226:Value).ownBlock/\some C≠(.slice dv bo.length dx:Value).ownBlock/\some C≠(v233:Value).ownBlock/\some C≠(.slice d0 bq.length d1:Value).ownBlock/\C≠K/\C≠P) aa (fun C aB=>⟨(Kd.lx (Kd.a8 (zR i)) C aB),(Kd.lx (Kd.a8 (zR q)) C aB),(Kd.lx (Kd.a8 (zR a)) C aB),(Kd.lx (Kd.a8 (zR s)) C aB),(Kd.lx (Kd.a8 (zR m)) C aB),(Kd.lx (Kd.a8 (zR u)) C aB),(Kd.l4 (zK b) C aB),(Kd.l4 (zK j) C aB)⟩)) (bO zB));replace i:=bF i hb;replace q:=bF q hb;replace a:=bF a hb;replace s:=bF s hb;replace m:=bF m hb;replace u:=bF u hb;replace b:=zb b hb;replace j:=zb j hb;replace l:=zS l hb;(try clear hb);(try clear aa);obtain⟨f8,f9,f',ga⟩:=aC j)|((with_reducible refine aR (f:=82) rfl ?_);refine zL (some 50) Tryz.func82 #[.agg #[.int .i64 3,.slice L E.length O],.int .i64 0] ?_;(with_reducible refine(gA.calls k 3 _ _ E 0 t245 t246 _ ?au ?aw A5.out).mono ?_);(case au=>exact zC (Kd.aN q.out).2.2);(case aw=>exact(Kd.aN q.out).2.1);rintro e hV ⟨rfl,hb⟩;refine⟨_,rfl,?_⟩;replace i:=bF i hb;replace q:=bF q hb;replace a:=bF a hb;replace s:=bF s hb;replace m:=bF m hb;replace u:=bF u hb;replace D:=Ce D hb;replace b:=zb b hb;replace j:=zb j hb;replace l:=zS l hb;(try clear hb)))
 (try simp only[Act.put,List.setIfInBounds_toArray,List.set_cons_zero,List.set_cons_succ])
 go_cut [87] (fun v87 wc=>∃(kq:Nat) (bw:Bool),v87= .bool bw/\Aside0 (bM.j0 kq t241 bw=some r)/\Aside0 (kq<=k)/\Aside0 (Kd.N (Kd.slice 3 (Kd.int .i64)) 26 wc w.heap.size (fun C=>some C≠((.slice J B.length G):Value).ownBlock/\some C≠((.slice L E.length O):Value).ownBlock/\C≠K/\C≠P) f7 t241)/\Aside0 (Kd.R aM 83 wc w.heap.size (fun C=>some C≠((.slice L E.length O):Value).ownBlock) (.slice J B.length G) B)/\Aside0 (Kd.R aM 83 wc w.heap.size (fun C=>some C≠((.slice J B.length G):Value).ownBlock) (.slice L E.length O) E)/\Aside0 (wc.heap[K]? =some (.cells #[.int .i64 4,(.slice J B.length G)] 24 (0,0)))/\Aside0 (wc.heap[P]? =some (.cells #[.int .i64 3,(.slice L E.length O)] 24 (0,0)))/\Aside0 (Below w.heap.size w wc))
 case first=>
  have H:=cl.out;clear cl;by_cases a5:(wrap64 ((wrap64 ((wrap64 ((wrap64 (t228+t235))+t240))+t244))+t246))=0
  ·rw[if_pos a5] at H
   obtain⟨a9,gb⟩:=bZ a5;clear a5
   (first|rw[a9]|(simp only[dG,dL];rw[a9])|skip)
   obtain⟨a0,cp⟩:∃F:List Int,F=(([1,1,1,1]:List Int)):=⟨_,rfl⟩;replace H:((bB.f k t225 a0).bind fun t250=>(if t250=true then((bB.f k t232 (([0,0,0,1]:List Int))).bind fun t254=>(if t254=true then(if t239=1 then(if t245=0 then(bM.j0 k t241 ((t241.length:Int) != 2)) else(bM.j0 k t241 true)) else(bM.j0 k t241 true)) else(bM.j0 k t241 true))) else(bM.j0 k t241 true)))=some r:=zh cp H;have ab:=zA cp;clear cp;obtain⟨t250,bb,H⟩:=zo H;by_cases bx:t250=true
   ·subst bx
    replace H:=zi H;obtain⟨be,cq⟩:∃F:List Int,F=(([0,0,0,1]:List Int)):=⟨_,rfl⟩;replace H:((bB.f k t232 be).bind fun t254=>(if t254=true then(if t239=1 then(if t245=0 then(bM.j0 k t241 ((t241.length:Int) != 2)) else(bM.j0 k t241 true)) else(bM.j0 k t241 true)) else(bM.j0 k t241 true)))=some r:=zh cq H;have aF:=zA cq;clear cq;obtain⟨t254,b0,H⟩:=zo H;by_cases b1:t254=true
    ·subst b1
     replace H:=zi H;by_cases bf:t239=1
     ·rw[if_pos bf] at H
      obtain⟨gc,gd⟩:=bZ bf;clear bf;by_cases bg:t245=0
      ·rw[if_pos bg] at H
       obtain⟨ge,gf⟩:=bZ bg;clear bg;have T:=zA H;clear H;go_wp2_with (first|((with_reducible refine aU (N:=65) rfl ?_);(try(refine eh (by rfl) ?_;dsimp only));refine Kd.fy (Kd.int .i64) _ 3 ?hg (N:=65) ?hd (xs:=([1,1,1,1]:List Int)) (inner:=[.int .i64 1,.int .i64 1,.int .i64 1,.int .i64 1]) (ok:=fun _=>True) (okp:=fun _=>True) ?hr ?hp (fun _ hk=>hk) trivial (aj _ _) (aI _) (by simp) ?_;(case hd=>rfl);(case hg=>rfl);(case hr=>first|(go_simp;done)|(go_simp;rfl));(case hp=>exact(aV.one (show Kd.M (Kd.int .i64) _ _ _ 1 [.int .i64 1] from rfl) (aV.one (show Kd.M (Kd.int .i64) _ _ _ 1 [.int .i64 1] from rfl) (aV.one (show Kd.M (Kd.int .i64) _ _ _ 1 [.int .i64 1] from rfl) (aV.one (show Kd.M (Kd.int .i64) _ _ _ 1 [.int .i64 1] from rfl) (aV.none _ _))))));intro b2 hW ad hb y z;clear y z;(first|rw[<-ab.out] at ad|(simp only[Int.reduceToNat] at ad;rw[<-ab.out] at ad));replace i:=bF i hb;replace q:=bF q hb;replace D:=ik D ad hb;have x:=zA (Kd.bc (Kd.bS (Kd.bS (Kd.bS (Kd.bS ad (Kd.a8 (zR a))) (Kd.a8 (zR s))) (Kd.a8 (zR m))) (Kd.a8 (zR u))) (bO zB));replace a:=bW a ad hb;replace s:=bW s ad hb;replace m:=bW m ad hb;replace u:=bW u ad hb;replace b:=zb b hb;replace j:=zb j hb;replace l:=zS l hb;clear hb ad;obtain⟨hX,hY,gg⟩:=Kd.bh a.out;subst gg;obtain⟨hZ,h0,gi⟩:=Kd.bh x.out;subst gi)|(go_at_call 33;(with_reducible refine(bB.calls k _ _ t225 _ _ a0 true _ ?au ?aw ?bs ?br bb.out).mono ?_);(case au=>exact zC (Kd.aN a.out).2.2);(case aw=>exact(Kd.aN a.out).2.1);(case bs=>exact zC (Kd.aN x.out).2.2);(case br=>exact(Kd.aN x.out).2.1);rintro e w' ⟨rfl,⟨nd,rfl⟩⟩)|((with_reducible refine aU (N:=71) rfl ?_);(try(refine eh (by rfl) ?_;dsimp only));refine Kd.fy (Kd.int .i64) _ 3 ?hg (N:=71) ?hd (xs:=([0,0,0,1]:List Int)) (inner:=[.int .i64 0,.int .i64 0,.int .i64 0,.int .i64 1]) (ok:=fun _=>True) (okp:=fun _=>True) ?hr ?hp (fun _ hk=>hk) trivial (aj _ _) (aI _) (by simp) ?_;(case hd=>rfl);(case hg=>rfl);(case hr=>first|(go_simp;done)|(go_simp;rfl));(case hp=>exact(aV.one (show Kd.M (Kd.int .i64) _ _ _ 0 [.int .i64 0] from rfl) (aV.one (show Kd.M (Kd.int .i64) _ _ _ 0 [.int .i64 0] from rfl) (aV.one (show Kd.M (Kd.int .i64) _ _ _ 0 [.int .i64 0] from rfl) (aV.one (show Kd.M (Kd.int .i64) _ _ _ 1 [.int .i64 1] from rfl) (aV.none _ _))))));intro cr h1 U hb y z;clear y z;(first|rw[<-aF.out] at U|(simp only[Int.reduceToNat] at U;rw[<-aF.out] at U));replace i:=bF i hb;replace q:=bF q hb;replace D:=ik D U hb;have I:=zA (Kd.bc (Kd.bS (Kd.bS (Kd.bS (Kd.bS (Kd.bS U (Kd.a8 (zR a))) (Kd.a8 (zR s))) (Kd.a8 (zR m))) (Kd.a8 (zR u))) (Kd.a8 (zR x))) (bO zB));replace a:=bW a U hb;replace s:=bW s U hb;replace m:=bW m U hb;replace u:=bW u U hb;replace x:=bW x U hb;replace b:=zb b hb;replace j:=zb j hb;replace l:=zS l hb;clear hb U;obtain⟨h2,h3,gl⟩:=Kd.bh m.out;subst gl;obtain⟨h4,h5,gm⟩:=Kd.bh I.out;subst gm)|(go_at_call 33;(with_reducible refine(bB.calls k _ _ t232 _ _ be true _ ?au ?aw ?bs ?br b0.out).mono ?_);(case au=>exact zC (Kd.aN m.out).2.2);(case aw=>exact(Kd.aN m.out).2.1);(case bs=>exact zC (Kd.aN I.out).2.2);(case br=>exact(Kd.aN I.out).2.1);rintro e w' ⟨rfl,⟨nd,rfl⟩⟩;obtain⟨h6,h7,gn⟩:=Kd.m_ D.out;subst gn))
       go_meet
       case rel=>exact⟨_,(((t241.length:Int) != 2)),zT,T,⟨by first|omega|exact aI _⟩,⟨by(with_reducible repeat(first|apply Kd.fi|apply Kd.gS|apply Kd.gR));exact Kd.eT D.out (fun _ hk=>⟨hk.1.1.1,⟨hk.1.1.2.1,⟨hk.1.1.2.2.2.2.2.2.1,hk.1.1.2.2.2.2.2.2.2⟩⟩⟩)⟩,⟨by(with_reducible repeat(first|apply Kd.aK|apply Kd.bJ|apply Kd.bA));exact Kd.a_ i.out (fun _ hk=>hk.2)⟩,⟨by(with_reducible repeat(first|apply Kd.aK|apply Kd.bJ|apply Kd.bA));exact Kd.a_ q.out (fun _ hk=>hk.2)⟩,⟨zK b⟩,⟨zK j⟩,⟨zB⟩⟩
      ·rw[if_neg bg] at H
       obtain⟨ge,gf⟩:=b7 bg;have T:=zA H;clear H;go_wp2_with (first|((with_reducible refine aU (N:=65) rfl ?_);(try(refine eh (by rfl) ?_;dsimp only));refine Kd.fy (Kd.int .i64) _ 3 ?hg (N:=65) ?hd (xs:=([1,1,1,1]:List Int)) (inner:=[.int .i64 1,.int .i64 1,.int .i64 1,.int .i64 1]) (ok:=fun _=>True) (okp:=fun _=>True) ?hr ?hp (fun _ hk=>hk) trivial (aj _ _) (aI _) (by simp) ?_;(case hd=>rfl);(case hg=>rfl);(case hr=>first|(go_simp;done)|(go_simp;rfl));(case hp=>exact(aV.one (show Kd.M (Kd.int .i64) _ _ _ 1 [.int .i64 1] from rfl) (aV.one (show Kd.M (Kd.int .i64) _ _ _ 1 [.int .i64 1] from rfl) (aV.one (show Kd.M (Kd.int .i64) _ _ _ 1 [.int .i64 1] from rfl) (aV.one (show Kd.M (Kd.int .i64) _ _ _ 1 [.int .i64 1] from rfl) (aV.none _ _))))));intro b2 h8 ag hb y z;clear y z;(first|rw[<-ab.out] at ag|(simp only[Int.reduceToNat] at ag;rw[<-ab.out] at ag));replace i:=bF i hb;replace q:=bF q hb;replace D:=ik D ag hb;have x:=zA (Kd.bc (Kd.bS (Kd.bS (Kd.bS (Kd.bS ag (Kd.a8 (zR a))) (Kd.a8 (zR s))) (Kd.a8 (zR m))) (Kd.a8 (zR u))) (bO zB));replace a:=bW a ag hb;replace s:=bW s ag hb;replace m:=bW m ag hb;replace u:=bW u ag hb;replace b:=zb b hb;replace j:=zb j hb;replace l:=zS l hb;clear hb ag;obtain⟨h9,h',go⟩:=Kd.bh a.out;subst go;obtain⟨ib,id,gp⟩:=Kd.bh x.out;subst gp)|(go_at_call 33;(with_reducible refine(bB.calls k _ _ t225 _ _ a0 true _ ?au ?aw ?bs ?br bb.out).mono ?_);(case au=>exact zC (Kd.aN a.out).2.2);(case aw=>exact(Kd.aN a.out).2.1);(case bs=>exact zC (Kd.aN x.out).2.2);(case br=>exact(Kd.aN x.out).2.1);rintro e w' ⟨rfl,⟨nd,rfl⟩⟩)|((with_reducible refine aU (N:=71) rfl ?_);(try(refine eh (by rfl) ?_;dsimp only));refine Kd.fy (Kd.int .i64) _ 3 ?hg (N:=71) ?hd (xs:=([0,0,0,1]:List Int)) (inner:=[.int .i64 0,.int .i64 0,.int .i64 0,.int .i64 1]) (ok:=fun _=>True) (okp:=fun _=>True) ?hr ?hp (fun _ hk=>hk) trivial (aj _ _) (aI _) (by simp) ?_;(case hd=>rfl);(case hg=>rfl);(case hr=>first|(go_simp;done)|(go_simp;rfl));(case hp=>exact(aV.one (show Kd.M (Kd.int .i64) _ _ _ 0 [.int .i64 0] from rfl) (aV.one (show Kd.M (Kd.int .i64) _ _ _ 0 [.int .i64 0] from rfl) (aV.one (show Kd.M (Kd.int .i64) _ _ _ 0 [.int .i64 0] from rfl) (aV.one (show Kd.M (Kd.int .i64) _ _ _ 1 [.int .i64 1] from rfl) (aV.none _ _))))));intro cr ih W hb y z;clear y z;(first|rw[<-aF.out] at W|(simp only[Int.reduceToNat] at W;rw[<-aF.out] at W));replace i:=bF i hb;replace q:=bF q hb;replace D:=ik D W hb;have I:=zA (Kd.bc (Kd.bS (Kd.bS (Kd.bS (Kd.bS (Kd.bS W (Kd.a8 (zR a))) (Kd.a8 (zR s))) (Kd.a8 (zR m))) (Kd.a8 (zR u))) (Kd.a8 (zR x))) (bO zB));replace a:=bW a W hb;replace s:=bW s W hb;replace m:=bW m W hb;replace u:=bW u W hb;replace x:=bW x W hb;replace b:=zb b hb;replace j:=zb j hb;replace l:=zS l hb;clear hb W;obtain⟨ii,im,gq⟩:=Kd.bh m.out;subst gq;obtain⟨io,ip,gr⟩:=Kd.bh I.out;subst gr)|(go_at_call 33;(with_reducible refine(bB.calls k _ _ t232 _ _ be true _ ?au ?aw ?bs ?br b0.out).mono ?_);(case au=>exact zC (Kd.aN m.out).2.2);(case aw=>exact(Kd.aN m.out).2.1);(case bs=>exact zC (Kd.aN I.out).2.2);(case br=>exact(Kd.aN I.out).2.1);rintro e w' ⟨rfl,⟨nd,rfl⟩⟩))
       go_meet
       case rel=>exact⟨_,(true),zT,T,⟨by first|omega|exact aI _⟩,⟨by(with_reducible repeat(first|apply Kd.fi|apply Kd.gS|apply Kd.gR));exact Kd.eT D.out (fun _ hk=>⟨hk.1.1.1,⟨hk.1.1.2.1,⟨hk.1.1.2.2.2.2.2.2.1,hk.1.1.2.2.2.2.2.2.2⟩⟩⟩)⟩,⟨by(with_reducible repeat(first|apply Kd.aK|apply Kd.bJ|apply Kd.bA));exact Kd.a_ i.out (fun _ hk=>hk.2)⟩,⟨by(with_reducible repeat(first|apply Kd.aK|apply Kd.bJ|apply Kd.bA));exact Kd.a_ q.out (fun _ hk=>hk.2)⟩,⟨zK b⟩,⟨zK j⟩,⟨zB⟩⟩
     ·rw[if_neg bf] at H
      obtain⟨gc,gd⟩:=b7 bf;have T:=zA H;clear H;go_wp2_with (first|((with_reducible refine aU (N:=65) rfl ?_);(try(refine eh (by rfl) ?_;dsimp only));refine Kd.fy (Kd.int .i64) _ 3 ?hg (N:=65) ?hd (xs:=([1,1,1,1]:List Int)) (inner:=[.int .i64 1,.int .i64 1,.int .i64 1,.int .i64 1]) (ok:=fun _=>True) (okp:=fun _=>True) ?hr ?hp (fun _ hk=>hk) trivial (aj _ _) (aI _) (by simp) ?_;(case hd=>rfl);(case hg=>rfl);(case hr=>first|(go_simp;done)|(go_simp;rfl));(case hp=>exact(aV.one (show Kd.M (Kd.int .i64) _ _ _ 1 [.int .i64 1] from rfl) (aV.one (show Kd.M (Kd.int .i64) _ _ _ 1 [.int .i64 1] from rfl) (aV.one (show Kd.M (Kd.int .i64) _ _ _ 1 [.int .i64 1] from rfl) (aV.one (show Kd.M (Kd.int .i64) _ _ _ 1 [.int .i64 1] from rfl) (aV.none _ _))))));intro b2 it ak hb y z;clear y z;(first|rw[<-ab.out] at ak|(simp only[Int.reduceToNat] at ak;rw[<-ab.out] at ak));replace i:=bF i hb;replace q:=bF q hb;replace D:=ik D ak hb;have x:=zA (Kd.bc (Kd.bS (Kd.bS (Kd.bS (Kd.bS ak (Kd.a8 (zR a))) (Kd.a8 (zR s))) (Kd.a8 (zR m))) (Kd.a8 (zR u))) (bO zB));replace a:=bW a ak hb;replace s:=bW s ak hb;replace m:=bW m ak hb;replace u:=bW u ak hb;replace b:=zb b hb;replace j:=zb j hb;replace l:=zS l hb;clear hb ak;obtain⟨iv,i0,gs⟩:=Kd.bh a.out;subst gs;obtain⟨i1,i2,gt⟩:=Kd.bh x.out;subst gt)|(go_at_call 33;(with_reducible refine(bB.calls k _ _ t225 _ _ a0 true _ ?au ?aw ?bs ?br bb.out).mono ?_);(case au=>exact zC (Kd.aN a.out).2.2);(case aw=>exact(Kd.aN a.out).2.1);(case bs=>exact zC (Kd.aN x.out).2.2);(case br=>exact(Kd.aN x.out).2.1);rintro e w' ⟨rfl,⟨nd,rfl⟩⟩)|((with_reducible refine aU (N:=71) rfl ?_);(try(refine eh (by rfl) ?_;dsimp only));refine Kd.fy (Kd.int .i64) _ 3 ?hg (N:=71) ?hd (xs:=([0,0,0,1]:List Int)) (inner:=[.int .i64 0,.int .i64 0,.int .i64 0,.int .i64 1]) (ok:=fun _=>True) (okp:=fun _=>True) ?hr ?hp (fun _ hk=>hk) trivial (aj _ _) (aI _) (by simp) ?_;(case hd=>rfl);(case hg=>rfl);(case hr=>first|(go_simp;done)|(go_simp;rfl));(case hp=>exact(aV.one (show Kd.M (Kd.int .i64) _ _ _ 0 [.int .i64 0] from rfl) (aV.one (show Kd.M (Kd.int .i64) _ _ _ 0 [.int .i64 0] from rfl) (aV.one (show Kd.M (Kd.int .i64) _ _ _ 0 [.int .i64 0] from rfl) (aV.one (show Kd.M (Kd.int .i64) _ _ _ 1 [.int .i64 1] from rfl) (aV.none _ _))))));intro cr i3 X hb y z;clear y z;(first|rw[<-aF.out] at X|(simp only[Int.reduceToNat] at X;rw[<-aF.out] at X));replace i:=bF i hb;replace q:=bF q hb;replace D:=ik D X hb;have I:=zA (Kd.bc (Kd.bS (Kd.bS (Kd.bS (Kd.bS (Kd.bS X (Kd.a8 (zR a))) (Kd.a8 (zR s))) (Kd.a8 (zR m))) (Kd.a8 (zR u))) (Kd.a8 (zR x))) (bO zB));replace a:=bW a X hb;replace s:=bW s X hb;replace m:=bW m X hb;replace u:=bW u X hb;replace x:=bW x X hb;replace b:=zb b hb;replace j:=zb j hb;replace l:=zS l hb;clear hb X;obtain⟨i4,i5,gx⟩:=Kd.bh m.out;subst gx;obtain⟨i6,i7,g0⟩:=Kd.bh I.out;subst g0)|(go_at_call 33;(with_reducible refine(bB.calls k _ _ t232 _ _ be true _ ?au ?aw ?bs ?br b0.out).mono ?_);(case au=>exact zC (Kd.aN m.out).2.2);(case aw=>exact(Kd.aN m.out).2.1);(case bs=>exact zC (Kd.aN I.out).2.2);(case br=>exact(Kd.aN I.out).2.1);rintro e w' ⟨rfl,⟨nd,rfl⟩⟩))
      go_meet
      case rel=>exact⟨_,(true),zT,T,⟨by first|omega|exact aI _⟩,⟨by(with_reducible repeat(first|apply Kd.fi|apply Kd.gS|apply Kd.gR));exact Kd.eT D.out (fun _ hk=>⟨hk.1.1.1,⟨hk.1.1.2.1,⟨hk.1.1.2.2.2.2.2.2.1,hk.1.1.2.2.2.2.2.2.2⟩⟩⟩)⟩,⟨by(with_reducible repeat(first|apply Kd.aK|apply Kd.bJ|apply Kd.bA));exact Kd.a_ i.out (fun _ hk=>hk.2)⟩,⟨by(with_reducible repeat(first|apply Kd.aK|apply Kd.bJ|apply Kd.bA));exact Kd.a_ q.out (fun _ hk=>hk.2)⟩,⟨zK b⟩,⟨zK j⟩,⟨zB⟩⟩
    ·replace b1:=Bool.eq_false_iff.mpr b1
     subst b1;replace H:=zj H;have T:=zA H;clear H;go_wp2_with (first|((with_reducible refine aU (N:=65) rfl ?_);(try(refine eh (by rfl) ?_;dsimp only));refine Kd.fy (Kd.int .i64) _ 3 ?hg (N:=65) ?hd (xs:=([1,1,1,1]:List Int)) (inner:=[.int .i64 1,.int .i64 1,.int .i64 1,.int .i64 1]) (ok:=fun _=>True) (okp:=fun _=>True) ?hr ?hp (fun _ hk=>hk) trivial (aj _ _) (aI _) (by simp) ?_;(case hd=>rfl);(case hg=>rfl);(case hr=>first|(go_simp;done)|(go_simp;rfl));(case hp=>exact(aV.one (show Kd.M (Kd.int .i64) _ _ _ 1 [.int .i64 1] from rfl) (aV.one (show Kd.M (Kd.int .i64) _ _ _ 1 [.int .i64 1] from rfl) (aV.one (show Kd.M (Kd.int .i64) _ _ _ 1 [.int .i64 1] from rfl) (aV.one (show Kd.M (Kd.int .i64) _ _ _ 1 [.int .i64 1] from rfl) (aV.none _ _))))));intro b2 i8 am hb y z;clear y z;(first|rw[<-ab.out] at am|(simp only[Int.reduceToNat] at am;rw[<-ab.out] at am));replace i:=bF i hb;replace q:=bF q hb;replace D:=ik D am hb;have x:=zA (Kd.bc (Kd.bS (Kd.bS (Kd.bS (Kd.bS am (Kd.a8 (zR a))) (Kd.a8 (zR s))) (Kd.a8 (zR m))) (Kd.a8 (zR u))) (bO zB));replace a:=bW a am hb;replace s:=bW s am hb;replace m:=bW m am hb;replace u:=bW u am hb;replace b:=zb b hb;replace j:=zb j hb;replace l:=zS l hb;clear hb am;obtain⟨i9,jj,g1⟩:=Kd.bh a.out;subst g1;obtain⟨jp,j1,g2⟩:=Kd.bh x.out;subst g2)|(go_at_call 33;(with_reducible refine(bB.calls k _ _ t225 _ _ a0 true _ ?au ?aw ?bs ?br bb.out).mono ?_);(case au=>exact zC (Kd.aN a.out).2.2);(case aw=>exact(Kd.aN a.out).2.1);(case bs=>exact zC (Kd.aN x.out).2.2);(case br=>exact(Kd.aN x.out).2.1);rintro e w' ⟨rfl,⟨nd,rfl⟩⟩)|((with_reducible refine aU (N:=71) rfl ?_);(try(refine eh (by rfl) ?_;dsimp only));refine Kd.fy (Kd.int .i64) _ 3 ?hg (N:=71) ?hd (xs:=([0,0,0,1]:List Int)) (inner:=[.int .i64 0,.int .i64 0,.int .i64 0,.int .i64 1]) (ok:=fun _=>True) (okp:=fun _=>True) ?hr ?hp (fun _ hk=>hk) trivial (aj _ _) (aI _) (by simp) ?_;(case hd=>rfl);(case hg=>rfl);(case hr=>first|(go_simp;done)|(go_simp;rfl));(case hp=>exact(aV.one (show Kd.M (Kd.int .i64) _ _ _ 0 [.int .i64 0] from rfl) (aV.one (show Kd.M (Kd.int .i64) _ _ _ 0 [.int .i64 0] from rfl) (aV.one (show Kd.M (Kd.int .i64) _ _ _ 0 [.int .i64 0] from rfl) (aV.one (show Kd.M (Kd.int .i64) _ _ _ 1 [.int .i64 1] from rfl) (aV.none _ _))))));intro cr j2 Y hb y z;clear y z;(first|rw[<-aF.out] at Y|(simp only[Int.reduceToNat] at Y;rw[<-aF.out] at Y));replace i:=bF i hb;replace q:=bF q hb;replace D:=ik D Y hb;have I:=zA (Kd.bc (Kd.bS (Kd.bS (Kd.bS (Kd.bS (Kd.bS Y (Kd.a8 (zR a))) (Kd.a8 (zR s))) (Kd.a8 (zR m))) (Kd.a8 (zR u))) (Kd.a8 (zR x))) (bO zB));replace a:=bW a Y hb;replace s:=bW s Y hb;replace m:=bW m Y hb;replace u:=bW u Y hb;replace x:=bW x Y hb;replace b:=zb b hb;replace j:=zb j hb;replace l:=zS l hb;clear hb Y;obtain⟨j3,j_,g3⟩:=Kd.bh m.out;subst g3;obtain⟨j',kb,g4⟩:=Kd.bh I.out;subst g4)|(go_at_call 33;(with_reducible refine(bB.calls k _ _ t232 _ _ be false _ ?au ?aw ?bs ?br b0.out).mono ?_);(case au=>exact zC (Kd.aN m.out).2.2);(case aw=>exact(Kd.aN m.out).2.1);(case bs=>exact zC (Kd.aN I.out).2.2);(case br=>exact(Kd.aN I.out).2.1);rintro e w' ⟨rfl,⟨nd,rfl⟩⟩))
     go_meet
     case rel=>exact⟨_,(true),zT,T,⟨by first|omega|exact aI _⟩,⟨by(with_reducible repeat(first|apply Kd.fi|apply Kd.gS|apply Kd.gR));exact Kd.eT D.out (fun _ hk=>⟨hk.1.1.1,⟨hk.1.1.2.1,⟨hk.1.1.2.2.2.2.2.2.1,hk.1.1.2.2.2.2.2.2.2⟩⟩⟩)⟩,⟨by(with_reducible repeat(first|apply Kd.aK|apply Kd.bJ|apply Kd.bA));exact Kd.a_ i.out (fun _ hk=>hk.2)⟩,⟨by(with_reducible repeat(first|apply Kd.aK|apply Kd.bJ|apply Kd.bA));exact Kd.a_ q.out (fun _ hk=>hk.2)⟩,⟨zK b⟩,⟨zK j⟩,⟨zB⟩⟩
   ·replace bx:=Bool.eq_false_iff.mpr bx
    subst bx;replace H:=zj H;have T:=zA H;clear H;go_wp2_with (first|((with_reducible refine aU (N:=65) rfl ?_);(try(refine eh (by rfl) ?_;dsimp only));refine Kd.fy (Kd.int .i64) _ 3 ?hg (N:=65) ?hd (xs:=([1,1,1,1]:List Int)) (inner:=[.int .i64 1,.int .i64 1,.int .i64 1,.int .i64 1]) (ok:=fun _=>True) (okp:=fun _=>True) ?hr ?hp (fun _ hk=>hk) trivial (aj _ _) (aI _) (by simp) ?_;(case hd=>rfl);(case hg=>rfl);(case hr=>first|(go_simp;done)|(go_simp;rfl));(case hp=>exact(aV.one (show Kd.M (Kd.int .i64) _ _ _ 1 [.int .i64 1] from rfl) (aV.one (show Kd.M (Kd.int .i64) _ _ _ 1 [.int .i64 1] from rfl) (aV.one (show Kd.M (Kd.int .i64) _ _ _ 1 [.int .i64 1] from rfl) (aV.one (show Kd.M (Kd.int .i64) _ _ _ 1 [.int .i64 1] from rfl) (aV.none _ _))))));intro b2 kd an hb y z;clear y z;(first|rw[<-ab.out] at an|(simp only[Int.reduceToNat] at an;rw[<-ab.out] at an));replace i:=bF i hb;replace q:=bF q hb;replace D:=ik D an hb;have x:=zA (Kd.bc (Kd.bS (Kd.bS (Kd.bS (Kd.bS an (Kd.a8 (zR a))) (Kd.a8 (zR s))) (Kd.a8 (zR m))) (Kd.a8 (zR u))) (bO zB));replace a:=bW a an hb;replace s:=bW s an hb;replace m:=bW m an hb;replace u:=bW u an hb;replace b:=zb b hb;replace j:=zb j hb;replace l:=zS l hb;clear hb an;obtain⟨kk,km,g5⟩:=Kd.bh a.out;subst g5;obtain⟨ks,kt,g6⟩:=Kd.bh x.out;subst g6)|(go_at_call 33;(with_reducible refine(bB.calls k _ _ t225 _ _ a0 false _ ?au ?aw ?bs ?br bb.out).mono ?_);(case au=>exact zC (Kd.aN a.out).2.2);(case aw=>exact(Kd.aN a.out).2.1);(case bs=>exact zC (Kd.aN x.out).2.2);(case br=>exact(Kd.aN x.out).2.1);rintro e w' ⟨rfl,⟨nd,rfl⟩⟩))
    go_meet
    case rel=>exact⟨_,(true),zT,T,⟨by first|omega|exact aI _⟩,⟨by(with_reducible repeat(first|apply Kd.fi|apply Kd.gS|apply Kd.gR));exact Kd.eT D.out (fun _ hk=>⟨hk.1.1,⟨hk.1.2.1,⟨hk.1.2.2.2.2.2.2.1,hk.1.2.2.2.2.2.2.2⟩⟩⟩)⟩,⟨by(with_reducible repeat(first|apply Kd.aK|apply Kd.bJ|apply Kd.bA));exact Kd.a_ i.out (fun _ hk=>hk.2)⟩,⟨by(with_reducible repeat(first|apply Kd.aK|apply Kd.bJ|apply Kd.bA));exact Kd.a_ q.out (fun _ hk=>hk.2)⟩,⟨zK b⟩,⟨zK j⟩,⟨zB⟩⟩
  ·rw[if_neg a5] at H
   obtain⟨a9,gb⟩:=b7 a5
   (first|rw[a9]|(simp only[dG,dL];rw[a9])|skip)
   have T:=zA H;clear H;go_wp2;go_meet
   case rel=>exact⟨_,(true),zT,T,⟨by first|omega|exact aI _⟩,⟨by(with_reducible repeat(first|apply Kd.fi|apply Kd.gS|apply Kd.gR));exact Kd.eT D.out (fun _ hk=>⟨hk.1,⟨hk.2.1,⟨hk.2.2.2.2.2.2.1,hk.2.2.2.2.2.2.2⟩⟩⟩)⟩,⟨by(with_reducible repeat(first|apply Kd.aK|apply Kd.bJ|apply Kd.bA));exact Kd.a_ i.out (fun _ hk=>hk.2)⟩,⟨by(with_reducible repeat(first|apply Kd.aK|apply Kd.bJ|apply Kd.bA));exact Kd.a_ q.out (fun _ hk=>hk.2)⟩,⟨zK b⟩,⟨zK j⟩,⟨zB⟩⟩
 case rest=>
  clear cl;clear es ev e1 e2 e5 e6 fd fn ft fv f3 f4 f8 f9 ew ex e3 e4 e' fb fo fq f0 f1 f5 f6 f' ga;obtain⟨kq,bw,rfl,HA,kv,Z,b3,b4,b,j,l⟩:=hcut;cases kq with
  |zero=>exact absurd HA.out (by simp[bM.j0])
  |succ bi=>
   have H:=HA.out;clear HA;simp only[bM.j0] at H;by_cases b5:bw=true
   ·subst b5
    replace H:=zi H;exact absurd ((aX H).trans hr.out) (by decide)
   ·replace b5:=Bool.eq_false_iff.mpr b5
    subst b5;replace H:=zj H;by_cases b6:0<(t241.length:Int)
    ·rw[if_pos b6] at H
     have kw:=aE b6;have kW:decide (0<t241.length)=true:=aE (by omega);clear b6;obtain⟨cx,c0⟩:∃F:List Int,F=(([(-1),0,1]:List Int)):=⟨_,rfl⟩;replace H:((bB.f bi (aZ t241 0) cx).bind fun t259=>(if t259=true then(if 1<(t241.length:Int) then((bB.f bi (aZ t241 1) (([(-1),1,0]:List Int))).bind fun t264=>(some t264)) else(none)) else(some false)))=some r:=zh c0 H;have d2:=zA c0;clear c0;obtain⟨t259,g7,H⟩:=zo H;by_cases b_:t259=true
     ·subst b_
      replace H:=zi H;by_cases b':1<(t241.length:Int)
      ·rw[if_pos b'] at H
       have k0:=aE b';have k1:decide (1<t241.length)=true:=aE (by omega);clear b';obtain⟨d3,c1⟩:∃F:List Int,F=(([(-1),1,0]:List Int)):=⟨_,rfl⟩;replace H:((bB.f bi (aZ t241 1) d3).bind fun t264=>(some t264))=some r:=zh c1 H;have d4:=zA c1;clear c1;obtain⟨t264,g8,H⟩:=zo H;obtain rfl:=aX H;obtain⟨k2,k3,g9⟩:=Kd.m_ Z.out;subst g9;have ca:0<=(0:Int):=(by omega);have cb:0<(t241.length:Int):=aA ‹_›;obtain⟨g',ha,hc,he,c2,d5,d6⟩:=gT (Kd.jc Z.out).2.2 0 ca cb;cases he;obtain⟨k4,hf,hh,d7⟩:=Kd.na Z.out [] 0 ca (by first|exact cb|exact aA ‹_› |(have e_:=(Kd.jc Z.out).1;omega));obtain⟨k5,k6,rfl,c4,c5⟩:=Kd.kz hh;have cc:=d7 0 _ rfl;rw[Nat.add_zero,show ((Kd.slice 3 (Kd.int .i64))).sz=1 from rfl,Nat.mul_one] at cc;replace cc:=aX (cc.symm.trans c2);injection cc with bk c6 bl
       rw[bk] at c5;rw[bl] at c4;have cd:=zA (show Kd.V (Kd.int .i64) 3 _ w.heap.size _ _ (aZ t241 0) from Kd.qH c4 c5);clear bk c6 bl c5 c4;clear d7 hf;have k7:(0<t241.length)=True:=eq_true (by omega)
       (try rw[show ((0:Int)).toNat=0 from rfl] at c2)
       (try rw[Addr.add_zero'] at c2)
       have aL:=zA d6;have hl:=zA d5;clear d6 d5;replace ca:=eq_true ca;replace cb:=eq_true cb;go_wp2_with (first|((with_reducible refine aU (N:=91) rfl ?_);(try(refine eh (by rfl) ?_;dsimp only));refine Kd.fy (Kd.int .i64) _ 3 ?hg (N:=91) ?hd (xs:=([(-1),0,1]:List Int)) (inner:=[.int .i64 (-1),.int .i64 0,.int .i64 1]) (ok:=fun _=>True) (okp:=fun _=>True) ?hr ?hp (fun _ hk=>hk) trivial (aj _ _) (aI _) (by simp) ?_;(case hd=>rfl);(case hg=>rfl);(case hr=>first|(go_simp;done)|(go_simp;rfl));(case hp=>exact(aV.one (show Kd.M (Kd.int .i64) _ _ _ (-1) [.int .i64 (-1)] from rfl) (aV.one (show Kd.M (Kd.int .i64) _ _ _ 0 [.int .i64 0] from rfl) (aV.one (show Kd.M (Kd.int .i64) _ _ _ 1 [.int .i64 1] from rfl) (aV.none _ _)))));intro k8 k9 aO hb y z;clear y z;(first|rw[<-d2.out] at aO|(simp only[Int.reduceToNat] at aO;rw[<-d2.out] at aO));replace Z:=ik Z aO hb;replace b3:=bF b3 hb;replace b4:=bF b4 hb;replace cd:=zA (Kd.oT (by(with_reducible repeat(first|apply Kd.V_alloc|apply Kd.l_|apply Kd.V_drew));exact cd.out) (Kd.dK aO) hb);have a1:=zA (Kd.bc aO (bO zB));replace b:=zb b hb;replace j:=zb j hb;replace aL:=zA (Kd.ax (by repeat(first|(with_reducible exact aL.out)|(with_reducible refine Kd.bC ?_ _)|(with_reducible refine Kd.gB ?_ _)|(with_reducible refine Kd.eS ?_)|exact aL.out)) hb);replace l:=zS l hb;clear hb aO;obtain⟨hm,hn,ho⟩:=Kd.bh a1.out;subst ho)|((with_reducible refine aR (f:=33) rfl ?_);refine zL (some 92) Tryz.func33 #[.slice ha (aZ t241 0).length hc,.slice hm cx.length hn] ?_;(with_reducible refine(bB.calls bi _ _ (aZ t241 0) _ _ cx true _ ?au ?aw ?bs ?br g7.out).mono ?_);(case au=>repeat(first|exact(by repeat(first|(with_reducible exact aL.out)|(with_reducible refine Kd.bC ?_ _)|(with_reducible refine Kd.gB ?_ _)|(with_reducible refine Kd.eS ?_)|exact aL.out))|(with_reducible refine Kd.bC ?_ _)|(with_reducible refine Kd.gB ?_ _)|(with_reducible refine Kd.eS ?_)));(case aw=>exact hl.out);(case bs=>exact zC (Kd.aN a1.out).2.2);(case br=>exact(Kd.aN a1.out).2.1);rintro e w' ⟨rfl,⟨nd,rfl⟩⟩;refine⟨_,rfl,?_⟩;have ce:0<=(1:Int):=(by omega);have cf:1<(t241.length:Int):=aA ‹_›;obtain⟨hq,la,lb,hs,c7,d8,d9⟩:=gT (Kd.jc Z.out).2.2 1 ce cf;obtain rfl:g'=hq:=(by injection hs);obtain⟨lc,ht,hv,ea⟩:=Kd.na Z.out [] 1 ce (by first|exact cf|exact aA ‹_› |(have e_:=(Kd.jc Z.out).1;omega));obtain⟨ld,le,rfl,c8,c9⟩:=Kd.kz hv;have cg:=ea 0 _ rfl;rw[Nat.add_zero,show ((Kd.slice 3 (Kd.int .i64))).sz=1 from rfl,Nat.mul_one] at cg;replace cg:=aX (cg.symm.trans c7);injection cg with bk c6 bl;rw[bk] at c9;rw[bl] at c8;have eb:=zA (show Kd.V (Kd.int .i64) 3 _ w.heap.size _ _ (aZ t241 1) from Kd.qH c8 c9);clear bk c6 bl c9 c8;clear ea ht;(try simp only[show (1:Int).toNat=1 from rfl,Nat.reduceMul,Nat.reduceEqDiff,Go.Addr.add,↓reduceIte] at c7);have lg:(1<t241.length)=True:=eq_true (by omega);(try rw[show ((1:Int)).toNat=1 from rfl] at c7);have bn:=zA d9;have hw:=zA d8;clear d9 d8;replace ce:=eq_true ce;replace cf:=eq_true cf)|((with_reducible refine aU (N:=97) rfl ?_);(try(refine eh (by rfl) ?_;dsimp only));refine Kd.fy (Kd.int .i64) _ 3 ?hg (N:=97) ?hd (xs:=([(-1),1,0]:List Int)) (inner:=[.int .i64 (-1),.int .i64 1,.int .i64 0]) (ok:=fun _=>True) (okp:=fun _=>True) ?hr ?hp (fun _ hk=>hk) trivial (aj _ _) (aI _) (by simp) ?_;(case hd=>rfl);(case hg=>rfl);(case hr=>first|(go_simp;done)|(go_simp;rfl));(case hp=>exact(aV.one (show Kd.M (Kd.int .i64) _ _ _ (-1) [.int .i64 (-1)] from rfl) (aV.one (show Kd.M (Kd.int .i64) _ _ _ 1 [.int .i64 1] from rfl) (aV.one (show Kd.M (Kd.int .i64) _ _ _ 0 [.int .i64 0] from rfl) (aV.none _ _)))));intro li lj ap hb y z;clear y z;(first|rw[<-d4.out] at ap|(simp only[Int.reduceToNat] at ap;rw[<-d4.out] at ap));replace Z:=ik Z ap hb;replace b3:=bF b3 hb;replace b4:=bF b4 hb;replace cd:=zA (Kd.oT (by(with_reducible repeat(first|apply Kd.V_alloc|apply Kd.l_|apply Kd.V_drew));exact cd.out) (Kd.dK ap) hb);replace eb:=zA (Kd.oT (by(with_reducible repeat(first|apply Kd.V_alloc|apply Kd.l_|apply Kd.V_drew));exact eb.out) (Kd.dK ap) hb);have c':=zA (Kd.bc (Kd.bS ap (Kd.a8 (zR a1))) (bO zB));replace a1:=bW a1 ap hb;replace b:=zb b hb;replace j:=zb j hb;replace aL:=zA (Kd.ax (by repeat(first|(with_reducible exact aL.out)|(with_reducible refine Kd.bC ?_ _)|(with_reducible refine Kd.gB ?_ _)|(with_reducible refine Kd.eS ?_)|exact aL.out)) hb);replace bn:=zA (Kd.ax (by repeat(first|(with_reducible exact bn.out)|(with_reducible refine Kd.bC ?_ _)|(with_reducible refine Kd.gB ?_ _)|(with_reducible refine Kd.eS ?_)|exact bn.out)) hb);replace l:=zS l hb;clear hb ap;obtain⟨lk,lm,hx⟩:=Kd.bh c'.out;subst hx)|(go_at_call 33;(with_reducible refine(bB.calls bi _ _ (aZ t241 1) _ _ d3 t264 _ ?au ?aw ?bs ?br g8.out).mono ?_);(case au=>repeat(first|exact(by repeat(first|(with_reducible exact bn.out)|(with_reducible refine Kd.bC ?_ _)|(with_reducible refine Kd.gB ?_ _)|(with_reducible refine Kd.eS ?_)|exact bn.out))|(with_reducible refine Kd.bC ?_ _)|(with_reducible refine Kd.gB ?_ _)|(with_reducible refine Kd.eS ?_)));(case aw=>exact hw.out);(case bs=>exact zC (Kd.aN c'.out).2.2);(case br=>exact(Kd.aN c'.out).2.1);rintro e w' ⟨rfl,⟨nd,rfl⟩⟩))
       go_ret;exact⟨zE,zB⟩
      ·rw[if_neg b'] at H
       exact absurd H (by simp)
     ·replace b_:=Bool.eq_false_iff.mpr b_
      subst b_;replace H:=zj H;exact absurd ((aX H).trans hr.out) (by decide)
    ·rw[if_neg b6] at H
     exact absurd H (by simp)
end
def eB:List S83:=[⟨0,1,1⟩,⟨0,2,1⟩,⟨0,3,1⟩,⟨1,2,1⟩,⟨1,3,1⟩,⟨2,3,1⟩]
theorem JW:Ev (fun k=>fx.f k 4 eB) (([1,1,1,1]:List Int),(0:Int)):=Ev.at_ (fx.mono _ _) (k:=60) (by decide+kernel)
theorem JX:Ev (fun k=>eI.f k 4 eB) ((4:Int),eB,(0:Int)):=Ev.at_ (eI.mono _ _) (k:=60) (by kernel_rfl)
theorem JY:Ev (fun k=>fu.f k 4 eB) ((3:Int),(0:Int)):=Ev.at_ (fu.mono _ _) (k:=60) (by decide+kernel)
theorem zI:Ev (fun k=>fe.f k 4 eB [1,1,1,0]) (([0,0,0,1]:List Int),(0:Int)):=Ev.at_ (fe.mono _ _ _) (k:=60) (by decide+kernel)
theorem zJ {d:List Int} (h:jw 4 eB 0 d=true):eP 4 0 eB d:=by
 obtain⟨n,q,hn,a,h1⟩:=pT h;obtain rfl:n=4:=by omega
 obtain rfl:q=0:=by omega
 exact h1
theorem JZ:cL ((4:Nat):Int) eB=0:=by decide+kernel
theorem zM:T.ep 4 (af eB) 3:=show T.sN (T.can 4 (af eB)) 4=2*3-2 from by decide+kernel
theorem qe:eP 4 0 eB [1,1,1,0]:=zJ (by decide+kernel)
theorem J0:eP 4 0 eB [0,0,0,1]:=zJ (by decide+kernel)
theorem zO {d:List Int} (h:eP 4 0 eB d) {r:Int} (a:Rk 4 (af eB) d r):Ev (fun k=>eQ.f k 4 eB d) (r,(0:Int)):=
 zq (n:=4) h JZ JX JY zM a
theorem tj:T.Wt 4 (af eB):=qe.right.wt
theorem J7:T.dS 4 (af eB):=qe.right.conn qe.conn
theorem J8:∃a b:Int,Rk 4 (af eB) [1,1,1,0] a/\Rk 4 (af eB) [0,0,0,1] b/\a-b=1:=by
 obtain⟨a,e⟩:=T.j7 tj (by decide) (fun v=>rd [1,1,1,0] (v:Nat));obtain⟨b,hb⟩:=T.j7 tj (by decide) (fun v=>rd [0,0,0,1] (v:Nat));have g:T.cu 4 (af eB) (fun v=>T.can 4 (af eB) v-rd [1,1,1,0] (v:Nat)) b:=sZ (fun v i=>by
  match v,i with
  |0,_=>decide+kernel
  |1,_=>decide+kernel
  |2,_=>decide+kernel
  |3,_=>decide+kernel) hb
 have h:=T.vX tj J7 (by decide) zM e g;have j:T.sN (fun v=>rd [1,1,1,0] (v:Nat)) 4=3:=by decide+kernel
 rw[j] at h;exact⟨a,b,e,hb,by omega⟩
theorem J9:Ev (fun k=>iX.f k 4 eB [1,1,1,0]) ((1:Int),(0:Int)):=by
 obtain⟨a,b,e,hb,g⟩:=J8;unfold iX.f;refine Ev.bind zI ?_;simp only[if_true];refine Ev.bind (zO qe e) ?_;simp only[if_true];refine Ev.bind (zO J0 hb) ?_;simp only[if_true,g,show wrap64 1=1 from by unfold wrap64;omega];exact Ev.const _
theorem J_:Ev (fun k=>bR.f k 3 cN 0) (([[-1,0,1],[-1,1,0]]:List (List Int)),(0:Int)):=Ev.at_ (bR.mono _ _ _) (k:=60) (by decide+kernel)
theorem zP {a b:List Int} {r:Bool} (h:bB.f 60 a b=some r):Ev (fun k=>bB.f k a b) r:=Ev.at_ (bB.mono _ _) (k:=60) h
theorem J':Ev (fun k=>bM.f k) true:=by
 unfold bM.f;refine Ev.bind (a:=eB) (Ev.const _) ?_;refine Ev.bind (a:=cN) (Ev.const _) ?_;refine Ev.bind JW ?_;refine Ev.bind zI ?_;refine Ev.bind J9 ?_;refine Ev.bind J_ ?_;refine Ev.bind JV ?_;simp only[show wrap64 (wrap64 (wrap64 (wrap64 (0+0)+0)+0)+0)=0 from by unfold wrap64;omega,if_true];refine Ev.bind (zP (r:=true) (by decide+kernel)) ?_;simp only[if_true];refine Ev.bind (zP (r:=true) (by decide+kernel)) ?_;simp only[if_true];exact Ev.at_ (fun k=>bM.cE k _ _) (k:=60) (by decide+kernel)
def tk.f:Option (Bool):=some true
theorem tk.calls (r:Bool) (w:World) (h:tk.f=some r):
  Calls Tryz.prog 26 #[] w fun e w'=>e= .returned (.bool r)/\Below w.heap.size w w':=by
 obtain rfl:=aX h;obtain⟨k,hk⟩:=J'.get;exact bM.calls k true ⟨rfl⟩ w hk
theorem zQ:∀{c:List Int},(∀x∈c, -1048576<=x/\x<=1048576)->fV c=0
 |[],_=>rfl
 |x::c,h=>by
  have h1:=h x (List.mem_cons_self ..);have a:=zQ (c:=c) fun y b=>h y (List.mem_cons_of_mem _ b)
  rw[fV,if_pos (by simp[kO];omega)];exact a
theorem Ka {n q:Nat} {E:List S83} (h:Small n q E) (hlen:(bu (bN E) (bN E).length).length<=100000):jy n q E (bu (bN E) (bN E).length) where
 small:=h
 ok:=Is h.right.bN
 len:=hlen
 p9:=Ir h.right.bN fun x a=>(kY.1 a).2
 mult:=fun u v=>by rw[Iq h.right.bN (fun x a=>(kY.1 a).2) u v,p6]
theorem Kb {n:Nat} {E:List S83} (hn:1<=n) (e:n<=12) (g:E.length<=40) (a:bt n E):Ev (fun k=>a7.f k n (bN E)) 0/\dh (bN E)=true:=by
 have i:(bN E).length<=E.length:=List.length_filter_le _ _;have h:=mC n (bN E) (by omega);rw[yL (by omega) (by omega) a.bN] at h;refine⟨h,?_⟩;unfold dh;rw[aE (show (bN E).length<=40 by omega),Bool.true_and];refine List.all_eq_true.2 fun x b=>?_
 have:=a.bN.ok x b;simp[bQ] at this;exact aE (by omega)
theorem Ke {n:Nat} {E:List S83} (a:bt n E) (e:T.sN (T.val n (af E)) n<=14):(bu (bN E) (bN E).length).length<=7:=by
 have h1:=s8 a.bN (fun x b=>(kY.1 b).2);rw[p6] at h1;rw[nA];omega
def Kf (k:Nat) (N:Int) (E:List S83) (a:Int):Prop:=∃(n m:Nat) (S:List (Nat×Int×Int)) (b:List S83) (q:Nat) (l:List (List Int)) (g:Int),N=n/\1<=n/\n<=1000/\a%n=q/\iW.f k n E=some 0/\jP.f k n E=some true/\eI.f k n E=some ((n:Int),b,0)/\bR.f k n E q=some (l,0)/\fI.f k n E=some g/\(0<=g/\g<=1000)/\
  a7.f k n b=some 0/\dh b=true/\bu b b.length=S/\S.length<=14/\fj n S/\l.length=(uniq n S q).length/\(uniq n S q).length=m+1/\m<=100000/\(∀o∈uniq n S q,o.length=S.length)/\(∀o∈uniq n S q,fG.f k (dp (cB n S o) n n)=some (g-1))/\(∀x∈l,bB.f k x x=some true)/\
  (∀x∈(uniq n S q).map (dy n S),∀y∈(uniq n S q).map (dy n S),cA.f k x y=some (gQ x y))/\(∀x∈(uniq n S q).map (dy n S),x.length=n)/\((uniq n S q).map (dy n S)).Nodup/\l.Pairwise Lex/\∀x,x∈(uniq n S q).map (dy n S)↔x∈l
theorem Kg (N:Int) (E:List S83) (I:E.length<=9223372036854775807) (a:Int):∃k,(∃j,iW.f k N E=some j/\(j≠0\/j=0/\jP.f k N E=some false))\/Kf k N E a:=by
 have h1:=H_ N E I;by_cases p:mL N E=0
 ·rw[p] at h1
  obtain⟨F,j2⟩:=yH p;obtain⟨c1,c2,c3⟩:=jq F;have i:=Ia (N:=N) (E:=E) F;cases s:oe N E with
  |false=>
   rw[s] at i;obtain⟨B,u⟩:=(du.jz h1).and (du.jz i);have:=u B (aI _);exact⟨B,.inl ⟨0,this.1,.inr ⟨rfl,this.2⟩⟩⟩
  |true=>
   rw[s] at i;have w:∀x∈List.replicate N.toNat (0:Int),x=0:=fun x h=>(List.mem_replicate.1 h).2
   have J:p5 N (List.replicate N.toNat 0)=0:=by
    unfold p5;rw[if_pos (by simp;omega)];exact zQ fun x h=>by rw[w x h];omega
   obtain⟨n,rfl,hn,hC⟩:=Ic p J s (List.all_eq_true.2 fun x h=>by rw[w x h];decide);obtain⟨f1,f2,f3,f4,f5⟩:=hC.facts hn;obtain⟨g, -,m⟩:=hC.IX hn;have K:0<=a%(n:Int):=Int.emod_nonneg _ (by omega);have aO:a%(n:Int)<n:=Int.emod_lt_of_pos _ (by omega);obtain⟨q,L⟩:=Int.eq_ofNat_of_zero_le K;have z:q<n:=by omega
   have hS:=hC.small q z;have hu:=IT hS hC.check;have M:=Jd hn (by omega) (by omega) hC.check m;have O:(0:Int)<=g/\(g:Int)<=1000:=by
    have h1:=hC.val;have i:T.sN (T.can n (af E)) n=2*g-2:=m;rw[show T.can n (af E)=fun v=>T.val n (af E) v-2 from rfl,T.dB,T.iw] at i;omega
   have P:=hC.loop hn;obtain⟨Q,R⟩:=Kb hn (by omega) f2 f3;have aT:=Ke f3 hC.val;have b:=Ka hS (by omega);generalize U:bu (bN E) (bN E).length=S at aT b;have V:=b.count m;have G:=b.mem m;have W:=b.nodup;have aP:(Small.fY n q E).length≠0:=fun e=>hS.ID (List.length_eq_zero_iff.1 e)
   have X:=hS.sh;have aS:(Small.fY n q E).length<=4096:=Nat.le_trans (List.length_filter_le _ _) X;rw[List.length_map] at V;have Y:∀o∈uniq n S q,o.length=S.length:=fun o C=>((mN z b.ok b.len).1 C).1
   have r:∀x∈(uniq n S q).map (dy n S),x.length=n:=fun x h=>by
    obtain⟨o, -,rfl⟩:=List.mem_map.1 h;exact lV n S o
   have Z:du fun k=>∀o∈uniq n S q,fG.f k (dp (cB n S o) n n)=some ((g:Int)-1):=du.mem fun o C=>by
    obtain⟨D,⟨pos,hi,aa⟩,w⟩:=(mN z b.ok b.len).1 C;have ab:∀v:Nat,v<n->rd (dy n S o) v=T.gw (cM S) o v-1:=fun v l=>mM b.ok b.len D l
    have hb:∀v:Nat,v<n-> -2000<=rd (dy n S o) v/\rd (dy n S o) v<=2000:=fun v l=>by
     have h1:=T.pr (T.arr (cM S) o) (fun _=>true) v;have i:=T.rK (T.arr (cM S) o) (fun _=>true) v;rw[od D] at i;rw[<-T.mB] at h1 i;rw[ab v l];omega
    have H:=IW (dy n S o) (by rw[lV];omega) (fun v l=>hb v (by rw[lV] at l;exact l));rw[lV,T.bK (fun v l=>b.nu D aa l),T.nK f3.wt m hi] at H;exact du.jz H
   have ad:du fun k=>∀x∈(Small.fY n q E).map (fun c=>c.set q (-1)),bB.f k x x=some true:=du.mem fun x h=>by
    have:=r x ((G x).2 h);exact du.jz (IV x (by omega))
   have ag:du fun k=>∀x∈(uniq n S q).map (dy n S),∀y∈(uniq n S q).map (dy n S),cA.f k x y=some (gQ x y):=du.mem fun x h=>du.mem fun y hy=>by
    have h1:=r x h;have i:=r y hy;exact du.jz (IA (by omega) (by omega))
   obtain⟨B,u⟩:=(((du.jz h1).and (du.jz i)).and ((du.jz P).and (du.jz hu))).and (((du.jz M).and (du.jz Q)).and (Z.and (ad.and ag)));obtain⟨⟨⟨k1,k2⟩,k3,k4⟩,⟨k5,k6⟩,k7,k8,k9⟩:=u B (aI _);refine⟨B,.inr ⟨n,(Small.fY n q E).length-1,S,bN E,q,_,g,rfl,hn,by omega,L,k1,k2,k3,k4,k5,O,k6,R,U,by omega,b.ok,by rw[List.length_map];omega,by omega,by omega,Y,k7,k8,k9,r,W,hS.yz (-1),G⟩⟩
 ·obtain⟨k,hk⟩:=h1.get
  exact⟨k,.inl ⟨_,hk,.inl p⟩⟩
theorem Kh (N:Int) (A0:Option Addr) (c0:Nat) (E:List S83) (a:Int) (w:World) (b:Kd.C aM w A0 E.length E) (h:E.length<=c0) (v:E.length<=9223372036854775807) (o:0<=a/\a<=255):
  Calls Tryz.prog 11 #[.agg #[.int .i64 N,.slice A0 E.length c0],.int .u8 a] w fun e w'=>e= .returned (.bool true)/\Below w.heap.size w w':=by
 have p:∀w,Calls Tryz.prog 26 #[] w fun e w'=>e= .returned (.bool true)/\Below w.heap.size w w':=fun w=>tk.calls true w rfl
 obtain⟨k,⟨j,h1,x⟩|⟨n,m,S,y,q,l,g,rfl,z,hn,B,D,hf,F,hu,G,H,I,J,hS,K,L,M,hm,O,P,Q,R,T,r,U,V,W⟩⟩:=Kg N E v a
 ·exact Jq k N A0 c0 E a j w b h h1 x p
 ·have s:((uniq n S q).map (dy n S)).length=m+1:=by rw[List.length_map];exact hm
  have u:∀i:Fin (m+1),((uniq n S q).map (dy n S)).getD i.1 []∈(uniq n S q).map (dy n S):=fun i=>by
   have hi:i.1<((uniq n S q).map (dy n S)).length:=by have:=i.2;omega
   rw[aW,bp hi];exact List.getElem_mem hi
  exact Js k n m A0 c0 E a S y q l g w b h p z hn o.1 o.2 B D hf F hu G H I J hS K L M hm O P Q R _ (fun i j=>T _ (u i) _ (u j)) (IB s r) (fun idx hp X=>IC s r U V W hp X)
end Go.Proofs.YtffdiakgjakngaaGreat.P


