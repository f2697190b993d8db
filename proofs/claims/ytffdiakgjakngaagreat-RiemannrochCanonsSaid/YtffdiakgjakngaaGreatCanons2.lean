/- Canons answers true whatever the input (text 2 of 7): own walks and plain laws; no conditions. -/
import Derived.BigQuiet
import Derived.Deep.AppendLies
import Derived.Deep.QuietTactic
import Derived.Deep.RegionHeld3
import Derived.Deep.RegionLaw
import Derived.Lib.Hide
import Derived.Maps.OwnOps
import Derived.Maps.Views
import Derived.Outline
import Derived.WalkSpells
import Derived.Test.YtffdiakgjakngaaGreatCanons1
namespace Go.Proofs.YtffdiakgjakngaaGreat.P
open Go.RowKit Go.Proofs.YtffdiakgjakngaaGreatW.PrintWords Go.Proofs.YtffdiakgjakngaaGreatW.PrintLast Go.Proofs.YtffdiakgjakngaaGreatW.PrintMore
set_option linter.unusedVariables false
set_option linter.unusedSimpArgs false
set_option maxHeartbeats 8000000
set_option maxRecDepth 100000
mutual
def bj.j0:Nat->Bool->Int->List (S83)->Option (Int)
 |0,_,_,_=>none
 |k+1,b,e,a=>if b=true then(some 2) else(bj.l0 k a (a.length:Int) 0 e a (-1) (-1))
def bj.l0:Nat->List (S83)->Int->Int->Int->List (S83)->Int->Int->Option (Int)
 |0,_,_,_,_,_,_,_=>none
 |k+1,b,g,a,e,h,i,j=>if a<g then(if 0<=a then(if a<(b.length:Int) then((fy.f e ((ae b a).f0)).bind fun t216=>(if t216=true then((fy.f e ((ae b a).f1)).bind fun t217=>(if t217=true then(if((ae b a).f2)<1 then(bj.j2 k b g a true e h i j ((ae b a).f0) ((ae b a).f1) ((ae b a).f2) ((ae b a).f0) ((ae b a).f1)) else(bj.j2 k b g a (decide (((ae b a).f2)>50)) e h i j ((ae b a).f0) ((ae b a).f1) ((ae b a).f2) ((ae b a).f0) ((ae b a).f1))) else(bj.j2 k b g a true e h i j ((ae b a).f0) ((ae b a).f1) ((ae b a).f2) ((ae b a).f0) ((ae b a).f1)))) else(bj.j2 k b g a true e h i j ((ae b a).f0) ((ae b a).f1) ((ae b a).f2) ((ae b a).f0) ((ae b a).f1)))) else(none)) else(none)) else(some 0)
def bj.j2:Nat->List (S83)->Int->Int->Bool->Int->List (S83)->Int->Int->Int->Int->Int->Int->Int->Option (Int)
 |0,_,_,_,_,_,_,_,_,_,_,_,_,_=>none
 |k+1,e,g,h,i,j,l,m,n,o,p,q,a,b=>if i=true then(some 2) else(if o>p then(some 9) else((dG.f k m n a b).bind fun t218=>(if t218>=0 then(some 9) else(bj.l0 k e g (wrap64 (h+1)) j l a b))))
end
def bj.f (k:Nat) (a:Int) (b:List (S83)):Option (Int):=if a<1 then(bj.j0 k true a b) else(bj.j0 k (decide (a>12)) a b)
theorem bj.cm:∀k,(∀a b e,aj (bj.j0 k a b e) (bj.j0 (k+1) a b e))/\(∀a b e g i j l,aj (bj.l0 k a b e g i j l) (bj.l0 (k+1) a b e g i j l))/\(∀a b e g i j l m n o p q s,aj (bj.j2 k a b e g i j l m n o p q s) (bj.j2 (k+1) a b e g i j l m n o p q s))
 |0=>⟨fun _ _ _ r h=>by simp[bj.j0] at h,fun _ _ _ _ _ _ _ r h=>by simp[bj.l0] at h,fun _ _ _ _ _ _ _ _ _ _ _ _ _ r h=>by simp[bj.j2] at h⟩
 |k+1=>by
  obtain⟨u,v,w⟩:=bj.cm k;refine⟨?_,?_,?_⟩
  ·intro a b e
   unfold bj.j0;with_reducible repeat' first|exact u _ _ _|exact v _ _ _ _ _ _ _|exact w _ _ _ _ _ _ _ _ _ _ _ _ _|exact dG.mono _ _ _ _ _|exact aj.refl _|exact aj.none _|refine aj.ite ?_ ?_|refine aj.bind ?_ (fun _=>?_)
  ·intro a b e g i j l
   unfold bj.l0;with_reducible repeat' first|exact u _ _ _|exact v _ _ _ _ _ _ _|exact w _ _ _ _ _ _ _ _ _ _ _ _ _|exact dG.mono _ _ _ _ _|exact aj.refl _|exact aj.none _|refine aj.ite ?_ ?_|refine aj.bind ?_ (fun _=>?_)
  ·intro a b e g i j l m n o p q s
   unfold bj.j2;with_reducible repeat' first|exact u _ _ _|exact v _ _ _ _ _ _ _|exact w _ _ _ _ _ _ _ _ _ _ _ _ _|exact dG.mono _ _ _ _ _|exact aj.refl _|exact aj.none _|refine aj.ite ?_ ?_|refine aj.bind ?_ (fun _=>?_)
theorem bj.mono:∀a0 a k,aj (bj.f k a0 a) (bj.f (k+1) a0 a):=by
 intro a0 a k;obtain⟨b,e,g⟩:=bj.cm k;unfold bj.f;with_reducible repeat' first|exact b _ _ _|exact e _ _ _ _ _ _ _|exact g _ _ _ _ _ _ _ _ _ _ _ _ _|exact dG.mono _ _ _ _ _|exact aj.refl _|exact aj.none _|refine aj.ite ?_ ?_|refine aj.bind ?_ (fun _=>?_)
theorem bj.calls (k:Nat) (j:Int) (R:Option Addr) (B:Nat) (a:List (S83)) (r:Int) (w:World) (be:Kd.C aT w R a.length a) (bf:a.length<=B) (h:bj.f k j a=some r):
  Calls Tryz.prog 64 #[.agg #[.int .i64 j,.slice R a.length B]] w fun e w'=>e= .returned (.int .i64 r)/\Below w.heap.size w w':=by
 have cv:=Tryz.underlying24;have cx:=Tryz.underlying116;have c0:=Tryz.underlying83;have bo:=zA be;have c1:=zA bf;clear be bf;have m:=zA (ao w.heap.size w);unfold bj.f at h;have H:=h;clear h;have a2:=zA H;clear H;go_enter Tryz.func64,Tryz.ntmps64
 go_upto_region 1 with (first|((with_reducible refine aJ (N:=1) rfl ?_);refine zX 1 #[.int .i64 j,.slice R a.length B] 24 ?_;intro u l w3 I hb;have i:=zA (I);have c2:=zG m l;have c3:=zG m l;replace m:=zS m hb;clear hb I l))
 (try simp only[Act.put,List.setIfInBounds_toArray,List.set_cons_zero,List.set_cons_succ])
 go_cut [14] (fun bv wc=>∃(G:Nat) (am:Bool),bv= .bool am/\Aside0 (bj.j0 G am j a=some r)/\Aside0 (G<=k)/\Aside0 (wc.heap[u]? =some (.cells #[.int .i64 j,(.slice R a.length B)] 24 (0,0)))/\Aside0 (Below w.heap.size w wc))
 case first=>
  have H:=a2.out;clear a2;by_cases c4:j<1
  ·rw[if_pos c4] at H
   have ag:=az c4;clear c4
   (first|rw[ag]|(simp only[bT,bW];rw[ag])|skip)
   have v:=zA H;clear H;obtain⟨c5,c6,c8,c9⟩:=ax i;go_wp2;go_meet
   case rel=>exact⟨_,(true),zT,v,⟨by first|omega|exact aI _⟩,⟨zK i⟩,⟨zB⟩⟩
  ·rw[if_neg c4] at H
   have ag:=aZ c4;clear c4
   (first|rw[ag]|(simp only[bT,bW];rw[ag])|skip)
   have v:=zA H;clear H;obtain⟨c',dd,dk,dl⟩:=ax i;go_wp2;go_meet
   case rel=>exact⟨_,(decide (j>12)),zT,v,⟨by first|omega|exact aI _⟩,⟨zK i⟩,⟨zB⟩⟩
 case rest=>
  clear a2;obtain⟨G,am,rfl,J,V,i,m⟩:=hcut;cases G with
  |zero=>exact absurd J.out (by simp[bj.j0])
  |succ bg=>
   have H:=J.out;clear J;simp only[bj.j0] at H;by_cases c7:am=true
   ·subst c7
    replace H:=zi H;obtain rfl:=aH H;go_wp2;go_ret;exact⟨zE,zB⟩
   ·replace c7:=Bool.eq_false_iff.mpr c7
    subst c7;replace H:=zj H;have v:=zA H;clear H;go_wp2_with (first|((with_reducible refine aJ (N:=3) rfl ?_);refine zX 3 #[.int .i64 0,.int .i64 0] 116 ?_;intro D l w8 I hb;have n:=zA (I);have dv:=zG m l;have d0:=zG m l;replace m:=zS m hb;have K:=zA ((by rw[l];exact Nat.ne_of_lt (aE (g:=u) (o:=.cells #[.int .i64 j,.slice R a.length B] 24 (0,0)) (zK i)):u≠D));have S:=zA ((by rw[l];exact Nat.ne_of_gt (aE (g:=u) (o:=.cells #[.int .i64 j,.slice R a.length B] 24 (0,0)) (zK i)):D≠u));replace i:=zb i hb;clear hb I l;have d1:=S.out;have d2:=K.out;obtain⟨bw,bx,b0,b1⟩:=ax n;obtain⟨b2,b3,b4,b5⟩:=ax i))
    go_loopg [19] bg (fun G b6 w'=>∃(b:Int) (E:Int) (z:Int),b6= .int .i64 b/\Aside0 (bj.l0 G a (a.length:Int) b j a E z=some r)/\Aside0 (G<=bg)/\Aside0 (w'.heap[u]? =some (.cells #[.int .i64 j,(.slice R a.length B)] 24 (0,0)))/\Aside0 (w'.heap[D]? =some (.cells #[.int .i64 E,.int .i64 z] 116 (0,0)))/\Aside0 (Below w.heap.size w w'))
    case atStart=>exact⟨(0),((-1)),((-1)),zT,v,⟨aI _⟩,⟨by refine zk ?_;refine aG ?_ K.out _;refine zk ?_;refine aG ?_ K.out _;exact zK i⟩,⟨by refine zk ?_;refine bC (cs:=#[.int .i64 (-1),.int .i64 0]) ?_ 1 _ rfl;refine zk ?_;refine bC (cs:=#[.int .i64 0,.int .i64 0]) ?_ 0 _ rfl;exact zK n⟩,⟨zB⟩⟩
    case round=>
     clear v;clear bw bx b2 b3 b0 b1 b4 b5;obtain⟨b,E,z,rfl,J,W,i,n,m⟩:=hrel;cases gk with
     |zero=>exact absurd J.out (by simp[bj.l0])
     |succ k2=>
      have H:=J.out;clear J;simp only[bj.l0] at H;by_cases X:b<(a.length:Int)
      ·rw[if_pos X] at H
       have bi:=az X;clear X;by_cases ap:0<=b
       ·rw[if_pos ap] at H
        have b':=az ap;clear ap;by_cases ar:b<(a.length:Int)
        ·rw[if_pos ar] at H
         have ca:=az ar;clear ar;have a3:=zA H;clear H;have av:0<=(b:Int):=aw ‹_›;have aB:b<(a.length:Int):=aw ‹_›;obtain⟨Y,cb,aF,aL,aO⟩:=eJ bo.out b av aB;cases cb;replace aF:=(m.out.cell (bs w _ aF)).trans aF;replace aL:=(m.out.cell (bs w _ aL)).trans aL;replace aO:=(m.out.cell (bs w _ aO)).trans aO;replace av:=eq_true av;replace aB:=eq_true aB;go_upto_region 8 with (first|((with_reducible refine aJ (N:=5) rfl ?_);refine zX 5 #[.int .i64 0,.int .i64 0,.int .i64 0] 83 ?_;intro M l d3 I hb;have p:=zA (I);have d4:=zG m l;have d5:=zG m l;replace m:=zS m hb;have q:=zA ((by rw[l];exact Nat.ne_of_lt (aE (g:=u) (o:=.cells #[.int .i64 j,.slice (some Y) a.length B] 24 (0,0)) (zK i)):u≠M));have O:=zA ((by rw[l];exact Nat.ne_of_gt (aE (g:=u) (o:=.cells #[.int .i64 j,.slice (some Y) a.length B] 24 (0,0)) (zK i)):M≠u));replace i:=zb i hb;have s:=zA ((by rw[l];exact Nat.ne_of_lt (aE (g:=D) (o:=.cells #[.int .i64 E,.int .i64 z] 116 (0,0)) (zK n)):D≠M));have P:=zA ((by rw[l];exact Nat.ne_of_gt (aE (g:=D) (o:=.cells #[.int .i64 E,.int .i64 z] 116 (0,0)) (zK n)):M≠D));replace n:=zb n hb;clear hb I l;have d6:=O.out;have d7:=q.out;have d8:=P.out;have d9:=s.out;obtain⟨cc,cd,ce,cf,ch,ci⟩:=cg p)|((with_reducible refine aJ (N:=6) rfl ?_);refine zX 6 #[.int .i64 0,.int .i64 0] 116 ?_;intro T l ea I hb;have F:=zA (I);have eb:=zG m l;have ed:=zG m l;replace m:=zS m hb;have y:=zA ((by rw[l];exact Nat.ne_of_lt (aE (g:=u) (o:=.cells #[.int .i64 j,.slice (some Y) a.length B] 24 (0,0)) (by refine zk ?_;refine aG ?_ q.out _;refine zk ?_;refine aG ?_ q.out _;refine zk ?_;refine aG ?_ q.out _;exact zK i)):u≠T));have U:=zA ((by rw[l];exact Nat.ne_of_gt (aE (g:=u) (o:=.cells #[.int .i64 j,.slice (some Y) a.length B] 24 (0,0)) (by refine zk ?_;refine aG ?_ q.out _;refine zk ?_;refine aG ?_ q.out _;refine zk ?_;refine aG ?_ q.out _;exact zK i)):T≠u));replace i:=zA (aM (g:=u) (o:=.cells #[.int .i64 j,.slice (some Y) a.length B] 24 (0,0)) (by refine zk ?_;refine aG ?_ q.out _;refine zk ?_;refine aG ?_ q.out _;refine zk ?_;refine aG ?_ q.out _;exact zK i) hb);have L:=zA ((by rw[l];exact Nat.ne_of_lt (aE (g:=D) (o:=.cells #[.int .i64 E,.int .i64 z] 116 (0,0)) (by refine zk ?_;refine aG ?_ s.out _;refine zk ?_;refine aG ?_ s.out _;refine zk ?_;refine aG ?_ s.out _;exact zK n)):D≠T));have a4:=zA ((by rw[l];exact Nat.ne_of_gt (aE (g:=D) (o:=.cells #[.int .i64 E,.int .i64 z] 116 (0,0)) (by refine zk ?_;refine aG ?_ s.out _;refine zk ?_;refine aG ?_ s.out _;refine zk ?_;refine aG ?_ s.out _;exact zK n)):T≠D));replace n:=zA (aM (g:=D) (o:=.cells #[.int .i64 E,.int .i64 z] 116 (0,0)) (by refine zk ?_;refine aG ?_ s.out _;refine zk ?_;refine aG ?_ s.out _;refine zk ?_;refine aG ?_ s.out _;exact zK n) hb);have x:=zA ((by rw[l];exact Nat.ne_of_lt (aE (g:=M) (o:=.cells #[.int .i64 ((ae a b).f0),.int .i64 ((ae a b).f1),.int .i64 ((ae a b).f2)] 83 (0,0)) (by refine zk ?_;refine bC (cs:=#[.int .i64 ((ae a b).f0),.int .i64 ((ae a b).f1),.int .i64 0]) ?_ 2 _ rfl;refine zk ?_;refine bC (cs:=#[.int .i64 ((ae a b).f0),.int .i64 0,.int .i64 0]) ?_ 1 _ rfl;refine zk ?_;refine bC (cs:=#[.int .i64 0,.int .i64 0,.int .i64 0]) ?_ 0 _ rfl;exact zK p)):M≠T));have Q:=zA ((by rw[l];exact Nat.ne_of_gt (aE (g:=M) (o:=.cells #[.int .i64 ((ae a b).f0),.int .i64 ((ae a b).f1),.int .i64 ((ae a b).f2)] 83 (0,0)) (by refine zk ?_;refine bC (cs:=#[.int .i64 ((ae a b).f0),.int .i64 ((ae a b).f1),.int .i64 0]) ?_ 2 _ rfl;refine zk ?_;refine bC (cs:=#[.int .i64 ((ae a b).f0),.int .i64 0,.int .i64 0]) ?_ 1 _ rfl;refine zk ?_;refine bC (cs:=#[.int .i64 0,.int .i64 0,.int .i64 0]) ?_ 0 _ rfl;exact zK p)):T≠M));replace p:=zA (aM (g:=M) (o:=.cells #[.int .i64 ((ae a b).f0),.int .i64 ((ae a b).f1),.int .i64 ((ae a b).f2)] 83 (0,0)) (by refine zk ?_;refine bC (cs:=#[.int .i64 ((ae a b).f0),.int .i64 ((ae a b).f1),.int .i64 0]) ?_ 2 _ rfl;refine zk ?_;refine bC (cs:=#[.int .i64 ((ae a b).f0),.int .i64 0,.int .i64 0]) ?_ 1 _ rfl;refine zk ?_;refine bC (cs:=#[.int .i64 0,.int .i64 0,.int .i64 0]) ?_ 0 _ rfl;exact zK p) hb);clear hb I l;have eg:=U.out;have ek:=y.out;have el:=a4.out;have em:=L.out;have er:=Q.out;have es:=x.out;obtain⟨cj,ck,cl,co⟩:=ax F))
         (try simp only[Act.put,List.setIfInBounds_toArray,List.set_cons_zero,List.set_cons_succ])
         go_cut [28] (fun v28 wc=>∃(G:Nat) (aP:Bool),v28= .bool aP/\Aside0 (bj.j2 G a (a.length:Int) b aP j a E z ((ae a b).f0) ((ae a b).f1) ((ae a b).f2) ((ae a b).f0) ((ae a b).f1)=some r)/\Aside0 (G<=k2)/\Aside0 (wc.heap[u]? =some (.cells #[.int .i64 j,(.slice (some Y) a.length B)] 24 (0,0)))/\Aside0 (wc.heap[D]? =some (.cells #[.int .i64 E,.int .i64 z] 116 (0,0)))/\Aside0 (wc.heap[M]? =some (.cells #[.int .i64 ((ae a b).f0),.int .i64 ((ae a b).f1),.int .i64 ((ae a b).f2)] 83 (0,0)))/\Aside0 (wc.heap[T]? =some (.cells #[.int .i64 ((ae a b).f0),.int .i64 ((ae a b).f1)] 116 (0,0)))/\Aside0 (Below w.heap.size w wc))
         case first=>
          have H:=a3.out;clear a3;obtain⟨t216,aR,H⟩:=zo H;by_cases aS:t216=true
          ·subst aS
           replace H:=zi H;obtain⟨t217,a5,H⟩:=zo H;by_cases a0:t217=true
           ·subst a0
            replace H:=zi H;by_cases Z:((ae a b).f2)<1
            ·rw[if_pos Z] at H
             have ak:=az Z;clear Z
             (first|rw[ak]|(simp only[bT,bW];rw[ak])|skip)
             have v:=zA H;clear H;have ev:=K.out;have ew:=S.out;have ex:=q.out;have ey:=O.out;have e0:=y.out;have e1:=U.out;obtain⟨e2,e3,e4,e5⟩:=ax i;have e6:=P.out;have e_:=s.out;have e':=x.out;have fb:=Q.out;obtain⟨fd,fn,fo,fq,fr,ft⟩:=cg p;go_wp2_with (first|((with_reducible refine aC (f:=121) rfl ?_);refine zL (some 33) Tryz.func121 #[.int .i64 j,.int .i64 ((ae a b).f0)] ?_;(with_reducible refine(fy.calls j ((ae a b).f0) true _ aR.out).mono ?_);rintro e w' ⟨rfl,⟨nd,rfl⟩⟩;refine⟨_,rfl,?_⟩)|(go_at_call 121;(with_reducible refine(fy.calls j ((ae a b).f1) true _ a5.out).mono ?_);rintro e w' ⟨rfl,⟨nd,rfl⟩⟩))
             go_meet
             case rel=>exact⟨_,(true),zT,v,⟨by have:=V.out;have:=W.out;first|omega|exact aI _⟩,⟨by refine zk ?_;refine aG ?_ y.out _;refine zk ?_;refine aG ?_ y.out _;exact zK i⟩,⟨by refine zk ?_;refine aG ?_ L.out _;refine zk ?_;refine aG ?_ L.out _;exact zK n⟩,⟨by refine zk ?_;refine aG ?_ x.out _;refine zk ?_;refine aG ?_ x.out _;exact zK p⟩,⟨by refine zk ?_;refine bC (cs:=#[.int .i64 ((ae a b).f0),.int .i64 0]) ?_ 1 _ rfl;refine zk ?_;refine bC (cs:=#[.int .i64 0,.int .i64 0]) ?_ 0 _ rfl;exact zK F⟩,⟨zB⟩⟩
            ·rw[if_neg Z] at H
             have ak:=aZ Z;clear Z
             (first|rw[ak]|(simp only[bT,bW];rw[ak])|skip)
             have v:=zA H;clear H;have fv:=K.out;have f3:=S.out;have f4:=q.out;have f5:=O.out;have f6:=y.out;have f7:=U.out;obtain⟨f8,f9,f',gb⟩:=ax i;have gc:=P.out;have gd:=s.out;have ge:=x.out;have gf:=Q.out;obtain⟨gg,gi,gl,gm,gn,go⟩:=cg p;go_wp2_with (first|((with_reducible refine aC (f:=121) rfl ?_);refine zL (some 33) Tryz.func121 #[.int .i64 j,.int .i64 ((ae a b).f0)] ?_;(with_reducible refine(fy.calls j ((ae a b).f0) true _ aR.out).mono ?_);rintro e w' ⟨rfl,⟨nd,rfl⟩⟩;refine⟨_,rfl,?_⟩)|(go_at_call 121;(with_reducible refine(fy.calls j ((ae a b).f1) true _ a5.out).mono ?_);rintro e w' ⟨rfl,⟨nd,rfl⟩⟩))
             go_meet
             case rel=>exact⟨_,(decide (((ae a b).f2)>50)),zT,v,⟨by have:=V.out;have:=W.out;first|omega|exact aI _⟩,⟨by refine zk ?_;refine aG ?_ y.out _;refine zk ?_;refine aG ?_ y.out _;exact zK i⟩,⟨by refine zk ?_;refine aG ?_ L.out _;refine zk ?_;refine aG ?_ L.out _;exact zK n⟩,⟨by refine zk ?_;refine aG ?_ x.out _;refine zk ?_;refine aG ?_ x.out _;exact zK p⟩,⟨by refine zk ?_;refine bC (cs:=#[.int .i64 ((ae a b).f0),.int .i64 0]) ?_ 1 _ rfl;refine zk ?_;refine bC (cs:=#[.int .i64 0,.int .i64 0]) ?_ 0 _ rfl;exact zK F⟩,⟨zB⟩⟩
           ·replace a0:=Bool.eq_false_iff.mpr a0
            subst a0;replace H:=zj H;have v:=zA H;clear H;have gp:=K.out;have gq:=S.out;have gr:=q.out;have gs:=O.out;have gt:=y.out;have gx:=U.out;obtain⟨g0,g1,g2,g3⟩:=ax i;have g4:=P.out;have g5:=s.out;have g6:=x.out;have g7:=Q.out;obtain⟨g8,g9,g',ha,hc,he⟩:=cg p;go_wp2_with (first|((with_reducible refine aC (f:=121) rfl ?_);refine zL (some 33) Tryz.func121 #[.int .i64 j,.int .i64 ((ae a b).f0)] ?_;(with_reducible refine(fy.calls j ((ae a b).f0) true _ aR.out).mono ?_);rintro e w' ⟨rfl,⟨nd,rfl⟩⟩;refine⟨_,rfl,?_⟩)|(go_at_call 121;(with_reducible refine(fy.calls j ((ae a b).f1) false _ a5.out).mono ?_);rintro e w' ⟨rfl,⟨nd,rfl⟩⟩))
            go_meet
            case rel=>exact⟨_,(true),zT,v,⟨by have:=V.out;have:=W.out;first|omega|exact aI _⟩,⟨by refine zk ?_;refine aG ?_ y.out _;refine zk ?_;refine aG ?_ y.out _;exact zK i⟩,⟨by refine zk ?_;refine aG ?_ L.out _;refine zk ?_;refine aG ?_ L.out _;exact zK n⟩,⟨by refine zk ?_;refine aG ?_ x.out _;refine zk ?_;refine aG ?_ x.out _;exact zK p⟩,⟨by refine zk ?_;refine bC (cs:=#[.int .i64 ((ae a b).f0),.int .i64 0]) ?_ 1 _ rfl;refine zk ?_;refine bC (cs:=#[.int .i64 0,.int .i64 0]) ?_ 0 _ rfl;exact zK F⟩,⟨zB⟩⟩
          ·replace aS:=Bool.eq_false_iff.mpr aS
           subst aS;replace H:=zj H;have v:=zA H;clear H;have hf:=K.out;have hh:=S.out;have hj:=q.out;have hk:=O.out;have hl:=y.out;have hm:=U.out;obtain⟨hn,ho,hp,hq⟩:=ax i;have hr:=P.out;have hs:=s.out;have ht:=x.out;have hv:=Q.out;obtain⟨hw,hx,hy,hz,hA,hB⟩:=cg p;go_wp2_with (first|((with_reducible refine aC (f:=121) rfl ?_);refine zL (some 33) Tryz.func121 #[.int .i64 j,.int .i64 ((ae a b).f0)] ?_;(with_reducible refine(fy.calls j ((ae a b).f0) false _ aR.out).mono ?_);rintro e w' ⟨rfl,⟨nd,rfl⟩⟩;refine⟨_,rfl,?_⟩))
           go_meet
           case rel=>exact⟨_,(true),zT,v,⟨by have:=V.out;have:=W.out;first|omega|exact aI _⟩,⟨by refine zk ?_;refine aG ?_ y.out _;refine zk ?_;refine aG ?_ y.out _;exact zK i⟩,⟨by refine zk ?_;refine aG ?_ L.out _;refine zk ?_;refine aG ?_ L.out _;exact zK n⟩,⟨by refine zk ?_;refine aG ?_ x.out _;refine zk ?_;refine aG ?_ x.out _;exact zK p⟩,⟨by refine zk ?_;refine bC (cs:=#[.int .i64 ((ae a b).f0),.int .i64 0]) ?_ 1 _ rfl;refine zk ?_;refine bC (cs:=#[.int .i64 0,.int .i64 0]) ?_ 0 _ rfl;exact zK F⟩,⟨zB⟩⟩
         case rest=>
          clear a3;clear bi b' ca cc cd ce cj ck cf ch ci cl co aF aL aO av aB;obtain⟨G,aP,rfl,J,bk,i,n,p,F,m⟩:=hcut;cases G with
          |zero=>exact absurd J.out (by simp[bj.j2])
          |succ a9=>
           have H:=J.out;clear J;simp only[bj.j2] at H;by_cases a1:aP=true
           ·subst a1
            replace H:=zi H;obtain rfl:=aH H;go_wp2;go_ret;exact⟨zE,zB⟩
           ·replace a1:=Bool.eq_false_iff.mpr a1
            subst a1;replace H:=zj H;by_cases ab:((ae a b).f0)>((ae a b).f1)
            ·rw[if_pos ab] at H
             have cq:=az ab;clear ab;obtain rfl:=aH H;have hC:=O.out;have hD:=q.out;have hE:=P.out;have hG:=s.out;have hH:=x.out;have hI:=Q.out;obtain⟨hJ,hK,hL,hM,hN,hO⟩:=cg p;go_wp2;go_ret;exact⟨zE,zB⟩
            ·rw[if_neg ab] at H
             have cq:=aZ ab;clear ab;obtain⟨t218,bn,H⟩:=zo H;by_cases ad:t218>=0
             ·rw[if_pos ad] at H
              have cr:=az ad;clear ad;obtain rfl:=aH H;have hP:=O.out;have hQ:=q.out;have hR:=P.out;have hT:=s.out;have hV:=x.out;have hW:=Q.out;obtain⟨hX,hY,h0,h1,h2,h3⟩:=cg p;have h4:=S.out;have h5:=K.out;have h6:=L.out;have h7:=a4.out;obtain⟨h8,h9,h_,h'⟩:=ax n;have ib:=U.out;have id:=y.out;obtain⟨ih,ii,im,io⟩:=ax F;go_wp2_with (first|(go_at_call 122;(with_reducible refine(dG.calls a9 E z ((ae a b).f0) ((ae a b).f1) t218 _ bn.out).mono ?_);rintro e ip ⟨rfl,hb⟩;replace i:=zb i hb;replace n:=zb n hb;replace p:=zb p hb;replace F:=zb F hb;replace m:=zS m hb;(try clear hb)))
              go_ret;exact⟨zE,zB⟩
             ·rw[if_neg ad] at H
              have cr:=aZ ad;clear ad;have v:=zA H;clear H;have it:=O.out;have iv:=q.out;have i0:=P.out;have i1:=s.out;have i2:=x.out;have i3:=Q.out;obtain⟨i4,i5,i6,i7,i8,i9⟩:=cg p;have i_:=S.out;have jj:=K.out;have jp:=L.out;have j1:=a4.out;obtain⟨j3,j_,j',kd⟩:=ax n;have kk:=U.out;have km:=y.out;obtain⟨ks,kt,kv,kw⟩:=ax F;go_wp2_with (first|(go_at_call 122;(with_reducible refine(dG.calls a9 E z ((ae a b).f0) ((ae a b).f1) t218 _ bn.out).mono ?_);rintro e kW ⟨rfl,hb⟩;replace i:=zb i hb;replace n:=zb n hb;replace p:=zb p hb;replace F:=zb F hb;replace m:=zS m hb;(try clear hb);obtain⟨k0,k1,k3,k4⟩:=ax F;obtain⟨k5,k6,k7,k8⟩:=ax n))
              go_roundg a9
              case measure=>have:=V.out;have:=W.out;have:=bk.out;omega
              case rel=>exact⟨(wrap64 (b+1)),(((ae a b).f0)),(((ae a b).f1)),zT,v,⟨by have:=V.out;have:=W.out;have:=bk.out;omega⟩,⟨by refine zk ?_;refine aG ?_ K.out _;refine zk ?_;refine aG ?_ K.out _;exact zK i⟩,⟨by refine zk ?_;refine bC (cs:=#[.int .i64 ((ae a b).f0),.int .i64 z]) ?_ 1 _ rfl;refine zk ?_;refine bC (cs:=#[.int .i64 E,.int .i64 z]) ?_ 0 _ rfl;exact zK n⟩,⟨zB⟩⟩
        ·rw[if_neg ar] at H
         exact absurd H (by simp)
       ·rw[if_neg ap] at H
        exact absurd H (by simp)
      ·rw[if_neg X] at H
       have bi:=aZ X;clear X;obtain rfl:=aH H;go_wp2;go_ret;exact⟨zE,zB⟩
def cM (N:Int) (x:S83):Bool:=decide (0<=x.f0/\x.f0<N/\0<=x.f1/\x.f1<N/\1<=x.f2/\x.f2<=50)
def eo (N:Int) (a b:Int) (x:S83):Int:=if cM N x=false then 2 else if x.f0<a\/x.f0=a/\x.f1<=b\/x.f0>x.f1 then 9 else 0
def iw (N:Int):Int->Int->List S83->Int
 |_,_,[]=>0
 |a,b,x::E=>if eo N a b x=0 then iw N x.f0 x.f1 E else eo N a b x
def cT (N:Int) (E:List S83):Int:=if N<1\/N>12 then 2 else iw N (-1) (-1) E
theorem nT {E:List S83} {i:Nat} (h:i<E.length):E.drop i=ae E i::E.drop (i+1):=by
 rw[List.drop_eq_getElem_cons h];simp[ae,bh,bX h]
theorem sY (N v:Int):fy.f N v=some (decide (0<=v/\v<N)):=by
 unfold fy.f;by_cases h:v>=0
 ·rw[if_pos h];congr 1;simp[show 0<=v from h]
 ·rw[if_neg h];congr 1;simp;omega
theorem zy (a b:Int):gW.f a b=some (if a<b then -1 else if a>b then 1 else 0):=by
 unfold gW.f cmp_isNaN_int.f;simp only[bne_self_eq_false,Option.bind_some,Bool.false_eq_true,if_false];split
 ·rfl
 ·split<;>rfl
theorem zz (a b:Int):Ev (fun k=>df.f k [a,b]) (if a=0 then b else a):=by
 unfold df.f;refine Ev.of_succ ?_;simp only[df.l0,List.length_cons,List.length_nil,rd];by_cases e:a=0
 ·subst e
  refine Ev.of_succ ?_;simp only[df.l0,List.length_cons,List.length_nil,rd,wrap64];simp;by_cases hb:b=0
  ·subst hb
   refine Ev.of_succ ?_;simp[df.l0,wrap64];exact Ev.const _
  ·simp[hb];exact Ev.const _
 ·simp[e];exact Ev.const _
theorem zD (a b c d:Int):Ev (fun k=>dG.f k a b c d) (if a<c then -1 else if a>c then 1 else if b<d then -1 else if b>d then 1 else 0):=by
 unfold dG.f;simp only[zy,Option.bind_some];refine Ev.bind (zz _ _) ?_;have e:(if(if a<c then(-1:Int) else if a>c then 1 else 0)=0 then(if b<d then(-1:Int) else if b>d then 1 else 0) else(if a<c then(-1:Int) else if a>c then 1 else 0))=(if a<c then -1 else if a>c then 1 else if b<d then -1 else if b>d then 1 else 0):=by
  by_cases h1:a<c
  ·simp[h1]
  ·by_cases g:a>c
   ·simp[h1,g]
   ·simp[h1,g]
 rw[e];exact Ev.const _
theorem sZ (N:Int) (E:List S83) (r:E.length<=1000):∀(m i:Nat) (a g:Int),i+m=E.length->Ev (fun k=>bj.l0 k E E.length i N E a g) (iw N a g (E.drop i))
 |0,i,a,g,hi=>by
  refine Ev.of_succ ?_;simp only[bj.l0,if_neg (show ¬((i:Int)<(E.length:Int)) by omega)];rw[List.drop_eq_nil_of_le (by omega)];exact Ev.const _
 |m+1,i,a,g,hi=>by
  have o:=sZ N E r m (i+1) (ae E i).f0 (ae E i).f1 (by omega);refine Ev.of_succ ?_;simp only[bj.l0,if_pos (show (i:Int)<(E.length:Int) by omega),if_pos (show (0:Int)<=(i:Int) by omega),sY,Option.bind_some];rw[nT (by omega),iw];generalize u:ae E i=x at o⊢;have key:∀b:Bool,b= !cM N x->Ev (fun k=>bj.j2 k E E.length i b N E a g x.f0 x.f1 x.f2 x.f0 x.f1) (if eo N a g x=0 then iw N x.f0 x.f1 (E.drop (i+1)) else eo N a g x):=by
   rintro b rfl;refine Ev.of_succ ?_;simp only[bj.j2];cases l:cM N x with
   |false=>simp[eo,l];exact Ev.const _
   |true=>
    simp only[Bool.not_true,Bool.false_eq_true,if_false];by_cases n:x.f0>x.f1
    ·have e:eo N a g x=9:=by simp[eo,l,n]
     rw[e];simp only[if_pos n];exact Ev.const _
    ·simp only[if_neg n]
     refine Ev.bind (zD _ _ _ _) ?_;by_cases s:x.f0<a\/x.f0=a/\x.f1<=g
     ·have e:eo N a g x=9:=by
       unfold eo;rw[l,if_neg (by decide),if_pos (by rcases s with h|h;exact .inl h;exact .inr (.inl h))]
      rw[e];have j:(if a<x.f0 then(-1:Int) else if a>x.f0 then 1 else if g<x.f1 then -1 else if g>x.f1 then 1 else 0)>=0:=by
       rw[if_neg (by omega)];split
       ·decide
       ·rw[if_neg (by omega)];split<;>decide
      simp only[if_pos j];exact Ev.const _
     ·have e:eo N a g x=0:=by
       unfold eo;rw[l,if_neg (by decide),if_neg (by omega)]
      rw[e];have j:¬(if a<x.f0 then(-1:Int) else if a>x.f0 then 1 else if g<x.f1 then -1 else if g>x.f1 then 1 else 0)>=0:=by
       split
       ·decide
       ·rw[if_neg (by omega),if_pos (by omega)];decide
      simp only[if_neg j,dF (show i<=1000000 by omega),if_true];exact o
  by_cases p:0<=x.f0/\x.f0<N
  ·simp only[az p,if_true]
   by_cases h1:0<=x.f1/\x.f1<N
   ·simp only[az h1,if_true]
    by_cases q:x.f2<1
    ·simp only[if_pos q]
     exact key true (by simp[cM];omega)
    ·simp only[if_neg q]
     exact key _ (by unfold cM;by_cases j:x.f2>50<;>simp[j]<;>omega)
   ·simp only[aZ h1,Bool.false_eq_true,if_false]
    exact key true (by simp[cM];omega)
  ·simp only[aZ p,Bool.false_eq_true,if_false]
   exact key true (by simp[cM];omega)
theorem nU (N:Int) (E:List S83) (a:E.length<=1000):Ev (fun k=>bj.f k N E) (cT N E):=by
 unfold bj.f cT;have key:∀b:Bool,b=decide (N<1\/N>12)->Ev (fun k=>bj.j0 k b N E) (if N<1\/N>12 then 2 else iw N (-1) (-1) E):=by
  rintro b rfl;refine Ev.of_succ ?_;simp only[bj.j0];by_cases h:N<1\/N>12
  ·simp[h];exact Ev.const _
  ·simp only[aZ h,Bool.false_eq_true,if_false,if_neg h]
   have:=sZ N E a E.length 0 (-1) (-1) (by omega);simpa using this
 by_cases h:N<1
 ·simp only[if_pos h];exact key true (by simp[h])
 ·simp only[if_neg h];exact key _ (by simp[h])
theorem zF (N:Int) (E:List S83) (v:Int):gF.f N E v=some (decide (0<=v/\v<N)):=by
 unfold gF.f;by_cases h:v>=0
 ·rw[if_pos h];congr 1;simp[show 0<=v from h]
 ·rw[if_neg h];congr 1;simp;omega
def ix (E:List S83) (i:Nat):Int:=if i=0 then -1 else(ae E (i-1:Nat)).f0
def iy (E:List S83) (i:Nat):Int:=if i=0 then -1 else(ae E (i-1:Nat)).f1
theorem zH {i:Nat} (h:(i:Int)<9223372036854775807):wrap64 ((i:Int)+1)=((i+1:Nat):Int):=by unfold wrap64;omega
theorem zI (N:Int) (E:List S83) (m:E.length<=9223372036854775807) (i:Nat) (hi:i<E.length):Ev (fun k=>eX.f k N E i) (eo N (ix E i) (iy E i) (ae E i)):=by
 unfold eX.f;simp only[if_pos (show (0:Int)<=(i:Int) by omega),if_pos (show (i:Int)<(E.length:Int) by omega),zF,Option.bind_some];generalize n:ae E i=x;have key:∀b:Bool,b= !cM N x->Ev (fun k=>eX.j0 k i b N E x.f0 x.f1 x.f2) (eo N (ix E i) (iy E i) x):=by
  rintro b rfl;refine Ev.of_succ ?_;simp only[eX.j0];cases h:cM N x with
  |false=>simp[eo,h];exact Ev.const _
  |true=>
   simp only[Bool.not_true,Bool.false_eq_true,if_false];have o:0<=x.f0:=by simp[cM] at h;omega
   by_cases l:x.f0>x.f1
   ·have e:eo N (ix E i) (iy E i) x=9:=by simp[eo,h,l]
    rw[e];simp only[if_pos l];exact Ev.const _
   ·simp only[if_neg l]
    by_cases a:i=0
    ·subst a
     have e:eo N (ix E 0) (iy E 0) x=0:=by
      unfold eo ix iy;rw[h,if_neg (by decide),if_neg (by simp;omega)]
     rw[e];simp;exact Ev.const _
    ·simp only[if_pos (show (i:Int)>0 by omega),show wrap64 ((i:Int)-1)=((i-1:Nat):Int) by unfold wrap64;omega,if_pos (show (0:Int)<=((i-1:Nat):Int) by omega),if_pos (show ((i-1:Nat):Int)<(E.length:Int) by omega)]
     unfold ix iy;rw[if_neg a,if_neg a];generalize ae E (i-1:Nat)=y;unfold eo;rw[h,if_neg (show ¬(true=false) by decide)];by_cases h1:x.f0<y.f0
     ·simp only[if_pos h1];rw[if_pos (.inl h1)];exact Ev.const _
     ·simp only[if_neg h1]
      by_cases g:x.f0=y.f0
      ·simp only[if_pos g]
       by_cases j:x.f1<=y.f1
       ·simp only[if_pos j];rw[if_pos (.inr (.inl ⟨g,j⟩))];exact Ev.const _
       ·simp only[if_neg j];rw[if_neg (by omega)];exact Ev.const _
      ·simp only[if_neg g];rw[if_neg (by omega)];exact Ev.const _
 by_cases a:0<=x.f0/\x.f0<N
 ·simp only[az a,if_true]
  by_cases h1:0<=x.f1/\x.f1<N
  ·simp only[az h1,if_true]
   by_cases g:x.f2<1
   ·simp only[if_pos g]
    exact key true (by simp[cM];omega)
   ·simp only[if_neg g]
    exact key _ (by unfold cM;by_cases j:x.f2>50<;>simp[j]<;>omega)
  ·simp only[aZ h1,Bool.false_eq_true,if_false]
   exact key true (by simp[cM];omega)
 ·simp only[aZ a,Bool.false_eq_true,if_false]
  exact key true (by simp[cM];omega)
theorem s6 (N:Int) (E:List S83) (a:E.length<=9223372036854775807):∀(m i:Nat),i+m=E.length->Ev (fun k=>dc.l0 k i N E) (iw N (ix E i) (iy E i) (E.drop i))
 |0,i,hi=>by
  refine Ev.of_succ ?_;simp only[dc.l0,if_neg (show ¬((i:Int)<(E.length:Int)) by omega)];rw[List.drop_eq_nil_of_le (by omega)];exact Ev.const _
 |m+1,i,hi=>by
  have b:=s6 N E a m (i+1) (by omega);refine Ev.of_succ ?_;simp only[dc.l0,if_pos (show (i:Int)<(E.length:Int) by omega)];rw[nT (by omega),iw];refine Ev.bind (zI N E a i (by omega)) ?_;have e:ix E (i+1)=(ae E i).f0:=by simp[ix]
  have g:iy E (i+1)=(ae E i).f1:=by simp[iy]
  rw[e,g] at b;by_cases h:eo N (ix E i) (iy E i) (ae E i)=0
  ·simp only[if_pos h,zH (show (i:Int)<9223372036854775807 by omega)];exact b
  ·simp only[if_neg h];exact Ev.const _
theorem pP (N:Int) (E:List S83) (a:E.length<=9223372036854775807):Ev (fun k=>dc.f k N E) (cT N E):=by
 unfold dc.f cT;have key:∀b:Bool,b=decide (N<1\/N>12)->Ev (fun k=>dc.j0 k b N E) (if N<1\/N>12 then 2 else iw N (-1) (-1) E):=by
  rintro b rfl;refine Ev.of_succ ?_;simp only[dc.j0];by_cases h:N<1\/N>12
  ·simp[h];exact Ev.const _
  ·simp only[aZ h,Bool.false_eq_true,if_false,if_neg h]
   have:=s6 N E a E.length 0 (by omega);simpa [ix,iy] using this
 by_cases h:N<1
 ·simp only[if_pos h];exact key true (by simp[h])
 ·simp only[if_neg h];exact key _ (by simp[h])
end Go.Proofs.YtffdiakgjakngaaGreat.P
namespace Go.Proofs.YtffdiakgjakngaaGreat.T
set_option linter.unusedVariables false
set_option linter.unusedSimpArgs false
set_option maxHeartbeats 8000000
set_option maxRecDepth 100000
def sN (f:Nat->Int):Nat->Int
 |0=>0
 |n+1=>sN f n+f n
theorem dH (f:Nat->Int) (n:Nat):sN f (n+1)=sN f n+f n:=rfl
theorem bQ {f g:Nat->Int}:∀{n:Nat},(∀u,u<n->f u=g u)->sN f n=sN g n
 |0,_=>rfl
 |n+1,h=>by rw[dH,dH,bQ (n:=n) (fun u hu=>h u (by omega)),h n (by omega)]
theorem cN {f g:Nat->Int}:∀{n:Nat},(∀u,u<n->f u<=g u)->sN f n<=sN g n
 |0,_=>Int.le_refl _
 |n+1,h=>by
  have h1:=cN (n:=n) (fun u hu=>h u (by omega));have a:=h n (by omega);rw[dH,dH];omega
theorem jw:∀(n:Nat),sN (fun _=>0) n=0
 |0=>rfl
 |n+1=>by rw[dH,jw n];rfl
theorem gX {f:Nat->Int} {n:Nat} (h:∀u,u<n->f u=0):sN f n=0:=(bQ h).trans (jw n)
theorem dg {f:Nat->Int} {n:Nat} (h:∀u,u<n->0<=f u):0<=sN f n:=by
 have:=cN (f:=fun _=>0) (g:=f) (n:=n) h;rw[jw] at this;exact this
theorem dS (f g:Nat->Int):∀n:Nat,sN (fun v=>f v+g v) n=sN f n+sN g n
 |0=>rfl
 |n+1=>by rw[dH,dH,dH,dS f g n];omega
theorem dy (f g:Nat->Int):∀n:Nat,sN (fun v=>f v-g v) n=sN f n-sN g n
 |0=>rfl
 |n+1=>by rw[dH,dH,dH,dy f g n];omega
theorem mz (f:Nat->Int):∀n:Nat,sN (fun v=> -f v) n= -sN f n
 |0=>rfl
 |n+1=>by rw[dH,dH,mz f n];omega
theorem eY (c:Int) (f:Nat->Int):∀n:Nat,sN (fun v=>c*f v) n=c*sN f n
 |0=>by simp[sN]
 |n+1=>by rw[dH,dH,eY c f n,Int.mul_add]
theorem iZ (c:Int):∀n:Nat,sN (fun _=>c) n=n*c
 |0=>by simp[sN]
 |n+1=>by rw[dH,iZ c n,Int.natCast_add,Int.add_mul];simp
theorem mA (f:Nat->Nat->Int) (m:Nat):∀n:Nat,sN (fun v=>sN (fun u=>f v u) m) n=sN (fun u=>sN (fun v=>f v u) n) m
 |0=>by show (0:Int)=sN (fun u=>0) m;rw[jw]
 |n+1=>by
  rw[dH,mA f m n,<-dS];exact bQ fun u _=>rfl
theorem jx {f:Nat->Int} {v:Nat}:∀{n:Nat},v<n->(∀u,u<n->u≠v->f u=0)->sN f n=f v
 |0,h,_=>by omega
 |n+1,h,a=>by
  rw[dH];by_cases e:v=n
  ·subst e
   rw[gX fun u hu=>a u (by omega) (by omega)];omega
  ·rw[jx (n:=n) (by omega) fun u hu b=>a u (by omega) b,a n (by omega) (fun h=>e h.symm)];omega
theorem fz {f:Nat->Int} {n v:Nat} (a:v<n) (h:∀u,u<n->0<=f u):f v<=sN f n:=by
 have h1:sN (fun u=>if u=v then f v else 0) n=f v:=by
  rw[jx (f:=fun u=>if u=v then f v else 0) a (fun u _ hu=>if_neg hu)];exact if_pos rfl
 rw[<-h1];refine cN fun u hu=>?_
 show (if u=v then f v else 0)<=f u
 by_cases e:u=v
 ·subst e;rw[if_pos rfl];exact Int.le_refl _
 ·rw[if_neg e];exact h u hu
theorem nV (s:Nat->Int):∀{n:Nat},0<n->∃v,v<n/\∀u,u<n->s u<=s v
 |0,h=>by omega
 |1,_=>⟨0,by omega,fun u hu=>by
   obtain rfl:u=0:=by omega
   exact Int.le_refl _⟩
 |n+2,_=>by
  obtain⟨v,b,h⟩:=nV s (n:=n+1) (by omega);by_cases a:s (n+1)<=s v
  ·exact⟨v,by omega,fun u hu=>by
    by_cases e:u=n+1
    ·subst e;exact a
    ·exact h u (by omega)⟩
  ·exact⟨n+1,by omega,fun u hu=>by
    by_cases e:u=n+1
    ·subst e;exact Int.le_refl _
    ·have:=h u (by omega);omega⟩
theorem exists_least {P:Nat->Prop} (f:Nat->Nat) (h:∃v,P v):∃v,P v/\∀u,P u->f v<=f u:=by
 obtain⟨v,a⟩:=h;have key:∀(k:Nat) (v:Nat),f v<=k->P v->∃v,P v/\∀u,P u->f v<=f u:=by
  intro k;induction k with
  |zero=>intro v hk a;exact⟨v,a,fun u _=>by omega⟩
  |succ k g=>
   intro v hk a;by_cases b:∃u,P u/\f u<f v
   ·obtain⟨u,hu,e⟩:=b
    exact g u (by omega) hu
   ·exact⟨v,a,fun u hu=>by
     by_cases e:f u<f v
     ·exact absurd ⟨u,hu,e⟩ b
     ·omega⟩
 exact key (f v) v (Nat.le_refl _) a
theorem zJ {P:Nat->Prop} (h:∃k,P k):∃k,P k/\∀j,P j->k<=j:=exists_least id h
structure Wt (n:Nat) (t:Nat->Nat->Int):Prop where
 pos:∀u v,0<=t u v
 sym:∀u v,t u v=t v u
 self:∀v,t v v=0
def aV (n:Nat) (t:Nat->Nat->Int) (s:Nat->Int) (v:Nat):Int:=sN (fun u=>t v u*(s v-s u)) n
theorem jy (n:Nat) (t:Nat->Nat->Int) (s r:Nat->Int) (v:Nat):aV n t (fun u=>s u+r u) v=aV n t s v+aV n t r v:=by
 unfold aV;rw[<-dS];refine bQ fun u _=>?_
 rw[<-Int.mul_add];congr 1;show s v+r v- (s u+r u)=_;omega
theorem kE (n:Nat) (t:Nat->Nat->Int) (s:Nat->Int) (v:Nat):aV n t (fun u=> -s u) v= -aV n t s v:=by
 unfold aV;rw[<-mz];refine bQ fun u _=>?_
 rw[<-Int.mul_neg];congr 1;show -s v- -s u=_;omega
theorem kF (n:Nat) (t:Nat->Nat->Int) (s r:Nat->Int) (v:Nat):aV n t (fun u=>s u-r u) v=aV n t s v-aV n t r v:=by
 unfold aV;rw[<-dy];refine bQ fun u _=>?_
 rw[<-Int.mul_sub];congr 1;show s v-r v- (s u-r u)=_;omega
theorem s7 (n:Nat) (t:Nat->Nat->Int) (c:Int) (s:Nat->Int) (v:Nat):aV n t (fun u=>c*s u) v=c*aV n t s v:=by
 unfold aV;rw[<-eY];refine bQ fun u _=>?_
 rw[<-Int.mul_sub,Int.mul_left_comm]
theorem lI {n:Nat} {t:Nat->Nat->Int} {s r:Nat->Int} (h:∀u,u<n->s u=r u) {v:Nat} (a:v<n):aV n t s v=aV n t r v:=by
 unfold aV;refine bQ fun u hu=>?_
 rw[h u hu,h v a]
theorem i' (n:Nat) (t:Nat->Nat->Int) (c:Int) (v:Nat):aV n t (fun _=>c) v=0:=by
 unfold aV;exact gX fun u _=>by rw[Int.sub_self,Int.mul_zero]
theorem zM {n:Nat} {t:Nat->Nat->Int} (a:Wt n t) (s h:Nat->Int):sN (fun v=>h v*aV n t s v) n=sN (fun v=>s v*aV n t h v) n:=by
 have b:sN (fun v=>h v*aV n t s v) n=sN (fun v=>h v*s v*sN (fun u=>t v u) n) n-sN (fun v=>sN (fun u=>h v*t v u*s u) n) n:=by
  rw[<-dy];refine bQ fun v _=>?_
  unfold aV;rw[<-eY,<-eY,<-dy];refine bQ fun u _=>?_
  rw[Int.mul_sub,Int.mul_sub];congr 1
  ·rw[Int.mul_comm (t v u),<-Int.mul_assoc]
  ·rw[<-Int.mul_assoc]
 have e2:sN (fun v=>s v*aV n t h v) n=sN (fun v=>s v*h v*sN (fun u=>t v u) n) n-sN (fun v=>sN (fun u=>s v*t v u*h u) n) n:=by
  rw[<-dy];refine bQ fun v _=>?_
  unfold aV;rw[<-eY,<-eY,<-dy];refine bQ fun u _=>?_
  rw[Int.mul_sub,Int.mul_sub];congr 1
  ·rw[Int.mul_comm (t v u),<-Int.mul_assoc]
  ·rw[<-Int.mul_assoc]
 rw[b,e2];congr 1
 ·exact bQ fun v _=>by rw[Int.mul_comm (h v)]
 ·rw[mA]
  refine bQ fun u _=>bQ fun v _=>?_
  rw[a.sym v u,Int.mul_comm (h v),Int.mul_comm _ (s u),Int.mul_assoc]
theorem mB {n:Nat} {t:Nat->Nat->Int} (a:Wt n t) (s:Nat->Int):sN (fun v=>aV n t s v) n=0:=by
 have h:=zM a s (fun _=>1);rw[gX (f:=fun v=>s v*aV n t (fun _=>1) v) fun v _=>by rw[i',Int.mul_zero]] at h;rw[<-h];exact bQ fun v _=>by rw[Int.one_mul]
def bU (n:Nat) (t:Nat->Nat->Int) (D D':Nat->Int):Prop:=∃s:Nat->Int,∀v,v<n->D' v=D v-aV n t s v
theorem bU.refl (n:Nat) (t:Nat->Nat->Int) (D:Nat->Int):bU n t D D:=⟨fun _=>0,fun v _=>by rw[i'];omega⟩
theorem bU.of_eq {n:Nat} {t:Nat->Nat->Int} {D D':Nat->Int} (h:∀v,v<n->D' v=D v):bU n t D D':=⟨fun _=>0,fun v a=>by rw[i',h v a];omega⟩
theorem bU.symm {n:Nat} {t:Nat->Nat->Int} {D D':Nat->Int} (h:bU n t D D'):bU n t D' D:=by
 obtain⟨s,h⟩:=h;exact⟨fun u=> -s u,fun v a=>by rw[kE,h v a];omega⟩
theorem bU.trans {n:Nat} {t:Nat->Nat->Int} {D D' b:Nat->Int} (h:bU n t D D') (a:bU n t D' b):bU n t D b:=by
 obtain⟨s,h⟩:=h;obtain⟨r,a⟩:=a;exact⟨fun u=>s u+r u,fun v e=>by rw[jy,a v e,h v e];omega⟩
theorem bU.add {n:Nat} {t:Nat->Nat->Int} {D D' F a:Nat->Int} (h:bU n t D D') (b:bU n t F a):bU n t (fun v=>D v+F v) (fun v=>D' v+a v):=by
 obtain⟨s,h⟩:=h;obtain⟨r,b⟩:=b;exact⟨fun u=>s u+r u,fun v e=>by show D' v+a v=D v+F v-_;rw[jy,b v e,h v e];omega⟩
theorem bU.neg {n:Nat} {t:Nat->Nat->Int} {D D':Nat->Int} (h:bU n t D D'):bU n t (fun v=> -D v) (fun v=> -D' v):=by
 obtain⟨s,h⟩:=h;exact⟨fun u=> -s u,fun v a=>by show -D' v= -D v-_;rw[kE,h v a];omega⟩
theorem bU.bl {n:Nat} {t:Nat->Nat->Int} (a:Wt n t) {D D':Nat->Int} (h:bU n t D D'):sN D' n=sN D n:=by
 obtain⟨s,h⟩:=h;rw[bQ h,dy,mB a];omega
def nW (n:Nat) (D:Nat->Int):Prop:=∀v,v<n->0<=D v
def bZ (n:Nat) (t:Nat->Nat->Int) (D:Nat->Int):Prop:=∃D',bU n t D D'/\nW n D'
theorem bZ.fA {n:Nat} {t:Nat->Nat->Int} {D D':Nat->Int} (h:bU n t D D') (hw:bZ n t D):bZ n t D':=by
 obtain⟨F,h1,a⟩:=hw;exact⟨F,h.symm.trans h1,a⟩
theorem zO {n:Nat} {t:Nat->Nat->Int} {D D':Nat->Int} (h:bU n t D D'):bZ n t D↔bZ n t D':=⟨bZ.fA h,bZ.fA h.symm⟩
theorem bZ.mono {n:Nat} {t:Nat->Nat->Int} {D D':Nat->Int} (hw:bZ n t D) (h:∀v,v<n->D v<=D' v):bZ n t D':=by
 obtain⟨F,⟨s,h1⟩,b⟩:=hw;exact⟨fun v=>D' v-aV n t s v,⟨s,fun v _=>rfl⟩,fun v a=>by have:=b v a;have:=h1 v a;have:=h v a;show 0<=D' v-aV n t s v;omega⟩
theorem bZ.add {n:Nat} {t:Nat->Nat->Int} {D F:Nat->Int} (h1:bZ n t D) (g:bZ n t F):bZ n t (fun v=>D v+F v):=by
 obtain⟨D',a,b⟩:=h1;obtain⟨h,c,d⟩:=g;exact⟨_,a.add c,fun v e=>by have:=b v e;have:=d v e;show 0<=D' v+h v;omega⟩
theorem bZ.pQ {n:Nat} {t:Nat->Nat->Int} {D:Nat->Int} (h:nW n D):bZ n t D:=⟨D,bU.refl _ _ _,h⟩
theorem bZ.bl {n:Nat} {t:Nat->Nat->Int} (e:Wt n t) {D:Nat->Int} (h:bZ n t D):0<=sN D n:=by
 obtain⟨D',a,b⟩:=h;rw[<-a.bl e];exact dg b
def fK (n:Nat) (t:Nat->Nat->Int) (pos:Nat->Nat) (v:Nat):Int:=sN (fun u=>if pos u<pos v then t v u else 0) n
def val (n:Nat) (t:Nat->Nat->Int) (v:Nat):Int:=sN (fun u=>t v u) n
def nu (n:Nat) (t:Nat->Nat->Int) (pos:Nat->Nat) (v:Nat):Int:=fK n t pos v-1
theorem zP {n:Nat} {t:Nat->Nat->Int} (a:Wt n t) (hn:0<n) (pos:Nat->Nat) (s:Nat->Int):∃v,v<n/\nu n t pos v-aV n t s v<0:=by
 obtain⟨m,hm,b⟩:=nV s hn;obtain⟨v,⟨g,j⟩,i⟩:=exists_least (P:=fun v=>v<n/\s v=s m) pos ⟨m,hm,rfl⟩;refine⟨v,g,?_⟩;unfold nu fK aV;have:sN (fun u=>if pos u<pos v then t v u else 0) n<=sN (fun u=>t v u*(s v-s u)) n:=by
  refine cN fun u hu=>?_
  have hp:=a.pos v u;have k:=b u hu;by_cases e:pos u<pos v
  ·show (if pos u<pos v then t v u else 0)<=_
   rw[if_pos e];have l:s u≠s m:=fun h=>by have:=i u ⟨hu,h⟩;omega
   have h1:1<=s v-s u:=by omega
   have:=Int.mul_le_mul_of_nonneg_left h1 hp;rw[Int.mul_one] at this;exact this
  ·show (if pos u<pos v then t v u else 0)<=_
   rw[if_neg e];exact Int.mul_nonneg hp (by omega)
 omega
theorem pR {n:Nat} {t:Nat->Nat->Int} (b:Wt n t) (hn:0<n) (pos:Nat->Nat):¬bZ n t (nu n t pos):=by
 rintro⟨D',⟨s,h1⟩,e⟩;obtain⟨v,a,h⟩:=zP b hn pos s;have:=h1 v a;have:=e v a;omega
def iz (n:Nat) (pos:Nat->Nat):Prop:=∀u v,u<n->v<n->pos u=pos v->u=v
theorem s8 {n:Nat} {t:Nat->Nat->Int} (b:Wt n t) {pos pos':Nat->Nat} (hi:iz n pos) (g:∀u v,u<n->v<n->(pos' u<pos' v↔pos v<pos u)) {v:Nat} (a:v<n):fK n t pos v+fK n t pos' v=val n t v:=by
 unfold fK val;rw[<-dS];refine bQ fun u hu=>?_
 have h1:=g u v hu a;by_cases e:pos u<pos v
 ·rw[if_pos e,if_neg (by rw[h1];omega)];omega
 ·by_cases e2:pos v<pos u
  ·rw[if_neg e,if_pos (h1.2 e2)];omega
  ·rw[if_neg e,if_neg (fun h=>e2 (h1.1 h))]
   have:=hi u v hu a (by omega);subst this;rw[b.self];rfl
theorem s9 (n:Nat) (pos:Nat->Nat):∃pos':Nat->Nat,∀u v,u<n->v<n->(pos' u<pos' v↔pos v<pos u):=by
 obtain⟨B,a⟩:∃B,∀u,u<n->pos u<=B:=by
  induction n with
  |zero=>exact⟨0,fun u hu=>by omega⟩
  |succ n b=>
   obtain⟨B,a⟩:=b;exact⟨max B (pos n),fun u hu=>by
    by_cases e:u=n
    ·subst e;exact Nat.le_max_right _ _
    ·exact Nat.le_trans (a u (by omega)) (Nat.le_max_left _ _)⟩
 refine⟨fun u=>B-pos u,fun u v hu g=>?_⟩;have:=a u hu;have:=a v g;show B-pos u<B-pos v↔_
 omega
theorem zQ {n:Nat} {pos pos':Nat->Nat} (hi:iz n pos) (b:∀u v,u<n->v<n->(pos' u<pos' v↔pos v<pos u)):iz n pos':=by
 intro u v hu a he;have h1:=b u v hu a;have e:=b v u a hu;refine hi u v hu a ?_;omega
theorem zU {n:Nat} {t:Nat->Nat->Int} (a:Wt n t) {pos pos':Nat->Nat} (b:∀u v,u<n->v<n->(pos' u<pos' v↔pos v<pos u)):sN (fK n t pos) n=sN (fK n t pos') n:=by
 unfold fK;rw[mA];refine bQ fun u hu=>bQ fun v g=>?_
 have:=b v u g hu;by_cases e:pos u<pos v
 ·rw[if_pos e,if_pos (this.2 e),a.sym]
 ·rw[if_neg e,if_neg (fun h=>e (this.1 h))]
theorem zV {n:Nat} {t:Nat->Nat->Int} (a:Wt n t) {pos:Nat->Nat} (hi:iz n pos):2*sN (fK n t pos) n=sN (val n t) n:=by
 obtain⟨pos',b⟩:=s9 n pos;have h1:sN (fun v=>fK n t pos v+fK n t pos' v) n=sN (val n t) n:=bQ fun v e=>s8 a hi b e
 rw[dS] at h1;have g:=zU a b;omega
theorem zW {n:Nat} {t:Nat->Nat->Int} (pos:Nat->Nat):sN (nu n t pos) n=sN (fK n t pos) n-n:=by
 have:sN (nu n t pos) n=sN (fun v=>fK n t pos v- (fun _=>(1:Int)) v) n:=rfl;rw[this,dy,iZ];omega
theorem zY {n:Nat} {t:Nat->Nat->Int} (a:Wt n t) {pos pos':Nat->Nat} (hi:iz n pos) (b:∀u v,u<n->v<n->(pos' u<pos' v↔pos v<pos u)) {v:Nat} (e:v<n):val n t v-2-nu n t pos v=nu n t pos' v:=by
 have:=s8 a hi b e;unfold nu;omega
def dz (n:Nat) (t:Nat->Nat->Int):Prop:=∀S:Nat->Bool,(∃v,v<n/\S v=true)->(∃v,v<n/\S v=false)->∃u v,u<n/\v<n/\S u=true/\S v=false/\0<t u v
theorem zZ {f:Nat->Nat->Int} (h:∀u v,f u v= -f v u) (n:Nat):sN (fun v=>sN (fun u=>f v u) n) n=0:=by
 have h1:=mA f n n;have a:sN (fun u=>sN (fun v=>f v u) n) n=sN (fun u=> -sN (fun v=>f u v) n) n:=bQ fun u _=>by
  rw[<-mz];exact bQ fun v _=>h v u
 rw[a,mz] at h1;omega
theorem z7 {n:Nat} {t:Nat->Nat->Int} (a:Wt n t) (S:Nat->Bool) (s:Nat->Int):sN (fun v=>if S v=true then aV n t s v else 0) n=sN (fun v=>sN (fun u=>if S v=true/\S u=false then t v u*(s v-s u) else 0) n) n:=by
 have h1:=zZ (f:=fun v u=>if S v=true/\S u=true then t v u*(s v-s u) else 0) (fun u v=>by
  by_cases e:S u=true/\S v=true
  ·rw[if_pos e,if_pos ⟨e.2,e.1⟩,a.sym v u,<-Int.mul_neg];congr 1;omega
  ·rw[if_neg e,if_neg (fun h=>e ⟨h.2,h.1⟩)];rfl) n
 have b:sN (fun v=>if S v=true then aV n t s v else 0) n=sN (fun v=>sN (fun u=>if S v=true/\S u=true then t v u*(s v-s u) else 0) n+sN (fun u=>if S v=true/\S u=false then t v u*(s v-s u) else 0) n) n:=by
  refine bQ fun v _=>?_
  show (if S v=true then aV n t s v else 0)=_
  by_cases e:S v=true
  ·rw[if_pos e,<-dS]
   unfold aV;refine bQ fun u _=>?_
   cases hu:S u<;>simp[e]
  ·rw[if_neg e,gX fun u _=>if_neg (fun h=>e h.1),gX fun u _=>if_neg (fun h=>e h.1)];rfl
 rw[b,dS,h1];omega
theorem z8 {n:Nat} {t:Nat->Nat->Int} (g:Wt n t) (S:Nat->Bool) (s:Nat->Int) (M:Int) (m:0<=M) (j:∀u v,u<n->v<n->S u=true->S v=false->M<=s u-s v) {a b:Nat} (h:a<n) (hb:b<n) (k:S a=true) (l:S b=false) (q:0<t a b):
  M<=sN (fun v=>if S v=true then aV n t s v else 0) n:=by
 rw[z7 g];have hp:∀v,v<n->∀u,u<n->0<=(if S v=true/\S u=false then t v u*(s v-s u) else 0):=fun v i u hu=>by
  by_cases e:S v=true/\S u=false
  ·rw[if_pos e]
   have:=j v u i hu e.1 e.2;exact Int.mul_nonneg (g.pos _ _) (by omega)
  ·rw[if_neg e];exact Int.le_refl _
 have h1:=fz (f:=fun v=>sN (fun u=>if S v=true/\S u=false then t v u*(s v-s u) else 0) n) h (fun v i=>dg (hp v i));have o:=fz (f:=fun u=>if S a=true/\S u=false then t a u*(s a-s u) else 0) hb (hp a h);refine Int.le_trans ?_ (Int.le_trans o h1);show M<=(if S a=true/\S b=false then t a b*(s a-s b) else 0)
 rw[if_pos ⟨k,l⟩];have p:=j a b h hb k l;have r:=Int.mul_le_mul (show (1:Int)<=t a b by omega) p m (g.pos _ _);omega
def b7 (S:Nat->Bool):Nat->Nat
 |0=>0
 |n+1=>b7 S n+if S n=true then 1 else 0
theorem jz (S:Nat->Bool):∀n,b7 S n<=n
 |0=>Nat.le_refl _
 |n+1=>by have:=jz S n;unfold b7;split<;>omega
theorem mC {S T:Nat->Bool}:∀{n:Nat},(∀v,v<n->S v=true->T v=true)->b7 S n<=b7 T n
 |0,_=>Nat.le_refl _
 |n+1,h=>by
  have h1:=mC (n:=n) (fun v b=>h v (by omega));have a:=h n (by omega);unfold b7;cases hS:S n with
  |true=>rw[a hS];simp;exact h1
  |false=>simp only[Bool.false_eq_true,if_false];split<;>omega
theorem nX {S T:Nat->Bool} {w:Nat}:∀{n:Nat},(∀v,v<n->S v=true->T v=true)->w<n->S w=false->T w=true->b7 S n<b7 T n
 |0,_,h,_,_=>by omega
 |n+1,h,hw,hS,a=>by
  by_cases e:w=n
  ·subst e
   have h1:=mC (n:=w) (fun v b=>h v (by omega));unfold b7;rw[hS,a];simp;omega
  ·have h1:=nX (n:=n) (fun v b=>h v (by omega)) (by omega) hS a
   have g:=h n (by omega);unfold b7;cases i:S n with
   |true=>rw[g i];simp;omega
   |false=>simp only[Bool.false_eq_true,if_false];split<;>omega
theorem pS {S:Nat->Bool}:∀{n:Nat},n<=b7 S n->∀v,v<n->S v=true
 |0,_,v,a=>by omega
 |n+1,h,v,a=>by
  have h1:=jz S n;unfold b7 at h;by_cases e:S n=true
  ·rw[if_pos e] at h
   by_cases e2:v=n
   ·subst e2;exact e
   ·exact pS (n:=n) (by omega) v (by omega)
  ·rw[if_neg e] at h;omega
theorem z_ {S:Nat->Bool} {w n:Nat} (hw:w<n) (hS:S w=true):1<=b7 S n:=by
 have:=nX (S:=fun _=>false) (T:=S) (n:=n) (fun v _ h=>by cases h) hw rfl hS;omega
theorem pT:∀n:Nat,b7 (fun _=>true) n=n
 |0=>rfl
 |n+1=>by unfold b7;rw[pT n];simp
theorem jW {n:Nat} {t:Nat->Nat->Int} (r:Wt n t) (s:dz n t) {b:Nat->Int} {v0:Nat} (l:v0<n) (y:b v0<=0) {M:Int} (z:0<=M)
  (h:∀x:Int,0<=x->sN (fun v=>if decide (x<b v)=true then aV n t b v else 0) n<=M):∀v,v<n->b v<=n*M:=by
 have step:∀j:Nat,j+1<=b7 (fun v=>decide (b v<=j*M)) n\/n<=b7 (fun v=>decide (b v<=j*M)) n:=by
  intro j;induction j with
  |zero=>
   left
   exact z_ l (by simp;exact y)
  |succ j i=>
   have k:(((j+1:Nat):Int))*M=j*M+M:=by rw[Int.natCast_add,Int.add_mul];simp
   have m:∀v,v<n->decide (b v<=(j:Int)*M)=true->decide (b v<=((j+1:Nat):Int)*M)=true:=fun v _ g=>by
    have:=of_decide_eq_true g;exact decide_eq_true (by rw[k];omega)
   by_cases hn:n<=b7 (fun v=>decide (b v<=j*M)) n
   ·right;exact Nat.le_trans hn (mC m)
   ·rcases i with i|i
    ·left
     by_cases o:∃w,w<n/\(j:Int)*M<b w/\b w<=j*M+M
     ·obtain⟨w,hw,L,N⟩:=o
      have:=nX (S:=fun v=>decide (b v<=j*M)) (T:=fun v=>decide (b v<=((j+1:Nat):Int)*M)) m hw (decide_eq_false (by omega)) (decide_eq_true (by rw[k];omega));omega
     ·exfalso
      have B:0<=(j:Int)*M:=Int.mul_nonneg (by omega) z;have hex:∃v,v<n/\decide ((j:Int)*M<b v)=true:=by
       refine Classical.byContradiction fun C=>hn ?_
       have D:∀v,v<n->decide (b v<=(j:Int)*M)=true:=fun v g=>by
        by_cases e:b v<=(j:Int)*M
        ·exact decide_eq_true e
        ·exact absurd ⟨v,g,decide_eq_true (by omega)⟩ C
       have p:=pT n;have q:=mC (S:=fun _=>true) (T:=fun v=>decide (b v<=(j:Int)*M)) (n:=n) (fun v g _=>D v g);omega
      obtain⟨a,c,E,F,G,H,I⟩:=s (fun v=>decide ((j:Int)*M<b v)) hex ⟨v0,l,decide_eq_false (by omega)⟩;have h1:=z8 r (fun v=>decide ((j:Int)*M<b v)) b (M+1) (by omega) (fun u v hu g J K=>by
       have k:=of_decide_eq_true J;have e2:=of_decide_eq_false K;have O:¬(b u<=j*M+M):=fun h=>o ⟨u,hu,k,h⟩
       omega) E F G H I
      have p:=h _ B;omega
    ·exact absurd i hn
 intro v g;have h1:=step n;have p:=jz (fun v=>decide (b v<=(n:Int)*M)) n;have q:n<=b7 (fun v=>decide (b v<=(n:Int)*M)) n:=by omega
 exact of_decide_eq_true (pS q v g)
theorem s_ {α:Type} {P:α->Prop} (f:α->Nat) (B:Nat) (h:∃a,P a) (i:∀a,P a->f a<=B):∃a,P a/\∀c,P c->f c<=f a:=by
 obtain⟨a,b⟩:=h;have key:∀(k:Nat) (a:α),B-f a<=k->P a->∃a,P a/\∀c,P c->f c<=f a:=by
  intro k;induction k with
  |zero=>intro a hk b;exact⟨a,b,fun c g=>by have:=i c g;have:=i a b;omega⟩
  |succ k l=>
   intro a hk b;by_cases j:∃c,P c/\f a<f c
   ·obtain⟨c,g,m⟩:=j
    have:=i c g;exact l c (by omega) g
   ·exact⟨a,b,fun c g=>by
     by_cases e:f a<f c
     ·exact absurd ⟨c,g,e⟩ j
     ·omega⟩
 exact key _ a (Nat.le_refl _) b
def one (w:Nat) (v:Nat):Int:=if v=w then 1 else 0
theorem nY {n:Nat} {t:Nat->Nat->Int} (a:Wt n t) {w:Nat} (hw:w<n):aV n t (one w) w=val n t w:=by
 unfold aV val;refine bQ fun u _=>?_
 unfold one;by_cases e:u=w
 ·subst e;rw[a.self];simp
 ·rw[if_pos rfl,if_neg e];simp
theorem nZ {n:Nat} {t:Nat->Nat->Int} {w v:Nat} (hw:w<n) (a:v≠w):aV n t (one w) v= -t v w:=by
 unfold aV;rw[jx (v:=w) hw]
 ·unfold one;rw[if_neg a,if_pos rfl];omega
 ·intro u _ hu
  unfold one;rw[if_neg a,if_neg hu];simp
theorem fB {n w:Nat} (hw:w<n):sN (one w) n=1:=by
 rw[jx (f:=one w) hw (fun u _ hu=>if_neg hu)];exact if_pos rfl
theorem z' {n:Nat} {t:Nat->Nat->Int} (g:Wt n t) (m:dz n t) {q:Nat} (o:q<n) (D:Nat->Int):∃D',bU n t D D'/\∀v,v<n->v≠q->0<=D' v:=by
 let P:(Nat->Int)->Prop:=fun b=>b q=0/\(∀v,v<n->0<=b v)/\∀v,v<n->0<b v->D v+aV n t b v<=val n t v-1
 have j:∀v,0<=val n t v:=fun v=>dg fun u _=>g.pos v u
 have p:∀b,P b->∀v,v<n->b v<=n*(sN (val n t) n+sN (fun v=>((D v).natAbs:Int)) n):=by
  rintro b ⟨h1,k,l⟩;refine jW g m o (by omega) ?_ ?_
  ·have i:0<=sN (val n t) n:=dg fun v _=>j v
   have z:0<=sN (fun v=>((D v).natAbs:Int)) n:=dg fun v _=>by omega
   omega
  ·intro x B
   have i:sN (fun v=>if decide (x<b v)=true then aV n t b v else 0) n<=sN (fun v=>val n t v+((D v).natAbs:Int)) n:=cN fun v a=>by
    show (if decide (x<b v)=true then aV n t b v else 0)<=_
    by_cases e:x<b v
    ·rw[if_pos (decide_eq_true e)]
     have:=l v a (by omega);omega
    ·rw[if_neg (by simpa using e)]
     have:=j v;omega
   rw[dS] at i;exact i
 obtain⟨b,hb,r⟩:=s_ (P:=P) (fun b=>(sN b n).toNat) (sN (fun _=>n*(sN (val n t) n+sN (fun v=>((D v).natAbs:Int)) n)) n).toNat ⟨fun _=>0,rfl,fun _ _=>Int.le_refl _,fun v _ (h:(0:Int)<0)=>by omega⟩ (fun b hb=>by
  have h1:=cN (n:=n) (fun v a=>p b hb v a);have k:=dg (f:=b) (n:=n) hb.2.1;show (sN b n).toNat<=_
  omega)
 refine⟨fun v=>D v+aV n t b v,⟨fun u=> -b u,fun v _=>by show D v+aV n t b v=_;rw[kE];omega⟩,fun v a s=>?_⟩;show 0<=D v+aV n t b v
 refine Classical.byContradiction fun C=>?_
 have w:P (fun u=>b u+one v u):=by
  refine⟨by show b q+one v q=0;rw[hb.1];unfold one;rw[if_neg (fun h=>s h.symm)];rfl,fun u hu=>by have:=hb.2.1 u hu;show 0<=b u+one v u;unfold one;split<;>omega,fun u hu y=>?_⟩;rw[jy];by_cases e:u=v
  ·subst e;rw[nY g a];omega
  ·rw[nZ a e]
   have E:b u+one v u=b u:=by unfold one;rw[if_neg e];omega
   have:=hb.2.2 u hu (by have:0<b u+one v u:=y;omega);have:=g.pos u v;omega
 have h1:=r (fun u=>b u+one v u) w;have k:sN (fun u=>b u+one v u) n=sN b n+1:=by rw[dS,fB a]
 have l:=dg (f:=b) (n:=n) hb.2.1;have i:(sN (fun u=>b u+one v u) n).toNat<=(sN b n).toNat:=h1;omega
def j4 (n:Nat) (t:Nat->Nat->Int) (q:Nat) (c:Nat->Int):Prop:=∀S:Nat->Bool,(∃v,v<n/\S v=true)->S q=false->∃v,v<n/\S v=true/\c v<sN (fun u=>if S u=false then t v u else 0) n
def j5 (n:Nat) (t:Nat->Nat->Int) (q:Nat) (c:Nat->Int):Prop:=(∀v,v<n->v≠q->0<=c v)/\j4 n t q c
def ind (S:Nat->Bool) (v:Nat):Int:=if S v=true then 1 else 0
theorem pU {n:Nat} {t:Nat->Nat->Int} (S:Nat->Bool) (v:Nat):aV n t (ind S) v=if S v=true then sN (fun u=>if S u=false then t v u else 0) n else -sN (fun u=>if S u=true then t v u else 0) n:=by
 unfold aV;by_cases e:S v=true
 ·rw[if_pos e]
  refine bQ fun u _=>?_
  unfold ind;cases hu:S u<;>simp[e]
 ·rw[if_neg e,<-mz]
  refine bQ fun u _=>?_
  unfold ind;cases hu:S u<;>simp[e]
theorem ta {n:Nat} {t:Nat->Nat->Int} (i:Wt n t) (j:dz n t) {q:Nat} (k:q<n) (D:Nat->Int):∃c,bU n t D c/\j5 n t q c:=by
 obtain⟨a,o,p⟩:=z' i j k D;let P:(Nat->Int)->Prop:=fun b=>b q=0/\(∀v,v<n->0<=b v)/\∀v,v<n->v≠q->0<=a v-aV n t b v
 have r:∀b,P b->∀v,v<n->b v<=n*sN (fun v=>((a v).natAbs:Int)) n:=by
  rintro b ⟨h1,l,m⟩;refine jW i j k (by omega) (dg fun v _=>by omega) ?_;intro x I;refine cN fun v g=>?_
  show (if decide (x<b v)=true then aV n t b v else 0)<=((a v).natAbs:Int)
  by_cases e:x<b v
  ·rw[if_pos (decide_eq_true e)]
   have:=m v g (fun s=>by subst s;omega);omega
  ·rw[if_neg (by simpa using e)];omega
 obtain⟨b,hb,y⟩:=s_ (P:=P) (fun b=>(sN b n).toNat) (sN (fun _=>n*sN (fun v=>((a v).natAbs:Int)) n) n).toNat ⟨fun _=>0,rfl,fun _ _=>Int.le_refl _,fun v g h=>by rw[i'];have:=p v g h;omega⟩ (fun b hb=>by
  have h1:=cN (n:=n) (fun v g=>r b hb v g);have l:=dg (f:=b) (n:=n) hb.2.1;show (sN b n).toNat<=_
  omega)
 refine⟨fun v=>a v-aV n t b v,o.trans ⟨b,fun v _=>rfl⟩,hb.2.2,fun S hS z=>?_⟩;refine Classical.byContradiction fun B=>?_
 have C:∀v,v<n->S v=true->sN (fun u=>if S u=false then t v u else 0) n<=a v-aV n t b v:=fun v g E=>by
  refine Classical.byContradiction fun h=>B ⟨v,g,E,?_⟩
  show a v-aV n t b v<_
  omega
 have F:P (fun u=>b u+ind S u):=by
  refine⟨by show b q+ind S q=0;rw[hb.1];unfold ind;rw[z];simp,fun u hu=>by have:=hb.2.1 u hu;show 0<=b u+ind S u;unfold ind;split<;>omega,fun u hu G=>?_⟩;rw[jy,pU];by_cases e:S u=true
  ·rw[if_pos e];have:=C u hu e;omega
  ·rw[if_neg e]
   have:=hb.2.2 u hu G;have:0<=sN (fun w=>if S w=true then t u w else 0) n:=dg fun w _=>by
    show 0<=(if S w=true then t u w else 0)
    have:=i.pos u w;split<;>omega
   omega
 obtain⟨w,hw,H⟩:=hS;have h1:=y (fun u=>b u+ind S u) F;have l:sN (fun u=>b u+ind S u) n=sN b n+sN (ind S) n:=dS _ _ _;have m:=dg (f:=b) (n:=n) hb.2.1;have J:=fz (f:=ind S) hw (fun u _=>by unfold ind;split<;>omega);have K:ind S w=1:=by unfold ind;rw[if_pos H]
 have L:(sN (fun u=>b u+ind S u) n).toNat<=(sN b n).toNat:=h1;omega
theorem pV {n:Nat} {t:Nat->Nat->Int} (i:Wt n t) (w:dz n t) {q:Nat} (j:q<n) {c g:Nat->Int} (h:j5 n t q c) (k:∀v,v<n->v≠q->0<=g v) {s:Nat->Int} (l:∀v,v<n->g v=c v-aV n t s v):∀v,v<n->s v<=s q:=by
 obtain⟨m,hm,b⟩:=nV s (show 0<n by omega);by_cases e:s q=s m
 ·intro v a;rw[e];exact b v a
 ·exfalso
  have x:=b q j;obtain⟨v,a,o,y⟩:=h.2 (fun v=>decide (s v=s m)) ⟨m,hm,by simp⟩ (by simpa using e);have p:s v=s m:=of_decide_eq_true o;have r:v≠q:=fun h=>by subst h;exact e p
  have h1:=k v a r;rw[l v a] at h1;have z:sN (fun u=>if decide (s u=s m)=false then t v u else 0) n<=aV n t s v:=by
   unfold aV;refine cN fun u hu=>?_
   show (if decide (s u=s m)=false then t v u else 0)<=t v u*(s v-s u)
   have hp:=i.pos v u;have hle:=b u hu;by_cases e2:s u=s m
   ·rw[if_neg (by simp[e2])]
    exact Int.mul_nonneg hp (by omega)
   ·rw[if_pos (by simpa using e2)]
    have:=Int.mul_le_mul_of_nonneg_left (show (1:Int)<=s v-s u by omega) hp;omega
  omega
theorem Aa {n:Nat} {t:Nat->Nat->Int} (j:Wt n t) (k:dz n t) {q:Nat} (l:q<n) {c g:Nat->Int} (h:j5 n t q c) (m:j5 n t q g) (he:bU n t c g):∀v,v<n->g v=c v:=by
 obtain⟨s,i⟩:=he;have h1:=pV j k l h m.1 i;have o:=pV j k l m h.1 (s:=fun u=> -s u) (fun v e=>by rw[kE,i v e];omega);intro v e;have:aV n t s v=0:=by
  unfold aV;refine gX fun u hu=>?_
  have a:=h1 u hu;have b:=o u hu;have c:=h1 v e;have d:=o v e;rw[show s v-s u=0 by omega,Int.mul_zero]
 rw[i v e,this];omega
theorem Ab (B:Nat->Bool) (n:Nat) {v:Nat} (a:v<n) (b:B v=false):b7 B n<b7 (fun u=>decide (u=v)||B u) n:=
 nX (fun u _ h=>by simp[h]) a b (by simp)
theorem Af {n:Nat} {t:Nat->Nat->Int} (H:Wt n t) {q:Nat} (Y:q<n) {c:Nat->Int} (P:j4 n t q c):
  ∃pos:Nat->Nat,iz n pos/\pos q=0/\∀v,v<n->v≠q->0<pos v/\c v<=nu n t pos v:=by
 have key:∀(m:Nat) (B:Nat->Bool) (pos:Nat->Nat) (k:Nat),n<=b7 B n+m->B q=true->pos q=0->0<k->(∀v,v<n->B v=true->pos v<k)->(∀u v,u<n->v<n->B u=true->B v=true->pos u=pos v->u=v)->
   (∀v,v<n->B v=true->v≠q->0<pos v/\c v<sN (fun u=>if B u=true/\pos u<pos v then t v u else 0) n)->
   ∃pos:Nat->Nat,iz n pos/\pos q=0/\∀v,v<n->v≠q->0<pos v/\c v<=nu n t pos v:=by
  intro m;induction m with
  |zero=>
   intro B pos k hm r C hk l D E;have o:=pS (S:=B) (n:=n) (by omega);refine⟨pos,fun u v hu g=>D u v hu g (o u hu) (o v g),C,fun v g s=>?_⟩;obtain⟨h1,i⟩:=E v g (o v g) s;refine⟨h1,?_⟩;unfold nu fK;have:sN (fun u=>if B u=true/\pos u<pos v then t v u else 0) n=sN (fun u=>if pos u<pos v then t v u else 0) n:=bQ fun u hu=>by
    show (if B u=true/\pos u<pos v then t v u else 0)=(if pos u<pos v then t v u else 0)
    by_cases e:pos u<pos v
    ·rw[if_pos e,if_pos ⟨o u hu,e⟩]
    ·rw[if_neg e,if_neg (fun h=>e h.2)]
   omega
  |succ m I=>
   intro B pos k hm r C hk l D E;by_cases J:∃v,v<n/\B v=false
   ·obtain⟨w,hw,Q⟩:=J
    obtain⟨v,g,j,R⟩:=P (fun u=> !B u) ⟨w,hw,by simp[Q]⟩ (by simp[r]);have j:B v=false:=by simpa using j
    have s:v≠q:=fun h=>by subst h;rw[r] at j;cases j
    refine I (fun u=>decide (u=v)||B u) (fun u=>if u=v then k else pos u) (k+1) (by have:=Ab B n g j;omega) (by simp[r]) (by show (if q=v then k else pos q)=0;rw[if_neg (fun h=>s h.symm)];exact C) (by omega) ?_ ?_ ?_
    ·intro u hu F
     show (if u=v then k else pos u)<k+1
     by_cases e:u=v
     ·rw[if_pos e];omega
     ·rw[if_neg e]
      have:=l u hu (by simpa [e] using F);omega
    ·intro a b K hb L M G
     by_cases p:a=v
     ·by_cases e2:b=v
      ·rw[p,e2]
      ·exfalso
       have h1:=l b hb (by simpa [e2] using M);have i:(if a=v then k else pos a)=(if b=v then k else pos b):=G;rw[if_pos p,if_neg e2] at i;omega
     ·by_cases e2:b=v
      ·exfalso
       have h1:=l a K (by simpa [p] using L);have i:(if a=v then k else pos a)=(if b=v then k else pos b):=G;rw[if_neg p,if_pos e2] at i;omega
      ·have i:(if a=v then k else pos a)=(if b=v then k else pos b):=G
       rw[if_neg p,if_neg e2] at i;exact D a b K hb (by simpa [p] using L) (by simpa [e2] using M) i
    ·intro u hu F U
     by_cases e:u=v
     ·subst e
      show 0<(if u=u then k else pos u)/\_
      rw[if_pos rfl];refine⟨hk,Int.lt_of_lt_of_le R (cN fun x N=>?_)⟩;show (if(!B x)=false then t u x else 0)<=(if(decide (x=u)||B x)=true/\(if x=u then k else pos x)<k then t u x else 0)
      cases O:B x with
      |false=>
       rw[if_neg (by simp)];have:=H.pos u x;by_cases y:(decide (x=u)||false)=true/\(if x=u then k else pos x)<k
       ·rw[if_pos y];exact this
       ·rw[if_neg y];exact Int.le_refl _
      |true=>
       have V:x≠u:=fun h=>by subst h;rw[O] at j;cases j
       rw[if_pos (by simp),if_pos (by simp[V];exact l x N O)];exact Int.le_refl _
     ·have W:B u=true:=by simpa [e] using F
      obtain⟨h1,i⟩:=E u hu W U;show 0<(if u=v then k else pos u)/\_
      rw[if_neg e];refine⟨h1,Int.lt_of_lt_of_le i (cN fun x N=>?_)⟩;show (if B x=true/\pos x<pos u then t u x else 0)<=(if(decide (x=v)||B x)=true/\(if x=v then k else pos x)<pos u then t u x else 0)
      by_cases z:B x=true/\pos x<pos u
      ·have X:x≠v:=fun h=>by subst h;rw[j] at z;cases z.1
       rw[if_pos z,if_pos (by simp[X,z])];exact Int.le_refl _
      ·rw[if_neg z]
       have:=H.pos u x;by_cases y:(decide (x=v)||B x)=true/\(if x=v then k else pos x)<pos u
       ·rw[if_pos y];exact this
       ·rw[if_neg y];exact Int.le_refl _
   ·have o:∀v,v<n->B v=true:=fun v g=>by
     cases h:B v with
     |true=>rfl
     |false=>exact absurd ⟨v,g,h⟩ J
    have Z:n<=b7 B n:=by
     have i:=pT n;have:=mC (S:=fun _=>true) (T:=B) (n:=n) (fun v g _=>o v g);omega
    exact I B pos k (by omega) r C hk l D E
 refine key n (fun v=>decide (v=q)) (fun _=>0) 1 (by omega) (by simp) rfl (by omega) (fun _ _ _=>by omega) (fun u v _ _ hu g _=>?_) (fun v _ g s=>absurd (of_decide_eq_true g) s);have h1:u=q:=of_decide_eq_true hu;have i:v=q:=of_decide_eq_true g;rw[h1,i]
theorem Ag {n:Nat} {t:Nat->Nat->Int} {pos:Nat->Nat} {q:Nat} (h:pos q=0):nu n t pos q= -1:=by
 unfold nu fK;rw[gX fun u _=>by rw[if_neg (by omega)]];rfl
theorem tb {n:Nat} {t:Nat->Nat->Int} (h:Wt n t) {q:Nat} (i:q<n) {c:Nat->Int} (j:j4 n t q c) (hd:c q<0):∃pos:Nat->Nat,iz n pos/\pos q=0/\(∀v,v<n->v≠q->0<pos v)/\∀v,v<n->c v<=nu n t pos v:=by
 obtain⟨pos,h1,b,g⟩:=Af h i j;refine⟨pos,h1,b,fun v a k=>(g v a k).1,fun v a=>?_⟩;by_cases e:v=q
 ·subst e;rw[Ag b];omega
 ·exact(g v a e).2
theorem mD {n:Nat} {t:Nat->Nat->Int} (a:Wt n t) {q:Nat} (g:q<n) {c:Nat->Int} (b:j5 n t q c):bZ n t c↔0<=c q:=by
 constructor
 ·intro hw
  refine Classical.byContradiction fun hd=>?_
  obtain⟨pos, -, -, -,h⟩:=tb a g b.2 (by omega);exact pR a (by omega) pos (hw.mono h)
 ·intro h
  exact bZ.pQ fun v i=>by
   by_cases e:v=q
   ·subst e;exact h
   ·exact b.1 v i e
theorem Ah {n:Nat} {t:Nat->Nat->Int} (a:Wt n t) (e:dz n t) (hn:0<n) (D:Nat->Int):¬bZ n t D↔∃pos:Nat->Nat,iz n pos/\bZ n t (fun v=>nu n t pos v-D v):=by
 constructor
 ·intro h
  obtain⟨c,h1,b⟩:=ta a e hn D;have g:c 0<0:=by
   refine Classical.byContradiction fun o=>h ?_
   rw[zO h1];exact(mD a hn b).2 (by omega)
  obtain⟨pos,i, -, -,j⟩:=tb a hn b.2 g;refine⟨pos,i,?_⟩;have k:bU n t (fun v=>nu n t pos v+ -c v) (fun v=>nu n t pos v+ -D v):=(bU.refl _ _ _).add h1.symm.neg;exact bZ.fA k (bZ.pQ fun v l=>by have:=j v l;show 0<=nu n t pos v+ -c v;omega)
 ·rintro⟨pos, -,hw⟩ m
  refine pR a hn pos ((hw.add m).mono fun v _=>?_);show nu n t pos v-D v+D v<=_
  omega
def fk (n:Nat) (t:Nat->Nat->Int) (D:Nat->Int) (k:Int):Prop:=∀F:Nat->Int,nW n F->sN F n=k->bZ n t (fun v=>D v-F v)
def b8 (n:Nat) (t:Nat->Nat->Int) (D:Nat->Int) (r:Int):Prop:= -1<=r/\(∀k,0<=k->k<=r->fk n t D k)/\¬fk n t D (r+1)
theorem fk.down {n:Nat} {t:Nat->Nat->Int} (hn:0<n) {D:Nat->Int} {k j:Int} (h:fk n t D k) (e:j<=k):fk n t D j:=by
 intro F hF b;have h1:=h (fun v=>F v+(k-j)*one 0 v) (fun v a=>by
  have:=hF v a;show 0<=F v+(k-j)*one 0 v
  unfold one;split
  ·rw[Int.mul_one];omega
  ·rw[Int.mul_zero];omega) (by rw[dS,eY,fB hn,b];omega)
 refine h1.mono fun v a=>?_
 show D v- (F v+(k-j)*one 0 v)<=D v-F v
 unfold one;split
 ·rw[Int.mul_one];omega
 ·rw[Int.mul_zero];omega
theorem b8.pW {n:Nat} {t:Nat->Nat->Int} (hn:0<n) {D:Nat->Int} {r:Int} (h:b8 n t D r) {k:Int} (hk:0<=k):fk n t D k↔k<=r:=by
 constructor
 ·intro a
  refine Classical.byContradiction fun b=>h.2.2 (a.down hn (by omega))
 ·exact fun hle=>h.2.1 k hk hle
theorem b8.unique {n:Nat} {t:Nat->Nat->Int} (hn:0<n) {D:Nat->Int} {r a:Int} (h:b8 n t D r) (b:b8 n t D a):r=a:=by
 have h1:=h.1;have g:=b.1;rcases Int.lt_trichotomy r a with e|e|e
 ·exact absurd (b.2.1 (r+1) (by omega) (by omega)) h.2.2
 ·exact e
 ·exact absurd (h.2.1 (a+1) (by omega) (by omega)) b.2.2
theorem fk.fA {n:Nat} {t:Nat->Nat->Int} {D D':Nat->Int} (he:bU n t D D') {k:Int} (h:fk n t D k):fk n t D' k:=fun F hF a=>by
 have b:bU n t (fun v=>D v+ -F v) (fun v=>D' v+ -F v):=he.add (bU.refl _ _ _);exact bZ.fA b (h F hF a)
theorem b8.fA {n:Nat} {t:Nat->Nat->Int} {D D':Nat->Int} (he:bU n t D D') {r:Int} (h:b8 n t D r):b8 n t D' r:=
 ⟨h.1,fun k a hk=>(h.2.1 k a hk).fA he,fun b=>h.2.2 (b.fA he.symm)⟩
def up (x:Int):Int:=if 0<=x then x else 0
theorem Ai (x:Int):0<=up x:=by unfold up;split<;>omega
theorem tc (x:Int):x<=up x:=by unfold up;split<;>omega
theorem pX {n:Nat} {t:Nat->Nat->Int} (g:Wt n t) (i:dz n t) (hn:0<n) (D:Nat->Int) (k:Int) (hk:0<=k):fk n t D k↔∀(D':Nat->Int) (pos:Nat->Nat),bU n t D D'->iz n pos->k<sN (fun v=>up (D' v-nu n t pos v)) n:=by
 constructor
 ·intro h D' pos he hi
  refine Classical.byContradiction fun hle=>?_
  have hle:sN (fun v=>up (D' v-nu n t pos v)) n<=k:=by omega
  have h1:=(h.down hn hle) (fun v=>up (D' v-nu n t pos v)) (fun v _=>Ai _) rfl;have j:bU n t (fun v=>D v+ -up (D' v-nu n t pos v)) (fun v=>D' v+ -up (D' v-nu n t pos v)):=he.add (bU.refl _ _ _);have e:bZ n t (fun v=>D' v+ -up (D' v-nu n t pos v)):=bZ.fA j h1;exact pR g hn pos (e.mono fun v _=>by
   have:=tc (D' v-nu n t pos v);show D' v+ -up (D' v-nu n t pos v)<=nu n t pos v
   omega)
 ·intro h F hF m
  refine Classical.byContradiction fun l=>?_
  obtain⟨pos,hi,hw⟩:=(Ah g i hn _).1 l;obtain⟨a,⟨s,h1⟩,e⟩:=hw;have he:bU n t D (fun v=>nu n t pos v+F v-a v):=⟨fun u=> -s u,fun v b=>by
   have o:a v=nu n t pos v- (D v-F v)-aV n t s v:=h1 v b;rw[kE];show nu n t pos v+F v-a v=_
   omega⟩
  have p:=h _ pos he hi;have q:sN (fun v=>up (nu n t pos v+F v-a v-nu n t pos v)) n<=sN F n:=cN fun v b=>by
   have:=e v b;have:=hF v b;show up (nu n t pos v+F v-a v-nu n t pos v)<=F v
   unfold up;split<;>omega
  omega
def can (n:Nat) (t:Nat->Nat->Int) (v:Nat):Int:=val n t v-2
def eZ (n:Nat) (t:Nat->Nat->Int) (g:Int):Prop:=sN (can n t) n=2*g-2
theorem td {n:Nat} {t:Nat->Nat->Int} (a:Wt n t) {g:Int} (b:eZ n t g) {pos:Nat->Nat} (hi:iz n pos):sN (nu n t pos) n=g-1:=by
 have h1:=zV a hi;have e:=zW (n:=n) (t:=t) pos;have h:sN (can n t) n=sN (val n t) n-n*2:=by
  have:sN (can n t) n=sN (fun v=>val n t v- (fun _=>(2:Int)) v) n:=rfl;rw[this,dy,iZ]
 unfold eZ at b;omega
theorem Ak {n:Nat} {t:Nat->Nat->Int} (a:Wt n t) (e:dz n t) (hn:0<n) {g:Int} (b:eZ n t g) {D:Nat->Int} {k:Int} (hk:0<=k) (j:0<=k- (sN D n+1-g)) (h:fk n t D k):fk n t (fun v=>can n t v-D v) (k- (sN D n+1-g)):=by
 rw[pX a e hn _ _ j];rw[pX a e hn _ _ hk] at h;intro D' pos he hi;obtain⟨pos',i⟩:=s9 n pos;have hi':=zQ hi i;have l:bU n t D (fun v=>can n t v-D' v):=by
  have h1:bU n t (fun v=>can n t v+ -(can n t v-D v)) (fun v=>can n t v+ -D' v):=(bU.refl _ _ _).add he.neg;exact(bU.of_eq (D:=D) (D':=fun v=>can n t v+ -(can n t v-D v)) fun v _=>by show can n t v+ -(can n t v-D v)=D v;omega).trans (h1.trans (bU.of_eq fun v _=>by show can n t v-D' v=can n t v+ -D' v;omega))
 have h1:=h _ pos' l hi';have m:sN (fun v=>up (can n t v-D' v-nu n t pos' v)) n=sN (fun v=>up (D' v-nu n t pos v)) n-sN (fun v=>D' v-nu n t pos v) n:=by
  rw[<-dy];refine bQ fun v o=>?_
  have p:=zY a hi i o;show up (can n t v-D' v-nu n t pos' v)=up (D' v-nu n t pos v)- (D' v-nu n t pos v)
  unfold can up;rw[<-p];split<;>split<;>omega
 rw[m,dy,he.bl a,td a b hi,dy] at h1;unfold eZ at b;rw[b] at h1;omega
theorem b8.pY {n:Nat} {t:Nat->Nat->Int} (b:Wt n t) (hn:0<n) {D:Nat->Int} {r:Int} (h:b8 n t D r) (a:0<=r):r<=sN D n:=by
 have h1:=h.2.1 r a (Int.le_refl _) (fun v=>r*one 0 v) (fun v _=>Int.mul_nonneg a (by unfold one;split<;>omega)) (by rw[eY,fB hn,Int.mul_one]);have:=h1.bl b;rw[dy,eY,fB hn] at this;omega
theorem b8.lJ {n:Nat} {t:Nat->Nat->Int} {D:Nat->Int} {r:Int} (hn:0<n) (h:b8 n t D r):r= -1↔¬bZ n t D:=by
 have key:fk n t D 0↔bZ n t D:=by
  constructor
  ·intro b
   exact(b (fun _=>0) (fun _ _=>Int.le_refl _) (jw n)).mono fun v _=>by show D v-0<=D v;omega
  ·intro hw F hF i
   have e:∀v,v<n->F v=0:=fun v a=>by
    have h1:=fz a hF;have:=hF v a;omega
   exact hw.mono fun v a=>by show D v<=D v-F v;rw[e v a];omega
 have h1:=h.1;have g:=h.pW hn (Int.le_refl 0);rw[<-key,g];omega
theorem jA {n:Nat} {t:Nat->Nat->Int} (a:Wt n t) (hn:0<n) (D:Nat->Int):∃r,b8 n t D r:=by
 have key:∃k:Nat,¬fk n t D k:=by
  refine⟨(sN D n).toNat+1,fun h=>?_⟩;have h1:=h (fun v=>(((sN D n).toNat+1:Nat):Int)*one 0 v) (fun v _=>Int.mul_nonneg (by omega) (by unfold one;split<;>omega)) (by rw[eY,fB hn,Int.mul_one]);have:=h1.bl a;rw[dy,eY,fB hn] at this;omega
 obtain⟨k,hk,b⟩:=zJ key;refine⟨(k:Int)-1,by omega,fun j e l=>?_,by rw[show (k:Int)-1+1=k by omega];exact hk⟩;refine Classical.byContradiction fun g=>?_
 obtain⟨i,rfl⟩:=Int.eq_ofNat_of_zero_le e;have:=b i g;omega
theorem te {n:Nat} {t:Nat->Nat->Int} (j:Wt n t) (l:dz n t) (hn:0<n) {g:Int} (b:eZ n t g) {D:Nat->Int} {r a:Int} (h:b8 n t D r) (e:b8 n t (fun v=>can n t v-D v) a):r-a=sN D n+1-g:=by
 have key:∀{D D':Nat->Int} {r a:Int},(∀v,v<n->D' v=can n t v-D v)->b8 n t D r->b8 n t D' a->r- (sN D n+1-g)<=a:=by
  intro D D' r a m h e;refine Classical.byContradiction fun s=>?_
  have h1:=h.1;have u:=e.1;have w:sN D' n=2*g-2-sN D n:=by
   rw[bQ m,dy];unfold eZ at b;rw[b]
  by_cases o:0<=r
  ·have i:=Ak j l hn b o (by omega) (h.2.1 r o (Int.le_refl _))
   have k:fk n t D' (r- (sN D n+1-g)):=i.fA (bU.of_eq m);have p:=(e.pW hn (by omega)).1 k;omega
  ·
   have x:r= -1:=by omega
   have q:0<=a+1:=by omega
   have i:¬fk n t D' (a+1):=e.2.2;rw[pX j l hn _ _ q] at i;refine i fun F pos he hi=>?_
   have k:sN (fun v=>F v-nu n t pos v) n<=sN (fun v=>up (F v-nu n t pos v)) n:=cN fun v _=>tc _
   have p:sN (fun v=>F v-nu n t pos v) n=sN D' n- (g-1):=by rw[dy,he.bl j,td j b hi]
   omega
 have h1:=key (fun v _=>rfl) h e;have i:=key (D:=fun v=>can n t v-D v) (D':=D) (fun v _=>by show D v=can n t v- (can n t v-D v);omega) e h;have k:sN (fun v=>can n t v-D v) n=2*g-2-sN D n:=by
  rw[dy];unfold eZ at b;rw[b]
 omega
theorem Am {n:Nat} {t:Nat->Nat->Int} (q:Wt n t) (hn:0<n) {D:Nat->Int} (hw:bZ n t D) {r:Int} (h:b8 n t D r):(∀v,v<n->∀k,b8 n t (fun u=>D u-one v u) k->r<=k+1)/\∃v,v<n/\∀k,b8 n t (fun u=>D u-one v u) k->r=k+1:=by
 have j:0<=r:=by
  have h1:=h.1;have:=(h.lJ hn).1;refine Classical.byContradiction fun g=>this (by omega) hw
 have i:∀v,v<n->∀k,b8 n t (fun u=>D u-one v u) k->r<=k+1:=by
  intro v a k hk;have s:=hk.1;refine Classical.byContradiction fun w=>hk.2.2 fun F hF b=>?_
  have h1:=h.2.1 (k+2) (by omega) (by omega) (fun u=>F u+one v u) (fun u hu=>by have:=hF u hu;show 0<=F u+one v u;unfold one;split<;>omega) (by rw[dS,fB a,b];omega);exact h1.mono fun u _=>by show D u- (F u+one v u)<=D u-one v u-F u;omega
 refine⟨i,?_⟩;obtain⟨F,hF,b,l⟩:∃F,nW n F/\sN F n=r+1/\¬bZ n t (fun v=>D v-F v):=by
  refine Classical.byContradiction fun g=>h.2.2 fun F hF b=>?_
  exact Classical.byContradiction fun hw=>g ⟨F,hF,b,hw⟩
 obtain⟨v,a,x⟩:∃v,v<n/\1<=F v:=by
  refine Classical.byContradiction fun g=>?_
  have:sN F n=0:=gX fun v a=>by
   have:=hF v a;refine Classical.byContradiction fun y=>g ⟨v,a,by omega⟩
  omega
 refine⟨v,a,fun k hk=>?_⟩;have h1:=i v a k hk;have m:¬fk n t (fun u=>D u-one v u) r:=fun o=>by
  have p:=o (fun u=>F u-one v u) (fun u hu=>by
   have:=hF u hu;show 0<=F u-one v u
   unfold one;by_cases e:u=v
   ·subst e;rw[if_pos rfl];omega
   ·rw[if_neg e];omega) (by rw[dy,fB a,b];omega)
  exact l (p.mono fun u _=>by show D u-one v u- (F u-one v u)<=D u-F u;omega)
 have:=hk.pW hn j;have:¬r<=k:=fun hle=>m (this.2 hle)
 omega
theorem An {n:Nat} {t:Nat->Nat->Int} (a:Wt n t) (i:dz n t) (hn:0<n) {g:Int} (b:eZ n t g) {D:Nat->Int} (hd:2*g-2<sN D n) {r:Int} (h:b8 n t D r):r=sN D n-g:=by
 obtain⟨k,e⟩:=jA a hn (fun v=>can n t v-D v);have h1:=te a i hn b h e;have j:¬bZ n t (fun v=>can n t v-D v):=fun hw=>by
  have:=hw.bl a;rw[dy] at this;unfold eZ at b;omega
 have:=(e.lJ hn).2 j;omega
end Go.Proofs.YtffdiakgjakngaaGreat.T
namespace Go.Proofs.YtffdiakgjakngaaGreat.P
open Go.RowKit Go.Proofs.YtffdiakgjakngaaGreatW.PrintWords Go.Proofs.YtffdiakgjakngaaGreatW.PrintLast Go.Proofs.YtffdiakgjakngaaGreatW.PrintMore
set_option linter.unusedVariables false
set_option linter.unusedSimpArgs false
set_option maxHeartbeats 8000000
set_option maxRecDepth 100000
def dh (f:Nat->Nat->Int) (x:S83):Nat->Nat->Int:=if x.f0=x.f1 then f else fun a b=>if a=x.f1.toNat/\b=x.f0.toNat then x.f2 else if a=x.f0.toNat/\b=x.f1.toNat then x.f2 else f a b
def ai (E:List S83):Nat->Nat->Int:=E.foldl dh (fun _ _=>0)
theorem tf (E:List S83) (k:Nat) (h:k<E.length):ai (E.take (k+1))=dh (ai (E.take k)) (ae E k):=by
 unfold ai;rw[List.take_succ_eq_append_getElem h,List.foldl_append];simp[ae,bh,bX h]
def ep (n:Nat) (E:List S83):Prop:=∀x∈E,0<=x.f0/\x.f0<n/\0<=x.f1/\x.f1<n/\1<=x.f2/\x.f2<=50
theorem ep.get {n:Nat} {E:List S83} (h:ep n E) (k:Nat) (hk:k<E.length):0<=(ae E k).f0/\(ae E k).f0<n/\0<=(ae E k).f1/\(ae E k).f1<n/\1<=(ae E k).f2/\(ae E k).f2<=50:=by
 have e:ae E k=E[k]:=by simp[ae,bh,bX hk]
 rw[e];exact h _ (List.getElem_mem hk)
theorem tg {n:Nat}:∀(E:List S83) (f:Nat->Nat->Int),(∀x∈E,1<=x.f2/\x.f2<=50)->(∀i j,0<=f i j/\f i j<=50)->∀i j,0<=E.foldl dh f i j/\E.foldl dh f i j<=50
 |[],f,_,hf=>hf
 |x::E,f,h,hf=>by
  refine tg (n:=n) E _ (fun y b=>h y (List.mem_cons_of_mem _ b)) ?_;intro i j;have e:=h x (List.mem_cons_self ..);have a:=hf i j;unfold dh;split
  ·exact a
  ·dsimp only
   split
   ·omega
   ·split
    ·omega
    ·exact a
theorem ep.times {n:Nat} {E:List S83} (h:ep n E) (i j:Nat):0<=ai E i j/\ai E i j<=50:=tg (n:=n) E _ (fun x a=>⟨(h x a).2.2.2.2.1,(h x a).2.2.2.2.2⟩) (fun _ _=>by simp) i j
def ja (n:Int) (E:List S83):Bool:=E.all fun x=>decide (0<=x.f0/\x.f0<n/\0<=x.f1/\x.f1<n/\1<=x.f2/\x.f2<=50)
theorem kG {n:Nat} {E:List S83} (h:ja n E=true):ep n E:=fun x a=>by simpa using List.all_eq_true.1 h x a
def jB (x y:S83):Prop:=x.f0<y.f0\/x.f0=y.f0/\x.f1<y.f1
structure bM (N:Int) (E:List S83):Prop where
 ok:∀x∈E,cM N x=true
 le:∀x∈E,x.f0<=x.f1
 order:E.Pairwise jB
theorem th {N:Int}:∀{E:List S83} {a e:Int},iw N a e E=0->(∀x∈E,cM N x=true/\x.f0<=x.f1/\(a<x.f0\/a=x.f0/\e<x.f1))/\E.Pairwise jB
 |[],_,_,_=>⟨fun x b=>absurd b (by simp),List.Pairwise.nil⟩
 |y::E,a,e,h=>by
  rw[iw] at h;by_cases he:eo N a e y=0
  ·rw[if_pos he] at h
   obtain⟨h1,i⟩:=th h;have j:cM N y=true/\y.f0<=y.f1/\(a<y.f0\/a=y.f0/\e<y.f1):=by
    unfold eo at he;cases g:cM N y with
    |false=>rw[g] at he;simp at he
    |true=>
     rw[g,if_neg (show ¬(true=false) by decide)] at he;by_cases k:y.f0<a\/y.f0=a/\y.f1<=e\/y.f0>y.f1
     ·rw[if_pos k] at he;exact absurd he (by decide)
     ·exact⟨rfl,by omega,by omega⟩
   refine⟨fun x b=>?_,List.Pairwise.cons (fun x b=>(h1 x b).2.2) i⟩;rcases List.mem_cons.1 b with rfl|b
   ·exact j
   ·have:=h1 x b
    exact⟨this.1,this.2.1,by omega⟩
  ·rw[if_neg he] at h;exact absurd h he
theorem j6 {N:Int} {E:List S83} (h:cT N E=0):1<=N/\N<=12/\bM N E:=by
 unfold cT at h;by_cases b:N<1\/N>12
 ·rw[if_pos b] at h;exact absurd h (by decide)
 ·rw[if_neg b] at h
  obtain⟨h1,e⟩:=th h;exact⟨by omega,by omega,fun x a=>(h1 x a).1,fun x a=>(h1 x a).2.1,e⟩
theorem bM.ct {N:Int} {E:List S83} (h:bM N E):ja N E=true:=by
 refine List.all_eq_true.2 fun x a=>?_
 have:=h.ok x a;simpa [cM] using this
def fY (a b:Int) (x:S83):Bool:=decide (x.f0=min a b/\x.f1=max a b)
def dI (E:List S83) (a b:Int):Int:=match E.find? (fY a b) with|some x=>x.f2|none=>0
theorem Ap (x:S83) (E:List S83) (a b:Int):dI (x::E) a b=if x.f0=min a b/\x.f1=max a b then x.f2 else dI E a b:=by
 unfold dI;rw[List.find?_cons];unfold fY;by_cases h:x.f0=min a b/\x.f1=max a b
 ·simp[h]
 ·rw[aZ h,if_neg h]
theorem ti (E:List S83) (a b:Int):dI E a b=dI E b a:=by
 unfold dI fY;rw[show min a b=min b a by omega,show max a b=max b a by omega]
theorem tj {E:List S83} {a b:Int} (h:∀x∈E,¬(x.f0=min a b/\x.f1=max a b)):E.find? (fY a b)=none:=by
 rw[List.find?_eq_none];intro x e;simp[fY,h x e]
theorem tk (a b:Nat) (j:a≠b):∀(E:List S83) (f:Nat->Nat->Int),(∀x∈E,0<=x.f0/\x.f0<=x.f1)->E.Pairwise jB->E.foldl dh f a b=match E.find? (fY a b) with|some x=>x.f2|none=>f a b
 |[],f,_,_=>rfl
 |x::E,f,h,hp=>by
  have m:=h x (List.mem_cons_self ..);obtain⟨h1,k⟩:=List.pairwise_cons.1 hp;rw[List.foldl_cons,tk a b j E _ (fun y g=>h y (List.mem_cons_of_mem _ g)) k,List.find?_cons];by_cases l:x.f0=min (a:Int) b/\x.f1=max (a:Int) b
  ·rw[show fY a b x=true from by simp[fY,l]]
   rw[tj (fun y g n=>by have:=h1 y g;unfold jB at this;omega)];show dh f x a b=x.f2
   unfold dh;rw[if_neg (by omega)];by_cases i:a=x.f1.toNat/\b=x.f0.toNat
   ·rw[if_pos i]
   ·rw[if_neg i,if_pos (by omega)]
  ·rw[show fY a b x=false from by simp[fY];omega]
   have e:dh f x a b=f a b:=by
    unfold dh;split
    ·rfl
    ·dsimp only
     rw[if_neg (by omega),if_neg (by omega)]
   rw[e]
theorem jC {N:Int} {E:List S83} (h:bM N E) (a b:Nat) (g:a≠b):ai E a b=dI E a b:=by
 unfold ai dI;exact tk a b g E _ (fun x e=>⟨by have:=h.ok x e;simp[cM] at this;omega,h.le x e⟩) h.order
theorem pZ {N:Int} {E:List S83} (h:bM N E) (a b:Int):0<=dI E a b/\dI E a b<=50:=by
 unfold dI;split
 ·rename_i x e
  have:=h.ok x (List.mem_of_find?_eq_some e);simp[cM] at this;omega
 ·omega
end Go.Proofs.YtffdiakgjakngaaGreat.P


namespace Go.Proofs.YtffdiakgjakngaaGreat.P
open Go.RowKit Go.Proofs.YtffdiakgjakngaaGreatW.PrintWords Go.Proofs.YtffdiakgjakngaaGreatW.PrintLast Go.Proofs.YtffdiakgjakngaaGreatW.PrintMore
set_option linter.unusedVariables false
set_option linter.unusedSimpArgs false
set_option maxHeartbeats 8000000
set_option maxRecDepth 100000
section
attribute [local go_sem] jr js jt ju mo mq mr mu
def di.l0:Nat->Int->Int->Int->Int->List (S83)->Option (Int)
 |0,_,_,_,_,_=>none
 |k+1,x1,x2,a,e,b=>if a<(b.length:Int) then(if 0<=a then(if((ae b a).f0)=(mn x1 x2) then(if((ae b a).f1)=(mx x1 x2) then(some ((ae b a).f2)) else(di.l0 k x1 x2 (wrap64 (a+1)) e b)) else(di.l0 k x1 x2 (wrap64 (a+1)) e b)) else(none)) else(some 0)
def di.f (k:Nat) (a:Int) (b:List (S83)) (e:Int) (a2:Int):Option (Int):=di.l0 k e a2 0 a b
theorem di.calls (k:Nat) (m:Int) (P:Option Addr) (B:Nat) (a:List (S83)) (n:Int) (a2:Int) (r:Int) (w:World) (Z:Kd.C aT w P a.length a) (aa:a.length<=B) (h:di.f k m a n a2=some r):
  Calls Tryz.prog 147 #[.agg #[.int .i64 m,.slice P a.length B],.int .i64 n,.int .i64 a2] w fun e w'=>e= .returned (.int .i64 r)/\Below w.heap.size w w':=by
 have aB:=Tryz.underlying24;have aF:=Tryz.underlying83;have U:=zA Z;have aL:=zA aa;clear Z aa;have b:=zA (ao w.heap.size w);have H:(di.l0 k n a2 0 m a)=some r:=h;clear h;have F:=zA H;clear H;go_enter Tryz.func147,Tryz.ntmps147
 go_wp2_with (first|((with_reducible refine aJ (N:=3) rfl ?_);(try(refine dR (by rfl) ?_;dsimp only));refine zX 3 #[.int .i64 m,.slice P a.length B] 24 ?_;intro p j w4 q hb;have l:=zA (q);have aP:=zG b j;have aR:=zG b j;replace b:=zS b hb;clear hb q j))
 go_loopg [7] k (fun kq v7 w'=>∃(i:Int),v7= .int .i64 i/\Aside0 (di.l0 kq n a2 i m a=some r)/\Aside0 (kq<=k)/\Aside0 (w'.heap[p]? =some (.cells #[.int .i64 m,(.slice P a.length B)] 24 (0,0)))/\Aside0 (Below w.heap.size w w'))
 case atStart=>exact⟨(0),zT,F,⟨aI _⟩,⟨zK l⟩,⟨zB⟩⟩
 case round=>
  clear F;obtain⟨i,rfl,V,Q,l,b⟩:=hrel;cases gk with
  |zero=>exact absurd V.out (by simp[di.l0])
  |succ I=>
   have H:=V.out;clear V;simp only[di.l0] at H;by_cases G:i<(a.length:Int)
   ·rw[if_pos G] at H
    have am:=az G;clear G;by_cases R:0<=i
    ·rw[if_pos R] at H
     have aS:=az R;clear R;obtain⟨W,S⟩:∃X:Int,(mn n a2)=X:=⟨_,rfl⟩;replace H:(if((ae a i).f0)=(W) then(if((ae a i).f1)=(mx n a2) then(some ((ae a i).f2)) else(di.l0 I n a2 (wrap64 (i+1)) m a)) else(di.l0 I n a2 (wrap64 (i+1)) m a))=some r:=by first|(rw[S] at H;exact H)|(simp only[S] at H⊢;exact H)
     have a0:(if a2<n then a2 else n)=W:=S;by_cases J:((ae a i).f0)=(W)
     ·rw[if_pos J] at H
      obtain⟨an,ap⟩:=bF J;clear J;obtain⟨Y,T⟩:∃X:Int,(mx n a2)=X:=⟨_,rfl⟩;replace H:(if((ae a i).f1)=(Y) then(some ((ae a i).f2)) else(di.l0 I n a2 (wrap64 (i+1)) m a))=some r:=by first|(rw[T] at H;exact H)|(simp only[T] at H⊢;exact H)
      have a3:(if n<a2 then a2 else n)=Y:=T;by_cases K:((ae a i).f1)=(Y)
      ·rw[if_pos K] at H
       obtain⟨ar,av⟩:=bF K;clear K;obtain rfl:=aH H;obtain⟨a4,a5,a9,be⟩:=ax l;have s:0<=(i:Int):=aw ‹_›;have u:i<(a.length:Int):=aw ‹_›;obtain⟨D,L,v,x,y⟩:=eJ U.out i s u;cases L;replace v:=(b.out.cell (bs w _ v)).trans v;replace x:=(b.out.cell (bs w _ x)).trans x;replace y:=(b.out.cell (bs w _ y)).trans y;replace s:=eq_true s;replace u:=eq_true u;go_wp2_with (first|((with_reducible refine aJ (N:=8) rfl ?_);(try(refine dR (by rfl) ?_;dsimp only));refine zX 8 #[.int .i64 0,.int .i64 0,.int .i64 0] 83 ?_;intro E j bf q hb;have M:=zA (q);have ad:=zG b j;have ag:=zG b j;replace b:=zS b hb;have z:=zA ((by rw[j];exact Nat.ne_of_lt (aE (g:=p) (o:=.cells #[.int .i64 m,.slice (some D) a.length B] 24 (0,0)) (zK l)):p≠E));have O:=zA ((by rw[j];exact Nat.ne_of_gt (aE (g:=p) (o:=.cells #[.int .i64 m,.slice (some D) a.length B] 24 (0,0)) (zK l)):E≠p));replace l:=zb l hb;clear hb q j;have bg:=O.out;have bi:=z.out;obtain⟨bk,bn,bo,bv,bw,bx⟩:=cg M))
       go_ret;exact⟨by first|rfl|(simp[fi,fj]<;>rfl)|(simp only[<-S,<-T];first|rfl|(simp[fi,fj]<;>rfl))|(simp[*,fi,fj]<;>rfl),zB⟩
      ·rw[if_neg K] at H
       obtain⟨ar,av⟩:=bI K;have F:=zA H;clear H;obtain⟨b0,b1,b2,b3⟩:=ax l;have s:0<=(i:Int):=aw ‹_›;have u:i<(a.length:Int):=aw ‹_›;obtain⟨D,L,v,x,y⟩:=eJ U.out i s u;cases L;replace v:=(b.out.cell (bs w _ v)).trans v;replace x:=(b.out.cell (bs w _ x)).trans x;replace y:=(b.out.cell (bs w _ y)).trans y;replace s:=eq_true s;replace u:=eq_true u;go_wp2_with (first|((with_reducible refine aJ (N:=8) rfl ?_);(try(refine dR (by rfl) ?_;dsimp only));refine zX 8 #[.int .i64 0,.int .i64 0,.int .i64 0] 83 ?_;intro E j b4 q hb;have M:=zA (q);have ad:=zG b j;have ag:=zG b j;replace b:=zS b hb;have z:=zA ((by rw[j];exact Nat.ne_of_lt (aE (g:=p) (o:=.cells #[.int .i64 m,.slice (some D) a.length B] 24 (0,0)) (zK l)):p≠E));have O:=zA ((by rw[j];exact Nat.ne_of_gt (aE (g:=p) (o:=.cells #[.int .i64 m,.slice (some D) a.length B] 24 (0,0)) (zK l)):E≠p));replace l:=zb l hb;clear hb q j;have b5:=O.out;have b6:=z.out;obtain⟨b_,b',ca,cb,cc,cd⟩:=cg M))
       go_roundg I
       case measure=>have:=Q.out;omega
       case rel=>exact⟨(wrap64 (i+1)),zT,F,⟨by have:=Q.out;omega⟩,⟨by refine zk ?_;refine aG ?_ z.out _;refine zk ?_;refine aG ?_ z.out _;refine zk ?_;refine aG ?_ z.out _;exact zK l⟩,⟨zB⟩⟩
     ·rw[if_neg J] at H
      obtain⟨an,ap⟩:=bI J;have F:=zA H;clear H;obtain⟨ce,cf,ch,ci⟩:=ax l;have s:0<=(i:Int):=aw ‹_›;have u:i<(a.length:Int):=aw ‹_›;obtain⟨D,L,v,x,y⟩:=eJ U.out i s u;cases L;replace v:=(b.out.cell (bs w _ v)).trans v;replace x:=(b.out.cell (bs w _ x)).trans x;replace y:=(b.out.cell (bs w _ y)).trans y;replace s:=eq_true s;replace u:=eq_true u;go_wp2_with (first|((with_reducible refine aJ (N:=8) rfl ?_);(try(refine dR (by rfl) ?_;dsimp only));refine zX 8 #[.int .i64 0,.int .i64 0,.int .i64 0] 83 ?_;intro E j cj q hb;have M:=zA (q);have ad:=zG b j;have ag:=zG b j;replace b:=zS b hb;have z:=zA ((by rw[j];exact Nat.ne_of_lt (aE (g:=p) (o:=.cells #[.int .i64 m,.slice (some D) a.length B] 24 (0,0)) (zK l)):p≠E));have O:=zA ((by rw[j];exact Nat.ne_of_gt (aE (g:=p) (o:=.cells #[.int .i64 m,.slice (some D) a.length B] 24 (0,0)) (zK l)):E≠p));replace l:=zb l hb;clear hb q j;have ck:=O.out;have cl:=z.out;obtain⟨co,cq,cr,cs,cv,cx⟩:=cg M))
      go_roundg I
      case measure=>have:=Q.out;omega
      case rel=>exact⟨(wrap64 (i+1)),zT,F,⟨by have:=Q.out;omega⟩,⟨by refine zk ?_;refine aG ?_ z.out _;refine zk ?_;refine aG ?_ z.out _;refine zk ?_;refine aG ?_ z.out _;exact zK l⟩,⟨zB⟩⟩
    ·rw[if_neg R] at H
     exact absurd H (by simp)
   ·rw[if_neg G] at H
    have am:=aZ G;clear G;obtain rfl:=aH H;obtain⟨c0,c1,c2,c3⟩:=ax l;go_wp2;go_ret;exact⟨zE,zB⟩
end
theorem tl (N:Int) (E:List S83) (a b:Int) (j:E.length<=1000):∀(m i:Nat),i+m=E.length->Ev (fun k=>di.l0 k a b i N E) (dI (E.drop i) a b)
 |0,i,hi=>by
  refine Ev.of_succ ?_;simp only[di.l0,if_neg (show ¬((i:Int)<(E.length:Int)) by omega)];rw[List.drop_eq_nil_of_le (by omega)];exact Ev.const _
 |m+1,i,hi=>by
  have g:=tl N E a b j m (i+1) (by omega);refine Ev.of_succ ?_;simp only[di.l0,if_pos (show (i:Int)<(E.length:Int) by omega),if_pos (show (0:Int)<=(i:Int) by omega),dF (show i<=1000000 by omega)];rw[nT (by omega),Ap];rw[show mn a b=min a b from by unfold mn;omega,show mx a b=max a b from by unfold mx;omega];by_cases e:(ae E i).f0=min a b
  ·simp only[if_pos e]
   by_cases h1:(ae E i).f1=max a b
   ·simp only[if_pos h1];rw[if_pos ⟨e,h1⟩];exact Ev.const _
   ·simp only[if_neg h1];rw[if_neg (fun h=>h1 h.2)];exact g
  ·simp only[if_neg e];rw[if_neg (fun h=>e h.1)];exact g
theorem p3 (N:Int) (E:List S83) (a b:Int) (e:E.length<=1000):Ev (fun k=>di.f k N E a b) (dI E a b):=by
 unfold di.f;have:=tl N E a b e E.length 0 (by omega);simpa using this
section
theorem j7 (w:World) (g j:Nat) (v:Value):w.grownBy (w.setCell ⟨g,j,none⟩ v) (some g):=⟨rfl,rfl,rfl,by simp,fun k _ hk=>Below.heap_setCell w _ v k (fun e=>hk (by rw[e]))⟩
def ee (w:World) (g:Nat) (p:Nat->Nat):Prop:=∃cs:Array Value,w.heap[g]? =some (.cells cs 217 (0,0))/\cs.size=12/\∀i,i<12->cs[i]? =some (.int .i64 (p i:Nat))
namespace ee
variable {w w':World} {g:Nat} {p:Nat->Nat}
theorem lt (h:ee w g p):g<w.heap.size:=by
 obtain⟨cs,hb,_⟩:=h;exact aE hb
theorem cell (h:ee w g p) (i:Nat) (hi:i<12):w.cell? ⟨g,i,none⟩=some (.int .i64 (p i:Nat)):=by
 obtain⟨cs,hb,_,a⟩:=h;exact(al hb i).trans (a i hi)
theorem frozen (h:ee w g p) (k:Nat):w.frozen? ⟨g,k,none⟩=false:=by
 obtain⟨cs,hb,_⟩:=h;exact bD hb k
theorem below (h:ee w g p) (hb:Below w.heap.size w w'):ee w' g p:=by
 obtain⟨cs,a,b⟩:=h;exact⟨cs,aM a hb,b⟩
theorem alloc (h:ee w g p) (o:Obj):ee (w.alloc o) g p:=h.below (aq (ao _ _) o)
theorem set (h:ee w g p) (i:Nat) (hi:i<12) (x:Nat):ee (w.setCell ⟨g,i,none⟩ (.int .i64 x)) g (fun j=>if j=i then x else p j):=by
 obtain⟨cs,a,b,l⟩:=h;refine⟨cs.setIfInBounds i (.int .i64 x),by simpa using bR a i (.int .i64 x),by simp[b],?_⟩;intro k hk;by_cases e:k=i
 ·subst e
  rw[Array.getElem?_setIfInBounds_self_of_lt (by omega)];simp
 ·rw[Array.getElem?_setIfInBounds_ne (by omega),l k hk];simp[e]
theorem congr {q:Nat->Nat} (h:ee w g p) (he:∀i,i<12->q i=p i):ee w g q:=by
 obtain⟨cs,a,b,e⟩:=h;exact⟨cs,a,b,fun i hi=>by rw[he i hi];exact e i hi⟩
end ee
def gY (p:Nat->Nat):Prop:=∀i,p i<=i
def rootOf (p:Nat->Nat) (v:Nat):Nat:=if h:p v<v then rootOf p (p v) else v
termination_by v
theorem j8 (p:Nat->Nat) (v:Nat):rootOf p v<=v:=by
 induction v using Nat.strongRecOn with
 |ind v a=>
  rw[rootOf];split
  ·rename_i h
   exact Nat.le_trans (a _ h) (Nat.le_of_lt h)
  ·exact aI _
def et (p:Nat->Nat) (a b:Nat):Nat->Nat:=fun j=>if j=max (rootOf p a) (rootOf p b) then min (rootOf p a) (rootOf p b) else p j
theorem tn {p:Nat->Nat} (h:gY p) (a b:Nat):gY (et p a b):=fun i=>by
 unfold et;split
 ·subst_vars;omega
 ·exact h i
def aN (E:List S83):Nat->Nat:=E.foldl (fun p x=>et p x.f0.toNat x.f1.toNat) id
theorem Aq (E:List S83) (k:Nat) (h:k<E.length):aN (E.take (k+1))=et (aN (E.take k)) (ae E k).f0.toNat (ae E k).f1.toNat:=by
 unfold aN;rw[List.take_succ_eq_append_getElem h,List.foldl_append];simp[ae,bh,bX h]
theorem tp (E:List S83):gY (aN E):=by
 suffices h:∀(E:List S83) p,gY p->gY (E.foldl (fun p x=>et p x.f0.toNat x.f1.toNat) p) from h E id (fun i=>aI _)
 intro E;induction E with
 |nil=>exact fun p h=>h
 |cons x E a=>exact fun p h=>a _ (tn h _ _)
theorem tq {k:IntKind} {a b:Int} (h:a=b):Ending.returned (.int k a)= .returned (.int k b):=by rw[h]
theorem p4 (g v:Nat) (p:Nat->Nat) (w:World) (hf:gY p) (m:v<12) (hw:ee w g p):
  Calls Tryz.prog 210 #[.pointer (some ⟨g,0,none⟩),.int .i64 v] w fun e w'=>e= .returned (.int .i64 (rootOf p v:Nat))/\w=w':=by
 go_enter Tryz.func210,Tryz.ntmps210
 go_wp2;go_loop [1] (fun u=>∃k:Nat,k<12/\u= .int .i64 k/\rootOf p k=rootOf p v) (fun u=>(intOf u).toNat)
 case atStart=>exact⟨v,m,rfl,rfl⟩
 case round=>
  obtain⟨k,hk,rfl,h⟩:=hrel;have i:=Lib.hid h;clear h;have n:=hw.cell k hk;have o:(0:Int)<=(k:Int):=by omega
  have q:(k:Int)<12:=by omega
  have hle:=hf k;by_cases j:p k<k
  ·have a:rootOf p k=rootOf p (p k):=by rw[rootOf,dif_pos j]
   have b:=Lib.hid a;clear a;have r:((p k:Nat):Int)≠(k:Int):=by omega
   go_wp2;go_round
   case rel=>exact⟨p k,by omega,rfl,by rw[<-i.out,b.out]⟩
   case measure=>simp[intOf];omega
  ·have a:rootOf p k=k:=by rw[rootOf,dif_neg j]
   have b:=Lib.hid a;clear a;have l:p k=k:=by omega
   rw[l] at n;clear l;go_wp2;go_ret;exact⟨tq (by rw[<-i.out,b.out]),rfl⟩
theorem As (g a b:Nat) (p:Nat->Nat) (w:World) (hf:gY p) (u:a<12) (hb:b<12) (hw:ee w g p):
  Calls Tryz.prog 209 #[.pointer (some ⟨g,0,none⟩),.int .i64 a,.int .i64 b] w fun e w'=>e= .returned (.tuple #[])/\ee w' g (et p a b)/\w.grownBy w' (some g):=by
 have h1:=j8 p a;have q:=j8 p b;generalize k:rootOf p a=h at h1;generalize l:rootOf p b=i at q;have m:=p4 g a p w hf u hw;have cb:=p4 g b p w hf hb hw;rw[k] at m;rw[l] at cb;have n:=zA m;have o:=zA cb;have j:Aside0 (ee (w.setCell ⟨g,max h i,none⟩ (.int .i64 (min h i:Nat))) g (et p a b)):=⟨by unfold et;rw[k,l];exact hw.set _ (by omega) _⟩;have Hg:Aside0 (w.grownBy (w.setCell ⟨g,max h i,none⟩ (.int .i64 (min h i:Nat))) (some g)):=⟨j7 ..⟩;clear k l m cb;have r:h<12:=by omega
 have s:i<12:=by omega
 have G:(0:Int)<=(h:Int):=by omega
 have H:(h:Int)<12:=by omega
 have v:(0:Int)<=(i:Int):=by omega
 have x:(i:Int)<12:=by omega
 have I:=hw.cell h r;have J:=hw.frozen h;have y:=hw.cell i s;have z:=hw.frozen i;have K:=zA hw;clear hw h1 q r s;rcases Nat.lt_trichotomy h i with B|heq|B
 ·rw[show max h i=i from by omega,show min h i=h from by omega] at j Hg
  have C:(h:Int)<(i:Int):=by omega
  have D:¬(i:Int)<(h:Int):=by omega
  have E:(h:Int)<=(i:Int):=by omega
  have F:¬(i:Int)<=(h:Int):=by omega
  go_enter Tryz.func209,Tryz.ntmps209
  go_wp2_with (first|(go_at_call 210;(first|(with_reducible refine n.out.mono ?_)|(with_reducible refine o.out.mono ?_));rintro e w1 ⟨rfl,rfl⟩))
  go_end0;exact⟨rfl,j.out,Hg.out⟩
 ·subst heq
  rw[Nat.max_self,Nat.min_self] at j Hg;clear y z v x;go_enter Tryz.func209,Tryz.ntmps209
  go_wp2_with (first|(go_at_call 210;(first|(with_reducible refine n.out.mono ?_)|(with_reducible refine o.out.mono ?_));rintro e w1 ⟨rfl,rfl⟩))
  go_end0;exact⟨rfl,j.out,Hg.out⟩
 ·rw[show max h i=h from by omega,show min h i=i from by omega] at j Hg
  have C:(i:Int)<(h:Int):=by omega
  have D:¬(h:Int)<(i:Int):=by omega
  have E:(i:Int)<=(h:Int):=by omega
  have F:¬(h:Int)<=(i:Int):=by omega
  go_enter Tryz.func209,Tryz.ntmps209
  go_wp2_with (first|(go_at_call 210;(first|(with_reducible refine n.out.mono ?_)|(with_reducible refine o.out.mono ?_));rintro e w1 ⟨rfl,rfl⟩))
  go_end0;exact⟨rfl,j.out,Hg.out⟩
theorem Au (w:World):Calls Tryz.prog 208 #[] w fun e w'=>e= .returned (.agg #[.int .i64 0,.int .i64 1,.int .i64 2,.int .i64 3,.int .i64 4,.int .i64 5,.int .i64 6,.int .i64 7,.int .i64 8,.int .i64 9,.int .i64 10,.int .i64 11])/\Below w.heap.size w w':=by
 go_enter Tryz.func208,Tryz.ntmps208
 go_wp2;have g:=aq (aq (ao w.heap.size w) (.cells #[.int .i64 0,.int .i64 0,.int .i64 0,.int .i64 0,.int .i64 0,.int .i64 0,.int .i64 0,.int .i64 0,.int .i64 0,.int .i64 0,.int .i64 0,.int .i64 0] 217)) (.cells #[.int .i64 0,.int .i64 0,.int .i64 0,.int .i64 0,.int .i64 0,.int .i64 0,.int .i64 0,.int .i64 0,.int .i64 0,.int .i64 0,.int .i64 0,.int .i64 0] 217);have h:((w.alloc (.cells #[.int .i64 0,.int .i64 0,.int .i64 0,.int .i64 0,.int .i64 0,.int .i64 0,.int .i64 0,.int .i64 0,.int .i64 0,.int .i64 0,.int .i64 0,.int .i64 0] 217)).alloc (.cells #[.int .i64 0,.int .i64 0,.int .i64 0,.int .i64 0,.int .i64 0,.int .i64 0,.int .i64 0,.int .i64 0,.int .i64 0,.int .i64 0,.int .i64 0,.int .i64 0] 217)).heap[w.heap.size]? =some (.cells #[.int .i64 0,.int .i64 0,.int .i64 0,.int .i64 0,.int .i64 0,.int .i64 0,.int .i64 0,.int .i64 0,.int .i64 0,.int .i64 0,.int .i64 0,.int .i64 0] 217 (0,0)):=ay (bm w _) _;have h1:ee ((w.alloc (.cells #[.int .i64 0,.int .i64 0,.int .i64 0,.int .i64 0,.int .i64 0,.int .i64 0,.int .i64 0,.int .i64 0,.int .i64 0,.int .i64 0,.int .i64 0,.int .i64 0] 217)).alloc (.cells #[.int .i64 0,.int .i64 0,.int .i64 0,.int .i64 0,.int .i64 0,.int .i64 0,.int .i64 0,.int .i64 0,.int .i64 0,.int .i64 0,.int .i64 0,.int .i64 0] 217)) (w.heap.size+1) (fun i=>if i<0 then i else 0):=by
  refine⟨#[.int .i64 0,.int .i64 0,.int .i64 0,.int .i64 0,.int .i64 0,.int .i64 0,.int .i64 0,.int .i64 0,.int .i64 0,.int .i64 0,.int .i64 0,.int .i64 0],by simpa using bm (w.alloc (.cells #[.int .i64 0,.int .i64 0,.int .i64 0,.int .i64 0,.int .i64 0,.int .i64 0,.int .i64 0,.int .i64 0,.int .i64 0,.int .i64 0,.int .i64 0,.int .i64 0] 217)) (.cells #[.int .i64 0,.int .i64 0,.int .i64 0,.int .i64 0,.int .i64 0,.int .i64 0,.int .i64 0,.int .i64 0,.int .i64 0,.int .i64 0,.int .i64 0,.int .i64 0] 217),rfl,fun i hi=>?_⟩;match i,hi with|0,_=>rfl|1,_=>rfl|2,_=>rfl|3,_=>rfl|4,_=>rfl|5,_=>rfl|6,_=>rfl|7,_=>rfl|8,_=>rfl|9,_=>rfl|10,_=>rfl|11,_=>rfl
 generalize n:w.heap.size=gb at h h1 g⊢;generalize ((w.alloc (.cells #[.int .i64 0,.int .i64 0,.int .i64 0,.int .i64 0,.int .i64 0,.int .i64 0,.int .i64 0,.int .i64 0,.int .i64 0,.int .i64 0,.int .i64 0,.int .i64 0] 217)).alloc (.cells #[.int .i64 0,.int .i64 0,.int .i64 0,.int .i64 0,.int .i64 0,.int .i64 0,.int .i64 0,.int .i64 0,.int .i64 0,.int .i64 0,.int .i64 0,.int .i64 0] 217))=W0 at h h1 g⊢;go_loopw [2,3] (fun _ i wr=>∃k:Nat,k<=12/\i= .int .i64 k/\Aside0 (wr.heap[gb]? =some (.cells #[.int .i64 0,.int .i64 0,.int .i64 0,.int .i64 0,.int .i64 0,.int .i64 0,.int .i64 0,.int .i64 0,.int .i64 0,.int .i64 0,.int .i64 0,.int .i64 0] 217 (0,0)))/\Aside0 (ee wr (gb+1) (fun i=>if i<k then i else 0))/\Aside0 (Below gb w wr)) (fun _ i _=>12- (intOf i).toNat)
 case atStart=>exact⟨0,by omega,rfl,⟨h⟩,⟨h1⟩,⟨g⟩⟩
 case round=>
  obtain⟨k,hk,rfl,a,H1,l⟩:=hrel;by_cases m:k<12
  ·have r:=H1.out.cell k m
   have hf:=H1.out.frozen k;have s:(0:Int)<=(k:Int):=by omega
   have u:(k:Int)<12:=by omega
   have o:=zA (cR a.out (j7 wr (gb+1) k (.int .i64 k)) (by simp));have n1:=zA ((H1.out.set k m k).congr (q:=fun i=>if i<k+1 then i else 0) (fun i hi=>by(try dsimp only);split<;>split<;>(try split)<;>omega));have p:=zA (l.out.grown (j7 wr (gb+1) k (.int .i64 k)) (by have:=H1.out.lt;omega) (fun j e=>by cases e;omega));go_wp2;go_roundw
   case rel=>exact⟨k+1,by omega,by go_num,o,n1,p⟩
   case measure=>(show 12- ((k:Int)+1).toNat<12- ((k:Int)).toNat;omega)
  ·obtain rfl:k=12:=by omega
   have x:wr.cell? ⟨gb+1,0,none⟩=some (.int .i64 0):=H1.out.cell 0 (by omega);have y:wr.cell? ⟨gb,0,none⟩=some (.int .i64 0):=(al a.out 0).trans rfl;have z:=bD a.out 0;have B:wr.cell? ⟨gb+1,1,none⟩=some (.int .i64 1):=H1.out.cell 1 (by omega);have C:wr.cell? ⟨gb,1,none⟩=some (.int .i64 0):=(al a.out 1).trans rfl;have D:=bD a.out 1;have E:wr.cell? ⟨gb+1,2,none⟩=some (.int .i64 2):=H1.out.cell 2 (by omega);have F:wr.cell? ⟨gb,2,none⟩=some (.int .i64 0):=(al a.out 2).trans rfl;have G:=bD a.out 2;have H:wr.cell? ⟨gb+1,3,none⟩=some (.int .i64 3):=H1.out.cell 3 (by omega);have I:wr.cell? ⟨gb,3,none⟩=some (.int .i64 0):=(al a.out 3).trans rfl;have J:=bD a.out 3;have K:wr.cell? ⟨gb+1,4,none⟩=some (.int .i64 4):=H1.out.cell 4 (by omega);have L:wr.cell? ⟨gb,4,none⟩=some (.int .i64 0):=(al a.out 4).trans rfl;have M:=bD a.out 4;have N:wr.cell? ⟨gb+1,5,none⟩=some (.int .i64 5):=H1.out.cell 5 (by omega);have O:wr.cell? ⟨gb,5,none⟩=some (.int .i64 0):=(al a.out 5).trans rfl;have P:=bD a.out 5;have Q:wr.cell? ⟨gb+1,6,none⟩=some (.int .i64 6):=H1.out.cell 6 (by omega);have R:wr.cell? ⟨gb,6,none⟩=some (.int .i64 0):=(al a.out 6).trans rfl;have S:=bD a.out 6;have T:wr.cell? ⟨gb+1,7,none⟩=some (.int .i64 7):=H1.out.cell 7 (by omega);have U:wr.cell? ⟨gb,7,none⟩=some (.int .i64 0):=(al a.out 7).trans rfl;have V:=bD a.out 7;have W:wr.cell? ⟨gb+1,8,none⟩=some (.int .i64 8):=H1.out.cell 8 (by omega);have X:wr.cell? ⟨gb,8,none⟩=some (.int .i64 0):=(al a.out 8).trans rfl;have Y:=bD a.out 8;have Z:wr.cell? ⟨gb+1,9,none⟩=some (.int .i64 9):=H1.out.cell 9 (by omega);have aa:wr.cell? ⟨gb,9,none⟩=some (.int .i64 0):=(al a.out 9).trans rfl;have ab:=bD a.out 9;have ad:wr.cell? ⟨gb+1,10,none⟩=some (.int .i64 10):=H1.out.cell 10 (by omega);have ag:wr.cell? ⟨gb,10,none⟩=some (.int .i64 0):=(al a.out 10).trans rfl;have ak:=bD a.out 10;have am:wr.cell? ⟨gb+1,11,none⟩=some (.int .i64 11):=H1.out.cell 11 (by omega);have an:wr.cell? ⟨gb,11,none⟩=some (.int .i64 0):=(al a.out 11).trans rfl;have ap:=bD a.out 11;go_wp2;have b:=a.out;replace b:=bR b 0 (.int .i64 0);replace b:=bR b 1 (.int .i64 1);replace b:=bR b 2 (.int .i64 2);replace b:=bR b 3 (.int .i64 3);replace b:=bR b 4 (.int .i64 4);replace b:=bR b 5 (.int .i64 5);replace b:=bR b 6 (.int .i64 6);replace b:=bR b 7 (.int .i64 7);replace b:=bR b 8 (.int .i64 8);replace b:=bR b 9 (.int .i64 9);replace b:=bR b 10 (.int .i64 10);replace b:=bR b 11 (.int .i64 11);simp only[List.setIfInBounds_toArray,List.set_cons_zero,List.set_cons_succ] at b;refine bodyPost_ret (v:=.agg #[.int .i64 0,.int .i64 1,.int .i64 2,.int .i64 3,.int .i64 4,.int .i64 5,.int .i64 6,.int .i64 7,.int .i64 8,.int .i64 9,.int .i64 10,.int .i64 11]) (results_cell_row rfl _ _ gb 217 #[.int .i64 0,.int .i64 1,.int .i64 2,.int .i64 3,.int .i64 4,.int .i64 5,.int .i64 6,.int .i64 7,.int .i64 8,.int .i64 9,.int .i64 10,.int .i64 11] (0,0) _ rfl b Tryz.underlying217 rfl rfl) rfl ⟨rfl,?_⟩;iterate 12 (refine dx ?_ (by omega))
   rw[n];exact l.out
end
theorem Aw (N:Int) (A0:Option Addr) (c0:Nat) (E:List S83) (w:World) (G:Kd.C aT w A0 E.length E) (H:ep 12 E):
  Calls Tryz.prog 196 #[.agg #[.int .i64 N,.slice A0 E.length c0]] w fun e w'=>e= .returned (.agg #[.int .i64 (aN E 0:Nat),.int .i64 (aN E 1:Nat),.int .i64 (aN E 2:Nat),.int .i64 (aN E 3:Nat),.int .i64 (aN E 4:Nat),.int .i64 (aN E 5:Nat),.int .i64 (aN E 6:Nat),.int .i64 (aN E 7:Nat),.int .i64 (aN E 8:Nat),.int .i64 (aN E 9:Nat),.int .i64 (aN E 10:Nat),.int .i64 (aN E 11:Nat)])/\Below w.heap.size w w':=by
 have hu:=Tryz.underlying24;have W:=Tryz.underlying83;have M:=zA H.get;clear H;go_enter Tryz.func196,Tryz.ntmps196
 go_wp2_with (first|(go_at_call 208;refine(Au _).mono ?_;rintro e w1 ⟨rfl,hb⟩;have z:w1.heap[w.heap.size]? =some (.cells #[.int .i64 N,.slice A0 E.length c0] 24 (0,0)):=aM (ay (bm w _) _) hb;have B:w1.heap[w.heap.size+1]? =some (.cells #[.int .i64 0,.int .i64 0,.int .i64 0,.int .i64 0,.int .i64 0,.int .i64 0,.int .i64 0,.int .i64 0,.int .i64 0,.int .i64 0,.int .i64 0,.int .i64 0] 217 (0,0)):=aM (heap_alloc2_new w _ _) hb;have I:=zA (a8 (aq (aq (ao w.heap.size w) _) _) hb);clear hb;have J:(w1.alloc (.cells #[.int .i64 0,.int .i64 1,.int .i64 2,.int .i64 3,.int .i64 4,.int .i64 5,.int .i64 6,.int .i64 7,.int .i64 8,.int .i64 9,.int .i64 10,.int .i64 11] 217)).cell? ⟨w.heap.size,1,none⟩=some (.slice A0 E.length c0):=(al (ay z _) 1).trans rfl))
 have o:=zA (ay z (.cells #[.int .i64 0,.int .i64 1,.int .i64 2,.int .i64 3,.int .i64 4,.int .i64 5,.int .i64 6,.int .i64 7,.int .i64 8,.int .i64 9,.int .i64 10,.int .i64 11] 217));have g:=zA (ay B (.cells #[.int .i64 0,.int .i64 1,.int .i64 2,.int .i64 3,.int .i64 4,.int .i64 5,.int .i64 6,.int .i64 7,.int .i64 8,.int .i64 9,.int .i64 10,.int .i64 11] 217));have n:=zA (aq I.out (.cells #[.int .i64 0,.int .i64 1,.int .i64 2,.int .i64 3,.int .i64 4,.int .i64 5,.int .i64 6,.int .i64 7,.int .i64 8,.int .i64 9,.int .i64 10,.int .i64 11] 217));have l:Aside0 (ee (w1.alloc (.cells #[.int .i64 0,.int .i64 1,.int .i64 2,.int .i64 3,.int .i64 4,.int .i64 5,.int .i64 6,.int .i64 7,.int .i64 8,.int .i64 9,.int .i64 10,.int .i64 11] 217)) w1.heap.size (aN (E.take 0))):=⟨⟨#[.int .i64 0,.int .i64 1,.int .i64 2,.int .i64 3,.int .i64 4,.int .i64 5,.int .i64 6,.int .i64 7,.int .i64 8,.int .i64 9,.int .i64 10,.int .i64 11],bm _ _,rfl,fun i hi=>by
  match i,hi with|0,_=>rfl|1,_=>rfl|2,_=>rfl|3,_=>rfl|4,_=>rfl|5,_=>rfl|6,_=>rfl|7,_=>rfl|8,_=>rfl|9,_=>rfl|10,_=>rfl|11,_=>rfl⟩⟩
 have O:w.heap.size+1<w1.heap.size:=aE B;clear z B I J;generalize (w1.alloc (.cells #[.int .i64 0,.int .i64 1,.int .i64 2,.int .i64 3,.int .i64 4,.int .i64 5,.int .i64 6,.int .i64 7,.int .i64 8,.int .i64 9,.int .i64 10,.int .i64 11] 217))=W0 at o g n l⊢;generalize w1.heap.size=gf at l O⊢;clear w1;go_loopw [10] (fun i wr=>∃k:Nat,k<=E.length/\i= .int .i64 k/\Aside0 (wr.heap[w.heap.size]? =some (.cells #[.int .i64 N,.slice A0 E.length c0] 24 (0,0)))/\Aside0 (wr.heap[w.heap.size+1]? =some (.cells #[.int .i64 0,.int .i64 0,.int .i64 0,.int .i64 0,.int .i64 0,.int .i64 0,.int .i64 0,.int .i64 0,.int .i64 0,.int .i64 0,.int .i64 0,.int .i64 0] 217 (0,0)))/\Aside0 (ee wr gf (aN (E.take k)))/\Aside0 (Below w.heap.size w wr)) (fun i _=>E.length- (intOf i).toNat)
 case atStart=>exact⟨0,by omega,rfl,o,g,l,n⟩
 case round=>
  clear o g l n;obtain⟨k,hk,rfl,o,g,l,p⟩:=hrel;by_cases K:k<E.length
  ·obtain⟨h1,D,u,F, -, -⟩:=M.out k K
   have L:=Lib.hid (Aq E k K);obtain⟨ad,rfl,q,r,s⟩:=eJ G k (by omega) (by omega);rw[aQ] at q r s;generalize ae E k=x at h1 D u F q r s L;obtain⟨a,b,m⟩:=x;simp only at h1 D u F q r s;obtain⟨a,rfl⟩:=Int.eq_ofNat_of_zero_le h1;obtain⟨b,rfl⟩:=Int.eq_ofNat_of_zero_le u;have q:=iq p.out q;have r:=iq p.out r;have s:=iq p.out s;have X:(0:Int)<=(k:Int):=by omega
   have Y:(k:Int)<(E.length:Int):=by omega
   have Z:=G.2.1;have aa:wrap64 ((k:Int)+1)=(k:Int)+1:=by unfold wrap64;omega
   have P:=zA (l.out.alloc (.cells #[.int .i64 a,.int .i64 b,.int .i64 m] 83));have Q:=zA (ay o.out (.cells #[.int .i64 a,.int .i64 b,.int .i64 m] 83));have R:=zA (ay g.out (.cells #[.int .i64 a,.int .i64 b,.int .i64 m] 83));have n:=zA (aq p.out (.cells #[.int .i64 a,.int .i64 b,.int .i64 m] 83));have S:a<12:=by omega
   have hb:b<12:=by omega
   clear h1 D u F;go_wp2_with (first|(go_at_call 209;refine(As gf a b _ _ (tp _) S hb P.out).mono ?_;rintro e w2 ⟨rfl,hf,y⟩;have T:=zA hf;have n1:=zA (cR Q.out y (by simp;omega));have U:=zA (cR R.out y (by simp;omega));have V:=zA (Below.grown n.out y n.out.size (fun j e=>by cases e;omega));clear hf y))
   go_roundw
   case rel=>exact⟨k+1,by omega,by go_num,n1,U,⟨by rw[L.out];exact T.out⟩,V⟩
   case measure=>(show E.length- ((k:Int)+1).toNat<E.length- ((k:Int)).toNat;omega)
  ·obtain rfl:k=E.length:=by omega
   rw[List.take_length] at l;have ab:=l.out.cell 0 (by omega);have ag:wr.cell? ⟨w.heap.size+1,0,none⟩=some (.int .i64 0):=(al g.out 0).trans rfl;have ak:=bD g.out 0;have J:=l.out.cell 1 (by omega);have am:wr.cell? ⟨w.heap.size+1,1,none⟩=some (.int .i64 0):=(al g.out 1).trans rfl;have an:=bD g.out 1;have ap:=l.out.cell 2 (by omega);have ar:wr.cell? ⟨w.heap.size+1,2,none⟩=some (.int .i64 0):=(al g.out 2).trans rfl;have av:=bD g.out 2;have aB:=l.out.cell 3 (by omega);have aF:wr.cell? ⟨w.heap.size+1,3,none⟩=some (.int .i64 0):=(al g.out 3).trans rfl;have aL:=bD g.out 3;have aO:=l.out.cell 4 (by omega);have aP:wr.cell? ⟨w.heap.size+1,4,none⟩=some (.int .i64 0):=(al g.out 4).trans rfl;have aR:=bD g.out 4;have aS:=l.out.cell 5 (by omega);have a0:wr.cell? ⟨w.heap.size+1,5,none⟩=some (.int .i64 0):=(al g.out 5).trans rfl;have a1:=bD g.out 5;have a2:=l.out.cell 6 (by omega);have a3:wr.cell? ⟨w.heap.size+1,6,none⟩=some (.int .i64 0):=(al g.out 6).trans rfl;have a4:=bD g.out 6;have a5:=l.out.cell 7 (by omega);have a9:wr.cell? ⟨w.heap.size+1,7,none⟩=some (.int .i64 0):=(al g.out 7).trans rfl;have be:=bD g.out 7;have bf:=l.out.cell 8 (by omega);have bg:wr.cell? ⟨w.heap.size+1,8,none⟩=some (.int .i64 0):=(al g.out 8).trans rfl;have bi:=bD g.out 8;have bk:=l.out.cell 9 (by omega);have bn:wr.cell? ⟨w.heap.size+1,9,none⟩=some (.int .i64 0):=(al g.out 9).trans rfl;have bo:=bD g.out 9;have bv:=l.out.cell 10 (by omega);have bw:wr.cell? ⟨w.heap.size+1,10,none⟩=some (.int .i64 0):=(al g.out 10).trans rfl;have bx:=bD g.out 10;have b0:=l.out.cell 11 (by omega);have b1:wr.cell? ⟨w.heap.size+1,11,none⟩=some (.int .i64 0):=(al g.out 11).trans rfl;have b2:=bD g.out 11;go_wp2;have h:=g.out;replace h:=bR h 0 (.int .i64 (aN E 0:Nat));replace h:=bR h 1 (.int .i64 (aN E 1:Nat));replace h:=bR h 2 (.int .i64 (aN E 2:Nat));replace h:=bR h 3 (.int .i64 (aN E 3:Nat));replace h:=bR h 4 (.int .i64 (aN E 4:Nat));replace h:=bR h 5 (.int .i64 (aN E 5:Nat));replace h:=bR h 6 (.int .i64 (aN E 6:Nat));replace h:=bR h 7 (.int .i64 (aN E 7:Nat));replace h:=bR h 8 (.int .i64 (aN E 8:Nat));replace h:=bR h 9 (.int .i64 (aN E 9:Nat));replace h:=bR h 10 (.int .i64 (aN E 10:Nat));replace h:=bR h 11 (.int .i64 (aN E 11:Nat));simp only[List.setIfInBounds_toArray,List.set_cons_zero,List.set_cons_succ] at h;refine bodyPost_ret (v:=.agg #[.int .i64 (aN E 0:Nat),.int .i64 (aN E 1:Nat),.int .i64 (aN E 2:Nat),.int .i64 (aN E 3:Nat),.int .i64 (aN E 4:Nat),.int .i64 (aN E 5:Nat),.int .i64 (aN E 6:Nat),.int .i64 (aN E 7:Nat),.int .i64 (aN E 8:Nat),.int .i64 (aN E 9:Nat),.int .i64 (aN E 10:Nat),.int .i64 (aN E 11:Nat)]) (results_cell_row rfl _ _ (w.heap.size+1) 217 #[.int .i64 (aN E 0:Nat),.int .i64 (aN E 1:Nat),.int .i64 (aN E 2:Nat),.int .i64 (aN E 3:Nat),.int .i64 (aN E 4:Nat),.int .i64 (aN E 5:Nat),.int .i64 (aN E 6:Nat),.int .i64 (aN E 7:Nat),.int .i64 (aN E 8:Nat),.int .i64 (aN E 9:Nat),.int .i64 (aN E 10:Nat),.int .i64 (aN E 11:Nat)] (0,0) _ rfl h Tryz.underlying217 rfl rfl) rfl ⟨rfl,?_⟩;iterate 12 (refine dx ?_ (by simp))
   exact p.out
end Go.Proofs.YtffdiakgjakngaaGreat.P
namespace Go.Proofs.YtffdiakgjakngaaGreat.P
open Go.RowKit Go.Maps Go.Proofs.YtffdiakgjakngaaGreatW.PrintWords Go.Proofs.YtffdiakgjakngaaGreatW.PrintLast Go.Proofs.YtffdiakgjakngaaGreatW.PrintMore
set_option linter.unusedVariables false
set_option linter.unusedSimpArgs false
set_option maxHeartbeats 8000000
set_option maxRecDepth 100000
def cY (p:Nat->Nat):Nat->Nat
 |0=>0
 |u+1=>cY p u+(if rootOf p u=u then 1 else 0)
theorem mE (p:Nat->Nat):∀u,cY p u<=u
 |0=>aI _
 |u+1=>by
  have:=mE p u;simp only[cY];split<;>omega
theorem n9 (p:Nat->Nat) (v:Nat):rootOf p (rootOf p v)=rootOf p v:=by
 induction v using Nat.strongRecOn with
 |ind v a=>
  by_cases h:p v<v
  ·rw[show rootOf p v=rootOf p (p v) by rw[rootOf,dif_pos h]]
   exact a _ h
  ·have e:rootOf p v=v:=by rw[rootOf,dif_neg h]
   rw[e,e]
theorem p5 (w:World):(zeroValue 3).run Tryz.prog w= .ok (.int .i64 0) w:=by kernel_rfl
theorem p6:Keyed Tryz.prog 3:=int_keyed Tryz.underlying3
theorem p9 {a:Nat} (h:a<=1000):keyOf Tryz.prog 3 (.int .i64 a)=some (.int .i64 a):=keyOf_int_mk Tryz.underlying3 (WalkArith.wf_i64 (by omega))
def kH (p:Nat->Nat) (k m:Nat) (D:DataW Unit):Prop:=IsMap D/\∀r,r<k->rootOf p r=r->∃c:Nat,c<m/\D.atKey (.int .i64 r) (.lit (.int .i64 0))= .lit (.int .i64 c)
theorem kH.skip {p:Nat->Nat} {k m:Nat} {D:DataW Unit} (h:kH p k m D) (b:rootOf p k≠k):kH p (k+1) m D:=by
 refine⟨h.1,fun r g a=>?_⟩;by_cases e:r=k
 ·subst e;exact absurd a b
 ·exact h.2 r (by omega) a
theorem kH.put {p:Nat->Nat} {k m:Nat} {D:DataW Unit} (h:kH p k m D) (hk:k<=1000):kH p (k+1) (m+1) (D.put (.int .i64 k) (.lit (.int .i64 m))):=by
 refine⟨h.1.put _ _,fun r g a=>?_⟩;by_cases e:r=k
 ·subst e
  exact⟨m,by omega,atKey_put_same h.1 (by simp[WideAt.IsKeyLit]) _ _⟩
 ·obtain⟨c,i,b⟩:=h.2 r (by omega) a
  refine⟨c,by omega,?_⟩;rw[atKey_put_other (fun e2=>e (by injection e2;omega))];exact b
theorem tr {W a:World} {b g0 cap c:Nat} {X:List (List Int)} {oki:Nat->Prop} {ev s:Value} {e:List Int} (hH:Kd.H (Kd.slice 3 (Kd.int .i64)) 25 W b (fun q=>True/\¬W.heap.size<=q) (.slice (some ⟨g0,0,none⟩) X.length cap) X (c:Int) oki [ev]) (m:c<X.length)
  (i:W.drew.grownBy a ev.ownBlock) (k:∀q,ev.ownBlock=some q->oki q) (l:(Kd.int .i64).R 3 a b (fun q=>oki q\/W.heap.size<=q) s e) (n:g0<W.heap.size):
  Kd.S (Kd.slice 3 (Kd.int .i64)) 25 (a.setCell ⟨g0,c,none⟩ s) b (fun _=>True) (.slice (some ⟨g0,0,none⟩) X.length cap) (X.set c e):=by
 have h:=(Kd.yB (d:=Kd.slice 3 (Kd.int .i64)) (okg:=fun q=>W.heap.size<=q) (ok:=fun _=>True) (okp:=fun q=>oki q\/W.heap.size<=q) (seg:=[s]) (j:=0) (x':=e) (Kd.sB (Kd.yw hH) i k) (by omega) (by omega) (by simp[Kd.slice]) (Kd.l8 l) (fun q g=>g) (fun q g=>⟨trivial,by omega⟩)).1;rw[aQ] at h;simpa [Kd.slice,World.setCells] using h
theorem tt {X:List (List Int)} {c k:Nat} {y:List Int} {x:Int} (h:∀z∈X,z.length<=k) (b:y.length<=k):∀z∈X.set c (y++[x]),z.length<=k+1:=fun z a=>by
 rcases List.mem_or_eq_of_mem_set a with h1|h1
 ·exact Nat.le_succ_of_le (h z h1)
 ·subst h1;simp;omega
theorem Ay (g n:Nat) (p:Nat->Nat) (w:World) (hn:n<=12) (hf:gY p) (hw:ee w g p):
  Calls Tryz.prog 197 #[.pointer (some ⟨g,0,none⟩),.int .i64 n] w fun e w'=>∃A c,e= .returned (.slice A (cY p n) c)/\Below w.heap.size w w':=by
 have c6:=@run_makeMap Tryz.prog;have d8:=hw.lt;go_enter Tryz.func197,Tryz.ntmps197
 go_wp2;have hB:=aq (ao w.heap.size w) (.map #[] 0);have hM:=World.ownsMap_made (H:=Unit) w Tryz.prog 3 (plainElem Tryz.prog 3);generalize cl:w.heap.size=b at hM hB⊢;generalize (w.alloc (.map #[] 0))=W0 at hM hB⊢;clear c6;go_loopw [5,11] (fun v i wr=>∃(k:Nat) (xs:List (List Int)) (D:DataW Unit),k<=n/\i= .int .i64 k/\Aside0 (xs.length=cY p k)/\Aside0 (∀y∈xs,y.length<=k)/\Aside0 (Kd.S (Kd.slice 3 (Kd.int .i64)) 25 wr b (fun _=>True) v xs)/\Aside0 (wr.ownsMap Tryz.prog 3 (plainElem Tryz.prog 3) b k D)/\Aside0 (kH p k (cY p k) D)/\Aside0 (Below b w wr)) (fun _ i _=>n- (intOf i).toNat)
 case atStart=>exact⟨0,[],_,by omega,rfl,⟨rfl⟩,⟨fun y hy=>absurd hy (by simp)⟩,⟨Kd.fh _ _ _ _ _⟩,⟨hM⟩,⟨isMap_empty,fun r hr=>absurd hr (by omega)⟩,⟨hB⟩⟩
 case round=>
  clear hM hB;obtain⟨k,xs,D,hk,rfl,Y,HY,Z,HM,HP,HB⟩:=hrel;by_cases d9:k<n
  ·have hle:=j8 p k
   have ea:=mE p k;have CR:=zA (p4 g k p wr hf (by omega) (hw.below (by rw[cl];exact HB.out)));have cq:=Lib.hid (n9 p k);have Hs:Hid (cY p (k+1)=cY p k+(if rootOf p k=k then 1 else 0)):=Lib.hid rfl;by_cases F:rootOf p k=k
   ·have cv:=Lib.hid F
    rw[F] at CR;clear F hle;obtain⟨Ao,co,rfl⟩:=Kd.lB Z.out;have eb:xs.length<=12:=by have:=Y.out;omega
    obtain⟨es,ck,s, -⟩:=HM.out;have c8:some b≠(Value.slice Ao xs.length co).ownBlock:=fun e=>by
     obtain⟨cs,u⟩:=Kd.nD Z.out b e.symm;rw[s] at u;cases u
    have c9:=zA (Kd.kA (ok':=fun q=>q≠b) (Kd.mf Z.out) (fun q m e=>by obtain⟨t,_,cs,u⟩:=m.2.2.2;subst e;rw[s] at u;cases u));clear s es ck;have bo:=HP.out.put (by omega);have G:cY p (k+1)=cY p k+1:=by rw[Hs.out,if_pos cv.out]
    rw[<-G,<-Y.out] at bo;have bg:cY p (k+1)=xs.length+1:=by rw[G,Y.out]
    have dd:=zA bg;clear G bg;have dk:=zA bo;clear bo;go_wp2_with (first|(go_at_call 210;refine CR.out.mono ?_;rintro e w1 ⟨rfl,rfl⟩)|(at_mapUpdate;refine wpList_mapUpdate_own _ rfl _ _ _ 229 rfl 3 3 p6 Tryz.underlying229 _ b k _ rfl HM.out (by unfold maxLen;omega) _ _ _ rfl rfl (p9 (by omega)) _ [] (plainElem_int Tryz.underlying3 (WalkArith.wf_i64 (by omega))) ?_;intro w2 c0 bv;have c1:=zA c0;have dl:=zA (Kd.ss c9.out bv (fun q m e=>m (by injection e)));have ds:=zA (HB.out.grown bv (by have:=HM.out.lt;omega) (fun q e=>by injection e with e;omega));clear c0 bv)|(at_builtin;refine Kd.yt (Kd.slice 3 (Kd.int .i64)) (w0:=w) b rfl (.tmp 24) (.tmp 25) 73 25 (.slice none 0 0) 24 rfl Tryz.underlying73 sW rfl (by decide) (by omega) _ xs [] [.slice none 0 0] (fun _=>True) (fun _=>False) rfl rfl (Kd.l8 (Kd.cW _ _ _ _ _)) (fun _ hk=>hk.elim) (fun _ _=>trivial) (Kd.kA dl.out (fun q _=>⟨trivial,fun h=>h⟩)) ds.out (by have:=c1.out.lt;omega) (by omega) ?_;intro v3 W c2 c3 c4 dv;have I:=zA c2;have am:=zA c3;have l:=zA (c1.out.kept c4 c8);have J:=dk;clear c2 c3 c4 dv))
    generalize ed:D.put (.int .i64 k) (.lit (.int .i64 xs.length))=K at l J;have aa:Aside0 ((xs++[[]]).length=cY p (k+1)):=⟨by rw[dd.out];simp⟩;have ab:Aside0 (∀y∈xs++[[]],y.length<=k):=⟨fun y hy=>by
     rcases List.mem_append.1 hy with h|h
     ·exact HY.out y h
     ·simp at h;subst h;simp⟩
    generalize hX:xs++[[]]=X at I aa ab;obtain⟨c,bw,an⟩:=J.out.2 k (by omega) cv.out;have C:∀w':World,w'.ownsMap Tryz.prog 3 (plainElem Tryz.prog 3) b (k+1) K->(Instr.lookup 229 (.map (some b)) (.int .i64 (k:Nat)) false).run Tryz.prog w'= .ok (.int .i64 c) w':=fun w' h=>by
     obtain⟨c',bx,o,_⟩:=h.lookup_int p6 Tryz.underlying229 Tryz.underlying3 (p5 _) (p9 (a:=k) (by omega));rw[an] at o;injection o with o
     injection o with _ o
     rw[bx,o]
    have b0:=aa.out;have b1:=mE p (k+1);obtain⟨g0,cap,hv,d1,L,cells,M⟩:=Kd.pB I.out (by omega)
    (first|subst hv|(injection hv with b2 _ b3;subst b2;subst b3))
    obtain⟨oki,cc,b4,⟨ev,rfl,j⟩,ar,av,N,hH⟩:=Kd.sC (Kd.kA (ok':=fun q=>True/\¬W.heap.size<=q) (Kd.mf I.out) (fun q m=>⟨trivial,by have:=m.2.2.1;omega⟩)) [] (c:Int) (by omega) (by omega);have O:(X.getD (c:Int).toNat []).length<=k:=by
     have P:c<X.length:=by omega
     rw[aQ,bh,bX P];exact ab.out _ (List.getElem_mem P)
    have aB:W.cell? ⟨g0,c,none⟩=some ev:=by have h1:=ar 0 _ rfl;rw[aQ] at h1;simpa [Kd.slice] using h1
    have aF:W.frozen? ⟨g0,c,none⟩=false:=by have h1:=av 0;rw[aQ] at h1;simpa [Kd.slice] using h1
    rw[aQ] at j O;have b5:=Lib.hid (show (X.getD (c:Int).toNat [])=X.getD c [] by rw[aQ]);generalize X.getD c []=y at j O b5;obtain⟨Q,ce,rfl⟩:=Kd.bb j;have aL:some b≠(Value.slice Q y.length ce).ownBlock:=fun e=>by
     obtain⟨cs,u⟩:=Kd.fT j b e.symm;obtain⟨es,ck,s, -⟩:=l.out;rw[s] at u;cases u
    have d2:g0≠b:=fun e=>by
     subst e;obtain⟨es,ck,s, -⟩:=l.out;rw[s] at M;cases M
    have aO:some g0≠(Value.slice Q y.length ce).ownBlock:=fun e=>(N g0 (j.1 g0 e.symm)).2 rfl
    have HR:=zA (Kd.bd (Kd.a_ (ok':=fun q=>oki q\/W.heap.size<=q) j (fun q m=>.inl m)));have aR:=zA hH;have aS:=zA j.1;have b6:=zA N;clear hH ar av j N M cells b4;have b_:=C _ l.out.drew;have b':=C _ ((l.out.alloc (.cells #[.int .i64 k] 3)).drew);have d3:(0:Int)<=(c:Int):=by omega
    have d4:(c:Int)<(X.length:Int):=by omega
    have a0:=zA C;have d5:c<12:=by omega
    have bg:X.length<=12:=by omega
    have P:c<X.length:=by omega
    clear C an bw b0 b1;go_region_law ((refine Kd.pd (Kd.int .i64) (w0:=w) (W:=W.drew) b (by rfl) (.tmp 36) (.tmp 38) 25 3 (.int .i64 0) 8 (by rfl) Tryz.underlying25 fW rfl (by decide) (by omega) _ y (k:Int) [.int .i64 k] (fun q=>oki q\/W.heap.size<=q) (fun _=>False) (by rfl) (by rfl) rfl (fun _ hk=>hk.elim) (fun q m=>.inr m) HR.out (bV am.out) (by have:=am.out.size;show b<=W.heap.size;omega) (by omega) ?_;intro v4 x R a1 B ca;obtain⟨T,U,a2⟩:=Kd.bb R;rw[show (y++[(k:Int)]).length=y.length+1 by simp] at a2;subst a2;have a3:=zA R;have V:=zA a1;have E:=zA B;have cb:=a0.out _ (l.out.drew.kept B aL);have cd:x.cell? ⟨g0,c,none⟩=some (.slice Q y.length ce):=(B.cell_far ⟨g0,c,none⟩ L aO).trans aB;have cf:x.frozen? ⟨g0,c,none⟩=false:=(B.frozen_far ⟨g0,c,none⟩ L aO).trans aF;clear R a1 B ca))
    all_goals have n0:=zA (tr aR.out (by omega) E.out aS.out a3.out L)
    all_goals have n1:=zA ((l.out.drew.kept E.out aL).kept (j7 x g0 c (.slice T (y.length+1) U)) (by simp;omega))
    all_goals have n2:=zA (V.out.grown (j7 x g0 c (.slice T (y.length+1) U)) (by have:=V.out.size;have:=l.out.lt;have:W.drew.heap.size=W.heap.size:=rfl;have:=E.out.size;omega) (fun q e=>by injection e with e;omega))
    all_goals have n3:=zA (J.out)
    all_goals have n4:Aside0 (∀z∈X.set c (y++[(k:Int)]),z.length<=k+1):=⟨tt ab.out O⟩
    all_goals have n5:Aside0 ((X.set c (y++[(k:Int)])).length=X.length):=⟨List.length_set⟩
    all_goals clear b_ b' cb aB aF cd cf E V a3 a0 aR aS b6 HR
    all_goals generalize (x.setCell ⟨g0,c,none⟩ (.slice T (y.length+1) U))=w5 at n0 n1 n2⊢
    all_goals go_wp2
    all_goals exact⟨⟨k+1,_,K,by omega,by go_num,⟨by rw[n5.out];exact aa.out⟩,n4,n0,n1,n3,n2⟩,(show n- ((k:Int)+1).toNat<n- ((k:Int)).toNat by omega)⟩
   ·have d7:rootOf p k<k:=by omega
    have ek:=Lib.hid F;have J:=zA (HP.out.skip F);have G:cY p (k+1)=cY p k:=by rw[Hs.out,if_neg F];rfl
    have aa:=zA (Y.out.trans G.symm);rw[<-G] at J;clear G F hle;have ab:=HY;have l:=zA (HM.out.mono (Nat.le_succ k));have I:=Z;have am:=HB;clear HM Z HB HP Y HY;obtain⟨Ao,co,rfl⟩:=Kd.lB I.out;obtain⟨W,rfl⟩:∃W,W=wr:=⟨_,rfl⟩;obtain⟨X,rfl⟩:∃X,X=xs:=⟨_,rfl⟩;obtain⟨K,rfl⟩:∃K,K=D:=⟨_,rfl⟩;generalize c5:rootOf p k=r at d7 CR cq;have el:=Lib.hid c5;clear c5;have em:((r:Nat):Int)≠(k:Int):=by omega
    go_wp2_with (first|(go_at_call 210;refine CR.out.mono ?_;rintro e w1 ⟨rfl,rfl⟩))
    obtain⟨c,bw,an⟩:=J.out.2 r (by omega) cq.out;have C:∀w':World,w'.ownsMap Tryz.prog 3 (plainElem Tryz.prog 3) b (k+1) K->(Instr.lookup 229 (.map (some b)) (.int .i64 (r:Nat)) false).run Tryz.prog w'= .ok (.int .i64 c) w':=fun w' h=>by
     obtain⟨c',bx,o,_⟩:=h.lookup_int p6 Tryz.underlying229 Tryz.underlying3 (p5 _) (p9 (a:=r) (by omega));rw[an] at o;injection o with o
     injection o with _ o
     rw[bx,o]
    have b0:=aa.out;have b1:=mE p (k+1);obtain⟨g0,cap,hv,d1,L,cells,M⟩:=Kd.pB I.out (by omega)
    (first|subst hv|(injection hv with b2 _ b3;subst b2;subst b3))
    obtain⟨oki,cc,b4,⟨ev,rfl,j⟩,ar,av,N,hH⟩:=Kd.sC (Kd.kA (ok':=fun q=>True/\¬W.heap.size<=q) (Kd.mf I.out) (fun q m=>⟨trivial,by have:=m.2.2.1;omega⟩)) [] (c:Int) (by omega) (by omega);have O:(X.getD (c:Int).toNat []).length<=k:=by
     have P:c<X.length:=by omega
     rw[aQ,bh,bX P];exact ab.out _ (List.getElem_mem P)
    have aB:W.cell? ⟨g0,c,none⟩=some ev:=by have h1:=ar 0 _ rfl;rw[aQ] at h1;simpa [Kd.slice] using h1
    have aF:W.frozen? ⟨g0,c,none⟩=false:=by have h1:=av 0;rw[aQ] at h1;simpa [Kd.slice] using h1
    rw[aQ] at j O;have b5:=Lib.hid (show (X.getD (c:Int).toNat [])=X.getD c [] by rw[aQ]);generalize X.getD c []=y at j O b5;obtain⟨Q,ce,rfl⟩:=Kd.bb j;have aL:some b≠(Value.slice Q y.length ce).ownBlock:=fun e=>by
     obtain⟨cs,u⟩:=Kd.fT j b e.symm;obtain⟨es,ck,s, -⟩:=l.out;rw[s] at u;cases u
    have d2:g0≠b:=fun e=>by
     subst e;obtain⟨es,ck,s, -⟩:=l.out;rw[s] at M;cases M
    have aO:some g0≠(Value.slice Q y.length ce).ownBlock:=fun e=>(N g0 (j.1 g0 e.symm)).2 rfl
    have HR:=zA (Kd.bd (Kd.a_ (ok':=fun q=>oki q\/W.heap.size<=q) j (fun q m=>.inl m)));have aR:=zA hH;have aS:=zA j.1;have b6:=zA N;clear hH ar av j N M cells b4;have b_:=C _ l.out.drew;have b':=C _ ((l.out.alloc (.cells #[.int .i64 k] 3)).drew);have d3:(0:Int)<=(c:Int):=by omega
    have d4:(c:Int)<(X.length:Int):=by omega
    have a0:=zA C;have d5:c<12:=by omega
    have bg:X.length<=12:=by omega
    have P:c<X.length:=by omega
    clear C an bw b0 b1;go_region_law ((refine Kd.pd (Kd.int .i64) (w0:=w) (W:=W.drew) b (by rfl) (.tmp 36) (.tmp 38) 25 3 (.int .i64 0) 8 (by rfl) Tryz.underlying25 fW rfl (by decide) (by omega) _ y (k:Int) [.int .i64 k] (fun q=>oki q\/W.heap.size<=q) (fun _=>False) (by rfl) (by rfl) rfl (fun _ hk=>hk.elim) (fun q m=>.inr m) HR.out (bV am.out) (by have:=am.out.size;show b<=W.heap.size;omega) (by omega) ?_;intro v4 x R a1 B ca;obtain⟨T,U,a2⟩:=Kd.bb R;rw[show (y++[(k:Int)]).length=y.length+1 by simp] at a2;subst a2;have a3:=zA R;have V:=zA a1;have E:=zA B;have cb:=a0.out _ (l.out.drew.kept B aL);have cd:x.cell? ⟨g0,c,none⟩=some (.slice Q y.length ce):=(B.cell_far ⟨g0,c,none⟩ L aO).trans aB;have cf:x.frozen? ⟨g0,c,none⟩=false:=(B.frozen_far ⟨g0,c,none⟩ L aO).trans aF;clear R a1 B ca))
    all_goals have n0:=zA (tr aR.out (by omega) E.out aS.out a3.out L)
    all_goals have n1:=zA ((l.out.drew.kept E.out aL).kept (j7 x g0 c (.slice T (y.length+1) U)) (by simp;omega))
    all_goals have n2:=zA (V.out.grown (j7 x g0 c (.slice T (y.length+1) U)) (by have:=V.out.size;have:=l.out.lt;have:W.drew.heap.size=W.heap.size:=rfl;have:=E.out.size;omega) (fun q e=>by injection e with e;omega))
    all_goals have n3:=zA (J.out)
    all_goals have n4:Aside0 (∀z∈X.set c (y++[(k:Int)]),z.length<=k+1):=⟨tt ab.out O⟩
    all_goals have n5:Aside0 ((X.set c (y++[(k:Int)])).length=X.length):=⟨List.length_set⟩
    all_goals clear b_ b' cb aB aF cd cf E V a3 a0 aR aS b6 HR
    all_goals generalize (x.setCell ⟨g0,c,none⟩ (.slice T (y.length+1) U))=w5 at n0 n1 n2⊢
    all_goals go_wp2
    all_goals exact⟨⟨k+1,_,K,by omega,by go_num,⟨by rw[n5.out];exact aa.out⟩,n4,n0,n1,n3,n2⟩,(show n- ((k:Int)+1).toNat<n- ((k:Int)).toNat by omega)⟩
  ·obtain rfl:k=n:=by omega
   go_wp2;go_ret;obtain⟨A,c,rfl⟩:=Kd.lB Z.out;exact⟨A,c,by rw[Y.out];rfl,by rw[cl];exact HB.out⟩
end Go.Proofs.YtffdiakgjakngaaGreat.P
namespace Go.Proofs.YtffdiakgjakngaaGreat.P
open Go.RowKit Go.Proofs.YtffdiakgjakngaaGreatW.PrintWords Go.Proofs.YtffdiakgjakngaaGreatW.PrintLast Go.Proofs.YtffdiakgjakngaaGreatW.PrintMore
set_option linter.unusedVariables false
set_option linter.unusedSimpArgs false
set_option maxHeartbeats 8000000
set_option maxRecDepth 100000
def jD (n:Nat) (E:List S83):Prop:=∀S:Nat->Bool,(∃v,v<n/\S v=true)->(∃v,v<n/\S v=false)->∃x,x∈E/\S x.f0.toNat≠S x.f1.toNat
theorem oa {p:Nat->Nat} {v:Nat} (h:p v<v):rootOf p v=rootOf p (p v):=by rw[rootOf,dif_pos h]
theorem mF {p:Nat->Nat} {v:Nat} (h:¬p v<v):rootOf p v=v:=by rw[rootOf,dif_neg h]
theorem Az {p:Nat->Nat} {v:Nat} (h:rootOf p v=v):¬p v<v:=fun a=>by
 have h1:=oa a;have b:=j8 p (p v);omega
theorem mG (p:Nat->Nat) (a b v:Nat):rootOf (et p a b) v=if rootOf p v=max (rootOf p a) (rootOf p b) then min (rootOf p a) (rootOf p b) else rootOf p v:=by
 have l:=n9 p a;have hb:=n9 p b;have i:rootOf p (max (rootOf p a) (rootOf p b))=max (rootOf p a) (rootOf p b):=by rw[Nat.max_def];split<;>assumption
 have hm:rootOf p (min (rootOf p a) (rootOf p b))=min (rootOf p a) (rootOf p b):=by rw[Nat.min_def];split<;>assumption
 have hle:min (rootOf p a) (rootOf p b)<=max (rootOf p a) (rootOf p b):=by omega
 have h:∀j,et p a b j=if j=max (rootOf p a) (rootOf p b) then min (rootOf p a) (rootOf p b) else p j:=fun j=>rfl
 generalize max (rootOf p a) (rootOf p b)=M at*;generalize min (rootOf p a) (rootOf p b)=m at*;generalize et p a b=q at*;induction v using Nat.strongRecOn with
 |ind v k=>
  by_cases e:v=M
  ·subst e
   rw[i,if_pos rfl];by_cases g:m<v
   ·have h1:q v=m:=by rw[h,if_pos rfl]
    rw[oa (by omega),h1];refine mF ?_;rw[h,if_neg (by omega)];exact Az hm
   ·rw[mF (by rw[h,if_pos rfl];exact g)]
    omega
  ·have h1:q v=p v:=by rw[h,if_neg e]
   by_cases g:p v<v
   ·rw[oa (p:=q) (by omega),h1,k _ g,oa (p:=p) g]
   ·rw[mF (p:=q) (by omega),mF (p:=p) g,if_neg e]
theorem AA (S:Nat->Bool):∀(E:List S83) (p:Nat->Nat),(∀x∈E,S x.f0.toNat=S x.f1.toNat)->(∀v,S (rootOf p v)=S v)->∀v,S (rootOf (E.foldl (fun p x=>et p x.f0.toNat x.f1.toNat) p) v)=S v:=by
 intro E;induction E with
 |nil=>exact fun p _ h=>h
 |cons x E g=>
  intro p a h;refine g _ (fun y i=>a y (List.mem_cons_of_mem _ i)) fun v=>?_
  rw[mG];split
  ·rename_i e
   have j:=a x (List.mem_cons_self ..);have h1:=h x.f0.toNat;have k:=h x.f1.toNat;have b:=h v;rw[e] at b;rw[<-b];rw[Nat.min_def,Nat.max_def];split<;>simp_all
  ·exact h v
theorem AB:∀(E:List S83) (p:Nat->Nat) (u v:Nat),rootOf p u=rootOf p v->rootOf (E.foldl (fun p x=>et p x.f0.toNat x.f1.toNat) p) u=rootOf (E.foldl (fun p x=>et p x.f0.toNat x.f1.toNat) p) v:=by
 intro E;induction E with
 |nil=>exact fun p u v h=>h
 |cons x E a=>
  intro p u v h;refine a _ u v ?_;rw[mG,mG,h]
theorem AD:∀(E:List S83) (p:Nat->Nat),∀x∈E,rootOf (E.foldl (fun p x=>et p x.f0.toNat x.f1.toNat) p) x.f0.toNat=rootOf (E.foldl (fun p x=>et p x.f0.toNat x.f1.toNat) p) x.f1.toNat:=by
 intro E;induction E with
 |nil=>exact fun p x a=>absurd a (by simp)
 |cons y E e=>
  intro p x a;rcases List.mem_cons.1 a with rfl|a
  ·refine AB E _ _ _ ?_
   rw[mG,mG];by_cases h1:rootOf p x.f0.toNat=max (rootOf p x.f0.toNat) (rootOf p x.f1.toNat)<;>by_cases b:rootOf p x.f1.toNat=max (rootOf p x.f0.toNat) (rootOf p x.f1.toNat)
   ·rw[if_pos h1,if_pos b]
   ·rw[if_pos h1,if_neg b];omega
   ·rw[if_neg h1,if_pos b];omega
   ·omega
  ·exact e _ x a
theorem tu (p:Nat->Nat) (a:rootOf p 0=0):∀u,1<=u->1<=cY p u
 |0,h=>by omega
 |u+1,_=>by
  by_cases e:u=0
  ·subst e;simp[cY,a]
  ·have:=tu p a u (by omega)
   simp only[cY];omega
theorem tw (p:Nat->Nat) (a:rootOf p 0=0):∀u,cY p u=1->∀v,v<u->rootOf p v=v->v=0
 |0,h=>by simp[cY] at h
 |u+1,h=>by
  intro v g b;simp only[cY] at h;by_cases e:u=0
  ·omega
  ·have h1:=tu p a u (by omega)
   by_cases hu:rootOf p u=u
   ·rw[if_pos hu] at h;omega
   ·rw[if_neg hu] at h
    by_cases ev:v=u
    ·subst ev;exact absurd b hu
    ·exact tw p a u (by omega) v (by omega) b
theorem tx (p:Nat->Nat):∀u,1<=u->(∀v,v<u->rootOf p v=0)->cY p u=1
 |0,h,_=>by omega
 |u+1,_,h=>by
  by_cases e:u=0
  ·subst e;simp[cY,h 0 (by omega)]
  ·have:=tx p u (by omega) (fun v a=>h v (by omega))
   simp only[cY];rw[this,h u (by omega),if_neg (fun e2=>e e2.symm)]
theorem tz {n:Nat} {E:List S83} (hn:1<=n) (r:ep n E):cY (aN E) n=1↔jD n E:=by
 have i:rootOf (aN E) 0=0:=Nat.le_zero.1 (j8 _ 0);constructor
 ·rintro h S ⟨u,hu,l⟩ ⟨v,b,m⟩
  refine Classical.byContradiction fun e=>?_
  have hS:∀x∈E,S x.f0.toNat=S x.f1.toNat:=fun x o=>Classical.byContradiction fun g=>e ⟨x,o,g⟩
  have j:=AA S E id hS (fun v=>by rw[mF (by simp)]);have k:∀w,w<n->rootOf (aN E) w=0:=fun w hw=>tw _ i n h _ (Nat.lt_of_le_of_lt (j8 _ w) hw) (n9 _ w)
  have h1:=j u;have a:=j v;rw[show E.foldl (fun p x=>et p x.f0.toNat x.f1.toNat) id=aN E from rfl] at h1 a;rw[k u hu] at h1;rw[k v b] at a;rw[h1,l] at a;rw[m] at a;cases a
 ·intro h
  refine tx _ n hn fun v b=>?_
  refine Classical.byContradiction fun g=>?_
  obtain⟨x,e,q⟩:=h (fun u=>decide (rootOf (aN E) u=0)) ⟨0,by omega,by simp[i]⟩ ⟨v,b,by simp[g]⟩;have:=AD E id x e;rw[show E.foldl (fun p x=>et p x.f0.toNat x.f1.toNat) id=aN E from rfl] at this;simp only[this,ne_eq,not_true_eq_false] at q
mutual
def b9.l0:Nat->List Bool->Int->Int->List (S83)->Option (List Bool)
 |0,_,_,_,_=>none
 |k+1,a,b,e,g=>if b<e then(b9.l1 k a b 0 e g) else(some a)
def b9.l1:Nat->List Bool->Int->Int->Int->List (S83)->Option (List Bool)
 |0,_,_,_,_,_=>none
 |k+1,b,e,g,a,h=>if g<a then(b9.l2 k b e g 0 a h) else(b9.l0 k b (wrap64 (e+1)) a h)
def b9.l2:Nat->List Bool->Int->Int->Int->Int->List (S83)->Option (List Bool)
 |0,_,_,_,_,_,_=>none
 |k+1,e,i,a,b,g,h=>if b<g then(if 0<=a then(if a<(e.length:Int) then(if bO false e a=true then((di.f k g h a b).bind fun t132=>(if t132>0 then(if 0<=b then(if b<(e.length:Int) then(b9.l2 k (e.set (b:Int).toNat true) i a (wrap64 (b+1)) g h) else(none)) else(none)) else(b9.l2 k e i a (wrap64 (b+1)) g h))) else(b9.l2 k e i a (wrap64 (b+1)) g h)) else(none)) else(none)) else(b9.l1 k e i (wrap64 (a+1)) g h)
end
def b9.f (k:Nat) (a:Int) (g:List (S83)) (b:Int):Option (List Bool):=if 0<=a then(if(a:Int).toNat<=281474976710656 then((some (List.replicate (a:Int).toNat false:List Bool)).bind fun e=>(if 0<=b then(if b<(e.length:Int) then(b9.l0 k (e.set (b:Int).toNat true) 0 a g) else(none)) else(none))) else(none)) else(none)
theorem b9.calls (k:Nat) (g:Int) (P:Option Addr) (Q:Nat) (l:List (S83)) (x:Int) (r:List Bool) (w:World) (bo:Kd.C aT w P l.length l) (bv:l.length<=Q) (h:b9.f k g l x=some r):
  Calls Tryz.prog 131 #[.agg #[.int .i64 g,.slice P l.length Q],.int .i64 x] w fun e w'=>∃bw:Value,e= .returned (bw)/\Kd.R Kd.bool 4 w' w.heap.size (fun _=>True) bw r/\Below w.heap.size w w':=by
 have d8:=Tryz.underlying24;have bx:=zA bo;have b0:=zA bv;clear bo bv;have q:=zA (ao w.heap.size w);unfold b9.f at h;have H:=h;clear h;by_cases c3:0<=g
 ·rw[if_pos c3] at H
  have ch:=eq_true c3;have ci:=az c3;clear c3;by_cases c4:(g:Int).toNat<=281474976710656
  ·rw[if_pos c4] at H
   have cj:=eq_true c4;have ck:=az c4;clear c4;obtain⟨M,aP⟩:∃X:List Bool,X=(List.replicate (g:Int).toNat false):=⟨_,rfl⟩;replace H:(if 0<=x then(if x<(M.length:Int) then(b9.l0 k (M.set (x:Int).toNat true) 0 g l) else(none)) else(none))=some r:=zh aP H;have b1:=zA aP;clear aP;by_cases c5:0<=x
   ·rw[if_pos c5] at H
    have cl:=az c5;clear c5;by_cases c6:x<(M.length:Int)
    ·rw[if_pos c6] at H
     have co:=az c6;clear c6;obtain⟨aR,aS⟩:∃X:List Bool,X=(M.set (x:Int).toNat true):=⟨_,rfl⟩;replace H:(b9.l0 k aR 0 g l)=some r:=zh aS H;have cq:=zA aS;clear aS;have n:=zA H;clear H;go_enter Tryz.func131,Tryz.ntmps131
     go_wp2_with (first|((with_reducible refine aJ (N:=2) rfl ?_);refine zX 2 #[.int .i64 g,.slice P l.length Q] 24 ?_;intro a0 hg w8 b2 hb;have a:=zA (b2);have ea:=zG q hg;have eb:=zG q hg;replace q:=zS q hb;clear hb b2 hg;obtain⟨cr,cs,cv,cx⟩:=ax a)|((with_reducible refine aJ (N:=11) rfl ?_);refine Kd.jn Kd.bool _ 4 rfl (N:=11) rfl 43 _ _ rfl g rfl rfl Tryz.underlying43 (.bool false) 1 lH rfl (by decide) (by omega) false (ok:=fun _=>True) (okp:=fun _=>True) rfl (fun _ hk=>hk) trivial (aw ‹_›) (Nat.le_trans (Nat.mul_le_mul_right _ (aw ‹_› :g.toNat<=281474976710656)) (by omega)) (ao _ _) (aI _) ?_;intro ed b3 Y hb c0 c1;clear c0 c1;(first|rw[<-b1.out] at Y|(simp only[Int.reduceToNat] at Y;rw[<-b1.out] at Y));have O:=zA (Kd.ba Y (bp zB));replace a:=zb a hb;replace q:=zS q hb;clear hb Y;have p7:0<=(x:Int):=aw ‹_›;have q7:(x:Int)<((M.length:Int):Int):=aw ‹_›;obtain⟨z,Z,b4,b5,c2,eg,b6⟩:=Kd.eV O.out (by omega);(first|cases b4|(injection b4 with ar c7 c8;(first|subst ar|(injection ar with ar;subst ar));subst c8;clear c7));have b':=zA b5;have ek:=zA b6;clear b5 c2 b6;obtain⟨c9,el⟩:=Kd.bP false O.out (x:Int) p7 q7;replace p7:=eq_true p7;replace q7:=eq_true q7;obtain⟨em,er⟩:=Kd.bP false O.out (x:Int) (aw ‹_›) (aw ‹_›);have a2:=Kd.de O.out (x:Int) true)|((with_reducible refine jq (t:=4) (p:=14) rfl ?_);refine jo (t:=4) (p:=14) (v:=?Gd) (w1:=(b3.setCell ⟨z,(x:Int).toNat,none⟩ (.bool true))) ?hg ?ho ?hn ?hr ?_;(case ho=>rfl);(case hg=>rfl);(case hn=>rfl);(case hr=>first|(go_simp;done)|(go_simp;rfl));intro a3 hw;have hg:b3.grownBy a3 (some z):=(by rw[hw];exact a2.2);have aa:Kd.R Kd.bool 4 a3 w.heap.size (fun _=>True) (.slice (some ⟨z,0,none⟩) M.length Z) aR:=(by rw[hw,cq.out];exact a2.1);clear a2;replace a:=zA (cR (zK a) hg (Kd.db O.out a.out (by decide)));replace O:=zA (aa);replace q:=zA ((by rw[hw];exact dx (q.out) b'.out:Below w.heap.size w a3));clear hg hw aa))
     go_loopg [6] k (fun K v6 w'=>∃(ab:List Bool) (B:Int),v6= .int .i64 B/\Aside0 (b9.l0 K ab B g l=some r)/\Aside0 (K<=k)/\Aside0 (Kd.R Kd.bool 4 w' w.heap.size (fun _=>True) (.slice (some ⟨z,0,none⟩) M.length Z) ab)/\Aside0 (w'.heap[a0]? =some (.cells #[.int .i64 g,(.slice P l.length Q)] 24 (0,0)))/\Aside0 (Below w.heap.size w w'))
     case atStart=>exact⟨(aR),(0),zT,n,⟨aI _⟩,⟨zR O⟩,⟨zK a⟩,⟨zB⟩⟩
     case round=>
      clear n;clear ch ci cj ck cl co p7 q7 cr cs cv cx c9;obtain⟨ab,B,rfl,D,I,b,a,q⟩:=hrel;have o:=(Kd.aD b.out).1;rw[o] at b
      (try simp only[o])
      (try simp only[o] at a)
      cases gk with
      |zero=>exact absurd D.out (by simp[b9.l0])
      |succ k1=>
       have H:=D.out;clear D;simp only[b9.l0] at H;by_cases S:B<g
       ·rw[if_pos S] at H
        have cb:=az S;clear S;have n:=zA H;clear H;obtain⟨c',dd,dk,dl⟩:=ax a;go_wp2;go_loopg [7] k1 (fun K v7 w'=>∃(T:List Bool) (j:Int),v7= .int .i64 j/\Aside0 (b9.l1 K T B j g l=some r)/\Aside0 (K<=k1)/\Aside0 (Kd.R Kd.bool 4 w' w.heap.size (fun _=>True) (.slice (some ⟨z,0,none⟩) ab.length Z) T)/\Aside0 (w'.heap[a0]? =some (.cells #[.int .i64 g,(.slice P l.length Q)] 24 (0,0)))/\Aside0 (Below w.heap.size w w'))
        case atStart=>exact⟨(ab),(0),zT,n,⟨aI _⟩,⟨by(try simp only[o]);(with_reducible repeat(first|apply Kd.aK|apply Kd.bq|apply Kd.bd));exact b.out⟩,⟨by(try simp only[o]);exact zK a⟩,⟨zB⟩⟩
        case round=>
         clear n;clear cb c' dd dk dl;obtain⟨T,j,rfl,D,J,b,a,q⟩:=hrel;have s:=(Kd.aD b.out).1;rw[s] at b
         (try simp only[s])
         (try simp only[s] at a)
         cases gk with
         |zero=>exact absurd D.out (by simp[b9.l1])
         |succ k2=>
          have H:=D.out;clear D;simp only[b9.l1] at H;by_cases U:j<g
          ·rw[if_pos U] at H
           have cc:=az U;clear U;have n:=zA H;clear H;obtain⟨dv,d0,d1,d2⟩:=ax a;go_wp2;go_loopg [8] k2 (fun K v8 w'=>∃(m:List Bool) (i:Int),v8= .int .i64 i/\Aside0 (b9.l2 K m B j i g l=some r)/\Aside0 (K<=k2)/\Aside0 (Kd.R Kd.bool 4 w' w.heap.size (fun _=>True) (.slice (some ⟨z,0,none⟩) T.length Z) m)/\Aside0 (w'.heap[a0]? =some (.cells #[.int .i64 g,(.slice P l.length Q)] 24 (0,0)))/\Aside0 (Below w.heap.size w w'))
           case atStart=>exact⟨(T),(0),zT,n,⟨aI _⟩,⟨by(try simp only[o]);(try simp only[s]);(with_reducible repeat(first|apply Kd.aK|apply Kd.bq|apply Kd.bd));exact b.out⟩,⟨by(try simp only[o]);(try simp only[s]);exact zK a⟩,⟨zB⟩⟩
           case round=>
            clear n;clear cc dv d0 d1 d2;obtain⟨m,i,rfl,D,L,b,a,q⟩:=hrel;have u:=(Kd.aD b.out).1;rw[u] at b
            (try simp only[u])
            (try simp only[u] at a)
            cases gk with
            |zero=>exact absurd D.out (by simp[b9.l2])
            |succ E=>
             have H:=D.out;clear D;simp only[b9.l2] at H;by_cases V:i<g
             ·rw[if_pos V] at H
              have d4:=az V;clear V;by_cases av:0<=j
              ·rw[if_pos av] at H
               have es:=az av;clear av;by_cases aB:j<(m.length:Int)
               ·rw[if_pos aB] at H
                have ev:=az aB;clear aB;obtain⟨cd,a5⟩:∃b_:Bool,b_=(bO false m j):=⟨_,rfl⟩;replace H:(if cd=true then((di.f E g l j i).bind fun t132=>(if t132>0 then(if 0<=i then(if i<(m.length:Int) then(b9.l2 E (m.set (i:Int).toNat true) B j (wrap64 (i+1)) g l) else(none)) else(none)) else(b9.l2 E m B j (wrap64 (i+1)) g l))) else(b9.l2 E m B j (wrap64 (i+1)) g l))=some r:=by rw[<-a5] at H;exact H
                have a9:=zA a5;clear a5;by_cases aF:cd=true
                ·subst aF
                 replace H:=zi H;obtain⟨t132,ce,H⟩:=zo H;by_cases W:t132>0
                 ·rw[if_pos W] at H
                  have d6:=az W;clear W;by_cases aL:0<=i
                  ·rw[if_pos aL] at H
                   have ew:=az aL;clear aL;by_cases aO:i<(m.length:Int)
                   ·rw[if_pos aO] at H
                    have ex:=az aO;clear aO;obtain⟨be,bf⟩:∃X:List Bool,X=(m.set (i:Int).toNat true):=⟨_,rfl⟩;replace H:(b9.l2 E be B j (wrap64 (i+1)) g l)=some r:=zh bf H;have d7:=zA bf;clear bf;have n:=zA H;clear H;obtain⟨ey,e0,e1,e2⟩:=ax a;have F:0<=(j:Int):=aw ‹_›;have G:j<(m.length:Int):=aw ‹_›;obtain⟨ad,ag,y⟩:=Kd.iT (Kd.aD b.out).2.2 j F G
                    (try rw[<-a9.out] at y)
                    obtain rfl:(⟨z,0,none⟩:Addr)=ad:=(by injection ag)
                    (first|simp only[add_plain] at y|simp only[gT] at y|simp only[Addr.add,Nat.zero_add] at y|skip)
                    replace F:=eq_true F;replace G:=eq_true G;go_wp2_with (first|(go_at_call 147;(with_reducible refine(di.calls E g _ _ l j i t132 _ ?af ?ah ce.out).mono ?_);(case af=>exact Kd.au bx.out zB);(case ah=>exact b0.out);rintro e cf ⟨rfl,hb⟩;replace b:=br b hb;replace a:=zb a hb;replace q:=zS q hb;(try clear hb);have bg:0<=(i:Int):=aw ‹_›;have bi:(i:Int)<((m.length:Int):Int):=aw ‹_›;obtain⟨e3,e4⟩:=Kd.bP false b.out (i:Int) bg bi;replace bg:=eq_true bg;replace bi:=eq_true bi;obtain⟨e5,e6⟩:=Kd.bP false b.out (i:Int) (aw ‹_›) (aw ‹_›);have bk:=Kd.de b.out (i:Int) true)|((with_reducible refine jq (t:=4) (p:=46) rfl ?_);refine jo (t:=4) (p:=46) (v:=?G3) (w1:=(cf.setCell ⟨z,(i:Int).toNat,none⟩ (.bool true))) ?hg ?ho ?hn ?hr ?_;(case ho=>rfl);(case hg=>rfl);(case hn=>rfl);(case hr=>first|(go_simp;done)|(go_simp;rfl));intro bn hw;have hg:cf.grownBy bn (some z):=(by rw[hw];exact bk.2);have aa:Kd.R Kd.bool 4 bn w.heap.size (fun _=>True) (.slice (some ⟨z,0,none⟩) m.length Z) be:=(by rw[hw,d7.out];exact bk.1);clear bk;replace a:=zA (cR (zK a) hg (Kd.db b.out a.out (by decide)));replace b:=zA (aa);replace q:=zA ((by rw[hw];exact dx (q.out) b'.out:Below w.heap.size w bn));clear hg hw aa))
                    (try simp only[<-u])
                    go_roundg E
                    case measure=>have:=I.out;have:=J.out;have:=L.out;omega
                    case rel=>exact⟨(be),(wrap64 (i+1)),zT,n,⟨by have:=I.out;have:=J.out;have:=L.out;omega⟩,⟨by(try simp only[o]);(try simp only[s]);(try simp only[u]);(with_reducible repeat(first|apply Kd.aK|apply Kd.bq|apply Kd.bd));exact b.out⟩,⟨by(try simp only[o]);(try simp only[s]);(try simp only[u]);exact zK a⟩,⟨zB⟩⟩
                   ·rw[if_neg aO] at H
                    exact absurd H (by simp)
                  ·rw[if_neg aL] at H
                   exact absurd H (by simp)
                 ·rw[if_neg W] at H
                  have d6:=aZ W;clear W;have n:=zA H;clear H;obtain⟨e_,e',fb,fd⟩:=ax a;have F:0<=(j:Int):=aw ‹_›;have G:j<(m.length:Int):=aw ‹_›;obtain⟨ad,ag,y⟩:=Kd.iT (Kd.aD b.out).2.2 j F G
                  (try rw[<-a9.out] at y)
                  obtain rfl:(⟨z,0,none⟩:Addr)=ad:=(by injection ag)
                  (first|simp only[add_plain] at y|simp only[gT] at y|simp only[Addr.add,Nat.zero_add] at y|skip)
                  replace F:=eq_true F;replace G:=eq_true G;go_wp2_with (first|(go_at_call 147;(with_reducible refine(di.calls E g _ _ l j i t132 _ ?af ?ah ce.out).mono ?_);(case af=>exact Kd.au bx.out zB);(case ah=>exact b0.out);rintro e fn ⟨rfl,hb⟩;replace b:=br b hb;replace a:=zb a hb;replace q:=zS q hb;(try clear hb)))
                  (try simp only[<-u])
                  go_roundg E
                  case measure=>have:=I.out;have:=J.out;have:=L.out;omega
                  case rel=>exact⟨(m),(wrap64 (i+1)),zT,n,⟨by have:=I.out;have:=J.out;have:=L.out;omega⟩,⟨by(try simp only[o]);(try simp only[s]);(try simp only[u]);(with_reducible repeat(first|apply Kd.aK|apply Kd.bq|apply Kd.bd));exact b.out⟩,⟨by(try simp only[o]);(try simp only[s]);(try simp only[u]);exact zK a⟩,⟨zB⟩⟩
                ·replace aF:=Bool.eq_false_iff.mpr aF
                 subst aF;replace H:=zj H;have n:=zA H;clear H;obtain⟨fo,fq,fr,ft⟩:=ax a;have F:0<=(j:Int):=aw ‹_›;have G:j<(m.length:Int):=aw ‹_›;obtain⟨ad,ag,y⟩:=Kd.iT (Kd.aD b.out).2.2 j F G
                 (try rw[<-a9.out] at y)
                 obtain rfl:(⟨z,0,none⟩:Addr)=ad:=(by injection ag)
                 (first|simp only[add_plain] at y|simp only[gT] at y|simp only[Addr.add,Nat.zero_add] at y|skip)
                 replace F:=eq_true F;replace G:=eq_true G;go_wp2
                 (try simp only[<-u])
                 go_roundg E
                 case measure=>have:=I.out;have:=J.out;have:=L.out;omega
                 case rel=>exact⟨(m),(wrap64 (i+1)),zT,n,⟨by have:=I.out;have:=J.out;have:=L.out;omega⟩,⟨by(try simp only[o]);(try simp only[s]);(try simp only[u]);(with_reducible repeat(first|apply Kd.aK|apply Kd.bq|apply Kd.bd));exact b.out⟩,⟨by(try simp only[o]);(try simp only[s]);(try simp only[u]);exact zK a⟩,⟨zB⟩⟩
               ·rw[if_neg aB] at H
                exact absurd H (by simp)
              ·rw[if_neg av] at H
               exact absurd H (by simp)
             ·rw[if_neg V] at H
              have d4:=aZ V;clear V;have n:=zA H;clear H;obtain⟨fv,f0,f1,f2⟩:=ax a;go_wp2
              (try simp only[<-s,<-u])
              go_roundg E
              case measure=>have:=I.out;have:=J.out;have:=L.out;omega
              case rel=>exact⟨(m),(wrap64 (j+1)),zT,n,⟨by have:=I.out;have:=J.out;have:=L.out;omega⟩,⟨by(try simp only[o]);(try simp only[s]);(try simp only[u]);(with_reducible repeat(first|apply Kd.aK|apply Kd.bq|apply Kd.bd));exact b.out⟩,⟨by(try simp only[o]);(try simp only[s]);(try simp only[u]);exact zK a⟩,⟨zB⟩⟩
          ·rw[if_neg U] at H
           have cc:=aZ U;clear U;have n:=zA H;clear H;obtain⟨f3,f4,f5,f6⟩:=ax a;go_wp2
           (try simp only[<-o,<-s])
           go_roundg k2
           case measure=>have:=I.out;have:=J.out;omega
           case rel=>exact⟨(T),(wrap64 (B+1)),zT,n,⟨by have:=I.out;have:=J.out;omega⟩,⟨by(try simp only[o]);(try simp only[s]);(with_reducible repeat(first|apply Kd.aK|apply Kd.bq|apply Kd.bd));exact b.out⟩,⟨by(try simp only[o]);(try simp only[s]);exact zK a⟩,⟨zB⟩⟩
       ·rw[if_neg S] at H
        have cb:=aZ S;clear S;obtain rfl:=aH H;obtain⟨f7,f8,f9,f'⟩:=ax a;go_wp2;go_ret;exact⟨_,zE,by(with_reducible repeat(first|apply Kd.aK|apply Kd.bq|apply Kd.bd));exact b.out,zB⟩
    ·rw[if_neg c6] at H
     exact absurd H (by simp)
   ·rw[if_neg c5] at H
    exact absurd H (by simp)
  ·rw[if_neg c4] at H
   exact absurd H (by simp)
 ·rw[if_neg c3] at H
  exact absurd H (by simp)
end Go.Proofs.YtffdiakgjakngaaGreat.P


namespace Go.Proofs.YtffdiakgjakngaaGreat.P
open Go.RowKit Go.Proofs.YtffdiakgjakngaaGreatW.PrintWords Go.Proofs.YtffdiakgjakngaaGreatW.PrintLast Go.Proofs.YtffdiakgjakngaaGreatW.PrintMore
set_option linter.unusedVariables false
set_option linter.unusedSimpArgs false
set_option maxHeartbeats 8000000
set_option maxRecDepth 100000
mutual
def cJ.l0:Nat->Int->List Bool->Int->Int->List (S83)->Option (Int)
 |0,_,_,_,_,_=>none
 |k+1,x3,x4,a,b,e=>if a<b then(if 0<=a then(if a<(x4.length:Int) then(if bO false x4 a=true then(cJ.l0 k x3 x4 (wrap64 (a+1)) b e) else((b9.f k b e a).bind fun t139=>(cJ.l1 k (wrap64 (x3+1)) x4 a t139 0 b e))) else(none)) else(none)) else(some x3)
def cJ.l1:Nat->Int->List Bool->Int->List Bool->Int->Int->List (S83)->Option (Int)
 |0,_,_,_,_,_,_,_=>none
 |k+1,x3,x4,g,b,a,e,h=>if a<e then(if 0<=a then(if a<(x4.length:Int) then(if bO false x4 a=true then(cJ.l1 k x3 (x4.set (a:Int).toNat true) g b (wrap64 (a+1)) e h) else(if a<(b.length:Int) then(cJ.l1 k x3 (x4.set (a:Int).toNat (bO false b a)) g b (wrap64 (a+1)) e h) else(none))) else(none)) else(none)) else(cJ.l0 k x3 x4 (wrap64 (g+1)) e h)
end
def cJ.f (k:Nat) (a:Int) (b:List (S83)):Option (Int):=if 0<=a then(if(a:Int).toNat<=281474976710656 then(cJ.l0 k 0 (List.replicate (a:Int).toNat false) 0 a b) else(none)) else(none)
theorem cJ.calls (k:Nat) (j:Int) (O:Option Addr) (P:Nat) (l:List (S83)) (r:Int) (w:World) (b2:Kd.C aT w O l.length l) (b3:l.length<=P) (h:cJ.f k j l=some r):
  Calls Tryz.prog 74 #[.agg #[.int .i64 j,.slice O l.length P]] w fun e w'=>e= .returned (.int .i64 r)/\Below w.heap.size w w':=by
 have ev:=Tryz.underlying24;have cj:=zA b2;have ck:=zA b3;clear b2 b3;have q:=zA (ao w.heap.size w);unfold cJ.f at h;have H:=h;clear h;by_cases c2:0<=j
 ·rw[if_pos c2] at H
  have cl:=eq_true c2;have co:=az c2;clear c2;by_cases c3:(j:Int).toNat<=281474976710656
  ·rw[if_pos c3] at H
   have cq:=eq_true c3;have cr:=az c3;clear c3;obtain⟨b4,aB⟩:∃V:List Bool,V=(List.replicate (j:Int).toNat false):=⟨_,rfl⟩;replace H:(cJ.l0 k 0 b4 0 j l)=some r:=zh aB H;have b5:=zA aB;clear aB;have s:=zA H;clear H;go_enter Tryz.func74,Tryz.ntmps74
   go_wp2_with (first|((with_reducible refine aJ (N:=1) rfl ?_);refine zX 1 #[.int .i64 j,.slice O l.length P] 24 ?_;intro b6 hg w4 b' hb;have g:=zA (b');have ex:=zG q hg;have ey:=zG q hg;replace q:=zS q hb;clear hb b' hg;obtain⟨cs,cv,cx,c0⟩:=ax g)|((with_reducible refine aJ (N:=10) rfl ?_);refine Kd.jn Kd.bool _ 4 rfl (N:=10) rfl 43 _ _ rfl j rfl rfl Tryz.underlying43 (.bool false) 1 lH rfl (by decide) (by omega) false (ok:=fun _=>True) (okp:=fun _=>True) rfl (fun _ hk=>hk) trivial (aw ‹_›) (Nat.le_trans (Nat.mul_le_mul_right _ (aw ‹_› :j.toNat<=281474976710656)) (by omega)) (ao _ _) (aI _) ?_;intro c1 w6 W hb c4 c5;clear c4 c5;(first|rw[<-b5.out] at W|(simp only[Int.reduceToNat] at W;rw[<-b5.out] at W));have c6:=zA (Kd.ba W (bp zB));replace g:=zb g hb;replace q:=zS q hb;clear hb W))
   go_loopg [3,5] k (fun X v3 v5 w'=>∃(x:Int) (u:List Bool) (i:Int),v3= .int .i64 x/\v5= .int .i64 i/\Aside0 (cJ.l0 X x u i j l=some r)/\Aside0 (X<=k)/\Aside0 (Kd.R Kd.bool 4 w' w.heap.size (fun _=>True) c1 u)/\Aside0 (w'.heap[b6]? =some (.cells #[.int .i64 j,(.slice O l.length P)] 24 (0,0)))/\Aside0 (Below w.heap.size w w'))
   case atStart=>exact⟨(0),(b4),(0),zT,zT,s,⟨aI _⟩,⟨zR c6⟩,⟨zK g⟩,⟨zB⟩⟩
   case round=>
    clear s;clear cl co cq cr cs cv cx c0;obtain⟨x,u,i,rfl,rfl,F,z,b,g,q⟩:=hrel;cases gk with
    |zero=>exact absurd F.out (by simp[cJ.l0])
    |succ G=>
     have H:=F.out;clear F;simp only[cJ.l0] at H;by_cases Q:i<j
     ·rw[if_pos Q] at H
      have ca:=az Q;clear Q;by_cases c9:0<=i
      ·rw[if_pos c9] at H
       have c7:=az c9;clear c9;by_cases ag:i<(u.length:Int)
       ·rw[if_pos ag] at H
        have c':=az ag;clear ag;obtain⟨cb,aF⟩:∃b_:Bool,b_=(bO false u i):=⟨_,rfl⟩;replace H:(if cb=true then(cJ.l0 G x u (wrap64 (i+1)) j l) else((b9.f G j l i).bind fun t139=>(cJ.l1 G (wrap64 (x+1)) u i t139 0 j l)))=some r:=by rw[<-aF] at H;exact H
        have Y:=zA aF;clear aF;by_cases ak:cb=true
        ·subst ak
         replace H:=zi H;have s:=zA H;clear H;obtain⟨e1,e2,e3,e4⟩:=ax g;obtain⟨e5,e6,dd⟩:=Kd.bb b.out;subst dd;have B:0<=(i:Int):=aw ‹_›;have D:i<(u.length:Int):=aw ‹_›;obtain⟨dk,aO,S⟩:=Kd.iT (Kd.aD b.out).2.2 i B D
         (try rw[<-Y.out] at S)
         cases aO;replace B:=eq_true B;replace D:=eq_true D;go_wp2;go_roundg G
         case measure=>have:=z.out;omega
         case rel=>exact⟨(x),(u),(wrap64 (i+1)),zT,zT,s,⟨by have:=z.out;omega⟩,⟨zR b⟩,⟨zK g⟩,⟨zB⟩⟩
        ·replace ak:=Bool.eq_false_iff.mpr ak
         subst ak;replace H:=zj H;obtain⟨t139,dl,H⟩:=zo H;have s:=zA H;clear H;obtain⟨ds,dv,d0,d1⟩:=ax g;obtain⟨e_,E,d2⟩:=Kd.bb b.out;subst d2;have B:0<=(i:Int):=aw ‹_›;have D:i<(u.length:Int):=aw ‹_›;obtain⟨dk,aO,S⟩:=Kd.iT (Kd.aD b.out).2.2 i B D
         (try rw[<-Y.out] at S)
         cases aO;obtain⟨am,d3⟩:=Kd.lA b.out;subst d3;simp only[add_plain] at S;replace B:=eq_true B;replace D:=eq_true D;go_wp2_with (first|((with_reducible refine aC (f:=131) rfl ?_);refine zL (some 25) Tryz.func131 #[.agg #[.int .i64 j,.slice O l.length P],.int .i64 i] ?_;(with_reducible refine(b9.calls G j _ _ l i t139 _ ?af ?ah dl.out).mono ?_);(case af=>exact Kd.au cj.out zB);(case ah=>exact ck.out);rintro e e' ⟨aP,rfl,aR,hb⟩;refine⟨_,rfl,?_⟩;have d4:=zA (Kd.ba (Kd.bB aR (Kd.a7 (zR b))) (bp zB));replace b:=bH b aR hb;replace g:=zb g hb;replace q:=zS q hb;(try clear hb);(try clear aR)))
         go_loopg [7] G (fun X v7 w'=>∃(m:List Bool) (a:Int),v7= .int .i64 a/\Aside0 (cJ.l1 X (wrap64 (x+1)) m i t139 a j l=some r)/\Aside0 (X<=G)/\Aside0 (Kd.R Kd.bool 4 w' w.heap.size (fun I=>some I≠(aP:Value).ownBlock) (.slice (some ⟨am,0,none⟩) u.length E) m)/\Aside0 (Kd.R Kd.bool 4 w' w.heap.size (fun I=>some I≠((.slice (some ⟨am,0,none⟩) u.length E):Value).ownBlock) aP t139)/\Aside0 (w'.heap[b6]? =some (.cells #[.int .i64 j,(.slice O l.length P)] 24 (0,0)))/\Aside0 (Below w.heap.size w w'))
         case atStart=>exact⟨(u),(0),zT,s,⟨aI _⟩,⟨by(with_reducible repeat(first|apply Kd.aK|apply Kd.bq|apply Kd.bd));exact Kd.a_ b.out (fun _ hk=>hk.2)⟩,⟨by(with_reducible repeat(first|apply Kd.aK|apply Kd.bq|apply Kd.bd));exact Kd.a_ d4.out (fun _ hk=>hk.2)⟩,⟨zK g⟩,⟨zB⟩⟩
         case round=>
          clear s;clear ca c7 c' ds dv d0 d1 S B D;obtain⟨m,a,rfl,F,T,b,y,g,q⟩:=hrel;have o:=(Kd.aD b.out).1;rw[o] at b
          (try simp only[o])
          (try simp only[o] at g)
          (try simp only[o] at y)
          cases gk with
          |zero=>exact absurd F.out (by simp[cJ.l1])
          |succ J=>
           have H:=F.out;clear F;simp only[cJ.l1] at H;by_cases U:a<j
           ·rw[if_pos U] at H
            have d6:=az U;clear U;by_cases an:0<=a
            ·rw[if_pos an] at H
             have fb:=az an;clear an;by_cases ap:a<(m.length:Int)
             ·rw[if_pos ap] at H
              have fd:=az ap;clear ap;obtain⟨cc,aS⟩:∃b_:Bool,b_=(bO false m a):=⟨_,rfl⟩;replace H:(if cc=true then(cJ.l1 J (wrap64 (x+1)) (m.set (a:Int).toNat true) i t139 (wrap64 (a+1)) j l) else(if a<(t139.length:Int) then(cJ.l1 J (wrap64 (x+1)) (m.set (a:Int).toNat (bO false t139 a)) i t139 (wrap64 (a+1)) j l) else(none)))=some r:=by rw[<-aS] at H;exact H
              have a0:=zA aS;clear aS;by_cases ar:cc=true
              ·subst ar
               replace H:=zi H;obtain⟨a1,a2⟩:∃V:List Bool,V=(m.set (a:Int).toNat true):=⟨_,rfl⟩;replace H:(cJ.l1 J (wrap64 (x+1)) a1 i t139 (wrap64 (a+1)) j l)=some r:=zh a2 H;have d7:=zA a2;clear a2;have s:=zA H;clear H;obtain⟨fn,fo,fq,fr⟩:=ax g;have K:0<=(a:Int):=aw ‹_›;have L:a<(m.length:Int):=aw ‹_›;obtain⟨a3,a4,M⟩:=Kd.iT (Kd.aD b.out).2.2 a K L
               (try rw[<-Y.out] at M)
               (try rw[<-a0.out] at M)
               obtain rfl:(⟨am,0,none⟩:Addr)=a3:=(by injection a4);replace K:=eq_true K;replace L:=eq_true L;have a5:0<=(a:Int):=aw ‹_›;have a9:(a:Int)<((m.length:Int):Int):=aw ‹_›;obtain⟨Z,ft,d8,cd,d9,fv,ce⟩:=Kd.eV b.out (by omega)
               (first|(injection d8 with n be bf;(first|subst n|(injection n with n;first|subst n|(injection n with n;have n:=n.symm;subst n)));subst bf;clear be))
               have ea:=zA cd;have f0:=zA ce;clear cd d9 ce
               (first|simp only[add_plain] at S|skip)
               (first|simp only[add_plain] at M|skip)
               obtain⟨f1,f2⟩:=Kd.bP false b.out (a:Int) a5 a9;replace a5:=eq_true a5;replace a9:=eq_true a9;have bg:=Kd.de b.out (a:Int) true;go_wp2_with (first|((with_reducible refine jq (t:=4) (p:=44) rfl ?_);refine jo (t:=4) (p:=44) (v:=?Ge) (w1:=(wr.setCell ⟨Z,(a:Int).toNat,none⟩ (.bool true))) ?hg ?ho ?hn ?hr ?_;(case ho=>rfl);(case hg=>rfl);(case hn=>rfl);(case hr=>first|(go_simp;done)|(go_simp;rfl));intro bi hw;have hg:wr.grownBy bi (some Z):=(by rw[hw];exact bg.2);have aa:Kd.R Kd.bool 4 bi w.heap.size (fun I=>some I≠(aP:Value).ownBlock) (.slice (some ⟨Z,0,none⟩) m.length E) a1:=(by rw[hw,d7.out];exact bg.1);clear bg;replace y:=zA (Kd.rR (v:=(.slice (some ⟨Z,0,none⟩) m.length E)) (v1:=(.slice (some ⟨Z,0,none⟩) m.length E)) (ok:=(fun _=>True)) (by(with_reducible repeat(first|apply Kd.aK|apply Kd.bq|apply Kd.bd));exact Kd.a_ y.out (fun _ hk=>⟨trivial,hk⟩)) hg (.inl rfl));replace g:=zA (cR (zK g) hg (Kd.db b.out g.out (by decide)));replace b:=zA (aa);replace q:=zA ((by rw[hw];exact dx (q.out) ea.out:Below w.heap.size w bi));clear hg hw aa))
               (try simp only[<-o])
               go_roundg J
               case measure=>have:=z.out;have:=T.out;omega
               case rel=>exact⟨(a1),(wrap64 (a+1)),zT,s,⟨by have:=z.out;have:=T.out;omega⟩,⟨by(try simp only[o]);(with_reducible repeat(first|apply Kd.aK|apply Kd.bq|apply Kd.bd));exact b.out⟩,⟨by(try simp only[o]);(with_reducible repeat(first|apply Kd.aK|apply Kd.bq|apply Kd.bd));exact Kd.a_ y.out (fun _ hk=>hk.2)⟩,⟨by(try simp only[o]);exact zK g⟩,⟨zB⟩⟩
              ·replace ar:=Bool.eq_false_iff.mpr ar
               subst ar;replace H:=zj H;by_cases av:a<(t139.length:Int)
               ·rw[if_pos av] at H
                have f3:=az av;clear av;obtain⟨bk,bn⟩:∃V:List Bool,V=(m.set (a:Int).toNat (bO false t139 a)):=⟨_,rfl⟩;replace H:(cJ.l1 J (wrap64 (x+1)) bk i t139 (wrap64 (a+1)) j l)=some r:=zh bn H;have eb:=zA bn;clear bn;have s:=zA H;clear H;obtain⟨f4,f5,f6,f7⟩:=ax g;have K:0<=(a:Int):=aw ‹_›;have L:a<(m.length:Int):=aw ‹_›;obtain⟨a3,a4,M⟩:=Kd.iT (Kd.aD b.out).2.2 a K L
                (try rw[<-Y.out] at M)
                (try rw[<-a0.out] at M)
                obtain rfl:(⟨am,0,none⟩:Addr)=a3:=(by injection a4);replace K:=eq_true K;replace L:=eq_true L;obtain⟨f8,ed,eg⟩:=Kd.bb y.out;subst eg;have bo:0<=(a:Int):=aw ‹_›;have bv:a<(t139.length:Int):=aw ‹_›;obtain⟨ek,el,cf⟩:=Kd.iT (Kd.aD y.out).2.2 a bo bv
                (try rw[<-Y.out] at cf)
                (try rw[<-a0.out] at cf)
                cases el;replace bo:=eq_true bo;replace bv:=eq_true bv;have bw:0<=(a:Int):=aw ‹_›;have bx:(a:Int)<((m.length:Int):Int):=aw ‹_›;obtain⟨ab,f9,em,ch,er,f',ci⟩:=Kd.eV b.out (by omega)
                (first|(injection em with n be bf;(first|subst n|(injection n with n;first|subst n|(injection n with n;have n:=n.symm;subst n)));subst bf;clear be))
                have es:=zA ch;have gb:=zA ci;clear ch er ci
                (first|simp only[add_plain] at M|skip)
                obtain⟨gc,gd⟩:=Kd.bP false b.out (a:Int) bw bx;replace bw:=eq_true bw;replace bx:=eq_true bx;have b0:=Kd.de b.out (a:Int) (bO false t139 a);go_wp2_with (first|((with_reducible refine jq (t:=4) (p:=44) rfl ?_);refine jo (t:=4) (p:=44) (v:=?G4) (w1:=(wr.setCell ⟨ab,(a:Int).toNat,none⟩ (.bool (bO false t139 a)))) ?hg ?ho ?hn ?hr ?_;(case ho=>rfl);(case hg=>rfl);(case hn=>rfl);(case hr=>first|(go_simp;done)|(go_simp;rfl));intro b1 hw;have hg:wr.grownBy b1 (some ab):=(by rw[hw];exact b0.2);have aa:Kd.R Kd.bool 4 b1 w.heap.size (fun I=>some I≠(.slice (some ek) t139.length ed:Value).ownBlock) (.slice (some ⟨ab,0,none⟩) m.length E) bk:=(by rw[hw,eb.out];exact b0.1);clear b0;replace y:=zA (Kd.rR (v:=(.slice (some ⟨ab,0,none⟩) m.length E)) (v1:=(.slice (some ⟨ab,0,none⟩) m.length E)) (ok:=(fun _=>True)) (by(with_reducible repeat(first|apply Kd.aK|apply Kd.bq|apply Kd.bd));exact Kd.a_ y.out (fun _ hk=>⟨trivial,hk⟩)) hg (.inl rfl));replace g:=zA (cR (zK g) hg (Kd.db b.out g.out (by decide)));replace b:=zA (aa);replace q:=zA ((by rw[hw];exact dx (q.out) es.out:Below w.heap.size w b1));clear hg hw aa))
                (try simp only[<-o])
                go_roundg J
                case measure=>have:=z.out;have:=T.out;omega
                case rel=>exact⟨(bk),(wrap64 (a+1)),zT,s,⟨by have:=z.out;have:=T.out;omega⟩,⟨by(try simp only[o]);(with_reducible repeat(first|apply Kd.aK|apply Kd.bq|apply Kd.bd));exact b.out⟩,⟨by(try simp only[o]);(with_reducible repeat(first|apply Kd.aK|apply Kd.bq|apply Kd.bd));exact Kd.a_ y.out (fun _ hk=>hk.2)⟩,⟨by(try simp only[o]);exact zK g⟩,⟨zB⟩⟩
               ·rw[if_neg av] at H
                exact absurd H (by simp)
             ·rw[if_neg ap] at H
              exact absurd H (by simp)
            ·rw[if_neg an] at H
             exact absurd H (by simp)
           ·rw[if_neg U] at H
            have d6:=aZ U;clear U;have s:=zA H;clear H;obtain⟨ge,gf,gg,gi⟩:=ax g;go_wp2
            (try simp only[<-o])
            go_roundg J
            case measure=>have:=z.out;have:=T.out;omega
            case rel=>exact⟨((wrap64 (x+1))),(m),(wrap64 (i+1)),zT,zT,s,⟨by have:=z.out;have:=T.out;omega⟩,⟨by(try simp only[o]);(with_reducible repeat(first|apply Kd.aK|apply Kd.bq|apply Kd.bd));exact Kd.a_ b.out (fun _ hk=>trivial)⟩,⟨by(try simp only[o]);exact zK g⟩,⟨zB⟩⟩
       ·rw[if_neg ag] at H
        exact absurd H (by simp)
      ·rw[if_neg c9] at H
       exact absurd H (by simp)
     ·rw[if_neg Q] at H
      have ca:=aZ Q;clear Q;obtain rfl:=aH H;obtain⟨gl,gm,gn,go⟩:=ax g;go_wp2;go_ret;exact⟨zE,zB⟩
  ·rw[if_neg c3] at H
   exact absurd H (by simp)
 ·rw[if_neg c2] at H
  exact absurd H (by simp)
def lK.f (k:Nat) (a:Int) (b:List (S83)):Option (Bool):=(cJ.f k a b).bind fun t147=>(some (t147==1))
theorem lK.calls (k:Nat) (b:Int) (i:Option Addr) (j:Nat) (a:List (S83)) (r:Bool) (w:World) (n:Kd.C aT w i a.length a) (o:a.length<=j) (h:lK.f k b a=some r):
  Calls Tryz.prog 104 #[.agg #[.int .i64 b,.slice i a.length j]] w fun e w'=>e= .returned (.bool r)/\Below w.heap.size w w':=by
 have v:=Tryz.underlying24;have q:=zA n;have s:=zA o;clear n o;have g:=zA (ao w.heap.size w);have H:((cJ.f k b a).bind fun t147=>(some (t147==1)))=some r:=h;clear h;obtain⟨t147,u,H⟩:=zo H;obtain rfl:=aH H;go_enter Tryz.func104,Tryz.ntmps104
 go_wp2_with (first|((with_reducible refine aJ (N:=1) rfl ?_);refine zX 1 #[.int .i64 b,.slice i a.length j] 24 ?_;intro x l w3 p hb;have m:=zA (p);have y:=zG g l;have z:=zG g l;replace g:=zS g hb;clear hb p l;obtain⟨B,D,E,F⟩:=ax m)|((with_reducible refine aC (f:=74) rfl ?_);refine zL (some 4) Tryz.func74 #[.agg #[.int .i64 b,.slice i a.length j]] ?_;(with_reducible refine(cJ.calls k b _ _ a t147 _ ?af ?ah u.out).mono ?_);(case af=>exact Kd.au q.out zB);(case ah=>exact s.out);rintro e G ⟨rfl,hb⟩;refine⟨_,rfl,?_⟩;replace m:=zb m hb;replace g:=zS g hb;(try clear hb)))
 go_ret;exact⟨zE,zB⟩
def bc (o:List Bool) (i:Nat):Bool:=o.getD i false
theorem p_ (o:List Bool) (i:Nat):bO false o (i:Int)=bc o i:=by simp[bO,bc]
theorem lL (o:List Bool) (i j:Nat) (b:Bool):bc (o.set i b) j=if i=j/\j<o.length then b else bc o j:=by
 unfold bc;rw[bh,bh,List.getElem?_set];by_cases h:i=j
 ·subst h
  by_cases a:i<o.length
  ·simp[a]
  ·simp[a]
 ·simp[h]
def fZ (E:List S83) (a:Nat) (o:List Bool) (b:Nat):List Bool:=if bc o a=true/\dI E a b>0 then o.set b true else o
def jE (E:List S83) (n:Nat) (o:List Bool) (a:Nat):List Bool:=(List.range' 0 n).foldl (fZ E a) o
def jF (E:List S83) (n:Nat) (o:List Bool):List Bool:=(List.range' 0 n).foldl (jE E n) o
def iA (E:List S83) (n:Nat):Nat->List Bool->List Bool
 |0,o=>o
 |m+1,o=>iA E n m (jF E n o)
def fl (E:List S83) (n v:Nat):List Bool:=iA E n n ((List.replicate n false).set v true)
theorem p' (E:List S83) (a b:Nat) (o:List Bool):(fZ E a o b).length=o.length:=by unfold fZ;split<;>simp
theorem lM {f:List Bool->Nat->List Bool} (h:∀o b,(f o b).length=o.length):∀(l:List Nat) (o:List Bool),(l.foldl f o).length=o.length
 |[],_=>rfl
 |x::l,o=>by rw[List.foldl_cons,lM h l,h]
theorem qa (E:List S83) (n a:Nat) (o:List Bool):(jE E n o a).length=o.length:=lM (fun o b=>p' E a b o) _ _
theorem qb (E:List S83) (n:Nat) (o:List Bool):(jF E n o).length=o.length:=lM (fun o a=>qa E n a o) _ _
theorem tA (E:List S83) (n:Nat):∀m o,(iA E n m o).length=o.length
 |0,_=>rfl
 |m+1,o=>by rw[iA,tA E n m,qb]
theorem tB (E:List S83) (i:E.length<=1000) (n a g:Nat) (hn:n<=1000) (p:a<n) (r:List Bool):∀(m j:Nat) (o:List Bool),j+m=n->o.length=n->Ev (fun k=>b9.l1 k ((List.range' j m).foldl (fZ E a) o) g ((a+1:Nat):Int) n E) r->Ev (fun k=>b9.l2 k o g a j n E) r
 |0,j,o,q,l,h=>by
  refine Ev.of_succ ?_;simp only[b9.l2,if_neg (show ¬((j:Int)<(n:Int)) by omega),dF (show a<=1000000 by omega)];exact h
 |m+1,j,o,q,l,h=>by
  rw[List.range'_succ,List.foldl_cons] at h;have b:=tB E i n a g hn p r m (j+1) (fZ E a o j) (by omega) (by rw[p'];exact l) h;refine Ev.of_succ ?_;simp only[b9.l2,if_pos (show (j:Int)<(n:Int) by omega),if_pos (show (0:Int)<=(a:Int) by omega),if_pos (show (a:Int)<(o.length:Int) by omega),if_pos (show (0:Int)<=(j:Int) by omega),if_pos (show (j:Int)<(o.length:Int) by omega),dF (show j<=1000000 by omega),p_,aQ];unfold fZ at b;by_cases h1:bc o a=true
  ·simp only[if_pos h1]
   refine Ev.bind (p3 n E a j i) ?_;by_cases e:dI E a j>0
   ·simp only[if_pos e];rw[if_pos ⟨h1,e⟩] at b;exact b
   ·simp only[if_neg e];rw[if_neg (fun h=>e h.2)] at b;exact b
  ·simp only[if_neg h1];rw[if_neg (fun h=>h1 h.1)] at b;exact b
theorem tC (E:List S83) (g:E.length<=1000) (n b:Nat) (hn:n<=1000) (i:b<=1000) (r:List Bool):∀(m a:Nat) (o:List Bool),a+m=n->o.length=n->Ev (fun k=>b9.l0 k ((List.range' a m).foldl (jE E n) o) ((b+1:Nat):Int) n E) r->Ev (fun k=>b9.l1 k o b a n E) r
 |0,a,o,j,e,h=>by
  refine Ev.of_succ ?_;simp only[b9.l1,if_neg (show ¬((a:Int)<(n:Int)) by omega),dF (show b<=1000000 by omega)];exact h
 |m+1,a,o,j,e,h=>by
  rw[List.range'_succ,List.foldl_cons] at h;have l:=tC E g n b hn i r m (a+1) (jE E n o a) (by omega) (by rw[qa];exact e) h;refine Ev.of_succ ?_;simp only[b9.l1,if_pos (show (a:Int)<(n:Int) by omega)];exact tB E g n a b hn (by omega) r n 0 o (by omega) e l
theorem tD (E:List S83) (b:E.length<=1000) (n:Nat) (hn:n<=1000):∀(m i:Nat) (o:List Bool),i+m=n->o.length=n->Ev (fun k=>b9.l0 k o i n E) (iA E n m o)
 |0,i,o,hi,a=>by
  refine Ev.of_succ ?_;simp only[b9.l0,if_neg (show ¬((i:Int)<(n:Int)) by omega)];exact Ev.const _
 |m+1,i,o,hi,a=>by
  have e:=tD E b n hn m (i+1) (jF E n o) (by omega) (by rw[qb];exact a);refine Ev.of_succ ?_;simp only[b9.l0,if_pos (show (i:Int)<(n:Int) by omega)];exact tC E b n i hn (by omega) _ n 0 o (by omega) a e
theorem AE (E:List S83) (a:E.length<=1000) (n v:Nat) (hn:n<=1000) (b:v<n):Ev (fun k=>b9.f k n E v) (fl E n v):=by
 unfold b9.f;simp only[if_pos (show (0:Int)<=(n:Int) by omega),aQ,if_pos (show n<=281474976710656 by omega),Option.bind_some,if_pos (show (0:Int)<=(v:Int) by omega),List.length_replicate,if_pos (show (v:Int)<(n:Int) by omega)];exact tD E a n hn n 0 _ (by omega) (by simp)
def jG (s r:List Bool):List Bool:=(List.range' 0 s.length).foldl (fun s u=>s.set u (bc s u||bc r u)) s
def gG (E:List S83) (n:Nat):Nat->Nat->Nat->List Bool->Nat
 |0,_,c,_=>c
 |m+1,v,c,s=>if bc s v=true then gG E n m (v+1) c s else gG E n m (v+1) (c+1) (jG s (fl E n v))
theorem AF (r:List Bool) (o:List Bool) (u:Nat):(o.set u (bc o u||bc r u)).length=o.length:=by simp
theorem tE (E:List S83) (n:Nat) (hn:n<=1000) (c v:Nat) (e:v<=1000) (q:List Bool) (g:q.length=n) (r:Int):∀(m j:Nat) (s:List Bool),j+m=n->s.length=n->Ev (fun k=>cJ.l0 k c ((List.range' j m).foldl (fun s u=>s.set u (bc s u||bc q u)) s) ((v+1:Nat):Int) n E) r->Ev (fun k=>cJ.l1 k c s v q j n E) r
 |0,j,s,i,b,h=>by
  refine Ev.of_succ ?_;simp only[cJ.l1,if_neg (show ¬((j:Int)<(n:Int)) by omega),dF (show v<=1000000 by omega)];exact h
 |m+1,j,s,i,b,h=>by
  rw[List.range'_succ,List.foldl_cons] at h;have a:=tE E n hn c v e q g r m (j+1) _ (by omega) (by rw[List.length_set];exact b) h;refine Ev.of_succ ?_;simp only[cJ.l1,if_pos (show (j:Int)<(n:Int) by omega),if_pos (show (0:Int)<=(j:Int) by omega),if_pos (show (j:Int)<(s.length:Int) by omega),if_pos (show (j:Int)<(q.length:Int) by omega),dF (show j<=1000000 by omega),p_,aQ];by_cases h1:bc s j=true
  ·simp only[if_pos h1];rw[h1,Bool.true_or] at a;exact a
  ·simp only[if_neg h1];rw[Bool.eq_false_iff.2 h1,Bool.false_or] at a;exact a
theorem qc (E:List S83) (e:E.length<=1000) (n:Nat) (hn:n<=1000):∀(m v c:Nat) (s:List Bool),v+m=n->c<=v->s.length=n->Ev (fun k=>cJ.l0 k c s v n E) ((gG E n m v c s:Nat):Int)
 |0,v,c,s,g,h,a=>by
  refine Ev.of_succ ?_;simp only[cJ.l0,if_neg (show ¬((v:Int)<(n:Int)) by omega)];exact Ev.const _
 |m+1,v,c,s,g,h,a=>by
  refine Ev.of_succ ?_;simp only[cJ.l0,if_pos (show (v:Int)<(n:Int) by omega),if_pos (show (0:Int)<=(v:Int) by omega),if_pos (show (v:Int)<(s.length:Int) by omega),dF (show v<=1000000 by omega),p_,gG];by_cases h1:bc s v=true
  ·simp only[if_pos h1]
   exact qc E e n hn m (v+1) c s (by omega) (by omega) a
  ·simp only[if_neg h1]
   refine Ev.bind (AE E e n v hn (by omega)) ?_;have i:(fl E n v).length=n:=by unfold fl;rw[tA];simp
   have j:=qc E e n hn m (v+1) (c+1) (jG s (fl E n v)) (by omega) (by omega) (by unfold jG;rw[lM (fun o b=>AF _ o b)];exact a);rw[dF (show c<=1000000 by omega)];refine tE E n hn (c+1) v (by omega) _ i _ n 0 s (by omega) a ?_;rw[show (List.range' 0 n).foldl (fun s u=>s.set u (bc s u||bc (fl E n v) u)) s=jG s (fl E n v) from by unfold jG;rw[a]];exact j
def partsOf (E:List S83) (n:Nat):Nat:=gG E n n 0 0 (List.replicate n false)
theorem AG (E:List S83) (a:E.length<=1000) (n:Nat) (hn:n<=1000):Ev (fun k=>cJ.f k n E) ((partsOf E n:Nat):Int):=by
 unfold cJ.f;simp only[if_pos (show (0:Int)<=(n:Int) by omega),aQ,if_pos (show n<=281474976710656 by omega)];exact qc E a n hn n 0 0 _ (by omega) (by omega) (by simp)
theorem qd {E:List S83} {a b:Nat} {o:List Bool} {i:Nat} (h:bc o i=true):bc (fZ E a o b) i=true:=by
 unfold fZ;split
 ·rw[lL];split<;>simp_all
 ·exact h
theorem kI {f:List Bool->Nat->List Bool} (hf:∀o b i,bc o i=true->bc (f o b) i=true):∀(l:List Nat) (o:List Bool) (i:Nat),bc o i=true->bc (l.foldl f o) i=true
 |[],_,_,h=>h
 |x::l,o,i,h=>by rw[List.foldl_cons];exact kI hf l _ i (hf _ _ _ h)
theorem qe {E:List S83} {n a:Nat} {o:List Bool} {i:Nat} (h:bc o i=true):bc (jE E n o a) i=true:=kI (fun o b i h=>qd h) _ _ _ h
theorem tF {E:List S83} {n:Nat} {o:List Bool} {i:Nat} (h:bc o i=true):bc (jF E n o) i=true:=kI (fun o b i h=>qe h) _ _ _ h
theorem tG {E:List S83} {n:Nat}:∀{m:Nat} {o:List Bool} {i:Nat},bc o i=true->bc (iA E n m o) i=true
 |0,_,_,h=>h
 |m+1,o,i,h=>tG (m:=m) (tF h)
def iB (E:List S83) (n:Nat) (S:Nat->Bool):Prop:=∀a b:Nat,a<n->b<n->S a=true->dI E a b>0->S b=true
theorem mH {P:List Bool->Prop} {f:List Bool->Nat->List Bool} {n:Nat} (hf:∀o b,b<n->P o->P (f o b)):∀(m j:Nat) (o:List Bool),j+m<=n->P o->P ((List.range' j m).foldl f o)
 |0,_,_,_,h=>h
 |m+1,j,o,a,h=>by rw[List.range'_succ,List.foldl_cons];exact mH hf m (j+1) _ (by omega) (hf _ _ (by omega) h)
theorem AH {E:List S83} {n:Nat} {S:Nat->Bool} (hS:iB E n S) {o:List Bool} (h:∀i,bc o i=true->S i=true):∀i,bc (jF E n o) i=true->S i=true:=by
 refine mH (P:=fun o=>∀i,bc o i=true->S i=true) (n:=n) (fun o a g h=>?_) n 0 o (by omega) h;refine mH (P:=fun o=>∀i,bc o i=true->S i=true) (n:=n) (fun o b hb h=>?_) n 0 o (by omega) h;intro i hi;unfold fZ at hi;split at hi
 ·rename_i e
  rw[lL] at hi;split at hi
  ·rename_i j
   obtain⟨rfl,_⟩:=j;exact hS a b g hb (h a e.1) e.2
  ·exact h i hi
 ·exact h i hi
theorem tH {E:List S83} {n:Nat} {S:Nat->Bool} (hS:iB E n S):∀(m:Nat) {o:List Bool},(∀i,bc o i=true->S i=true)->∀i,bc (iA E n m o) i=true->S i=true
 |0,_,h=>h
 |m+1,o,h=>tH hS m (AH hS h)
theorem AI {o:List Bool} {b:Nat} (h:bc o b=true):o.set b true=o:=by
 refine List.ext_getElem (by simp) fun i h1 a=>?_
 rw[List.getElem_set];by_cases e:b=i
 ·subst e
  rw[if_pos rfl];simp only[bc,bh,bX a,Option.getD_some] at h;exact h.symm
 ·rw[if_neg e]
theorem AJ {E:List S83} {n:Nat} {o:List Bool} (h:iB E n (bc o)):jF E n o=o:=by
 refine mH (P:=fun x=>x=o) (n:=n) (fun x a g i=>?_) n 0 o (by omega) rfl;subst i;refine mH (P:=fun y=>y=x) (n:=n) (fun y b hb j=>?_) n 0 x (by omega) rfl;subst j;unfold fZ;split
 ·rename_i e
  exact AI (h a b g hb e.1 e.2)
 ·rfl
theorem tI {E:List S83} {n:Nat}:∀(m:Nat) {o:List Bool},iB E n (bc o)->iA E n m o=o
 |0,_,_=>rfl
 |m+1,o,h=>by rw[iA,AJ h,tI m h]
def jH (o:List Bool) (n:Nat):Nat:=(List.range n).countP (bc o)
theorem AK (o:List Bool) (n:Nat):jH o n<=n:=by
 unfold jH;exact Nat.le_trans List.countP_le_length (by simp)
theorem qf {o p:List Bool} {b:Nat}:∀{n:Nat},(∀i,bc o i=true->bc p i=true)->b<n->bc o b=false->bc p b=true->jH o n<jH p n
 |0,_,hb,_,_=>by omega
 |n+1,h,hb,h1,g=>by
  have mono:∀m,jH o m<=jH p m:=fun m=>List.countP_mono_left (fun x _ j=>h x j)
  unfold jH at*;rw[List.range_succ,List.countP_append,List.countP_append];by_cases e:b=n
  ·subst e
   have:=mono b;simp[h1,g];omega
  ·have:=qf (n:=n) h (by omega) h1 g
   unfold jH at this;have k:(if bc o n=true then 1 else 0)<=(if bc p n=true then 1 else 0):=by
    by_cases a:bc o n=true
    ·rw[if_pos a,if_pos (h n a)];exact aI _
    ·rw[if_neg a];exact Nat.zero_le _
   simp only[List.countP_cons,List.countP_nil,Nat.zero_add];omega
theorem AL {E:List S83} {n:Nat} {o:List Bool} (r:o.length=n) {a b:Nat} (s:a<n) (hb:b<n) (h1:bc o a=true) (k:dI E a b>0):bc (jF E n o) b=true:=by
 unfold jF;have l:List.range' 0 n=List.range' 0 a++a::List.range' (a+1) (n-a-1):=by
  rw[<-List.range'_succ,show n-a-1+1=n-a by omega];rw[show List.range' 0 a++List.range' a (n-a)=List.range' 0 a++List.range' (0+a) (n-a) by rw[Nat.zero_add],List.range'_append_1];rw[show a+(n-a)=n by omega]
 have m:List.range' 0 n=List.range' 0 b++b::List.range' (b+1) (n-b-1):=by
  rw[<-List.range'_succ,show n-b-1+1=n-b by omega];rw[show List.range' 0 b++List.range' b (n-b)=List.range' 0 b++List.range' (0+b) (n-b) by rw[Nat.zero_add],List.range'_append_1];rw[show b+(n-b)=n by omega]
 rw[l,List.foldl_append,List.foldl_cons];refine kI (fun o b i h=>qe h) _ _ _ ?_;have g:=kI (f:=jE E n) (fun o b i h=>qe h) (List.range' 0 a) o a h1;have p:=lM (f:=jE E n) (fun o a=>qa E n a o) (List.range' 0 a) o;generalize (List.range' 0 a).foldl (jE E n) o=e at g p⊢;unfold jE;rw[m,List.foldl_append,List.foldl_cons];refine kI (fun o b i h=>qd h) _ _ _ ?_;have j:=kI (f:=fZ E a) (fun o b i h=>qd h) (List.range' 0 b) e a g;have q:=lM (f:=fZ E a) (fun o b=>p' E a b o) (List.range' 0 b) e;generalize (List.range' 0 b).foldl (fZ E a) e=u at j q⊢;unfold fZ;rw[if_pos ⟨j,k⟩,lL,if_pos ⟨rfl,by omega⟩]
theorem tJ {E:List S83} {n:Nat}:∀(m:Nat) (o:List Bool),o.length=n->n<jH o n+m->iB E n (bc (iA E n m o))
 |0,o,g,h=>by have:=AK o n;omega
 |m+1,o,g,h=>by
  by_cases e:iB E n (bc o)
  ·rw[tI (m+1) e];exact e
  ·rw[iA]
   refine tJ m _ (by rw[qb];exact g) ?_;unfold iB at e;simp only[Classical.not_forall] at e;obtain⟨a,b,j,hb,h1,k,l⟩:=e;have:=qf (o:=o) (p:=jF E n o) (b:=b) (n:=n) (fun i hi=>tF hi) hb (Bool.eq_false_iff.2 l) (AL g j hb h1 k);omega
theorem AM {E:List S83} {n v:Nat} (e:v<n):bc (fl E n v) v=true/\iB E n (bc (fl E n v))/\∀S:Nat->Bool,iB E n S->S v=true->∀i,bc (fl E n v) i=true->S i=true:=by
 have g:bc ((List.replicate n false).set v true) v=true:=by rw[lL,if_pos ⟨rfl,by simpa using e⟩]
 have a:∀i,bc (List.replicate n false) i=false:=fun i=>by simp[bc,bh,List.getElem?_replicate];split<;>rfl
 refine⟨tG g,tJ n _ (by simp) ?_,fun S hS j=>tH hS n (fun i hi=>?_)⟩
 ·have:=qf (o:=List.replicate n false) (p:=(List.replicate n false).set v true) (b:=v) (n:=n) (fun i hi=>by rw[a] at hi;cases hi) e (a v) g
  omega
 ·rw[lL] at hi
  split at hi
  ·rename_i h;rw[<-h.1];exact j
  ·rw[a] at hi;cases hi
def j9 (N:Int) (E:List S83):Bool:=decide (0<=N/\N<=12)&&ja 12 E
def cu.f (k:Nat) (N:Int) (E:List S83):Option (Bool×Int):=
 (bj.f k N E).bind fun t=>if t=0 then(if j9 N E=true then some (decide (cY (aN E) N.toNat=1),0) else none) else some (false,t)
theorem cu.mono:∀a b k,aj (cu.f k a b) (cu.f (k+1) a b):=by
 intro a b k;unfold cu.f;exact aj.bind (bj.mono _ _ _) (fun _=>aj.refl _)
theorem AN (k:Nat) (N:Int) (A0:Option Addr) (c0:Nat) (E:List S83) (t:Int) (w:World) (b:Kd.C aT w A0 E.length E) (g:E.length<=c0) (a:bj.f k N E=some t) (j:t≠0):
  Calls Tryz.prog 172 #[.agg #[.int .i64 N,.slice A0 E.length c0]] w fun e w'=>e= .returned (.tuple #[.slice none 0 0,.int .i64 t])/\Below w.heap.size w w':=by
 have hu:=Tryz.underlying24;have h:=zA a;clear a;go_enter Tryz.func172,Tryz.ntmps172
 go_wp2_with (first|(go_at_call 64;refine(bj.calls k N A0 c0 E t _ (Kd.bE b _) g h.out).mono ?_;rintro e w1 ⟨rfl,hb⟩;have i:=zA (a8 (aq (ao w.heap.size w) _) hb);clear hb))
 go_ret2;exact⟨rfl,i.out⟩
theorem AO (E:List S83):∀i,i<12->(#[.int .i64 (aN E 0:Nat),.int .i64 (aN E 1:Nat),.int .i64 (aN E 2:Nat),.int .i64 (aN E 3:Nat),.int .i64 (aN E 4:Nat),.int .i64 (aN E 5:Nat),.int .i64 (aN E 6:Nat),.int .i64 (aN E 7:Nat),.int .i64 (aN E 8:Nat),.int .i64 (aN E 9:Nat),.int .i64 (aN E 10:Nat),.int .i64 (aN E 11:Nat)]:Array Value)[i]? =some (.int .i64 (aN E i:Nat)):=fun i hi=>by
 match i,hi with|0,_=>rfl|1,_=>rfl|2,_=>rfl|3,_=>rfl|4,_=>rfl|5,_=>rfl|6,_=>rfl|7,_=>rfl|8,_=>rfl|9,_=>rfl|10,_=>rfl|11,_=>rfl
theorem AP (k:Nat) (n:Nat) (A0:Option Addr) (c0:Nat) (E:List S83) (w:World) (b:Kd.C aT w A0 E.length E) (j:E.length<=c0) (g:bj.f k n E=some 0) (hn:n<=12) (h:ep 12 E):
  Calls Tryz.prog 172 #[.agg #[.int .i64 n,.slice A0 E.length c0]] w fun e w'=>∃A c,e= .returned (.tuple #[.slice A (cY (aN E) n) c,.int .i64 0])/\Below w.heap.size w w':=by
 have hu:=Tryz.underlying24;have l:=zA g;clear g;have m:=zA h;clear h;go_enter Tryz.func172,Tryz.ntmps172
 go_wp2_with (first|(go_at_call 64;refine(bj.calls k n A0 c0 E 0 _ (Kd.bE b _) j l.out).mono ?_;rintro e w1 ⟨rfl,hb⟩;have a:w1.heap[w.heap.size]? =some (.cells #[.int .i64 n,.slice A0 E.length c0] 24 (0,0)):=aM (bm w _) hb;have o:=zA (Kd.au b (a8 (aq (ao w.heap.size w) _) hb));have p:=zA (a8 (aq (ao w.heap.size w) _) hb);clear hb;have v:w1.cell? ⟨w.heap.size,0,none⟩=some (.int .i64 n):=(al a 0).trans rfl;have x:w1.cell? ⟨w.heap.size,1,none⟩=some (.slice A0 E.length c0):=(al a 1).trans rfl)|(go_at_call 196;(with_reducible refine(Aw _ _ _ E _ o.out m.out).mono ?_);rintro e w2 ⟨rfl,hb⟩;have i:=ay (aM a hb) (.cells #[.int .i64 (aN E 0:Nat),.int .i64 (aN E 1:Nat),.int .i64 (aN E 2:Nat),.int .i64 (aN E 3:Nat),.int .i64 (aN E 4:Nat),.int .i64 (aN E 5:Nat),.int .i64 (aN E 6:Nat),.int .i64 (aN E 7:Nat),.int .i64 (aN E 8:Nat),.int .i64 (aN E 9:Nat),.int .i64 (aN E 10:Nat),.int .i64 (aN E 11:Nat)] 217);have y:(w2.alloc (.cells #[.int .i64 (aN E 0:Nat),.int .i64 (aN E 1:Nat),.int .i64 (aN E 2:Nat),.int .i64 (aN E 3:Nat),.int .i64 (aN E 4:Nat),.int .i64 (aN E 5:Nat),.int .i64 (aN E 6:Nat),.int .i64 (aN E 7:Nat),.int .i64 (aN E 8:Nat),.int .i64 (aN E 9:Nat),.int .i64 (aN E 10:Nat),.int .i64 (aN E 11:Nat)] 217)).cell? ⟨w.heap.size,0,none⟩=some (.int .i64 n):=(al i 0).trans rfl;have q:=zA (aq (a8 p.out hb) (.cells #[.int .i64 (aN E 0:Nat),.int .i64 (aN E 1:Nat),.int .i64 (aN E 2:Nat),.int .i64 (aN E 3:Nat),.int .i64 (aN E 4:Nat),.int .i64 (aN E 5:Nat),.int .i64 (aN E 6:Nat),.int .i64 (aN E 7:Nat),.int .i64 (aN E 8:Nat),.int .i64 (aN E 9:Nat),.int .i64 (aN E 10:Nat),.int .i64 (aN E 11:Nat)] 217));have r:=zA (show ee (w2.alloc (.cells #[.int .i64 (aN E 0:Nat),.int .i64 (aN E 1:Nat),.int .i64 (aN E 2:Nat),.int .i64 (aN E 3:Nat),.int .i64 (aN E 4:Nat),.int .i64 (aN E 5:Nat),.int .i64 (aN E 6:Nat),.int .i64 (aN E 7:Nat),.int .i64 (aN E 8:Nat),.int .i64 (aN E 9:Nat),.int .i64 (aN E 10:Nat),.int .i64 (aN E 11:Nat)] 217)) w2.heap.size (aN E) from⟨_,bm _ _,rfl,AO E⟩);clear hb i)|(go_at_call 197;(with_reducible refine(Ay _ n (aN E) _ hn (tp E) r.out).mono ?_);rintro e w3 ⟨s,c3,rfl,hb⟩;have u:=zA (a8 q.out hb);clear hb))
 go_ret2;exact⟨s,c3,rfl,u.out⟩
theorem cu.calls (k:Nat) (p:Int) (j:Option Addr) (l:Nat) (a:List (S83)) (v:Bool) (x:Int) (w:World) (q:Kd.C aT w j a.length a) (y:a.length<=l) (h:cu.f k p a=some (v,x)):
  Calls Tryz.prog 113 #[.agg #[.int .i64 p,.slice j a.length l]] w fun e w'=>e= .returned (.tuple #[.bool v,.int .i64 x])/\Below w.heap.size w w':=by
 unfold cu.f at h;obtain⟨t,o,h⟩:=Option.bind_eq_some_iff.1 h;split at h
 ·rename_i r
  subst r;split at h
  case isFalse=>cases h
  rename_i z;simp only[j9,Bool.and_eq_true,decide_eq_true_eq] at z;obtain⟨⟨D,H⟩,B⟩:=z;obtain⟨n,rfl⟩:=Int.eq_ofNat_of_zero_le D;injection h with h
  injection h with h1 s
  subst s;rw[aQ] at h1;have b:=fun W u=>AP k n j l a W u y o (by omega) (kG (n:=12) B)
  have g:=zA b;have H1:=zA h1;clear b o B h1;have E:=mE (aN a) n;generalize cY (aN a) n=m at g H1 E;by_cases hm:m=1
  ·subst hm
   go_enter Tryz.func113,Tryz.ntmps113
   go_wp2_with (first|(go_at_call 172;refine(g.out _ (Kd.bE q _)).mono ?_;rintro e w1 ⟨F,c1,rfl,hb⟩;have i:=zA (a8 (aq (ao w.heap.size w) _) hb);clear hb))
   go_ret2;exact⟨by rw[<-H1.out];rfl,i.out⟩
  ·have G:((m:Nat):Int)≠1:=by omega
   go_enter Tryz.func113,Tryz.ntmps113
   go_wp2_with (first|(go_at_call 172;refine(g.out _ (Kd.bE q _)).mono ?_;rintro e w1 ⟨F,c1,rfl,hb⟩;have i:=zA (a8 (aq (ao w.heap.size w) _) hb);clear hb))
   go_ret2;exact⟨by rw[<-H1.out,aZ hm,<-(beq_eq_false_iff_ne.2 G:((m:Int)==1)=false)];rfl,i.out⟩
 ·rename_i r
  injection h with h
  injection h with h1 s
  subst h1;subst s;have b:=fun W u=>AN k p j l a t W u y o r
  have g:=zA b;clear b o;go_enter Tryz.func113,Tryz.ntmps113
  go_wp2_with (first|(go_at_call 172;refine(g.out _ (Kd.bE q _)).mono ?_;rintro e w1 ⟨rfl,hb⟩;have i:=zA (a8 (aq (ao w.heap.size w) _) hb);clear hb))
  go_ret2;exact⟨rfl,i.out⟩
def dt.f (k:Nat) (b:Int) (g:List (S83)) (e:Int):Option (Int):=(cu.f k b g).bind fun a=>(if a.2=0 then(if a.1=true then(if e<0 then(some 2) else(if e>=b then(some 2) else(some 0))) else(some 13)) else(some a.2))
theorem dt.mono:∀a0 a a2 k,aj (dt.f k a0 a a2) (dt.f (k+1) a0 a a2):=by
 intro a0 a a2 k;unfold dt.f;with_reducible repeat' first|exact cu.mono _ _ _|exact aj.refl _|exact aj.none _|refine aj.ite ?_ ?_|refine aj.bind ?_ (fun _=>?_)
theorem dt.calls (k:Nat) (j:Int) (m:Option Addr) (n:Nat) (g:List (S83)) (x:Int) (r:Int) (w:World) (E:Kd.C aT w m g.length g) (F:g.length<=n) (h:dt.f k j g x=some r):
  Calls Tryz.prog 211 #[.agg #[.int .i64 j,.slice m g.length n],.int .i64 x] w fun e w'=>e= .returned (.int .i64 r)/\Below w.heap.size w w':=by
 have M:=Tryz.underlying24;have s:=zA E;have u:=zA F;clear E F;have a:=zA (ao w.heap.size w);unfold dt.f at h;have H:=h;clear h;obtain⟨⟨G,o⟩,v,H⟩:=zo H;dsimp only at H;by_cases c4:o=0
 ·rw[if_pos c4] at H
  obtain⟨I,J⟩:=bF c4;clear c4;by_cases y:G=true
  ·subst y
   replace H:=zi H;by_cases p:x<0
   ·rw[if_pos p] at H
    have K:=az p;clear p;obtain rfl:=aH H;go_enter Tryz.func211,Tryz.ntmps211
    go_wp2_with (first|((with_reducible refine aJ (N:=2) rfl ?_);refine zX 2 #[.int .i64 j,.slice m g.length n] 24 ?_;intro z i O l hb;have b:=zA (l);have B:=zG a i;have D:=zG a i;replace a:=zS a hb;clear hb l i;obtain⟨P,Q,R,S⟩:=ax b)|((with_reducible refine aC (f:=113) rfl ?_);refine zL (some 9) Tryz.func113 #[.agg #[.int .i64 j,.slice m g.length n]] ?_;(with_reducible refine(cu.calls k j _ _ g true o _ ?af ?ah v.out).mono ?_);(case af=>exact Kd.au s.out zB);(case ah=>exact u.out);rintro e T ⟨rfl,hb⟩;refine⟨_,rfl,?_⟩;replace b:=zb b hb;replace a:=zS a hb;(try clear hb)))
    go_ret;exact⟨zE,zB⟩
   ·rw[if_neg p] at H
    have K:=aZ p;clear p;by_cases q:x>=j
    ·rw[if_pos q] at H
     have L:=az q;clear q;obtain rfl:=aH H;go_enter Tryz.func211,Tryz.ntmps211
     go_wp2_with (first|((with_reducible refine aJ (N:=2) rfl ?_);refine zX 2 #[.int .i64 j,.slice m g.length n] 24 ?_;intro z i ie l hb;have b:=zA (l);have B:=zG a i;have D:=zG a i;replace a:=zS a hb;clear hb l i;obtain⟨U,V,W,X⟩:=ax b)|((with_reducible refine aC (f:=113) rfl ?_);refine zL (some 9) Tryz.func113 #[.agg #[.int .i64 j,.slice m g.length n]] ?_;(with_reducible refine(cu.calls k j _ _ g true o _ ?af ?ah v.out).mono ?_);(case af=>exact Kd.au s.out zB);(case ah=>exact u.out);rintro e Y ⟨rfl,hb⟩;refine⟨_,rfl,?_⟩;replace b:=zb b hb;replace a:=zS a hb;(try clear hb);obtain⟨Z,aa,ab,ad⟩:=ax b))
     go_ret;exact⟨zE,zB⟩
    ·rw[if_neg q] at H
     have L:=aZ q;clear q;obtain rfl:=aH H;go_enter Tryz.func211,Tryz.ntmps211
     go_wp2_with (first|((with_reducible refine aJ (N:=2) rfl ?_);refine zX 2 #[.int .i64 j,.slice m g.length n] 24 ?_;intro z i ag l hb;have b:=zA (l);have B:=zG a i;have D:=zG a i;replace a:=zS a hb;clear hb l i;obtain⟨ak,am,an,ap⟩:=ax b)|((with_reducible refine aC (f:=113) rfl ?_);refine zL (some 9) Tryz.func113 #[.agg #[.int .i64 j,.slice m g.length n]] ?_;(with_reducible refine(cu.calls k j _ _ g true o _ ?af ?ah v.out).mono ?_);(case af=>exact Kd.au s.out zB);(case ah=>exact u.out);rintro e ar ⟨rfl,hb⟩;refine⟨_,rfl,?_⟩;replace b:=zb b hb;replace a:=zS a hb;(try clear hb);obtain⟨av,aB,aF,aL⟩:=ax b))
     go_ret;exact⟨zE,zB⟩
  ·replace y:=Bool.eq_false_iff.mpr y
   subst y;replace H:=zj H;obtain rfl:=aH H;go_enter Tryz.func211,Tryz.ntmps211
   go_wp2_with (first|((with_reducible refine aJ (N:=2) rfl ?_);refine zX 2 #[.int .i64 j,.slice m g.length n] 24 ?_;intro z i aO l hb;have b:=zA (l);have B:=zG a i;have D:=zG a i;replace a:=zS a hb;clear hb l i;obtain⟨aP,aR,aS,a0⟩:=ax b)|((with_reducible refine aC (f:=113) rfl ?_);refine zL (some 9) Tryz.func113 #[.agg #[.int .i64 j,.slice m g.length n]] ?_;(with_reducible refine(cu.calls k j _ _ g false o _ ?af ?ah v.out).mono ?_);(case af=>exact Kd.au s.out zB);(case ah=>exact u.out);rintro e a2 ⟨rfl,hb⟩;refine⟨_,rfl,?_⟩;replace b:=zb b hb;replace a:=zS a hb;(try clear hb)))
   go_ret;exact⟨zE,zB⟩
 ·rw[if_neg c4] at H
  obtain⟨I,J⟩:=bI c4;obtain rfl:=aH H;go_enter Tryz.func211,Tryz.ntmps211
  go_wp2_with (first|((with_reducible refine aJ (N:=2) rfl ?_);refine zX 2 #[.int .i64 j,.slice m g.length n] 24 ?_;intro z i a3 l hb;have b:=zA (l);have B:=zG a i;have D:=zG a i;replace a:=zS a hb;clear hb l i;obtain⟨a4,a5,a9,be⟩:=ax b)|((with_reducible refine aC (f:=113) rfl ?_);refine zL (some 9) Tryz.func113 #[.agg #[.int .i64 j,.slice m g.length n]] ?_;(with_reducible refine(cu.calls k j _ _ g G o _ ?af ?ah v.out).mono ?_);(case af=>exact Kd.au s.out zB);(case ah=>exact u.out);rintro e bf ⟨rfl,hb⟩;refine⟨_,rfl,?_⟩;replace b:=zb b hb;replace a:=zS a hb;(try clear hb)))
  go_ret;exact⟨zE,zB⟩
theorem AQ {E:List S83} {a b:Int} (h:dI E a b>0):∃x∈E,x.f0=min a b/\x.f1=max a b:=by
 unfold dI at h;split at h
 ·rename_i x e
  refine⟨x,List.mem_of_find?_eq_some e,?_⟩;have:=List.find?_some e;simpa [fY] using this
 ·omega
theorem AR {N:Int} {E:List S83} (h:bM N E) {x:S83} (a:x∈E):dI E x.f0 x.f1>0:=by
 unfold dI;split
 ·rename_i y b
  have:=h.ok y (List.mem_of_find?_eq_some b);simp[cM] at this;omega
 ·rename_i hn
  rw[List.find?_eq_none] at hn;have:=hn x a;have hle:=h.le x a;simp[fY] at this;omega
theorem AS {E:List S83} {n:Nat} {S:Nat->Bool} (h:∀x∈E,S x.f0.toNat=S x.f1.toNat):iB E n S:=by
 intro a b k hb e g;obtain⟨x,i,l,h1⟩:=AQ g;have:=h x i;rcases Nat.le_total a b with j|j
 ·rw[show x.f0.toNat=a by omega,show x.f1.toNat=b by omega] at this
  rw[<-this];exact e
 ·rw[show x.f0.toNat=b by omega,show x.f1.toNat=a by omega] at this
  rw[this];exact e
theorem AT {n:Nat} {E:List S83} (b:bM n E) {S:Nat->Bool} (h:iB E n S):∀x∈E,S x.f0.toNat=S x.f1.toNat:=by
 intro x e;have hb:=AR b e;have k:=b.ok x e;simp[cM] at k;have g:((x.f0.toNat:Nat):Int)=x.f0:=by omega
 have i:((x.f1.toNat:Nat):Int)=x.f1:=by omega
 have h1:=h x.f0.toNat x.f1.toNat (by omega) (by omega);have j:=h x.f1.toNat x.f0.toNat (by omega) (by omega);rw[g,i] at h1;rw[g,i,ti] at j;cases a:S x.f0.toNat with
 |true=>exact(h1 a hb).symm
 |false=>
  cases l:S x.f1.toNat with
  |false=>rfl
  |true=>rw[j l hb] at a;cases a
theorem AU (s r:List Bool) (i:Nat) (hi:i<s.length):bc (jG s r) i=(bc s i||bc r i):=by
 unfold jG;have key:∀(m j:Nat) (o:List Bool),o.length=s.length->bc ((List.range' j m).foldl (fun s u=>s.set u (bc s u||bc r u)) o) i=if j<=i/\i<j+m then(bc o i||bc r i) else bc o i:=by
  intro m;induction m with
  |zero=>intro j o _;rw[if_neg (by omega)];rfl
  |succ m b=>
   intro j o e;rw[List.range'_succ,List.foldl_cons,b _ _ (by rw[List.length_set];exact e),lL];by_cases h1:j=i
   ·subst h1
    rw[if_neg (by omega),if_pos ⟨rfl,by omega⟩,if_pos (by omega)]
   ·rw[if_neg (show ¬(j=i/\i<o.length) from fun h=>h1 h.1)]
    by_cases a:j+1<=i/\i<j+1+m
    ·rw[if_pos a,if_pos (by omega)]
    ·rw[if_neg a,if_neg (by omega)]
 rw[key s.length 0 s rfl,if_pos (by omega)]
theorem tK (E:List S83) (n:Nat):∀(m v c:Nat) (s:List Bool),(∀i,v<=i->i<v+m->bc s i=true)->gG E n m v c s=c
 |0,_,_,_,_=>rfl
 |m+1,v,c,s,h=>by
  rw[gG,if_pos (h v (aI _) (by omega))];exact tK E n m (v+1) c s (fun i h1 a=>h i (by omega) (by omega))
theorem qg (E:List S83) (n:Nat):∀(m v c:Nat) (s:List Bool),c<=gG E n m v c s
 |0,_,_,_=>aI _
 |m+1,v,c,s=>by
  rw[gG];split
  ·exact qg E n m _ _ _
  ·exact Nat.le_trans (Nat.le_succ c) (qg E n m _ _ _)
theorem tL (E:List S83) (n:Nat):∀(m v c:Nat) (s:List Bool) (u:Nat),v<=u->u<v+m->bc s u=false->c+1<=gG E n m v c s
 |0,_,_,_,_,_,h,_=>by omega
 |m+1,v,c,s,u,h1,e,a=>by
  rw[gG];split
  ·rename_i b
   exact tL E n m (v+1) c s u (by rcases Nat.lt_or_ge v u with h|h;exact h;exfalso;have:v=u:=(by omega);subst this;rw[a] at b;cases b) (by omega) a
  ·exact qg E n m _ _ _
theorem ka {n:Nat} {E:List S83} (hn:1<=n) (q:bM n E):partsOf E n=1↔jD n E:=by
 obtain⟨m,rfl⟩:∃m,n=m+1:=⟨n-1,by omega⟩;obtain⟨r,s,w⟩:=AM (E:=E) (n:=m+1) (v:=0) (by omega);have j:∀i,bc (List.replicate (m+1) false) i=false:=fun i=>by simp[bc,bh,List.getElem?_replicate];split<;>rfl
 have e:partsOf E (m+1)=gG E (m+1) m 1 1 (jG (List.replicate (m+1) false) (fl E (m+1) 0)):=by
  unfold partsOf;rw[gG,if_neg (by rw[j];decide)]
 have k:∀i,i<m+1->bc (jG (List.replicate (m+1) false) (fl E (m+1) 0)) i=bc (fl E (m+1) 0) i:=fun i hi=>by
  rw[AU _ _ _ (by simpa using hi),j,Bool.false_or]
 rw[e];constructor
 ·intro h S y z
  refine Classical.byContradiction fun a=>?_
  have hS:∀x∈E,S x.f0.toNat=S x.f1.toNat:=fun x B=>Classical.byContradiction fun b=>a ⟨x,B,b⟩
  have main:∀T:Nat->Bool,(∀x∈E,T x.f0.toNat=T x.f1.toNat)->T 0=true->(∃u,u<m+1/\T u=false)->False:=by
   rintro T C l ⟨u,hu,g⟩;have h1:bc (fl E (m+1) 0) u=false:=by
    cases o:bc (fl E (m+1) 0) u with
    |false=>rfl
    |true=>have:=w T (AS C) l u o;rw[g] at this;cases this
   have F:u≠0:=fun e=>by subst e;rw[l] at g;cases g
   have:=tL E (m+1) m 1 1 _ u (by omega) (by omega) (by rw[k u hu];exact h1);omega
  cases p:S 0 with
  |true=>exact main S hS p z
  |false=>
   refine main (fun u=> !S u) (fun x a=>by simp[hS x a]) (by simp[p]) ?_;obtain⟨u,hu,D⟩:=y;exact⟨u,hu,by simp[D]⟩
 ·intro h
  refine tK E _ m 1 1 _ fun i h1 o=>?_
  rw[k i (by omega)];cases hi:bc (fl E (m+1) 0) i with
  |true=>rfl
  |false=>
   obtain⟨x,a,b⟩:=h (bc (fl E (m+1) 0)) ⟨0,by omega,r⟩ ⟨i,by omega,hi⟩;exact absurd (AT q s x a) b
end Go.Proofs.YtffdiakgjakngaaGreat.P
namespace Go.Proofs.YtffdiakgjakngaaGreat.T
set_option linter.unusedVariables false
set_option linter.unusedSimpArgs false
set_option maxHeartbeats 8000000
set_option maxRecDepth 100000
theorem AV {f:Nat->Int} {n:Nat} {M:Int} (a:0<=M) (S:Nat->Bool) (h:∀v,v<n->S v=true->f v<=M):sN (fun v=>if S v=true then f v else 0) n<=n*M:=by
 rw[<-iZ];refine cN fun v b=>?_
 show (if S v=true then f v else 0)<=M
 split
 ·exact h v b ‹_›
 ·exact a
theorem mI {n:Nat} {t:Nat->Nat->Int} (e:Wt n t) (g:dz n t) {q:Nat} (i:q<n) {b:Nat->Int} (hb:b q=0) {M:Int} (a:0<=M) (h:∀v,v<n->0<b v->aV n t b v<=M):∀v,v<n->b v<=n*(n*M):=by
 refine jW e g i (by omega) (Int.mul_nonneg (by omega) a) fun x l=>?_
 refine AV a (fun v=>decide (x<b v)) fun v j k=>h v j ?_
 have:=of_decide_eq_true k;omega
theorem AW {n:Nat} {t:Nat->Nat->Int} (g:Wt n t) (i:dz n t) {q:Nat} (j:q<n) {s s':Nat->Int} (l:s q=s' q) (h:∀v,v<n->aV n t s v=aV n t s' v):∀v,v<n->s v=s' v:=by
 have h1:=mI g i j (b:=fun u=>s u-s' u) (by show s q-s' q=0;omega) (M:=0) (by omega) (fun v e _=>by rw[kF,h v e];omega);have k:=mI g i j (b:=fun u=>s' u-s u) (by show s' q-s q=0;omega) (M:=0) (by omega) (fun v e _=>by rw[kF,h v e];omega);intro v e;have a:=h1 v e;have b:=k v e;simp only[Int.mul_zero] at a b;omega
theorem od {n:Nat} {t:Nat->Nat->Int} (a:Wt n t) {q:Nat} {c:Nat->Int} (h:j4 n t q c) {v:Nat} (b:v<n) (g:v≠q):c v<val n t v:=by
 obtain⟨u,hu,i,j⟩:=h (fun u=>decide (u=v)) ⟨v,b,by simp⟩ (by simpa using fun e=>g e.symm);obtain rfl:u=v:=of_decide_eq_true i;refine Int.lt_of_lt_of_le j ?_;unfold val;refine cN fun w hw=>?_
 show (if decide (w=u)=false then t u w else 0)<=t u w
 have:=a.pos u w;split<;>omega
theorem AX {n:Nat} {t:Nat->Nat->Int} (h:Wt n t) (i:dz n t) {q:Nat} (j:q<n) {D c s:Nat->Int} (k:j5 n t q c) (l:∀v,v<n->c v=D v-aV n t s v) (o:s q=0) {B V:Int} (x:0<=B) (y:0<=V) (m:∀v,v<n-> -B<=D v/\D v<=B) (p:∀v,v<n->val n t v<=V):∀v,v<n-> -(n*(n*(B+V)))<=s v/\s v<=n*(n*(B+V)):=by
 have h1:=mI h i j (b:=s) o (M:=B+V) (by omega) (fun v g hp=>by
  have:=l v g;have:=k.1 v g (fun e=>by subst e;omega);have:=m v g;omega)
 have r:=mI h i j (b:=fun u=> -s u) (by show -s q=0;omega) (M:=B+V) (by omega) (fun v g hp=>by
  rw[kE];have:=l v g;have w:v≠q:=fun e=>by subst e;omega
  have:=od h k.2 g w;have:=p v g;have:=m v g;omega)
 intro v g;have a:=h1 v g;have b: -s v<=_:=r v g;omega
theorem AY (f:Nat->Int) {q n:Nat} (a:q<n):sN (fun v=>if v=q then 0 else f v) n=sN f n-f q:=by
 have h:=dS (fun v=>if v=q then 0 else f v) (fun v=>if v=q then f v else 0) n;have b:sN (fun v=>if v=q then f v else 0) n=f q:=by
  rw[jx a (fun u _ hu=>if_neg hu)];simp
 have g:sN (fun v=>(if v=q then 0 else f v)+(if v=q then f v else 0)) n=sN f n:=bQ fun v _=>by
  by_cases e:v=q<;>simp[e]
 have i:sN (fun v=>(if v=q then 0 else f v)+(if v=q then f v else 0)) n=sN (fun v=>if v=q then 0 else f v) n+sN (fun v=>if v=q then f v else 0) n:=h;omega
theorem AZ {f:Nat->Int} {q n:Nat} (g:q<n) {a b:Int} (i:a<=0) (hb:0<=b) (h:∀v,v<n->v≠q->a<=f v/\f v<=b):sN f n-n*b<=f q/\f q<=sN f n-n*a:=by
 have h1:=AY f g;have j:sN (fun v=>if v=q then 0 else f v) n<=sN (fun _=>b) n:=cN fun v e=>by
  show (if v=q then 0 else f v)<=b
  split
  ·exact hb
  ·exact(h v e ‹_›).2
 have k:sN (fun _=>a) n<=sN (fun v=>if v=q then 0 else f v) n:=cN fun v e=>by
  show a<=(if v=q then 0 else f v)
  split
  ·exact i
  ·exact(h v e ‹_›).1
 rw[iZ] at j k;omega
theorem oe {f:Nat->Int} {n:Nat} {B:Int} (h:∀v,v<n-> -B<=f v/\f v<=B): -(n*B)<=sN f n/\sN f n<=n*B:=by
 have h1:sN (fun _=> -B) n<=sN f n:=cN fun v a=>(h v a).1
 have b:sN f n<=sN (fun _=>B) n:=cN fun v a=>(h v a).2
 rw[iZ] at h1 b;rw[Int.mul_neg] at h1;omega
theorem qh {n:Nat} {t:Nat->Nat->Int} (b:Wt n t) (e:dz n t) {q:Nat} (g:q<n) {D c σ d s:Nat->Int} (i:j5 n t q c) (j:∀v,v<n->c v=D v-aV n t σ v) (k:σ q=0) (hd:∀v,v<n->d v=D v-aV n t s v) (hp:∀v,v<n->v≠q->0<=d v):∀v,v<n->s v<=σ v+s q:=by
 have:=pV b e g i hp (s:=fun u=>s u-σ u) (fun v a=>by rw[kF,j v a,hd v a];omega);intro v a;have h:s v-σ v<=s q-σ q:=this v a;omega
theorem A_ {n:Nat} {t:Nat->Nat->Int} (b:Wt n t) {L:Nat->Bool} {d:Nat->Int} {T:Int} (e:0<=T) (h:∀v,v<n->L v=true->T*sN (fun u=>if L u=false then t v u else 0) n<=d v):∀v,v<n->(L v=true->0<=d v-T*aV n t (ind L) v)/\(L v=false->d v<=d v-T*aV n t (ind L) v):=by
 intro v g;rw[pU];refine⟨fun a=>?_,fun a=>?_⟩
 ·rw[if_pos a]
  have:=h v g a;omega
 ·rw[if_neg (by simp[a]),Int.mul_neg]
  have:0<=T*sN (fun u=>if L u=true then t v u else 0) n:=Int.mul_nonneg e (dg fun u _=>by
   show 0<=(if L u=true then t v u else 0)
   have:=b.pos v u;split<;>omega)
  omega
def eK (n:Nat) (t:Nat->Nat->Int) (dist:Nat->Int) (v:Nat):Int:=sN (fun u=>if dist v<dist u then t v u else 0) n
theorem lN {n:Nat} {t:Nat->Nat->Int} (a:Wt n t) (dist:Nat->Int) (v:Nat):0<=eK n t dist v:=dg fun u _=>by
 show 0<=(if dist v<dist u then t v u else 0)
 have:=a.pos v u;split<;>omega
theorem Ba {n:Nat} {t:Nat->Nat->Int} (a:Wt n t) (dist:Nat->Int):2*sN (eK n t dist) n<=sN (val n t) n:=by
 have h1:sN (eK n t dist) n=sN (fun v=>sN (fun u=>if dist u<dist v then t v u else 0) n) n:=by
  show sN (fun v=>sN (fun u=>if dist v<dist u then t v u else 0) n) n=_
  rw[mA];refine bQ fun u _=>bQ fun v _=>?_
  rw[a.sym v u]
 have b:sN (fun v=>eK n t dist v+sN (fun u=>if dist u<dist v then t v u else 0) n) n<=sN (val n t) n:=by
  refine cN fun v e=>?_
  show sN (fun u=>if dist v<dist u then t v u else 0) n+sN (fun u=>if dist u<dist v then t v u else 0) n<=sN (fun u=>t v u) n
  rw[<-dS];refine cN fun u hu=>?_
  show (if dist v<dist u then t v u else 0)+(if dist u<dist v then t v u else 0)<=t v u
  have:=a.pos v u;split<;>split<;>omega
 rw[dS,<-h1] at b;omega
def eA (n:Nat) (t:Nat->Nat->Int) (dist:Nat->Int) (k:Int):Int:=sN (fun v=>if k<=dist v then eK n t dist v else 0) n
theorem tM {n:Nat} {t:Nat->Nat->Int} (a:Wt n t) (dist:Nat->Int) (k:Int):0<=eA n t dist k/\eA n t dist k<=sN (eK n t dist) n:=by
 refine⟨dg fun v _=>?_,cN fun v _=>?_⟩
 ·show 0<=(if k<=dist v then eK n t dist v else 0)
  have:=lN a dist v;split<;>omega
 ·show (if k<=dist v then eK n t dist v else 0)<=_
  have:=lN a dist v;split<;>omega
theorem Bb {n:Nat} {t:Nat->Nat->Int} (a:Wt n t) (dist:Nat->Int) (k:Int) {v:Nat} (b:v<n) (hd:dist v=k-1):eA n t dist k+eK n t dist v<=eA n t dist (k-1):=by
 have h1:sN (fun u=>(if k<=dist u then eK n t dist u else 0)+(if u=v then eK n t dist u else 0)) n<=eA n t dist (k-1):=by
  refine cN fun u _=>?_
  show (if k<=dist u then eK n t dist u else 0)+(if u=v then eK n t dist u else 0)<=(if k-1<=dist u then eK n t dist u else 0)
  have:=lN a dist u;by_cases e:u=v
  ·subst e
   rw[if_neg (show ¬k<=dist u by omega),if_pos rfl,if_pos (by omega)];omega
  ·rw[if_neg e]
   split
   ·rw[if_pos (by omega)];omega
   ·split<;>omega
 rw[dS] at h1;have g:sN (fun u=>if u=v then eK n t dist u else 0) n=eK n t dist v:=by
  rw[jx b (fun u _ hu=>if_neg hu)];simp
 unfold eA at h1⊢;omega
theorem kJ (m:Nat):1+(m:Int)<=2 ^ m:=by
 induction m with
 |zero=>decide
 |succ m a=>rw[Int.pow_succ];omega
def fm (n:Nat) (t:Nat->Nat->Int) (dist:Nat->Int) (B k:Int):Int:=B*2 ^ (eA n t dist k).toNat
theorem oh {n:Nat} {t:Nat->Nat->Int} (dist:Nat->Int) {B:Int} (a:0<=B) (k:Int):B<=fm n t dist B k:=by
 unfold fm;have h:(1:Int)<=2 ^ (eA n t dist k).toNat:=by have:=kJ (eA n t dist k).toNat;omega
 have:=Int.mul_le_mul_of_nonneg_left h a;omega
theorem qi {n:Nat} {t:Nat->Nat->Int} (a:Wt n t) (dist:Nat->Int) {B:Int} (e:0<=B) (g:sN (val n t) n<=19) (k:Int):fm n t dist B k<=B*512:=by
 unfold fm;have h1:=tM a dist k;have h:=Ba a dist;have b:(eA n t dist k).toNat<=9:=by omega
 refine Int.mul_le_mul_of_nonneg_left ?_ e;generalize (eA n t dist k).toNat=m at b;have:∀m:Nat,m<=9->(2:Int) ^ m<=512:=by decide
 exact this m b
theorem Bc {n:Nat} {t:Nat->Nat->Int} (e:Wt n t) (dist:Nat->Int) {B:Int} (i:0<=B) (k:Int) {v:Nat} (j:v<n) (hd:dist v=k-1):fm n t dist B k*(1+eK n t dist v)<=fm n t dist B (k-1):=by
 unfold fm;have h1:=Bb e dist k j hd;have l:=tM e dist k;have o:=lN e dist v;obtain⟨m,hm⟩:=Int.eq_ofNat_of_zero_le o;obtain⟨a,g⟩:=Int.eq_ofNat_of_zero_le l.1;rw[hm,g];rw[hm,g] at h1;obtain⟨b,hb⟩:∃b:Nat,eA n t dist (k-1)=((a+m+b:Nat):Int):=⟨(eA n t dist (k-1)).toNat-a-m,by omega⟩;rw[hb,Int.toNat_natCast,Int.toNat_natCast,Int.mul_assoc];refine Int.mul_le_mul_of_nonneg_left ?_ i;have p:=kJ m;have h:(0:Int)<=2 ^ a:=by have:=kJ a;omega
 have s:=Int.mul_le_mul_of_nonneg_left p h;have q:(1:Int)<=2 ^ b:=by have:=kJ b;omega
 have r:(0:Int)<=2 ^ a*2 ^ m:=Int.mul_nonneg h (by have:=kJ m;omega);have u:=Int.mul_le_mul_of_nonneg_left q r;rw[Int.pow_add,Int.pow_add];omega
theorem Be {n:Nat} {t:Nat->Nat->Int} (a:Wt n t) (dist:Nat->Int) {B:Int} (e:0<=B) (k:Int):fm n t dist B k<=fm n t dist B (k-1):=by
 unfold fm;have h1:eA n t dist k<=eA n t dist (k-1):=cN fun v _=>by
  show (if k<=dist v then eK n t dist v else 0)<=(if k-1<=dist v then eK n t dist v else 0)
  have:=lN a dist v;split
  ·rw[if_pos (by omega)];omega
  ·split<;>omega
 refine Int.mul_le_mul_of_nonneg_left ?_ e;obtain⟨b,hb⟩:∃b:Nat,(eA n t dist (k-1)).toNat=(eA n t dist k).toNat+b:=⟨(eA n t dist (k-1)).toNat- (eA n t dist k).toNat,by omega⟩;rw[hb,Int.pow_add];have g:(0:Int)<=2 ^ (eA n t dist k).toNat:=by have:=kJ (eA n t dist k).toNat;omega
 have h:(1:Int)<=2 ^ b:=by have:=kJ b;omega
 have:=Int.mul_le_mul_of_nonneg_left h g;omega
def bG (dist:Nat->Int) (k:Int) (u:Nat):Bool:=decide (dist u<k)
structure e7 (n:Nat) (t:Nat->Nat->Int) (D dist:Nat->Int) (B k:Int) (d s:Nat->Int):Prop where
 eq:∀v,v<n->d v=D v-aV n t s v
 kb:∀v,v<n->k<dist v->0<=d v
 low:∀v,v<n-> -fm n t dist B k<=d v
 s0:∀v,v<n->0<=s v/\s v<=(n-k)*(B*512)
theorem e7.start {n:Nat} {t:Nat->Nat->Int} {D dist:Nat->Int} {B k:Int} (b:0<=B) (e:∀v,v<n-> -B<=D v) (hk:∀v,v<n->dist v<=k) (g:k<=n):e7 n t D dist B k D (fun _=>0):=by
 refine⟨fun v _=>by rw[i'];omega,fun v a h=>by have:=hk v a;omega,fun v a=>?_,fun v _=>⟨Int.le_refl _,Int.mul_nonneg (by omega) (by omega)⟩⟩;have:=oh (n:=n) (t:=t) dist b k;have:=e v a;omega
theorem e7.step {n:Nat} {t:Nat->Nat->Int} (b:Wt n t) {D dist:Nat->Int} {B k:Int} (i:0<=B) (x:sN (val n t) n<=19) (o:∀u v,u<n->v<n->0<t u v->dist v<=dist u+1) {d s:Nat->Int} (h:e7 n t D dist B k d s) {T:Int} (j:0<=T) (y:T<=fm n t dist B k)
  (z:∀v,v<n->dist v=k->d v<0-> -d v<=T*sN (fun u=>if bG dist k u=true then t v u else 0) n) {d' s':Nat->Int} (l:∀v,v<n->d' v=d v-T*aV n t (ind (bG dist k)) v) (p:∀v,v<n->s' v=s v+T*ind (bG dist k) v):e7 n t D dist B (k-1) d' s':=by
 have g:∀v,v<n->(k<dist v->aV n t (ind (bG dist k)) v=0)/\(dist v=k->aV n t (ind (bG dist k)) v= -sN (fun u=>if bG dist k u=true then t v u else 0) n)/\(dist v<k-1->aV n t (ind (bG dist k)) v=0)/\(dist v=k-1->0<=aV n t (ind (bG dist k)) v/\aV n t (ind (bG dist k)) v<=eK n t dist v):=by
  intro v a;rw[pU];refine⟨fun hk=>?_,fun hk=>?_,fun hk=>?_,fun hk=>?_⟩
  ·rw[if_neg (by unfold bG;simp;omega),gX fun u hu=>?_]; · rfl
   show (if bG dist k u=true then t v u else 0)=0
   split
   ·rename_i hn
    have h1:=of_decide_eq_true hn;have m:=b.pos v u;by_cases e:0<t v u
    ·rw[b.sym] at e
     have:=o u v hu a e;omega
    ·omega
   ·rfl
  ·rw[if_neg (by unfold bG;simp;omega)]
  ·rw[if_pos (by unfold bG;simp;omega)]
   refine gX fun u hu=>?_
   show (if bG dist k u=false then t v u else 0)=0
   split
   ·rename_i hn
    have h1:=of_decide_eq_false hn;have m:=b.pos v u;by_cases e:0<t v u
    ·have:=o v u a hu e
     omega
    ·omega
   ·rfl
  ·rw[if_pos (by unfold bG;simp;omega)]
   refine⟨dg fun u _=>?_,cN fun u _=>?_⟩
   ·show 0<=(if bG dist k u=false then t v u else 0)
    have:=b.pos v u;split<;>omega
   ·show (if bG dist k u=false then t v u else 0)<=(if dist v<dist u then t v u else 0)
    have:=b.pos v u;by_cases e:bG dist k u=false
    ·have h1:=of_decide_eq_false e
     rw[if_pos e,if_pos (by omega)];omega
    ·rw[if_neg e];split<;>omega
 have G:0<=fm n t dist B k:=by have:=oh (n:=n) (t:=t) dist i k;omega
 refine⟨fun v a=>?_,fun v a hk=>?_,fun v a=>?_,fun v a=>?_⟩
 ·have e:aV n t s' v=aV n t s v+T*aV n t (ind (bG dist k)) v:=by
   rw[lI (r:=fun u=>s u+T*ind (bG dist k) u) (fun u hu=>p u hu) a,jy,s7]
  rw[l v a,h.eq v a,e];omega
 ·rw[l v a]
  by_cases e:k<dist v
  ·rw[(g v a).1 e]
   have:=h.kb v a e;omega
  ·have q:dist v=k:=by omega
   rw[(g v a).2.1 q,Int.mul_neg];have h1:0<=T*sN (fun u=>if bG dist k u=true then t v u else 0) n:=Int.mul_nonneg j (dg fun u _=>by
    show 0<=(if bG dist k u=true then t v u else 0)
    have:=b.pos v u;split<;>omega)
   by_cases C:d v<0
   ·have:=z v a q C
    omega
   ·omega
 ·rw[l v a]
  have H:=h.low v a;have hm:=Be b dist i k;by_cases E:k<dist v
  ·rw[(g v a).1 E];omega
  by_cases e2:dist v=k
  ·rw[(g v a).2.1 e2,Int.mul_neg]
   have h1:0<=T*sN (fun u=>if bG dist k u=true then t v u else 0) n:=Int.mul_nonneg j (dg fun u _=>by
    show 0<=(if bG dist k u=true then t v u else 0)
    have:=b.pos v u;split<;>omega)
   omega
  by_cases F:dist v<k-1
  ·rw[(g v a).2.2.1 F];omega
  have w:dist v=k-1:=by omega
  obtain⟨l1,l2⟩:=(g v a).2.2.2 w;have h1:=Bc b dist i k a w;have m:=Int.mul_le_mul_of_nonneg_left l2 j;have I:=Int.mul_le_mul_of_nonneg_right y (lN b dist v);rw[Int.mul_add] at h1;omega
 ·have h1:=h.s0 v a
  have m:=qi b dist i x k;rw[p v a];have e:(n- (k-1))*(B*512)=(n-k)*(B*512)+B*512:=by
   rw[show (n:Int)- (k-1)=(n-k)+1 by omega,Int.add_mul,Int.one_mul]
  rw[e];unfold ind;split
  ·rw[Int.mul_one];omega
  ·rw[Int.mul_zero];omega
end Go.Proofs.YtffdiakgjakngaaGreat.T
namespace Go.Proofs.YtffdiakgjakngaaGreat.P
open Go.RowKit Go.Proofs.YtffdiakgjakngaaGreatW.PrintWords Go.Proofs.YtffdiakgjakngaaGreatW.PrintLast Go.Proofs.YtffdiakgjakngaaGreatW.PrintMore
set_option linter.unusedVariables false
set_option linter.unusedSimpArgs false
set_option maxHeartbeats 8000000
set_option maxRecDepth 100000
theorem tN:(Tryz.prog.info? 205).map (fun i=>(i.zero,i.size,i.bytes))=some (some (.agg #[.int .i64 0,.int .i64 0]),2,16):=by kernel_rfl
def cK (E:List S83):Nat->Nat
 |0=>0
 |i+1=>cK E i+(ae E i).f2.toNat
def e8 (E:List S83):Bool:=decide (E.length<=40)&&E.all fun x=>decide (1<=x.f2/\x.f2<=50)
theorem om {E:List S83} (h:∀k,k<E.length->1<=(ae E k).f2/\(ae E k).f2<=50):∀i,i<=E.length->cK E i<=50*i
 |0,_=>by simp[cK]
 |i+1,hi=>by
  have h1:=om h i (by omega);have a:=h i (by omega);simp only[cK];omega
theorem qj {E:List S83} (h:e8 E=true):E.length<=40/\∀k,k<E.length->1<=(ae E k).f2/\(ae E k).f2<=50:=by
 simp only[e8,Bool.and_eq_true,decide_eq_true_eq,List.all_eq_true] at h;refine⟨h.1,fun k hk=>?_⟩;have e:ae E k=E[k]:=by simp[ae,bh,bX hk]
 rw[e];exact h.2 _ (List.getElem_mem hk)
def lO.f (N:Int) (E:List S83):Option Int:=if e8 E=true then some (cK E E.length:Nat) else none
theorem Bg (N:Int) (A0:Option Addr) (c0:Nat) (E:List S83) (w:World) (S:Kd.C aT w A0 E.length E) (H:e8 E=true):
  Calls Tryz.prog 130 #[.agg #[.int .i64 N,.slice A0 E.length c0]] w fun e w'=>∃A c,e= .returned (.slice A (cK E E.length) c)/\Below w.heap.size w w':=by
 have hu:=Tryz.underlying24;have aB:=Tryz.underlying83;obtain⟨hlen,hm⟩:=qj H;have aY:=fun i hi=>om hm i hi
 have T:=zA hm;have U:=zA aY;clear hm aY H;obtain⟨i0,I,J,K,L⟩:=info_parts tN;have V:=zA I;have W:=zA J;have X:=zA K;have Y:=zA L;clear I J K L;go_enter Tryz.func130,Tryz.ntmps130
 go_wp2;have u:(w.alloc (.cells #[.int .i64 N,.slice A0 E.length c0] 24)).heap[w.heap.size]? =some (.cells #[.int .i64 N,.slice A0 E.length c0] 24 (0,0)):=by simpa using bm w _
 have y:=aq (ao w.heap.size w) (.cells #[.int .i64 N,.slice A0 E.length c0] 24);have Z:w.heap.size<=w.heap.size:=aI _;generalize z:w.heap.size=gb at u Z⊢;rw[z] at y;generalize (w.alloc (.cells #[.int .i64 N,.slice A0 E.length c0] 24))=W0 at u y⊢;go_loopw [3,4] (fun v i wr=>∃(k:Nat) (xs:List Value),k<=E.length/\i= .int .i64 k/\Aside0 (wr.ownsRow gb 205 2 v (cK E k) xs)/\Aside0 (wr.heap[gb]? =some (.cells #[.int .i64 N,.slice A0 E.length c0] 24 (0,0)))/\Aside0 (Below gb w wr)) (fun _ i _=>E.length- (intOf i).toNat)
 case atStart=>exact⟨0,[],Nat.zero_le _,rfl,⟨rJ _ _ _ _⟩,⟨u⟩,⟨y⟩⟩
 case round=>
  obtain⟨k,xs,hk,rfl,h,g,l⟩:=hrel;have B:wr.cell? ⟨gb,0,none⟩=some (.int .i64 N):=(al g.out 0).trans rfl;have D:wr.cell? ⟨gb,1,none⟩=some (.slice A0 E.length c0):=(al g.out 1).trans rfl;by_cases F:k<E.length
  ·obtain⟨M,rfl⟩:∃M:World,M=wr:=⟨_,rfl⟩
   have O:=T.out k F;have s:cK E (k+1)=cK E k+(ae E k).f2.toNat:=rfl;have aa:=U.out (k+1) (by omega);have P:=Lib.hid s;obtain⟨ad,rfl,n,o,q⟩:=eJ S k (by omega) (by omega);rw[aQ] at n o q;generalize ae E k=x at O n o q P s;obtain⟨a,b,m⟩:=x;simp only at O n o q;obtain⟨m,rfl⟩:=Int.eq_ofNat_of_zero_le (show 0<=m by omega);simp only[aQ] at s;have aF:cK E k+m<=2000:=by omega
   have aL:(0:Int)<=(k:Int):=by omega
   have aO:(k:Int)<(E.length:Int):=by omega
   have ab:=zA n;have am:=zA o;have an:=zA q;have G:(ad.add (k*3)).block<gb:=by rw[<-z];exact bs w _ n
   clear n o q s aa;go_wp2;go_loopw [3,5] (fun v i wr=>∃(j:Nat) (xs:List Value),j<=m/\i= .int .i64 j/\Aside0 (wr.ownsRow gb 205 2 v (cK E k+j) xs)/\Aside0 (wr.heap[gb]? =some (.cells #[.int .i64 N,.slice (some ad) E.length c0] 24 (0,0)))/\Aside0 (Below gb w wr)) (fun _ i _=>m- (intOf i).toNat)
   case atStart=>exact⟨0,xs,Nat.zero_le _,rfl,h,g,l⟩
   case round=>
    clear B D h g l;obtain⟨j,ys,hj,rfl,h,g,l⟩:=hrel;have B:wr.cell? ⟨gb,0,none⟩=some (.int .i64 N):=(al g.out 0).trans rfl;have D:wr.cell? ⟨gb,1,none⟩=some (.slice (some ad) E.length c0):=(al g.out 1).trans rfl;have n:=(l.out.cell (p:=ad.add (k*3)) G).trans ab.out;have o:=(l.out.cell (p:=⟨(ad.add (k*3)).block,(ad.add (k*3)).off+1,none⟩) G).trans am.out;have q:=(l.out.cell (p:=⟨(ad.add (k*3)).block,(ad.add (k*3)).off+2,none⟩) G).trans an.out;by_cases aR:j<m
    ·have Q:u3.ownBlock≠some gb:=fun e=>rN h.out g.out (by decide) e.symm
     have R:u3.ownBlock≠some (ad.add (k*3)).block:=fun e=>by have:=jm h.out _ e;omega
     have lg:gb<wr.heap.size:=aE g.out;have la:(ad.add (k*3)).block<wr.heap.size:=by omega
     go_wp2;go_region_held3 (fun w'=>w'.cell? ⟨gb,1,none⟩=some (.slice (some ad) E.length c0)/\w'.cell? (ad.add (k*3))=some (.int .i64 a)/\w'.cell? ⟨(ad.add (k*3)).block,(ad.add (k*3)).off+1,none⟩=some (.int .i64 b))
      (first
       |go_keep
       |(
         go_split_ands
         refine⟨?_,?_,?_⟩
         ·(rw[r.cell_far ⟨gb,1,none⟩ (by simp;omega) (Ne.symm Q)];assumption)
         ·(rw[r.cell_far (ad.add (k*3)) (by simp;omega) (Ne.symm R)];assumption)
         ·(rw[r.cell_far ⟨(ad.add (k*3)).block,(ad.add (k*3)).off+1,none⟩ (by simp;omega) (Ne.symm R)];assumption)))
      ((refine step_append_lies _ (by rfl) _ _ _ (by rfl) gb 205 i0 _ 2 16 Tryz.underlying156 V.out W.out X.out Y.out rfl (by omega) u3 (cK E k+j) ys (by rfl) ((h.out.alloc _).drew) ⟨wr.heap.size,0,none⟩ 1 1 [.int .i64 a,.int .i64 b] (by rfl) (by rfl) (World.news_of_block (cs:=#[.int .i64 a,.int .i64 b]) (t:=205) (fr:=(0,0)) (bm wr _)) (by simp[Value.oneCell']) (by omega) (by unfold maxLen;omega) (by omega) (by simp;omega) (wr.heap.size+1) (by simp) ?_;intro gg cap w1 ap r ar F))
     have n1:=zA (cR (fw (ay g.out _)) r (Ne.symm Q));have n2:=zA (Below.grown (bV (l.out.alloc (by omega) _)) r (by simp;omega) (jm h.out));clear r ar F n o q B D;go_wp2;go_roundw
     case rel=>exact⟨j+1,_,by omega,by go_num,⟨by rw[<-Nat.add_assoc];exact ap⟩,n1,n2⟩
     case measure=>(show m- ((j:Int)+1).toNat<m- ((j:Int)).toNat;omega)
    ·obtain rfl:j=m:=by omega
     go_wp2;exact⟨⟨k+1,ys,by omega,by go_num,⟨by rw[P.out,aQ];exact h.out⟩,g,l⟩,(show E.length- ((k:Int)+1).toNat<E.length- ((k:Int)).toNat by omega)⟩
  ·obtain rfl:k=E.length:=by omega
   go_wp2;go_ret;obtain⟨A,c,rfl⟩:=rL h.out;exact⟨A,c,rfl,by rw[z];exact l.out⟩
theorem lO.calls (b:Int) (g:Option Addr) (i:Nat) (a:List (S83)) (r:Int) (w:World) (j:Kd.C aT w g a.length a) (m:a.length<=i) (h:lO.f b a=some r):
  Calls Tryz.prog 73 #[.agg #[.int .i64 b,.slice g a.length i]] w fun e w'=>e= .returned (.int .i64 r)/\Below w.heap.size w w':=by
 unfold lO.f at h;split at h
 case isFalse=>cases h
 rename_i k;injection h with h
 subst h;go_enter Tryz.func73,Tryz.ntmps73
 go_wp2_with (first|(go_at_call 130;refine(Bg b g i a _ (Kd.bE j _) k).mono ?_;rintro e w1 ⟨A,c,rfl,hb⟩;have l:=zA (a8 (aq (ao w.heap.size w) _) hb);clear hb))
 go_ret;exact⟨rfl,l.out⟩
section
structure ot (cs:Array Value) (n:Int) (times:Nat->Nat->Int) (chips:Value) (burnt:Nat->Bool):Prop where
 size:cs.size=158
 n:cs[0]? =some (.int .i64 n)
 times:∀i j,i<12->j<12->cs[1+i*12+j]? =some (.int .i64 (times i j))
 chips:cs[145]? =some chips
 burnt:∀i,i<12->cs[146+i]? =some (.bool (burnt i))
def cH (w:World) (g:Nat) (n:Int) (times:Nat->Nat->Int) (chips:Value) (burnt:Nat->Bool):Prop:=
 ∃cs:Array Value,w.heap[g]? =some (.cells cs 252 (0,0))/\ot cs n times chips burnt
namespace cH
variable {w w':World} {g:Nat} {n:Int} {times:Nat->Nat->Int} {chips:Value} {burnt:Nat->Bool}
theorem lt (h:cH w g n times chips burnt):g<w.heap.size:=by
 obtain⟨cs,hb,_⟩:=h;exact(Array.getElem?_eq_some_iff.1 hb).1
theorem cellAt {cs:Array Value} {k:Nat} {v:Value} (hb:w.heap[g]? =some (.cells cs 252 (0,0))) (a:cs[k]? =some v):w.cell? ⟨g,k,none⟩=some v:=(al hb k).trans a
theorem ou (h:cH w g n times chips burnt):w.cell? ⟨g,0,none⟩=some (.int .i64 n):=by
 obtain⟨cs,hb,a⟩:=h;exact cellAt hb a.n
theorem mJ (h:cH w g n times chips burnt) (i j:Nat) (hi:i<12) (a:j<12):w.cell? ⟨g,1+i*12+j,none⟩=some (.int .i64 (times i j)):=by
 obtain⟨cs,hb,b⟩:=h;exact cellAt hb (b.times i j hi a)
theorem Bh (h:cH w g n times chips burnt):w.cell? ⟨g,145,none⟩=some chips:=by
 obtain⟨cs,hb,a⟩:=h;exact cellAt hb a.chips
theorem lP (h:cH w g n times chips burnt) (i:Nat) (hi:i<12):w.cell? ⟨g,146+i,none⟩=some (.bool (burnt i)):=by
 obtain⟨cs,hb,a⟩:=h;exact cellAt hb (a.burnt i hi)
theorem frozen (h:cH w g n times chips burnt) (k:Nat):w.frozen? ⟨g,k,none⟩=false:=by
 obtain⟨cs,hb,_⟩:=h;exact bD hb k
theorem below (h:cH w g n times chips burnt) (hb:Below w.heap.size w w'):cH w' g n times chips burnt:=by
 obtain⟨cs,a,b⟩:=h;exact⟨cs,aM a hb,b⟩
theorem drew (h:cH w g n times chips burnt):cH w.drew g n times chips burnt:=h
theorem eU (h:cH w g n times chips burnt) {α:Type} {d:Kd α} {e base:Nat} {ok:Nat->Prop} {v:Value} {xs:List α} (a:d.R e w base ok v xs) (b:∀q,q∈e::d.E->q≠252) (j:Nat) (u:Value):d.R e (w.setCell ⟨g,j,none⟩ u) base ok v xs:=by
 obtain⟨cs,hb,_⟩:=h;exact Kd.eU a hb b j u
theorem drewN (h:cH w g n times chips burnt) (m:Nat):cH (w.drewN m) g n times chips burnt:=h
theorem tO (h:cH w g n times chips burnt) (i:Nat) (hi:i<12) (b:Bool):cH (w.setCell ⟨g,146+i,none⟩ (.bool b)) g n times chips (fun j=>if j=i then b else burnt j):=by
 obtain⟨cs,l,a⟩:=h;refine⟨cs.setIfInBounds (146+i) (.bool b),by simpa using bR l (146+i) (.bool b),?_,?_,?_,?_,?_⟩
 ·simp[a.size]
 ·rw[Array.getElem?_setIfInBounds_ne (by omega)];exact a.n
 ·intro k j hk m
  rw[Array.getElem?_setIfInBounds_ne (by omega)];exact a.times k j hk m
 ·rw[Array.getElem?_setIfInBounds_ne (by omega)];exact a.chips
 ·intro k hk
  have o:=a.size;by_cases e:k=i
  ·subst e
   rw[Array.getElem?_setIfInBounds_self_of_lt (by omega)];simp
  ·rw[Array.getElem?_setIfInBounds_ne (by omega),if_neg e];exact a.burnt k hk
theorem mK (h:cH w g n times chips burnt) (i j:Nat) (hi:i<12) (q:j<12) (x:Int):cH (w.setCell ⟨g,1+i*12+j,none⟩ (.int .i64 x)) g n (fun a b=>if a=i/\b=j then x else times a b) chips burnt:=by
 obtain⟨cs,o,m⟩:=h;refine⟨cs.setIfInBounds (1+i*12+j) (.int .i64 x),by simpa using bR o (1+i*12+j) (.int .i64 x),?_,?_,?_,?_,?_⟩
 ·simp[m.size]
 ·rw[Array.getElem?_setIfInBounds_ne (by omega)];exact m.n
 ·intro k l hk p
  have r:=m.size;by_cases e:k=i/\l=j
  ·obtain⟨rfl,rfl⟩:=e
   rw[Array.getElem?_setIfInBounds_self_of_lt (by omega)];simp
  ·rw[Array.getElem?_setIfInBounds_ne (by omega),if_neg e];exact m.times k l hk p
 ·rw[Array.getElem?_setIfInBounds_ne (by omega)];exact m.chips
 ·intro k hk
  rw[Array.getElem?_setIfInBounds_ne (by omega)];exact m.burnt k hk
end cH
theorem Bi {k:IntKind} {a b:Int} (h:a=b):Ending.returned (.int k a)= .returned (.int k b):=by rw[h]
def dJ (times:Nat->Nat->Int) (burnt:Nat->Bool) (v:Nat):Nat->Int
 |0=>0
 |u+1=>dJ times burnt v u+(if burnt u then times v u else 0)
theorem qk {times:Nat->Nat->Int} {burnt:Nat->Bool} (h:∀i j,0<=times i j/\times i j<=50) (v:Nat):∀u:Nat,0<=dJ times burnt v u/\dJ times burnt v u<=50*u
 |0=>by simp[dJ]
 |u+1=>by
  have h1:=qk h v u (burnt:=burnt);have a:=h v u;simp only[dJ];split<;>omega
theorem Bj (g:Nat) (n v:Nat) (times:Nat->Nat->Int) (chips:Value) (burnt:Nat->Bool) (w:World) (hn:n<=12) (p:v<12) (h:∀i j,0<=times i j/\times i j<=50) (hw:cH w g n times chips burnt):
  Calls Tryz.prog 227 #[.pointer (some ⟨g,0,none⟩),.int .i64 v] w fun e w'=>e= .returned (.int .i64 (dJ times burnt v n))/\w=w':=by
 have q:=hw.ou;go_enter Tryz.func227,Tryz.ntmps227
 go_wp2;go_loop [5,6,11] (fun s _ u=>∃k:Nat,k<=n/\u= .int .i64 k/\s= .int .i64 (dJ times burnt v k)) (fun _ _ u=>n- (intOf u).toNat)
 case atStart=>exact⟨0,Nat.zero_le _,rfl,rfl⟩
 case round=>
  obtain⟨k,hk,rfl,rfl⟩:=hrel;have hb:=qk (burnt:=burnt) h v k;by_cases r:k<n
  ·have l:=hw.lP k (by omega)
   have x:=hw.mJ v k p (by omega);have y:=h v k;have m:dJ times burnt v (k+1)=dJ times burnt v k+(if burnt k then times v k else 0):=rfl;have o:=Lib.hid m;clear m;cases a:burnt k with
   |true=>
    rw[a] at l;have b:=Lib.hid a;clear a;go_wp2;go_round
    case rel=>exact⟨k+1,by omega,by go_num,by rw[o.out,b.out];rfl⟩
    case measure=>simp[intOf];omega
   |false=>
    rw[a] at l;have b:=Lib.hid a;clear a;go_wp2;go_round
    case rel=>exact⟨k+1,by omega,by go_num,by rw[o.out,b.out];simp⟩
    case measure=>simp[intOf];omega
  ·go_wp2
   go_ret;exact⟨Bi (by rw[show k=n from by omega]),rfl⟩
theorem Bl (g:Nat) (n v:Nat) (times:Nat->Nat->Int) (chips:Value) (burnt:Nat->Bool) (w:World) (a:v<12) (hw:cH w g n times chips burnt) (hb:burnt v=true):
  Calls Tryz.prog 226 #[.pointer (some ⟨g,0,none⟩),.int .i64 v] w fun e w'=>e= .returned (.bool false)/\aA w w':=by
 have b:=hw.lP v a;rw[hb] at b;clear hb;have h:(0:Int)<=(v:Int):=by omega
 have i:(v:Int)<12:=by omega
 go_enter Tryz.func226,Tryz.ntmps226
 go_wp2_with fail
 go_quiet (fail)
 go_wp2;go_ret;exact⟨rfl,by repeat(first|exact aA.refl _|apply aA.step)⟩
theorem Bm (g:Nat) (n v:Nat) (times:Nat->Nat->Int) (A:Option Addr) (c:Nat) (l:List Int) (burnt:Nat->Bool) (w:World) (hn:n<=12) (a:v<12) (p:v<l.length) (k:∀i j,0<=times i j/\times i j<=50) (hw:cH w g n times (.slice A l.length c) burnt) (b:Kd.C (Kd.int .i64) w A l.length l) (hb:burnt v=false):
  Calls Tryz.prog 226 #[.pointer (some ⟨g,0,none⟩),.int .i64 v] w fun e w'=>e= .returned (.bool (decide (rd l v<dJ times burnt v n)))/\aA w w':=by
 have m:=hw.lP v a;have q:=hw.Bh;rw[hb] at m;clear hb;have r:=b.2.1;obtain⟨ad,rfl,o⟩:=Kd.bL b v (by omega) (by omega);rw[aQ] at o;have s:(0:Int)<=(v:Int):=by omega
 have u:(v:Int)<(l.length:Int):=by omega
 have x:(v:Int)<12:=by omega
 go_enter Tryz.func226,Tryz.ntmps226
 go_wp2_with fail
 go_quiet ((go_at_call 227;refine Calls.quiet_of_same ((Bj g n v times _ burnt (w.drewN _) hn a k (hw.drewN _)).mono (fun e w' h=>⟨h.1,h.2.symm⟩))))
 go_wp2;go_ret;exact⟨rfl,by repeat(first|exact aA.refl _|apply aA.step)⟩
def gH (burnt:Nat->Bool):Nat->List Int
 |0=>[]
 |u+1=>gH burnt u++(if burnt u then[] else[(u:Int)])
theorem tP (burnt:Nat->Bool):∀u,(gH burnt u).length<=u
 |0=>by simp[gH]
 |u+1=>by
  have:=tP burnt u;simp only[gH,List.length_append];split<;>simp<;>omega
theorem Bn (g:Nat) (n:Nat) (times:Nat->Nat->Int) (chips:Value) (burnt:Nat->Bool) (w:World) (hn:n<=12) (hw:cH w g n times chips burnt):
  Calls Tryz.prog 222 #[.pointer (some ⟨g,0,none⟩)] w fun e w'=>∃l:Value,e= .returned l/\Kd.R (Kd.int .i64) 3 w' w.heap.size (fun _=>True) l (gH burnt n)/\Below w.heap.size w w':=by
 have r:=hw.ou;go_enter Tryz.func222,Tryz.ntmps222
 go_wp2;go_loopw [3,4,9] (fun s _ u wr=>∃k:Nat,k<=n/\u= .int .i64 k/\Aside0 (Kd.R (Kd.int .i64) 3 wr w.heap.size (fun _=>True) s (gH burnt k))/\Aside0 (Below w.heap.size w wr)) (fun _ _ u _=>n- (intOf u).toNat)
 case atStart=>exact⟨0,Nat.zero_le _,rfl,⟨Kd.cW _ _ _ _ _⟩,⟨ao _ _⟩⟩
 case round=>
  obtain⟨k,hk,rfl,h,b⟩:=hrel;have hlen:=tP burnt k;by_cases y:k<n
  ·have i:=hw.below b.out
   have m:=i.lP k (by omega);have r:=i.ou;clear i;have o:gH burnt (k+1)=gH burnt k++(if burnt k then[] else[(k:Int)]):=rfl;have p:=Lib.hid o;clear o;cases a:burnt k with
   |true=>
    rw[a] at m;have j:=Lib.hid a;clear a;go_wp2;go_roundw
    case rel=>exact⟨k+1,by omega,by go_num,⟨by rw[p.out,j.out];simpa using h.out⟩,b⟩
    case measure=>simp[intOf];omega
   |false=>
    rw[a] at m;have j:=Lib.hid a;clear a;go_wp2_with (at_builtin;refine Kd.l6 (Kd.int .i64) (w0:=w) w.heap.size rfl (.tmp 19) (.tmp 21) 25 3 (.int .i64 0) 8 rfl Tryz.underlying25 fW rfl (by decide) (by omega) _ (gH burnt k) (k:Int) [.int .i64 k] (fun _=>True) (fun _=>False) rfl rfl rfl (fun _ hk=>hk.elim) (fun _ _=>trivial) h.out b.out b.out.size (by omega) ?_;intro v1 w1 q hb _ _;have v:=zA q;have x:=zA hb;clear q hb)
    go_roundw
    case rel=>exact⟨k+1,by omega,by go_num,⟨by rw[p.out,j.out];exact v.out⟩,x⟩
    case measure=>simp[intOf];omega
  ·go_wp2
   go_ret;obtain rfl:k=n:=by omega
   exact⟨_,rfl,h.out,b.out⟩
end
end Go.Proofs.YtffdiakgjakngaaGreat.P


